/- Contracts and plain laws for superSeals_holds. Conditions: the tables hold their numbers. -/
import Derived.Test.YtdjacgmmidbieaaGreatDoorJ28
open Go renaming World->AA,Value->AB,bodyPost_ret->BH,Calls->BI
open _root_.List renaming length_append->Ao,length_cons->AY,mem_singleton->Ai,length_nil->Av,getElem?_eq_getElem->Aj,length_drop->AZ,length_map->Bc,mem_append->Ay,mem_of_getElem?->Az,length_take->BC,map_append->Bf
open _root_.Nat renaming le_refl->AM,zero_le->An,le_trans->Ae,le_of_ble_eq_true->Bh
open Go.RowKit
set_option maxRecDepth 100000
set_option linter.unusedSimpArgs false
set_option linter.unusedVariables false
namespace Go.Proofs.YtdjacgmmidbieaaGreatDoor
section
set_option maxHeartbeats 3000000
attribute [local irreducible] wpList K1 wpX
attribute [local irreducible] eI be8 hs4 lb kTx vTx sTx eS rs ofT sE sL sN nN pkf hfn

theorem Y1x {q:Prop}(hr:q){v:AB}(w:AA)(hG:GT q w)(hl:RR 1 w v (([]:List (List UInt8)).map J1f)):
  BI Tryz.prog 21 #[v] w fun e w' =>V4 (Z9 (lb 32 (mth []))) w w' e:=by
 obtain⟨Al,cl,rfl,D,G⟩:=RR.opf hl;have hS:=SH.nil [] w
 go_enter Tryz.func21,Tryz.ntmps21
 go_upto_region 1 with fail;refine RL hS ?_;clear hS;refine MV ?_;refine MV ?_;refine Wto ?_;refine MZ fun W hS=> ?_;go_upto_region 2 with fail;refine RL hS ?_;clear hS;refine MC (v:=Z9 (lb 32 (hs4 []))) (fun W hS=>J4g (l:=[]) rfl (by decide) W ((Y5 hG hS.ext).2 hr)) ?_;refine MV ?_;refine MZ fun W hS=> ?_;go_wp2;exact BH (v:=Z9 (lb 32 (hs4 []))) (by simp only[results,Tryz.results21];go_simp) rfl ⟨by rw[Q7w],hS.ext⟩
theorem Y1y {q:Prop}(hr:q){t:List UInt8}(ht:t.length≤100000000){v:AB}(w:AA)(hG:GT q w)(hl:RR 1 w v ([t].map J1f)):
  BI Tryz.prog 21 #[v] w fun e w' =>V4 (Z9 (lb 32 (mth [eS t]))) w w' e:=by
 obtain⟨Al,cl,rfl,N,G⟩:=RR.opf hl;obtain⟨gl,ol,D,J⟩:=G.out 0 t rfl;have M:=Lib.hid D;clear D;have hS:=SH.nil [] w
 go_enter Tryz.func21,Tryz.ntmps21
 go_upto_region 1 with fail;refine RL hS ?_;clear hS;refine MV ?_;refine MV ?_;refine Wfo ?_;refine MZ fun W hS=> ?_;go_upto_region 3 with fail;refine RL hS ?_;clear hS;refine MV ?_;refine MV ?_;refine Wto ?_;refine MZ fun W hS=> ?_;go_upto_region 4 with fail;refine RL hS ?_;clear hS;refine MV ?_;refine MW ?_ (v:=.pointer (some ⟨gl,ol+0*1,none⟩)) (hv:=fun _=>Y7 M.out (Nat.lt_succ_self 0) rfl rfl rfl Tryz.underlying49 (by kernel_rfl));refine MF (v:=Z9 t) (fun W hS=>V6 rfl rfl (U0 (J 0 _ rfl) hS.ext) (by kernel_rfl)) ?_;refine MW ?_ (v:=Z9 ([0]++t)) (hv:=fun _=>J1d (l:=[0]) (m:=t) rfl rfl rfl (by first|omega|(simp only[lA,lM,lT,lD,lC,lN,J2,Y0,Z3,Q7];omega)));refine MC (v:=Z9 (lb 32 (hs4 ([0]++t)))) (fun W hS=>J4g (l:=([0]++t)) rfl (by first|omega|(simp only[lA,lM,lT,lD,lC,lN,J2,Y0,Z3,Q7];omega)) W ((Y5 hG hS.ext).2 hr)) ?_;refine MV ?_;refine MZ fun W hS=> ?_;go_wp2;exact BH (v:=Z9 (lb 32 (hs4 ([0]++t)))) (by simp only[results,Tryz.results21];go_simp) rfl ⟨by rw[Z4i];unfold eS;rfl,hS.ext⟩
theorem Y1z {q:Prop}(hr:q){A B:Nat}{ts:List (List UInt8)}(hn:ts.length≤1000000)(h2:2≤ts.length)(ihH:∀{u:AB} (W:AA),GT q W→RR 1 W u ((List.take (hfn ts.length) ts).map J1f)→BI Tryz.prog 21 #[u] W fun e w' =>V4 (Z9 (lb 32 A)) W w' e)(ihT:∀{u:AB} (W:AA),GT q W→RR 1 W u ((List.drop (hfn ts.length) ts).map J1f)→BI Tryz.prog 21 #[u] W fun e w' =>V4 (Z9 (lb 32 B)) W w' e){v:AB}(w:AA)(hG:GT q w)(hl:RR 1 w v (ts.map J1f)):
  BI Tryz.prog 21 #[v] w fun e w' =>V4 (Z9 (lb 32 (nN A B))) w w' e:=by
 have hf:=J4t h2;obtain⟨uT,N,G⟩:=J6m (m:=hfn ts.length) hl (by rw[Bc];omega) Tryz.underlying49 (by kernel_rfl);obtain⟨uH,R,J⟩:=J42 (m:=hfn ts.length) hl (by rw[Bc];omega) Tryz.underlying49 (by kernel_rfl);have M:RR 1 w uT ((List.drop (hfn ts.length) ts).map J1f):=by rw[List.map_drop];exact G w hl
 have S:RR 1 w uH ((List.take (hfn ts.length) ts).map J1f):=by rw[List.map_take];exact J w hl
 clear G J;obtain⟨Al,cl,rfl,T,U⟩:=RR.opf hl;have hS:=SH.nil [] w
 go_enter Tryz.func21,Tryz.ntmps21
 go_upto_region 1 with fail;refine RL hS ?_;clear hS;refine MV ?_;refine MV ?_;refine MW ?_ (v:=.bool false) (hv:=by intro W;go_simp;first|done|omega|exact fun h_=>absurd (show ts.length=0 by rw[h_];rfl) (by omega));refine MZ fun W hS=> ?_;go_upto_region 3 with fail;refine RL hS ?_;clear hS;refine MV ?_;refine MV ?_;refine Wfo ?_;refine MZ fun W hS=> ?_;go_upto_region 5 with fail;refine RL hS ?_;clear hS;refine MV ?_;refine MV ?_;refine MC (v:=.int .i64 (hfn ts.length:Int)) (fun W hS=>Q0g (n:=ts.length) (by omega) (by omega) W) ?_;refine MV ?_;refine MZ fun W hS=> ?_;go_upto_region 6 with fail;refine RTh (.q 0 (.q 1 (.q 2 (.q 4 (.q 5 (.q 6 (.e 3 (.e 7 (.e 8 (.q 9 .z)))))))))) hS ?_;clear hS;refine TV ?_;refine TV ?_;refine TW ?_ (v:=uH) (hv:=fun _=>J1i R rfl rfl rfl);refine TV ?_;refine TV ?_;refine TW ?_ (v:=uT) (hv:=fun _=>J2j N rfl rfl rfl);refine TE (fun _ h=>h) ?_;refine MC (v:=Z9 (lb 32 A)) (fun W hS=>ihH W (Y5 hG hS.ext) (S.ext hS.ext)) ?_;refine TNh (fun W hS=>hS) ?_;refine TE (fun _ h=>h) ?_;refine MC (v:=Z9 (lb 32 B)) (fun W hS=>ihT W (Y5 hG hS.ext) (M.ext hS.ext)) ?_;refine TNh (fun W hS=>hS) ?_;refine TE (fun _ h=>h) ?_;obtain⟨U1,D⟩:=exh (nN A B);refine MC (v:=Z9 (lb 32 U1)) (fun W hS=>(by rw[D.out];exact Y5z hr A B W (Y5 hG hS.ext))) ?_;refine TNh (fun W hS=>hS) ?_;refine TV ?_;refine TZ (fun _ h=>h) fun W hS=> ?_;go_wp2;exact BH (v:=Z9 (lb 32 U1)) (by simp only[results,Tryz.results21];go_simp) rfl ⟨by rw[D.out],hS.ext⟩
theorem J4k {q:Prop}(hr:q):∀(N:Nat) (ts:List (List UInt8)),ts.length≤N→ts.length≤1000000→(∀t∈ts,t.length≤100000000)→∀{v:AB} (w:AA),GT q w→RR 1 w v (ts.map J1f)→BI Tryz.prog 21 #[v] w fun e w' =>V4 (Z9 (lb 32 (mth (ts.map eS)))) w w' e
 |_,[],_,_,_,v,w,hG,hl=>Y1x hr w hG hl
 |_,[t],_,_,ht,v,w,hG,hl=>Y1y hr (ht t (by simp)) w hG hl
 |0,a::b::l,h,_,_,v,w,hG,hl=>absurd h (by simp)
 |N+1,a::b::l,h,hn,ht,v,w,hG,hl=>by
  have h2:2≤(a::b::l).length:=by simp
  have hf:=J4t h2;rw[Z4j (l:=(a::b::l).map eS) (by rw[Bc];exact h2),Bc,←List.map_take,←List.map_drop];exact Y1z hr hn h2 (fun W D h' =>J4k hr N _ (by rw[BC];omega) (by rw[BC];omega) (fun t h3=>ht t (List.mem_of_mem_take h3)) W D h') (fun W D h' =>J4k hr N _ (by rw[AZ];omega) (by rw[AZ];omega) (fun t h3=>ht t (List.mem_of_mem_drop h3)) W D h') w hG hl
theorem V25 {t:List UInt8}(i:Int){v:AB}(w:AA)(hl:RR 1 w v ([t].map J1f)):
  BI Tryz.prog 26 #[v,.int .i64 i] w fun e w' => ∃u,e=.returned u∧SH [] w w' [.r 9 1 u (([]:List Nat).map J3g)]:=by
 obtain⟨Al,cl,rfl,G,J⟩:=RR.opf hl;have hS:=SH.nil [] w
 go_enter Tryz.func26,Tryz.ntmps26
 go_upto_region 1 with fail;refine RL hS ?_;clear hS;refine MV ?_;refine MV ?_;refine Wto ?_;refine MZ fun W hS=> ?_;go_upto_region 2 with fail;refine RL hS ?_;clear hS;refine MB0 (t:=9) (n:=1) ?_;intro D;refine MV ?_;refine MZ fun W hS=> ?_;go_wp2;exact BH (v:=D) (by simp only[results,Tryz.results26];go_simp) rfl ⟨_,rfl,hS.pick [0]⟩
theorem Y61 {q:Prop}(hr:q){B i:Nat}{X:List Nat}{ts:List (List UInt8)}(hn:ts.length≤1000000)(h2:2≤ts.length)(hi:i<hfn ts.length)(hX:X.length≤1000000)(hin:i≤1000000)(ihP:∀{u:AB} (W:AA),GT q W→RR 1 W u ((List.take (hfn ts.length) ts).map J1f)→BI Tryz.prog 26 #[u,.int .i64 (i:Int)] W fun e w' => ∃x,e=.returned x∧SH [] W w' [.r 9 1 x (X.map J3g)])(ihT:∀{u:AB} (W:AA),GT q W→RR 1 W u ((List.drop (hfn ts.length) ts).map J1f)→BI Tryz.prog 21 #[u] W fun e w' =>V4 (Z9 (lb 32 B)) W w' e){v:AB}(w:AA)(hG:GT q w)(hl:RR 1 w v (ts.map J1f)):
  BI Tryz.prog 26 #[v,.int .i64 (i:Int)] w fun e w' => ∃u,e=.returned u∧SH [] w w' [.r 9 1 u ((X++[B]).map J3g)]:=by
 have hf:=J4t h2;obtain⟨uT,M,D⟩:=J6m (m:=hfn ts.length) hl (by rw[Bc];omega) Tryz.underlying49 (by kernel_rfl);obtain⟨uH,N,G⟩:=J42 (m:=hfn ts.length) hl (by rw[Bc];omega) Tryz.underlying49 (by kernel_rfl);have J:RR 1 w uT ((List.drop (hfn ts.length) ts).map J1f):=by rw[List.map_drop];exact D w hl
 have R:RR 1 w uH ((List.take (hfn ts.length) ts).map J1f):=by rw[List.map_take];exact G w hl
 clear D G;obtain⟨Al,cl,rfl,T,U⟩:=RR.opf hl;have hS:=SH.nil [] w
 go_enter Tryz.func26,Tryz.ntmps26
 go_upto_region 1 with fail;refine RL hS ?_;clear hS;refine MV ?_;refine MV ?_;refine Wfo ?_;refine MZ fun W hS=> ?_;go_upto_region 3 with fail;refine RL hS ?_;clear hS;refine MV ?_;refine MV ?_;refine MC (v:=.int .i64 (hfn ts.length:Int)) (fun W hS=>Q0g (n:=ts.length) (by omega) (by omega) W) ?_;refine MV ?_;refine MZ fun W hS=> ?_;go_upto_region 4 with fail;refine RL hS ?_;clear hS;refine MV ?_;refine MV ?_;refine Wto ?_;refine MZ fun W hS=> ?_;go_upto_region 5 with fail;refine RTh (.q 0 (.q 1 (.q 2 (.q 3 (.q 5 (.q 6 (.q 7 (.e 4 (.e 8 (.e 9 (.e 10 (.q 11 .z)))))))))))) hS ?_;clear hS;refine TV ?_;refine TV ?_;refine TW ?_ (v:=uH) (hv:=fun _=>J1i N rfl rfl rfl);(iterate 3 refine TV ?_);refine TW ?_ (v:=uT) (hv:=fun _=>J2j M rfl rfl rfl);refine TE (fun _ h=>h) ?_;refine ME (V:=fun v=>v) (fun W hS=>J24 hS (ihP W (Y5 hG hS.ext) (R.ext hS.ext)) (fun _=>⟨rfl,rfl⟩)) ?_;intro Y;refine TNp [] [] ?_;refine TE (fun _ h=>h.pick []) ?_;refine MC (v:=Z9 (lb 32 B)) (fun W hS=>ihT W (Y5 hG hS.ext) (J.ext hS.ext)) ?_;refine TNp [] [] ?_;refine TE (fun _ h=>h.pick []) ?_;refine MB (z:= #[Z9 (lb 32 B)]) (t:=9) (n:=1) (c:=1) ?_ (hr:=fun W hS=>J0p [Z9 (lb 32 B)] rfl rfl (vsc rfl vs0) Tryz.underlying49 (by kernel_rfl) (by kernel_rfl) rfl (by decide) (by decide));intro Z;refine TNp [0] [] ?_;refine TE (fun _ h=>h.pick [0]) ?_;refine MAr 1 0 (tS:=49) (bytes:=16) (es:=(List.map J3g X)) (by first|omega|(simp only[lA,lM,lT,lD,lC,lN,J2,Y0,Z3,Q7];omega)) (e:=([Z9 (lb 32 B)]:List AB)) ?_;intro S;refine TNp [0,1] [0] ?_;refine TV ?_;refine TZ (fun _ h=>h) fun W hS=> ?_;go_wp2;exact BH (v:=S) (by simp only[results,Tryz.results26];go_simp) rfl ⟨_,rfl,(by have h_:=hS.pick [1];rw[J1s J3g X] at h_;exact h_)⟩
theorem Y62 {q:Prop}(hr:q){A i:Nat}{X:List Nat}{ts:List (List UInt8)}(hn:ts.length≤1000000)(h2:2≤ts.length)(hi:¬i<hfn ts.length)(hX:X.length≤1000000)(hin:i≤1000000)(ihP:∀{u:AB} (W:AA),GT q W→RR 1 W u ((List.drop (hfn ts.length) ts).map J1f)→BI Tryz.prog 26 #[u,.int .i64 ((i-hfn ts.length:Nat):Int)] W fun e w' => ∃x,e=.returned x∧SH [] W w' [.r 9 1 x (X.map J3g)])(ihH:∀{u:AB} (W:AA),GT q W→RR 1 W u ((List.take (hfn ts.length) ts).map J1f)→BI Tryz.prog 21 #[u] W fun e w' =>V4 (Z9 (lb 32 A)) W w' e){v:AB}(w:AA)(hG:GT q w)(hl:RR 1 w v (ts.map J1f)):
  BI Tryz.prog 26 #[v,.int .i64 (i:Int)] w fun e w' => ∃u,e=.returned u∧SH [] w w' [.r 9 1 u ((X++[A]).map J3g)]:=by
 have hf:=J4t h2;obtain⟨uT,M,D⟩:=J6m (m:=hfn ts.length) hl (by rw[Bc];omega) Tryz.underlying49 (by kernel_rfl);obtain⟨uH,N,G⟩:=J42 (m:=hfn ts.length) hl (by rw[Bc];omega) Tryz.underlying49 (by kernel_rfl);have J:RR 1 w uT ((List.drop (hfn ts.length) ts).map J1f):=by rw[List.map_drop];exact D w hl
 have R:RR 1 w uH ((List.take (hfn ts.length) ts).map J1f):=by rw[List.map_take];exact G w hl
 clear D G;obtain⟨Al,cl,rfl,T,U⟩:=RR.opf hl;have hS:=SH.nil [] w
 go_enter Tryz.func26,Tryz.ntmps26
 go_upto_region 1 with fail;refine RL hS ?_;clear hS;refine MV ?_;refine MV ?_;refine Wfo ?_;refine MZ fun W hS=> ?_;go_upto_region 3 with fail;refine RL hS ?_;clear hS;refine MV ?_;refine MV ?_;refine MC (v:=.int .i64 (hfn ts.length:Int)) (fun W hS=>Q0g (n:=ts.length) (by omega) (by omega) W) ?_;refine MV ?_;refine MZ fun W hS=> ?_;go_upto_region 4 with fail;refine RL hS ?_;clear hS;refine MV ?_;refine MV ?_;refine Wfo ?_;refine MZ fun W hS=> ?_;go_upto_region 6 with fail;refine RTh (.q 0 (.q 1 (.q 2 (.q 3 (.q 4 (.q 5 (.q 7 (.q 8 (.q 9 (.e 6 (.e 10 (.e 11 (.e 12 (.q 13 .z)))))))))))))) hS ?_;clear hS;refine TV ?_;refine TV ?_;refine TW ?_ (v:=uT) (hv:=fun _=>J2j M rfl rfl rfl);refine TV ?_;refine TV ?_;refine TW ?_ (v:=.int .i64 ((i-hfn ts.length:Nat):Int)) (hv:=by intro W;go_simp;(try simp only[IntKind.wrap_i64]);omega);refine TV ?_;refine TV ?_;refine TW ?_ (v:=uH) (hv:=fun _=>J1i N rfl rfl rfl);refine TE (fun _ h=>h) ?_;refine ME (V:=fun v=>v) (fun W hS=>J24 hS (ihP W (Y5 hG hS.ext) (J.ext hS.ext)) (fun _=>⟨rfl,rfl⟩)) ?_;intro Z;refine TNp [] [] ?_;refine TE (fun _ h=>h.pick []) ?_;refine MC (v:=Z9 (lb 32 A)) (fun W hS=>ihH W (Y5 hG hS.ext) (R.ext hS.ext)) ?_;refine TNp [] [] ?_;refine TE (fun _ h=>h.pick []) ?_;refine MB (z:= #[Z9 (lb 32 A)]) (t:=9) (n:=1) (c:=1) ?_ (hr:=fun W hS=>J0p [Z9 (lb 32 A)] rfl rfl (vsc rfl vs0) Tryz.underlying49 (by kernel_rfl) (by kernel_rfl) rfl (by decide) (by decide));intro Y;refine TNp [0] [] ?_;refine TE (fun _ h=>h.pick [0]) ?_;refine MAr 1 0 (tS:=49) (bytes:=16) (es:=(List.map J3g X)) (by first|omega|(simp only[lA,lM,lT,lD,lC,lN,J2,Y0,Z3,Q7];omega)) (e:=([Z9 (lb 32 A)]:List AB)) ?_;intro S;refine TNp [0,1] [0] ?_;refine TV ?_;refine TZ (fun _ h=>h) fun W hS=> ?_;go_wp2;exact BH (v:=S) (by simp only[results,Tryz.results26];go_simp) rfl ⟨_,rfl,(by have h_:=hS.pick [1];rw[J1s J3g X] at h_;exact h_)⟩
theorem Q29:∀(N:Nat) (l:List Nat),l.length≤N→∀i,(pth l i).length≤N
 |0,l,h,i=>by rw[Q12 (by omega)];exact AM _
 |N+1,l,h,i=>by
  by_cases h2:2≤l.length
  ·
   have hf:=J4t h2
   by_cases hi:i<hfn l.length
   ·
    rw[Q7x h2 hi,Ao];exact Nat.succ_le_succ (Q29 N _ (by rw[BC];omega) i)
   ·
    rw[Q7y h2 hi,Ao];exact Nat.succ_le_succ (Q29 N _ (by rw[AZ];omega) _)
  ·
   rw[Q12 h2];exact An _
theorem Z1s {q:Prop}(hr:q):∀(N:Nat) (ts:List (List UInt8)) (i:Nat),ts.length≤N→ts.length≤1000000→(∀t∈ts,t.length≤100000000)→i<ts.length→∀{v:AB} (w:AA),GT q w→RR 1 w v (ts.map J1f)→BI Tryz.prog 26 #[v,.int .i64 (i:Int)] w fun e w' => ∃u,e=.returned u∧SH [] w w' [.r 9 1 u ((pth (ts.map eS) i).map J3g)]
 |_,[],i,_,_,_,hi,v,w,hG,hl=>absurd hi (Nat.not_lt_zero _)
 |_,[t],i,_,_,ht,hi,v,w,hG,hl=>by
  rw[Q12 (by simp)];exact V25 _ w hl
 |0,a::b::l,i,h,_,_,_,v,w,hG,hl=>absurd h (by simp)
 |N+1,a::b::l,i,h,hn,ht,hi,v,w,hG,hl=>by
  have h2:2≤(a::b::l).length:=by simp
  have h3:2≤((a::b::l).map eS).length:=by rw[Bc];exact h2
  have hf:=J4t h2;have e:((a::b::l).map eS).length=(a::b::l).length:=Bc _
  by_cases hk:i<hfn (a::b::l).length
  ·
   rw[Q7x h3 (by rw[e];exact hk),e,←List.map_take,←List.map_drop];exact Y61 hr hn h2 hk (Ae (Q29 (a::b::l).length _ (by rw[Bc,BC];omega) _) hn) (by omega) (fun W D h' =>Z1s hr N _ i (by rw[BC];omega) (by rw[BC];omega) (fun t h3=>ht t (List.mem_of_mem_take h3)) (by rw[BC];omega) W D h') (fun W D h' =>J4k hr N _ (by rw[AZ];omega) (by rw[AZ];omega) (fun t h3=>ht t (List.mem_of_mem_drop h3)) W D h') w hG hl
  ·
   rw[Q7y h3 (by rw[e];exact hk),e,←List.map_take,←List.map_drop];exact Y62 hr hn h2 hk (Ae (Q29 (a::b::l).length _ (by rw[Bc,AZ];omega) _) hn) (by omega) (fun W D h' =>Z1s hr N _ _ (by rw[AZ];omega) (by rw[AZ];omega) (fun t h3=>ht t (List.mem_of_mem_drop h3)) (by rw[AZ];omega) W D h') (fun W D h' =>J4k hr N _ (by rw[BC];omega) (by rw[BC];omega) (fun t h3=>ht t (List.mem_of_mem_take h3)) W D h') w hG hl
theorem V6l {ts:List (List UInt8)}(hn:ts.length≤1000000){v:AB}(w:AA)(hl:RR 1 w v (ts.map J1f)):
  BI Tryz.prog 53 #[v,.int .i64 (ts.length:Int),.bool true] w fun e w' => ∃u,e=.returned u∧SH [] w w' [.r 9 1 u (([]:List Nat).map J3g)]:=by
 obtain⟨Al,cl,rfl,G,J⟩:=RR.opf hl;have hS:=SH.nil [] w
 go_enter Tryz.func53,Tryz.ntmps53
 go_upto_region 1 with fail;refine RL hS ?_;clear hS;(iterate 3 refine MV ?_);refine Wto ?_;refine MZ fun W hS=> ?_;go_upto_region 3 with fail;refine RL hS ?_;clear hS;refine MB0 (t:=9) (n:=1) ?_;intro D;refine MV ?_;refine MZ fun W hS=> ?_;go_wp2;exact BH (v:=D) (by simp only[results,Tryz.results53];go_simp) rfl ⟨_,rfl,hS.pick [0]⟩
theorem V6m {q:Prop}(hr:q){ts:List (List UInt8)}{B:Nat}(hn:ts.length≤1000000)(ihA:∀{u:AB} (W:AA),GT q W→RR 1 W u (ts.map J1f)→BI Tryz.prog 21 #[u] W fun e w' =>V4 (Z9 (lb 32 B)) W w' e){v:AB}(w:AA)(hG:GT q w)(hl:RR 1 w v (ts.map J1f)):
  BI Tryz.prog 53 #[v,.int .i64 (ts.length:Int),.bool false] w fun e w' => ∃u,e=.returned u∧SH [] w w' [.r 9 1 u ([B].map J3g)]:=by
 obtain⟨Al,cl,rfl,G,J⟩:=RR.opf hl;have hS:=SH.nil [] w
 go_enter Tryz.func53,Tryz.ntmps53
 go_upto_region 1 with fail;refine RL hS ?_;clear hS;(iterate 3 refine MV ?_);refine Wto ?_;refine MZ fun W hS=> ?_;go_upto_region 4 with fail;refine RL hS ?_;clear hS;refine MV ?_;refine MC (v:=Z9 (lb 32 B)) (fun W hS=>ihA W (Y5 hG hS.ext) (hl.ext hS.ext)) ?_;refine MB (z:= #[Z9 (lb 32 B)]) (t:=9) (n:=1) (c:=1) ?_ (hr:=fun W hS=>J0p [Z9 (lb 32 B)] rfl rfl (vsc rfl vs0) Tryz.underlying49 (by kernel_rfl) (by kernel_rfl) rfl (by decide) (by decide));intro D;refine MV ?_;refine MZ fun W hS=> ?_;have hS:=hS.b2r (k:=1) (es:=List.map J3g [B]) (n:=1) (by rfl) (by intro e he;simp at he;subst he;rfl) rfl (by decide);go_wp2;exact BH (v:=.slice (some ⟨D,0,none⟩) 1 1) (by simp only[results,Tryz.results53];go_simp) rfl ⟨_,rfl,hS.pick [0]⟩
theorem sub_le {q:Prop}(hr:q){B m:Nat}{b:Bool}{X:List Nat}{ts:List (List UInt8)}(hn:ts.length≤1000000)(h2:2≤ts.length)(hi:m≤hfn ts.length)(hX:X.length≤1000000)(hm:m<ts.length)(ihP:∀{u:AB} (W:AA),GT q W→RR 1 W u ((List.take (hfn ts.length) ts).map J1f)→BI Tryz.prog 53 #[u,.int .i64 (m:Int),.bool b] W fun e w' => ∃x,e=.returned x∧SH [] W w' [.r 9 1 x (X.map J3g)])(ihT:∀{u:AB} (W:AA),GT q W→RR 1 W u ((List.drop (hfn ts.length) ts).map J1f)→BI Tryz.prog 21 #[u] W fun e w' =>V4 (Z9 (lb 32 B)) W w' e){v:AB}(w:AA)(hG:GT q w)(hl:RR 1 w v (ts.map J1f)):
  BI Tryz.prog 53 #[v,.int .i64 (m:Int),.bool b] w fun e w' => ∃u,e=.returned u∧SH [] w w' [.r 9 1 u ((X++[B]).map J3g)]:=by
 have hf:=J4t h2;obtain⟨uT,M,D⟩:=J6m (m:=hfn ts.length) hl (by rw[Bc];omega) Tryz.underlying49 (by kernel_rfl);obtain⟨uH,N,G⟩:=J42 (m:=hfn ts.length) hl (by rw[Bc];omega) Tryz.underlying49 (by kernel_rfl);have J:RR 1 w uT ((List.drop (hfn ts.length) ts).map J1f):=by rw[List.map_drop];exact D w hl
 have S:RR 1 w uH ((List.take (hfn ts.length) ts).map J1f):=by rw[List.map_take];exact G w hl
 clear D G;obtain⟨Al,cl,rfl,T,U⟩:=RR.opf hl;have hS:=SH.nil [] w
 go_enter Tryz.func53,Tryz.ntmps53
 go_upto_region 1 with fail;refine RL hS ?_;clear hS;(iterate 3 refine MV ?_);refine Wfo ?_;refine MZ fun W hS=> ?_;go_upto_region 5 with fail;refine RL hS ?_;clear hS;refine MV ?_;refine MV ?_;refine MC (v:=.int .i64 (hfn ts.length:Int)) (fun W hS=>Q0g (n:=ts.length) (by omega) (by omega) W) ?_;refine MV ?_;refine MZ fun W hS=> ?_;go_upto_region 6 with fail;refine RL hS ?_;clear hS;refine MV ?_;refine MV ?_;refine Wto ?_;refine MZ fun W hS=> ?_;go_upto_region 7 with fail;refine RTh (.q 0 (.q 1 (.q 2 (.q 3 (.q 4 (.q 6 (.q 7 (.q 8 (.e 5 (.e 9 (.e 10 (.e 11 (.q 12 .z))))))))))))) hS ?_;clear hS;refine TV ?_;refine TV ?_;refine TW ?_ (v:=uH) (hv:=fun _=>J1i N rfl rfl rfl);refine TV ?_;refine TW ?_ (v:=.bool b);refine TV ?_;refine TV ?_;refine TW ?_ (v:=uT) (hv:=fun _=>J2j M rfl rfl rfl);refine TE (fun _ h=>h) ?_;refine ME (V:=fun v=>v) (fun W hS=>J24 hS (ihP W (Y5 hG hS.ext) (S.ext hS.ext)) (fun _=>⟨rfl,rfl⟩)) ?_;intro Z;refine TNp [] [] ?_;refine TE (fun _ h=>h.pick []) ?_;refine MC (v:=Z9 (lb 32 B)) (fun W hS=>ihT W (Y5 hG hS.ext) (J.ext hS.ext)) ?_;refine TNp [] [] ?_;refine TE (fun _ h=>h.pick []) ?_;refine MB (z:= #[Z9 (lb 32 B)]) (t:=9) (n:=1) (c:=1) ?_ (hr:=fun W hS=>J0p [Z9 (lb 32 B)] rfl rfl (vsc rfl vs0) Tryz.underlying49 (by kernel_rfl) (by kernel_rfl) rfl (by decide) (by decide));intro Y;refine TNp [0] [] ?_;refine TE (fun _ h=>h.pick [0]) ?_;refine MAr 1 0 (tS:=49) (bytes:=16) (es:=(List.map J3g X)) (by first|omega|(simp only[lA,lM,lT,lD,lC,lN,J2,Y0,Z3,Q7];omega)) (e:=([Z9 (lb 32 B)]:List AB)) ?_;intro R;refine TNp [0,1] [0] ?_;refine TV ?_;refine TZ (fun _ h=>h) fun W hS=> ?_;go_wp2;exact BH (v:=R) (by simp only[results,Tryz.results53];go_simp) rfl ⟨_,rfl,(by have h_:=hS.pick [1];rw[J1s J3g X] at h_;exact h_)⟩
theorem V26 {q:Prop}(hr:q){A m:Nat}{b:Bool}{X:List Nat}{ts:List (List UInt8)}(hn:ts.length≤1000000)(h2:2≤ts.length)(hi:¬m≤hfn ts.length)(hX:X.length≤1000000)(hm:m<ts.length)(ihP:∀{u:AB} (W:AA),GT q W→RR 1 W u ((List.drop (hfn ts.length) ts).map J1f)→BI Tryz.prog 53 #[u,.int .i64 ((m-hfn ts.length:Nat):Int),.bool false] W fun e w' => ∃x,e=.returned x∧SH [] W w' [.r 9 1 x (X.map J3g)])(ihH:∀{u:AB} (W:AA),GT q W→RR 1 W u ((List.take (hfn ts.length) ts).map J1f)→BI Tryz.prog 21 #[u] W fun e w' =>V4 (Z9 (lb 32 A)) W w' e){v:AB}(w:AA)(hG:GT q w)(hl:RR 1 w v (ts.map J1f)):
  BI Tryz.prog 53 #[v,.int .i64 (m:Int),.bool b] w fun e w' => ∃u,e=.returned u∧SH [] w w' [.r 9 1 u ((X++[A]).map J3g)]:=by
 have hf:=J4t h2;obtain⟨uT,N,D⟩:=J6m (m:=hfn ts.length) hl (by rw[Bc];omega) Tryz.underlying49 (by kernel_rfl);obtain⟨uH,R,G⟩:=J42 (m:=hfn ts.length) hl (by rw[Bc];omega) Tryz.underlying49 (by kernel_rfl);have M:RR 1 w uT ((List.drop (hfn ts.length) ts).map J1f):=by rw[List.map_drop];exact D w hl
 have S:RR 1 w uH ((List.take (hfn ts.length) ts).map J1f):=by rw[List.map_take];exact G w hl
 clear D G;obtain⟨Al,cl,rfl,T,U⟩:=RR.opf hl;have hS:=SH.nil [] w
 go_enter Tryz.func53,Tryz.ntmps53
 go_upto_region 1 with fail;refine RL hS ?_;clear hS;(iterate 3 refine MV ?_);refine Wfo ?_;refine MZ fun W hS=> ?_;go_upto_region 5 with fail;refine RL hS ?_;clear hS;refine MV ?_;refine MV ?_;refine MC (v:=.int .i64 (hfn ts.length:Int)) (fun W hS=>Q0g (n:=ts.length) (by omega) (by omega) W) ?_;refine MV ?_;refine MZ fun W hS=> ?_;go_upto_region 6 with fail;refine RL hS ?_;clear hS;refine MV ?_;refine MV ?_;refine Wfo ?_;refine MZ fun W hS=> ?_;go_upto_region 8 with fail;refine RTh (.q 0 (.q 1 (.q 2 (.q 3 (.q 4 (.q 5 (.q 7 (.q 8 (.q 9 (.e 6 (.e 10 (.e 11 (.e 12 (.q 13 .z)))))))))))))) hS ?_;clear hS;refine TV ?_;refine TV ?_;refine TW ?_ (v:=uT) (hv:=fun _=>J2j N rfl rfl rfl);refine TV ?_;refine TV ?_;refine TW ?_ (v:=.int .i64 ((m-hfn ts.length:Nat):Int)) (hv:=by intro W;go_simp;(try simp only[IntKind.wrap_i64]);omega);refine TV ?_;refine TV ?_;refine TW ?_ (v:=uH) (hv:=fun _=>J1i R rfl rfl rfl);refine TE (fun _ h=>h) ?_;refine ME (V:=fun v=>v) (fun W hS=>J24 hS (ihP W (Y5 hG hS.ext) (M.ext hS.ext)) (fun _=>⟨rfl,rfl⟩)) ?_;intro Y;refine TNp [] [] ?_;refine TE (fun _ h=>h.pick []) ?_;refine MC (v:=Z9 (lb 32 A)) (fun W hS=>ihH W (Y5 hG hS.ext) (S.ext hS.ext)) ?_;refine TNp [] [] ?_;refine TE (fun _ h=>h.pick []) ?_;refine MB (z:= #[Z9 (lb 32 A)]) (t:=9) (n:=1) (c:=1) ?_ (hr:=fun W hS=>J0p [Z9 (lb 32 A)] rfl rfl (vsc rfl vs0) Tryz.underlying49 (by kernel_rfl) (by kernel_rfl) rfl (by decide) (by decide));intro Z;refine TNp [0] [] ?_;refine TE (fun _ h=>h.pick [0]) ?_;refine MAr 1 0 (tS:=49) (bytes:=16) (es:=(List.map J3g X)) (by first|omega|(simp only[lA,lM,lT,lD,lC,lN,J2,Y0,Z3,Q7];omega)) (e:=([Z9 (lb 32 A)]:List AB)) ?_;intro J;refine TNp [0,1] [0] ?_;refine TV ?_;refine TZ (fun _ h=>h) fun W hS=> ?_;go_wp2;exact BH (v:=J) (by simp only[results,Tryz.results53];go_simp) rfl ⟨_,rfl,(by have h_:=hS.pick [1];rw[J1s J3g X] at h_;exact h_)⟩
theorem J8l:∀(N:Nat) (l:List Nat),l.length≤N→∀m b,(sbp l m b).length≤N+1
 |N,l,h,m,b=>by
  by_cases hm:m<l.length
  ·
   by_cases h0:1≤m
   ·
    have h2:2≤l.length:=by omega
    have hf:=J4t h2;cases N with
    |zero=>omega
    |succ N=>
     by_cases hk:m≤hfn l.length
     ·
      rw[Z1x hm h0 hk,Ao];exact Nat.succ_le_succ (J8l N _ (by rw[BC];omega) m b)
     ·
      rw[Z1y hm h0 hk,Ao];exact Nat.succ_le_succ (J8l N _ (by rw[AZ];omega) _ false)
   ·
    obtain rfl:m=0:=by omega
    rw[sbp,dif_neg (by omega)];cases b<;>simp
  ·
   rw[J8n hm];cases b<;>simp
theorem Q00 {q:Prop}(hr:q):∀(N:Nat) (ts:List (List UInt8)) (m:Nat) (b:Bool),ts.length≤N→ts.length≤999999→(∀t∈ts,t.length≤100000000)→1≤m→m≤ts.length→∀{v:AB} (w:AA),GT q w→RR 1 w v (ts.map J1f)→BI Tryz.prog 53 #[v,.int .i64 (m:Int),.bool b] w fun e w' => ∃u,e=.returned u∧SH [] w w' [.r 9 1 u ((sbp (ts.map eS) m b).map J3g)]
 |N,ts,m,b,h,hn,ht,h1,hm,v,w,hG,hl=>by
  have e:(ts.map eS).length=ts.length:=Bc _
  by_cases hlt:m<ts.length
  ·
   cases N with
   |zero=>omega
   |succ N=>
    have h2:2≤ts.length:=by omega
    have hf:=J4t h2
    by_cases hk:m≤hfn ts.length
    ·
     rw[Z1x (by rw[e];exact hlt) h1 (by rw[e];exact hk),e,←List.map_take,←List.map_drop];exact sub_le hr (by omega) h2 hk (Ae (J8l ts.length _ (by rw[Bc,BC];omega) _ _) (by omega)) hlt (fun W D h' =>Q00 hr N _ m b (by rw[BC];omega) (by rw[BC];omega) (fun t h3=>ht t (List.mem_of_mem_take h3)) h1 (by rw[BC];omega) W D h') (fun W D h' =>J4k hr N _ (by rw[AZ];omega) (by rw[AZ];omega) (fun t h3=>ht t (List.mem_of_mem_drop h3)) W D h') w hG hl
    ·
     rw[Z1y (by rw[e];exact hlt) h1 (by rw[e];exact hk),e,←List.map_take,←List.map_drop];exact V26 hr (by omega) h2 hk (Ae (J8l ts.length _ (by rw[Bc,AZ];omega) _ _) (by omega)) hlt (fun W D h' =>Q00 hr N _ _ false (by rw[AZ];omega) (by rw[AZ];omega) (fun t h3=>ht t (List.mem_of_mem_drop h3)) (by omega) (by rw[AZ];omega) W D h') (fun W D h' =>J4k hr N _ (by rw[BC];omega) (by rw[BC];omega) (fun t h3=>ht t (List.mem_of_mem_take h3)) W D h') w hG hl
  ·
   obtain rfl:m=ts.length:=by omega
   rw[J8n (by rw[e];exact Nat.lt_irrefl _)];cases b with
   |true=>exact V6l (by omega) w hl
   |false=>exact V6m hr (by omega) (fun W D h' =>J4k hr N ts h (by omega) ht W D h') w hG hl
theorem V60 {q:Prop}(hr:q){ts:List (List UInt8)}{m:Nat}(hn:ts.length≤999999)(ht:∀t∈ts,t.length≤100000000)(h1:1≤m)(hm:m≤ts.length){v:AB}(w:AA)(hG:GT q w)(hl:RR 1 w v (ts.map J1f)):
  BI Tryz.prog 27 #[v,.int .i64 (m:Int)] w fun e w' => ∃u,e=.returned u∧SH [] w w' [.r 9 1 u ((sbp (ts.map eS) m true).map J3g)]:=by
 obtain⟨Al,cl,rfl,M,N⟩:=RR.opf hl;have hS:=SH.nil [] w
 go_enter Tryz.func27,Tryz.ntmps27
 by_cases D:m=ts.length
 ·
  go_upto_region 1 with fail;refine RL hS ?_;clear hS;refine MV ?_;refine MW ?_ (v:=.bool false) (hv:=by intro W;go_simp;first|done|omega|exact fun h_=>absurd (show ts.length=0 by rw[h_];rfl) (by omega));refine Wf ?_;(iterate 3 refine MV ?_);refine Wto ?_;refine Wt ?_;refine MZ fun W hS=> ?_;go_upto_region 2 with fail;refine RL hS ?_;clear hS;refine MB0 (t:=9) (n:=1) ?_;intro G;refine MV ?_;refine MZ fun W hS=> ?_;go_wp2;exact BH (v:=G) (by simp only[results,Tryz.results27];go_simp) rfl ⟨_,rfl,by rw[J8n (by rw[Bc];omega)];exact hS.pick [0]⟩
 go_upto_region 1 with fail;refine RL hS ?_;clear hS;refine MV ?_;refine MW ?_ (v:=.bool false) (hv:=by intro W;go_simp;first|done|omega|exact fun h_=>absurd (show ts.length=0 by rw[h_];rfl) (by omega));refine Wf ?_;(iterate 3 refine MV ?_);refine Wfo ?_;refine Wf ?_;refine MZ fun W hS=> ?_;go_upto_region 3 with fail;refine RL hS ?_;clear hS;refine MV ?_;refine MV ?_;refine ME (V:=fun v=>v) (fun W hS=>J24 hS (Q00 hr ts.length ts m true (AM _) hn ht h1 hm W (Y5 hG hS.ext) (hl.ext hS.ext)) (fun _=>⟨rfl,rfl⟩)) ?_;intro J;refine MV ?_;refine MZ fun W hS=> ?_;go_wp2;exact BH (v:=J) (by simp only[results,Tryz.results27];go_simp) rfl ⟨_,rfl,hS.pick [0]⟩
end

section
set_option maxHeartbeats 3000000
attribute [local irreducible] wpList K1 wpX
open S8 (Kn GA kP sig vfy)
def rmC (m:Mb):List AB:=fcs [.c (Z9 m.id),.c (.bool m.gone),.c (.int .i64 m.ep),.c (Z9 (lb 32 m.link))]
theorem kP_lt (S:Nat):kP S<2^256:=S8.kP_lt S
theorem sig_lt (S:Nat)(L:List UInt8):sig S L<2^(256+256):=S8.sig_lt S L
theorem Q9w {V S X:Nat}{L:List UInt8}(hV:V=kP S)(hX:X=sig S L):vfy V L X=0:=by rw[hV,hX];exact S8.sign_back S L
theorem MbR.nil (W:AA):MbR nSl [] W:=⟨Z7w 35 W,fun y hy=>by cases hy⟩
theorem Y1m {p S:Nat}{vt vl vs:AB}(w:AA)(h_:SH (SH.feet (suL p S .nil [] [] vt vl vs++[gx,mbT nSl []])) w w (suL p S .nil [] [] vt vl vs++[gx,mbT nSl []])):
  BI Tryz.prog 9 #[.pointer (some ⟨p,0,none⟩),nSl] w fun e w' => ∃y:AB×AB×AB,e=.returned (.agg (sgF ⟨0,sE,sig S (sTx 0 sE)⟩))∧SH (SH.feet (suL p S .nil [] [] vt vl vs++[gx,mbT nSl []])) w w' (suL p S .nil [⟨0,sE,sig S (sTx 0 sE)⟩] [eS (sTx 0 sE)] y.1 y.2.1 y.2.2++[gx,mbT nSl []]):=
 Z49 (ms:=[]) (by simp) (by simp) (by simp) w h_
attribute [local irreducible] eI be8 hs4 lb kTx vTx sTx eS rs ofT sE sL sN S8.sig S8.vfy S8.kP S8.kN S8.kD

theorem J5w:zer Tryz.prog 93=some (some (K4 [.c (Z9 []),.c (.bool false),.c (.int .i64 0),.c (Z9 [])])):=by kernel_rfl
theorem J5x:plc Tryz.prog 93=some [(0,1),(1,1),(2,1),(3,1)]:=by kernel_rfl
theorem Y1a (w:AA)(hX:GX w):
  BI Tryz.prog 7 #[] w fun e w' =>V4 (.bool true) w w' e:=by
 have hS:=SH.nil [] w;have hS:=hS.entp (Q9t hX)
 go_enter Tryz.func7,Tryz.ntmps7
 go_upto_region 1 with fail;refine RL hS ?_;clear hS;refine MW ?_ (v:=.agg (J0 .u8 32 (J6 1))) (hv:=by intro W;kernel_rfl);refine ME (V:=fun p=> .pointer (some ⟨p,0,none⟩)) (fun W hS=>J24 hS (Z4c 1 W) (fun _=>⟨rfl,rfl⟩)) ?_;intro p1;refine MT (fun W hS=>((hS.rnil 22 32 rfl).rnil 26 97 rfl).fact (TA.holds (show TA _ .nil nlp from rfl)) rfl) ?_;refine MV ?_;refine MZ fun W hS=> ?_;go_upto_region 2 with fail;refine RL hS ?_;clear hS;refine MV ?_;refine MT (fun W hS=>hS.addp (Q5t (MbR.nil W)) (fun k hk=>by cases hk)) ?_;refine ME (V:=fun _=> .agg (sgF ⟨0,sE,sig 1 (sTx 0 sE)⟩)) (fun W hS=>V6a [4,2,3,1,5,0] [] hS (fun hT=>Y1m W hT) (fun _=>⟨.inr (.inl ⟨rfl,rfl⟩),.inr (.inl ⟨rfl,rfl⟩),.inr (.inl ⟨rfl,rfl⟩),.inr (.inr ⟨_,_,rfl,rfl⟩),.inl (by simp),.inl (by simp),trivial⟩)) ?_;rintro⟨R,N,D⟩;dsimp only;refine J6z (fun W hS=>Row.form (ls:=[⟨0,sE,sig 1 (sTx 0 sE)⟩]) (f:=sgC) (hS.row (i:=1) rfl)) ?_;rintro⟨G,J,rfl⟩;refine MN (z:=K4 [.c (.int .i64 0),.a 32 0,.a 64 0]) (t:=26) ?_;intro M;refine MRa 0 ?_ (h1:=by exact(K2 ⟨rfl,trivial⟩));refine MZ fun W hS=> ?_;go_upto_region 3 with fail;refine RTh (.q 0 (.q 1 (.q 2 (.q 3 (.q 4 (.q 5 (.e 6 (.q 7 (.q 8 (.q 9 (.q 10 (.q 12 (.e 11 (.e 13 (.q 14 (.q 15 (.q 16 (.q 17 (.e 18 (.q 19 (.q 20 (.q 21 .z)))))))))))))))))))))) hS ?_;clear hS;refine TV ?_;refine TG 0 ?_ (v:=.int .i64 0) (hj:=(V1 (off:=0) 0));refine Tt ?_;refine Tt ?_;refine TV ?_;refine Tk 0 ?_ (sub:=J0 .u8 32 (J6 sE)) (hs:=(J11 (off:=1) 1));refine TE (fun _ h=>h) ?_;refine MC (v:=.agg (J0 .u8 32 (J6 sE))) (fun W hS=>Z3z W (hS.pp (i:=5) rfl:GX W).gt) ?_;refine TNh (fun W hS=>hS) ?_;refine TW ?_ (v:=.bool true) (hv:=fun _=>J62 ((fun w=>Y6j rfl w) _) (by kernel_rfl) rfl rfl rfl);refine Tt ?_;refine Tt ?_;refine TV ?_;refine TL 0 ?_ (hs:=by rw[J7];kernel_rfl);refine TE (fun _ h=>h) ?_;refine MC (v:=.agg (J0 .u8 32 (J6 (kP 1)))) (fun W hS=>Q5s W (hS.blk (i:=1) rfl) (hS.pp (i:=5) rfl:GX W)) ?_;refine TNh (fun W hS=>hS) ?_;refine TE (fun _ h=>h) ?_;refine MC (v:=.int .i64 ((0:Nat):Int)) (fun W hS=>(by have h_:=Q9v (V:=kP 1) (x:=⟨0,sE,sig 1 (sTx 0 sE)⟩) (kP_lt _) (sig_lt _ _) W (hS.pp (i:=5) rfl:GX W);rw[Q9w rfl rfl] at h_;exact h_)) ?_;refine TNh (fun W hS=>hS) ?_;(iterate 3 refine Tt ?_);refine TV ?_;refine TE (fun _ h=>h) ?_;refine MC (v:=.int .i64 ([⟨0,sE,sig 1 (sTx 0 sE)⟩].length:Int)) (fun W hS=>J51 W (hS.blk (i:=1) rfl)) ?_;refine TNh (fun W hS=>hS) ?_;(iterate 3 refine TV ?_);refine TZ (fun _ h=>h) fun W hS=> ?_;go_wp2;exact BH (v:=.bool true) (by simp only[results,Tryz.results7];go_simp) rfl ⟨rfl,hS.ext⟩
theorem Q5x {α β:Type}{l:List α}{i:Nat}{x:α}(h:l[i]?=some x)(f:α→β):List.map f (l.take (i+1))=List.map f (l.take i)++[f x]:=by rw[List.take_add_one,h,Bf];rfl
theorem V1p {ms:List Mb}{v:AB}(hn:ms.length≤1000)(w:AA)(hp:RR 35 w v (ms.map mbC))(hk:mbK ms w):
  BI Tryz.prog 15 #[v] w fun e w' => ∃u,e=.returned u∧SH [] w w' [.r 93 4 u (ms.map rmC)]:=by
 obtain⟨Ap,cp,rfl,R,N⟩:=RR.opf hp;have hS:=SH.nil [] w
 go_enter Tryz.func15,Tryz.ntmps15
 have hS:=hS.rnil 93 4 rfl
 go_wp2_with fail
 go_loopw [3,4] (fun uv ii wr=> ∃(i:Nat)(sv:AB),(i≤ms.length)∧(sv=uv)∧(ii=.int .i64 (i:Int))∧SH [] w wr [.r 93 4 sv (List.map rmC (List.take i ms))])
  (fun uv ii _=>ms.length-(intOf ii).toNat)
 case atStart=>exact⟨0,_,An _,rfl,rfl,hS⟩
 clear hS
 case round=>
  obtain⟨i,sv,hi,rfl,rfl,hS⟩:=hrel
  by_cases G:i<ms.length
  ·
   obtain⟨y,yh⟩:∃x,ms[i]?=some x:=⟨_,Aj G⟩
   obtain⟨gp,op,J,_⟩:=N.out i y yh;have D:=Lib.hid J;clear J;have hid:=(hk y (Az yh)).1;have S:=(hk y (Az yh)).2;have U:=V9 hid;go_upto_region 3 with fail;refine RL hS ?_;clear hS;(iterate 3 refine MV ?_);refine Wt ?_;refine MZ fun W hS=> ?_;go_upto_region 5 with fail;refine RTp [] (.q 0 (.q 1 (.q 2 (.q 3 (.q 4 (.q 5 (.q 6 (.q 7 (.q 8 (.q 9 (.q 10 (.q 11 (.q 12 (.q 13 (.q 14 (.q 15 (.q 16 (.q 17 (.q 18 (.q 19 (.q 20 (.q 21 (.q 22 (.q 23 (.e 24 (.e 25 (.q 26 .z))))))))))))))))))))))))))) hS ?_;clear hS;(iterate 3 refine TV ?_);refine TW ?_ (v:=.pointer (some ⟨gp,op+i*35,none⟩)) (hv:=fun _=>Y7 D.out G rfl rfl rfl Tryz.underlying51 (by kernel_rfl));refine TW ?_ (v:=.pointer (some ⟨gp,op+i*35,none⟩));refine TF (v:=y.u) rfl (fun W hS=>V6 rfl rfl ((Q5w (hp.ext hS.ext) yh D.out) 0 y.u (show(K4 [.c y.u,.c (.bool y.gone),.c (.int .i64 y.ep),.a 32 y.link])[0]?=some y.u from(V1 (off:=0) 0))) (by kernel_rfl)) ?_;refine TF (v:=Z9 y.id) rfl (fun W hS=>J1j (J3j hid hS.ext) rfl rfl) ?_;refine TV ?_;refine TV ?_;refine TW ?_ (v:=.pointer (some ⟨gp,op+i*35,none⟩)) (hv:=fun _=>Y7 D.out G rfl rfl rfl Tryz.underlying51 (by kernel_rfl));refine TW ?_ (v:=.pointer (some ⟨gp,op+i*35+1,none⟩));refine TF (v:=.bool y.gone) rfl (fun W hS=>V6 rfl rfl ((Q5w (hp.ext hS.ext) yh D.out) 1 (.bool y.gone) (show(K4 [.c y.u,.c (.bool y.gone),.c (.int .i64 y.ep),.a 32 y.link])[1]?=some (.bool y.gone) from(V1 (off:=1) 1))) (by kernel_rfl)) ?_;refine TV ?_;refine TV ?_;refine TW ?_ (v:=.pointer (some ⟨gp,op+i*35,none⟩)) (hv:=fun _=>Y7 D.out G rfl rfl rfl Tryz.underlying51 (by kernel_rfl));refine TW ?_ (v:=.pointer (some ⟨gp,op+i*35+2,none⟩));refine TF (v:=.int .i64 y.ep) rfl (fun W hS=>V6 rfl rfl ((Q5w (hp.ext hS.ext) yh D.out) 2 (.int .i64 y.ep) (show(K4 [.c y.u,.c (.bool y.gone),.c (.int .i64 y.ep),.a 32 y.link])[2]?=some (.int .i64 y.ep) from(V1 (off:=2) 2))) (by kernel_rfl)) ?_;refine TV ?_;refine TV ?_;refine TW ?_ (v:=.pointer (some ⟨gp,op+i*35,none⟩)) (hv:=fun _=>Y7 D.out G rfl rfl rfl Tryz.underlying51 (by kernel_rfl));refine TW ?_ (v:=.pointer (some ⟨gp,op+i*35+3,none⟩));refine TW ?_ (v:=.slice (some ⟨gp,op+i*35+3,none⟩) 32 32);refine TF (v:=Z9 (lb 32 y.link)) rfl (fun W hS=>J1j (Z86 (fun i_ v_ h_=>by rw[Nat.add_assoc];exact(Q5w (hp.ext hS.ext) yh D.out) (3+i_) v_ ((show ∀j v,(J0 .u8 32 (J6 y.link))[j]?=some v→(K4 [.c y.u,.c (.bool y.gone),.c (.int .i64 y.ep),.a 32 y.link])[3+j]?=some v from(J11 (off:=3) 3)) i_ v_ (by rw[←Array.getElem?_toList];exact h_)))) rfl rfl) ?_;refine TF (v:=.agg (K4 [.c (Z9 y.id),.c (.bool y.gone),.c (.int .i64 y.ep),.c (Z9 (lb 32 y.link))])) rfl (fun W hS=>J7m [(0,[.c (Z9 y.id)]),(1,[.c (.bool y.gone)]),(2,[.c (.int .i64 y.ep)]),(3,[.c (Z9 (lb 32 y.link))])] rfl rfl J5w J5x (.c rfl (.c rfl (.c rfl (.c rfl .n))))) ?_;refine TE (fun _ h=>h.pick []) ?_;refine MB (z:=(K4 [.c (Z9 y.id),.c (.bool y.gone),.c (.int .i64 y.ep),.c (Z9 (lb 32 y.link))])) (t:=93) (n:=1) (c:=1) ?_ (hr:=fun W _=>J0d rfl rfl rfl Tryz.underlying53 (by rw[J7];kernel_rfl) (by rw[J7];kernel_rfl) (by rw[J7];exact Bh (by kernel_rfl)) (by rw[J7];exact Bh (by kernel_rfl)));intro T;refine TNp [0] [] ?_;refine TE (fun _ h=>h.pick [0]) ?_;refine MAr 1 0 (tS:=53) (bytes:=48) (es:=(List.map rmC (List.take i ms))) (by first|omega|(simp only[lA,lM,lT,lD,lC,lN,J2,Y0,Z3,Q7];omega)) (e:=rmC y) (hk:=by rw[J7];kernel_rfl) (h1:=by exact(K2 ⟨rfl,rfl,rfl,rfl,trivial⟩)) (cs:=(K4 [.c (Z9 y.id),.c (.bool y.gone),.c (.int .i64 y.ep),.c (Z9 (lb 32 y.link))])) ?_;intro M;refine TNp [0,1] [0] ?_;refine TV ?_;refine TZ (fun _ h=>h) fun W hS=> ?_;go_wp2;go_roundw
   case rel=>exact⟨i+1,M,by omega,rfl,by go_num,(by rw[Q5x yh rmC];exact(hS.pick [1]))⟩
   case measure=>simp[intOf];omega
  obtain rfl:i=ms.length:=by omega
  rw[List.take_length] at hS;go_upto_region 3 with fail;refine RL hS ?_;clear hS;(iterate 3 refine MV ?_);refine Wf ?_;refine MZ fun W hS=> ?_;go_wp2;exact BH (v:=sv) (by simp only[results,Tryz.results15];go_simp) rfl ⟨_,rfl,hS.pick [0]⟩
end

section
set_option maxHeartbeats 3000000
attribute [local irreducible] wpList K1 wpX
open S8 (Kn GA kP sig vfy)
theorem Q9s {w W:AA}{v:AB}{l:List UInt8}(h:Own w v l)(e:∀b,v.ownBlock=some b→W.heap[b]?=w.heap[b]?):Own W v l:=by
 obtain⟨h1,h2⟩:=h;refine⟨h1,h2.imp id ?_⟩;rintro⟨g,G,D,rfl,hb,hh,r⟩;exact⟨g,G,D,rfl,hb,by rw[e g rfl];exact hh,r⟩
def idF (q:List Mb):List Nat:=q.flatMap fun y=>y.u.ownBlock.toList
def idK (q:List Mb)(W:AA):Prop:=(∀y∈q,Own W y.u y.id)∧q.Pairwise fun a b=> ∀k∈a.u.ownBlock.toList,k∉b.u.ownBlock.toList
abbrev idT (q:List Mb):As:=.m (some 5) (idF q) (idK q)
theorem Q11 {q:List Mb}{w:AA}(h:idK q w):(idT q).holds w:=by
 refine⟨h,fun k hk=> ?_,fun k hk=> ?_,fun W' _ e=>⟨fun y hy=>Q9s (h.1 y hy) fun b hb=>e b (List.mem_flatMap.2 ⟨y,hy,by rw[hb];simp⟩),h.2⟩⟩
 ·
  obtain⟨y,hy,h1⟩:=List.mem_flatMap.1 hk;exact As.lt (x:=.o y.u y.id) (h.1 y hy) k h1
 obtain⟨y,hy,h1⟩:=List.mem_flatMap.1 hk;exact As.tyOf (x:=.o y.u y.id) (h.1 y hy) rfl k h1
theorem SH.idnil {F:List Nat}{w W:AA}{H:List As}(h:SH F w W H)(ht:H.all (fun y=>SH.tyOk (idT []) y)=true):SH F w W (idT []::H):=h.mnil (some 5) (Q11 (q:=[]) ⟨fun y hy=>(by cases hy),.nil⟩) ht
theorem SH.idadd {F:List Nat}{w W:AA}{H:List As}{q:List Mb}{y:Mb}(h:SH F w W (.o y.u y.id::idT q::H)):SH F w W (idT (q++[y])::H):=by
 have h1:=h.own (i:=0) rfl;have h2:idK q W:=(h.at_ (i:=1) rfl).1;have ha:=(h.ap2 (i:=0) (j:=1) rfl rfl (by decide)).1 rfl
 have hk:idK (q++[y]) W:=by
  refine⟨fun z hz=> ?_,List.pairwise_append.2 ⟨h2.2,List.pairwise_singleton ..,fun a G b hb k J D=> ?_⟩⟩
  ·
   rcases Ay.1 hz with hz|hz
   ·
    exact h2.1 z hz
   rw[Ai.1 hz];exact h1
  rw[Ai.1 hb] at D;exact ha k D (List.mem_flatMap.2 ⟨a,G,J⟩)
 refine h.merge rfl rfl rfl (Q11 hk) fun k M=> ?_;obtain⟨z,hz,h3⟩:=List.mem_flatMap.1 M;rcases Ay.1 hz with hz|hz
 ·
  exact .inr (List.mem_flatMap.2 ⟨z,hz,h3⟩)
 rw[Ai.1 hz] at h3;exact .inl h3
theorem Y5t {q:List Mb}{W:AA}(h:idK q W):∀k∈Y5s q,k∈idF q:=fun k hk=>by
 obtain⟨y,hy,h1⟩:=List.mem_flatMap.1 hk;exact List.mem_flatMap.2 ⟨y,hy,by rw[Q2w (As.mem_toList h1)];simp⟩
abbrev mbO (v:AB)(q:List Mb):List As:=[.r 56 35 v (q.map mbC),idT q]
theorem Y1b {q:List Mb}{v:AB}{F:List Nat}{w W:AA}{H:List As}(hl:∀y∈q,y.id.length≤100000000)(h:SH F w W (mbO v q++H)):MbR v q W:=
 ⟨(h.row (i:=0) rfl).rr,fun y hy=>⟨((h.at_ (i:=1) rfl).1.1 y hy).sl,hl y hy⟩⟩
theorem V5z {q:List Mb}{v:AB}{F:List Nat}{w W:AA}{H:List As}(h:SH F w W (mbO v q++H)):InF (mbO v q) (fbR v (q.map mbC)++Y5s q):=
 Y2r (V37 0 rfl (Y2o (h.row (i:=0) rfl))) (V36 1 rfl (Y5t (h.at_ (i:=1) rfl).1))
abbrev TM:Type:={x:AB×List Mb // x.2.length≤6∧∀y∈x.2,y.id.length≤20}
theorem Y84 {W:AA}{A:Option Addr}{n c i g o:Nat}{ms:List Mb}{y:Mb}(h:RR 4 W (.slice A n c) (ms.map rmC))(yh:ms[i]?=some y)(hA:A=some ⟨g,o,none⟩):∀(j:Nat) (v:AB),(K4 [.c (Z9 y.id),.c (.bool y.gone),.c (.int .i64 y.ep),.c (Z9 (lb 32 y.link))])[j]?=some v→W.cell? ⟨g,o+i*4+j,none⟩=some v:=fun j v hv=>
 RR.cellat h (by rw[List.getElem?_map,yh];rfl) hA j v (by unfold rmC;rw[←J64,Array.getElem?_toList];exact hv)
theorem V1z (k v:Nat):K4 [.a 32 k,.a 32 v]=lf k v:=by
 apply Array.toList_inj.1;show(J0 .u8 32 (J6 k)).toList++((J0 .u8 32 (J6 v)).toList++[])=_;unfold lf;rw[List.append_nil,Array.toList_append]
theorem Y5u {ms:List Mb}{i:Nat}{y:Mb}{u:AB}(h:ms[i]?=some y)(hn:ms.length≤1000)(w:AA)(hl:RR 64 w u ((J3o (List.take i (ms.map mkL))).map lfl)):
  BI Tryz.prog 83 #[u,.agg (lf (hs4 (kTx y.id)) (hs4 (vTx y)))] w fun e w' =>Y13 139 (J3o (List.take (i+1) (ms.map mkL))) w w' e:=by
 have D:(List.take i (ms.map mkL)).length≤1000:=by rw[BC,Bc];omega
 rw[Z1m (Y83 h)];exact V1c (Q2d _) (Q43 (Y50 i (Y1g ms))).1 (V5t D) w hl
attribute [local irreducible] eI be8 hs4 lb kTx vTx sTx eS rs ofT sE sL sN S8.sig S8.vfy S8.kP S8.kN S8.kD

theorem V20 (i n:Nat):(i<n∧i<6)∨¬i<n∨(i<n∧¬i<6):=by omega
theorem V1j {ms:List Mb}{v:AB}(w:AA)(hp:RR 35 w v (ms.map mbC))(hk:∀y∈ms,Sl w y.u y.id):
  BI Tryz.prog 14 #[v] w fun e w' => ∃x:TM,e=.returned x.1.1∧SH [] w w' (mbO x.1.1 x.1.2):=by
 obtain⟨Ap,cp,rfl,X,U⟩:=RR.opf hp;have hS:=SH.nil [] w
 go_enter Tryz.func14,Tryz.ntmps14
 have hS:=hS.idnil rfl;have hS:=hS.rnil 56 35 rfl
 go_wp2_with fail
 go_loopw [3,4] (fun uv ii wr=> ∃(q:List Mb)(sv:AB),(q.length≤ms.length)∧(q.length≤6)∧(∀y∈q,y.id.length≤20)∧(sv=uv)∧(ii=.int .i64 (q.length:Int))∧SH [] w wr [.r 56 35 sv (List.map mbC q),idT q])
  (fun uv ii _=>ms.length-(intOf ii).toNat)
 case atStart=>exact⟨[],_,An _,An _,(fun y hy=>by cases hy),rfl,rfl,hS⟩
 clear hS
 case round=>
  obtain⟨q,sv,hi,R,hq,rfl,rfl,hS⟩:=hrel;rcases V20 q.length ms.length with G|G|G
  ·
   have N:=G.1;have Y:=G.2;obtain⟨y,yh⟩:∃x,ms[q.length]?=some x:=⟨_,Aj N⟩
   obtain⟨gp,op,S,_⟩:=U.out q.length y yh;have M:=Lib.hid S;clear S;have hid:=(hk y (Az yh))
   have T:=V9 hid;go_upto_region 3 with fail;refine RL hS ?_;clear hS;(iterate 3 refine MV ?_);refine Wto ?_;refine Wt ?_;refine MV ?_;refine Wto ?_;refine Wt ?_;refine MZ fun W hS=> ?_;go_upto_region 5 with fail;refine RL hS ?_;clear hS;refine MV ?_;refine MV ?_;refine MW ?_ (v:=.pointer (some ⟨gp,op+q.length*35,none⟩)) (hv:=fun _=>Y7 M.out N rfl rfl rfl Tryz.underlying51 (by kernel_rfl));refine MF (v:=.agg (K4 [.c y.u,.c (.bool y.gone),.c (.int .i64 y.ep),.a 32 y.link])) (fun W hS=>V8 rfl rfl (fun i_ v hv=>(Q5w (hp.ext hS.ext) yh M.out) i_ v (by simpa using hv)) (by kernel_rfl) (by rw[J7];kernel_rfl)) ?_;refine MN (z:=K4 [.c (.slice none 0 0),.c (.bool false),.c (.int .i64 0),.a 32 0]) (t:=56) ?_;intro Z;refine MRa 0 ?_ (h1:=by exact(K2 ⟨T.2,rfl,rfl,trivial⟩));refine MZ fun W hS=> ?_;go_upto_region 6 with fail;refine RL hS ?_;clear hS;refine MO (m:=[]) (n:=0) (z:= #[]) ?_;intro α;refine MV ?_;refine MG 1 ?_ (v:=y.u) (hj:=(V1 (off:=0) 0));refine MV ?_;refine MG 1 ?_ (v:=y.u) (hj:=(V1 (off:=0) 0));refine MF (v:=.int .i64 (y.id.length:Int)) (fun W hS=>J03 (J3j hid hS.ext) rfl rfl) ?_;refine MW ?_ (v:=.int .i64 ((min y.id.length 20:Nat):Int));refine MT (fun W hS=>hS.ent hid) ?_;refine MH 0 (min y.id.length 20) (m:=y.id) (m' :=(List.take (min y.id.length 20) y.id)) (by exact Nat.min_le_left _ _) ?_;intro β;refine MA 2 (xs:=[]) (ys:=(List.take (min y.id.length 20) y.id)) (fun W hS=>(hS.sl (i:=0) rfl)) (by first|omega|(simp only[lA,lM,lT,lD,lC,lN,J2,Y0,Z3,Q7];omega)) ?_;intro D;refine MV ?_;refine J6z (fun W hS=>(V9 (hS.osl (i:=2) rfl)).2) ?_;intro J;refine MP 3 (v:=D) (cs' :=K4 [.c D,.c (.bool y.gone),.c (.int .i64 y.ep),.a 32 y.link]) ?_ (hs:=agl) (hc:=J3a (off:=0) 0) (hv:=fun W hS=>V9 (hS.osl (i:=2) rfl));refine MZ fun W hS=> ?_;go_upto_region 7 with fail;refine RL hS ?_;clear hS;refine MV ?_;refine ML 3 ?_ (hs:=by rw[J7];kernel_rfl);refine MB (z:=(K4 [.c D,.c (.bool y.gone),.c (.int .i64 y.ep),.a 32 y.link])) (t:=56) (n:=1) (c:=1) ?_ (hr:=fun W _=>J0d rfl rfl rfl Tryz.underlying51 (by rw[J7];kernel_rfl) (by rw[J7];kernel_rfl) (by rw[J7];exact Bh (by kernel_rfl)) (by rw[J7];exact Bh (by kernel_rfl)));intro γ;refine MAr 5 0 (tS:=51) (bytes:=72) (es:=(List.map mbC q)) (by first|omega|(simp only[lA,lM,lT,lD,lC,lN,J2,Y0,Z3,Q7];omega)) (e:=mbC ⟨D,List.take (min y.id.length 20) y.id,y.gone,y.ep,y.link⟩) (hk:=by rw[J7];kernel_rfl) (h1:=by exact(K2 ⟨J,rfl,rfl,trivial⟩)) (cs:=(K4 [.c D,.c (.bool y.gone),.c (.int .i64 y.ep),.a 32 y.link])) ?_;intro V;refine MV ?_;refine MZ fun W hS=> ?_;have hS:=SH.idadd (y:=⟨D,List.take (min y.id.length 20) y.id,y.gone,y.ep,y.link⟩) (hS.pick [3,6,5]);go_wp2;go_roundw
   case rel=>exact⟨q++[⟨D,List.take (min y.id.length 20) y.id,y.gone,y.ep,y.link⟩],V,by rw[Ao];simp only[AY,Av];omega,by rw[Ao];simp only[AY,Av];omega,(fun z hz=>(Ay.1 hz).elim (hq z) fun h=>by rw[Ai.1 h];show(List.take _ _).length≤20;rw[BC];omega),rfl,by rw[Ao];go_num,(by rw[Bf];exact(hS.pick [1,0]))⟩
   case measure=>(try rw[Ao]);simp[intOf];omega
  ·
   go_upto_region 3 with fail;refine RL hS ?_;clear hS;(iterate 3 refine MV ?_);refine Wfo ?_;refine Wf ?_;refine MS ?_;refine MS ?_;refine Wf ?_;refine MZ fun W hS=> ?_;go_wp2;exact BH (v:=sv) (by simp only[results,Tryz.results14];go_simp) rfl ⟨⟨(sv,q),R,hq⟩,rfl,hS.pick [0,1]⟩
  go_upto_region 3 with fail;refine RL hS ?_;clear hS;(iterate 3 refine MV ?_);refine Wto ?_;refine Wt ?_;refine MV ?_;refine Wfo ?_;refine Wf ?_;refine MZ fun W hS=> ?_;go_wp2;exact BH (v:=sv) (by simp only[results,Tryz.results14];go_simp) rfl ⟨⟨(sv,q),R,hq⟩,rfl,hS.pick [0,1]⟩
theorem Z6k {q:Prop}(hr:q){ms:List Mb}{v:AB}(hn:ms.length≤1000)(w:AA)(hG:GT q w)(hp:RR 4 w v (ms.map rmC))(hk:∀y∈ms,y.id.length≤100000000):
  BI Tryz.prog 43 #[v] w fun e w' =>Y13 139 (J3o (ms.map mkL)) w w' e:=by
 obtain⟨Ap,cp,rfl,U,T⟩:=RR.opf hp;have hS:=SH.nil [] w
 go_enter Tryz.func43,Tryz.ntmps43
 go_upto_region 1 with fail;refine RL hS ?_;clear hS;refine MB0 (t:=139) (n:=64) ?_;intro V;refine MV ?_;refine MZ fun W hS=> ?_
 go_wp2_with fail
 go_loopw [3,4] (fun uv ii wr=> ∃(i:Nat)(sv:AB),(i≤ms.length)∧(sv=uv)∧(ii=.int .i64 (i:Int))∧SH [] w wr [.r 139 64 sv (List.map lfl (J3o (List.take i (ms.map mkL))))])
  (fun uv ii _=>ms.length-(intOf ii).toNat)
 case atStart=>exact⟨0,_,An _,rfl,rfl,hS⟩
 clear hS
 case round=>
  obtain⟨i,sv,hi,rfl,rfl,hS⟩:=hrel
  by_cases D:i<ms.length
  ·
   obtain⟨y,yh⟩:∃x,ms[i]?=some x:=⟨_,Aj D⟩
   obtain⟨gp,op,R,_⟩:=T.out i y yh;have G:=Lib.hid R;clear R;have S:=hk y (Az yh);go_upto_region 3 with fail;refine RL hS ?_;clear hS;(iterate 3 refine MV ?_);refine Wto ?_;refine MZ fun W hS=> ?_;go_upto_region 5 with fail;refine RL hS ?_;clear hS;refine MN (z:=K4 [.a 32 0,.a 32 0]) (t:=139) ?_;intro M;refine MZ fun W hS=> ?_;go_upto_region 6 with fail;refine RTp [1] (.q 0 (.q 1 (.q 2 (.q 3 (.q 4 (.q 5 (.q 6 (.e 7 (.e 8 .z))))))))) hS ?_;clear hS;refine TV ?_;refine TW ?_ (v:=.slice (some ⟨M,0,none⟩) 32 32);refine TV ?_;refine TV ?_;refine TW ?_ (v:=.pointer (some ⟨gp,op+i*4,none⟩)) (hv:=fun _=>Y7 G.out D rfl rfl rfl Tryz.underlying53 (by kernel_rfl));refine TW ?_ (v:=.pointer (some ⟨gp,op+i*4,none⟩));refine TF (v:=Z9 y.id) rfl (fun W hS=>V6 rfl rfl ((Y84 (hp.ext hS.ext) yh G.out) 0 (Z9 y.id) (show(K4 [.c (Z9 y.id),.c (.bool y.gone),.c (.int .i64 y.ep),.c (Z9 (lb 32 y.link))])[0]?=some (Z9 y.id) from(V1 (off:=0) 0))) (by kernel_rfl)) ?_;refine TE (fun _ h=>h.pick [1]) ?_;refine MC (v:=Z9 (lb 32 (hs4 (kTx y.id)))) (fun W hS=>V1v hr S W (Y5 hG hS.ext)) ?_;refine TNp [1] [0] ?_;refine TE (fun _ h=>h.pick [1]) ?_;refine MCq 0 (l:=(lb 32 (hs4 (kTx y.id)))) (N:=32) (cs:=K4 [.a 32 0,.a 32 0]) (new:=K4 [.a 32 (hs4 (kTx y.id)),.a 32 0]) (off:=0) (V35 0 rfl rfl (by kernel_rfl)) ?_;refine TNp [1] [0] ?_;refine TZ (fun _ h=>h.pick [1]) fun W hS=> ?_;go_upto_region 7 with fail;refine RTp [1] (.q 0 (.q 1 (.q 2 (.q 3 (.q 4 (.q 5 (.e 6 (.e 7 (.e 8 .z))))))))) hS ?_;clear hS;refine TV ?_;refine TW ?_ (v:=.slice (some ⟨M,32,none⟩) 32 32);refine TV ?_;refine TV ?_;refine TW ?_ (v:=.pointer (some ⟨gp,op+i*4,none⟩)) (hv:=fun _=>Y7 G.out D rfl rfl rfl Tryz.underlying53 (by kernel_rfl));refine TF (v:=.agg (K4 [.c (Z9 y.id),.c (.bool y.gone),.c (.int .i64 y.ep),.c (Z9 (lb 32 y.link))])) rfl (fun W hS=>V8 rfl rfl (fun i_ v hv=>(Y84 (hp.ext hS.ext) yh G.out) i_ v (by simpa using hv)) (by kernel_rfl) (by rw[J7];kernel_rfl)) ?_;refine TE (fun _ h=>h.pick [1]) ?_;refine MC (v:=Z9 (vTx y)) (fun W hS=>Q7u (m:=y) W) ?_;refine TNp [1] [0] ?_;refine TE (fun _ h=>h.pick [1]) ?_;refine MC (v:=Z9 (lb 32 (hs4 (vTx y)))) (fun W hS=>J4g (l:=vTx y) rfl (by have h_:=Z4f y;omega) W ((Y5 hG hS.ext).2 hr)) ?_;refine TNp [1] [0] ?_;refine TE (fun _ h=>h.pick [1]) ?_;refine MCq 0 (l:=(lb 32 (hs4 (vTx y)))) (N:=32) (cs:=K4 [.a 32 (hs4 (kTx y.id)),.a 32 0]) (new:=K4 [.a 32 (hs4 (kTx y.id)),.a 32 (hs4 (vTx y))]) (off:=32) (V35 1 rfl rfl (by kernel_rfl)) ?_;refine TNp [1] [0] ?_;refine TZ (fun _ h=>h.pick [1]) fun W hS=> ?_;rw[V1z] at hS;go_upto_region 8 with fail;refine RL hS ?_;clear hS;refine MV ?_;refine ML 0 ?_ (hs:=by rw[V0];kernel_rfl);refine ME (fun W hS=>Z47 (ls:=J3o (List.take (i+1) (ms.map mkL))) hS (Y5u yh hn W (hS.row (i:=1) rfl).rr) rfl) ?_;intro J;refine MV ?_;refine MZ fun W hS=> ?_;go_wp2;go_roundw
   case rel=>exact⟨i+1,J,by omega,rfl,by go_num,(hS.pick [0])⟩
   case measure=>simp[intOf];omega
  obtain rfl:i=ms.length:=by omega
  rw[List.take_of_length_le (Nat.le_of_eq (Bc _))] at hS;go_upto_region 3 with fail;refine RL hS ?_;clear hS;(iterate 3 refine MV ?_);refine Wfo ?_;refine MZ fun W hS=> ?_;go_wp2;exact BH (v:=sv) (by simp only[results,Tryz.results43];go_simp) rfl ⟨_,rfl,hS.pick [0]⟩
end
end Go.Proofs.YtdjacgmmidbieaaGreatDoor

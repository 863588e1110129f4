/- Contracts and plain laws for bundleAny_holds. Conditions: the tables hold their numbers. -/
import Derived.Test.YtlkbneflnjmgbaaGreatDoorJ24
open Go.RowKit
set_option maxRecDepth 100000
set_option linter.unusedSimpArgs false
set_option linter.unusedVariables false
namespace Go.Proofs.YtlkbneflnjmgbaaGreatDoor
section
set_option maxHeartbeats 3000000
attribute [local irreducible] wpList Z6 wpX
open S8 (Kn GA kP)
theorem Y02 {bs:List (Value×List UInt8)}{W:World}{ps:List Pv}(h:byK bs W)(hb:∀q∈ps,(q.lu,q.l)∈bs∧(q.xu,q.x)∈bs)(hl:∀q∈ps,q.l.length≤32∧q.x.length≤64):pvk ps W:=fun q hq=>⟨⟨h _ (hb q hq).1,by have:=(hl q hq).1;omega⟩,h _ (hb q hq).2,by have:=(hl q hq).2;omega⟩
theorem DOk.put_l {D:DD}(h:DOk D){q:J4a}(hq:q∈D.puts.flatten++D.waits):q.1.length≤32∧q.2.length≤64:=⟨(h.lab q.1 (DD.mem_labs.2 ⟨q,hq,rfl⟩)).2.1,h.val q hq⟩
theorem LOk.wl {D:DD}{y:LD}(h:LOk D y)(hK:DOk D):∀q∈y.wps,q.l.length≤32∧q.x.length≤64:=fun q hq=>hK.put_l (q:=pvP q) (List.mem_append.2 (.inr (by rw[←h.w];exact List.mem_map.2 ⟨q,hq,rfl⟩)))
theorem LOk.pl {D:DD}{y:LD}(h:LOk D y)(hK:DOk D){r:Value×List Pv}(hr:r∈y.pvs):∀q∈r.2,q.l.length≤32∧q.x.length≤64:=fun q hq=>hK.put_l (q:=pvP q) (List.mem_append.2 (.inl (List.mem_flatten.2 ⟨r.2.map pvP,by rw[←h.p];exact List.mem_map.2 ⟨r,hr,rfl⟩,List.mem_map.2 ⟨q,hq,rfl⟩⟩)))
theorem LOk.wn {D:DD}{y:LD}(h:LOk D y)(hK:DOk D):y.wps.length≤16:=by have h1:=congrArg List.length h.w;rw[List.length_map] at h1;have:=hK.wl;have:=hK.p2;omega
theorem LOk.pn {D:DD}{y:LD}(h:LOk D y)(hK:DOk D){r:Value×List Pv}(hr:r∈y.pvs):r.2.length≤16:=by
 have h1:=hK.pl (r.2.map pvP) (by rw[←h.p];exact List.mem_map.2 ⟨r,hr,rfl⟩);rw[List.length_map] at h1;have:=hK.p2;omega
theorem LOk.pat {D:DD}{y:LD}(h:LOk D y){e:Nat}(he:e<D.puts.length):∃r,y.pvs[e]?=some r∧D.puts[e]?=some (r.2.map pvP):=by
 have hl:y.pvs.length=D.puts.length:=by rw[←h.p,List.length_map]
 refine⟨_,List.getElem?_eq_getElem (by omega),?_⟩;rw[←h.p,List.getElem?_map,List.getElem?_eq_getElem (by omega)];rfl
def mkC (D:DD)(e:Nat):List Value:=fcs [.c (.int .i64 (e:Int)),.a 32 (rs (D.tree e)),.a 32 (D.link e)]
theorem Z1u (f n:Nat):List.range' f (n+1)=List.range' f n++[f+n]:=by rw[List.range'_concat];simp
attribute [local irreducible] eI be8 hs4 lb J3e J2f J01 xt hm pbs DD.tree DD.link rs S8.kP S8.kN S8.kD ofT

theorem Q2x:zer Tryz.prog 86=some (some (Q6 [.c (.int .i64 0),.a 32 0,.a 32 0])):=by kernel_rfl
theorem Q2y:plc Tryz.prog 86=some [(0,1),(1,32),(33,32)]:=by kernel_rfl
theorem Q2v:zer Tryz.prog 24=some (some (Q6 [.a 32 0,.a 32 0])):=by kernel_rfl
theorem Q2w:plc Tryz.prog 24=some [(0,32),(32,32)]:=by kernel_rfl
theorem Q10:zer Tryz.prog 67=some (some (Q6 [.c (.int .i64 0),.c (.int .i64 0),.c (.int .i64 0)])):=by kernel_rfl
theorem Q11:plc Tryz.prog 67=some [(0,1),(1,1),(2,1)]:=by kernel_rfl
theorem V7j {D:DD}{y:LD}(w:World)(hD:DK D y w)(hL:LOk D y)(hK:DOk D):
  Calls Tryz.prog 23 #[.pointer (some ⟨y.p,0,none⟩)] w fun e w' => ∃u,e=.returned u∧SH [] w w' [.o u D.id]:=by
 have M:=hK.pos;have N:=hK.len;have J:=hK.id2;have hS:=SH.nil [] w
 go_enter Tryz.func23,Tryz.ntmps23
 go_upto_region 3 with fail;refine RL hS ?_;clear hS;(iterate 3 refine MV ?_);refine MF (v:=y.uid) (fun W hS=>Z9 rfl rfl (by rw[J4 (J3 hD.d hS.ext)];exact(J9 (off:=0) 0)) (by kernel_rfl)) ?_;refine ME (V:=fun v=>v) (fun W hS=>J47 hS (J5h W (J0i (hD.by _ hL.i) hS.ext) (by first|omega|(simp only[lA,lM,lT,lD,lC,lN,J6,K5,V0,V1];omega))) (fun _=>⟨rfl,rfl⟩)) ?_;intro G;refine MV ?_;refine MZ fun W hS=> ?_;go_wp2;exact bodyPost_ret (v:=G) (by simp only[results,Tryz.results23];go_simp) rfl ⟨_,rfl,(hS.pick [0])⟩
theorem Y5x {D:DD}{y:LD}(w:World)(hD:DK D y w)(hL:LOk D y)(hK:DOk D):
  Calls Tryz.prog 24 #[.pointer (some ⟨y.p,0,none⟩)] w fun e w' =>Ret (.agg (Q6 [.a 32 D.vk,.a 32 D.bk])) w w' e:=by
 have hS:=SH.nil [] w
 go_enter Tryz.func24,Tryz.ntmps24
 go_upto_region 0 with fail;refine RL hS ?_;clear hS;refine MN (z:=Q6 [.a 32 0,.a 32 0]) (t:=24) ?_;intro Z8;refine MZ fun W hS=> ?_;go_upto_region 3 with fail;refine RL hS ?_;clear hS;(iterate 3 refine MV ?_);refine MF (v:=.agg (Q6 [.a 32 D.vk,.a 32 D.bk])) (fun W hS=>J1y rfl rfl (fun i v hv=>by rw[J4 (J3 hD.d hS.ext)];exact(Q13 (off:=1) 1 2) i v hv) (by kernel_rfl) (by first|kernel_rfl|(rw[J5];kernel_rfl))) ?_;refine MRa 0 ?_ (h1:=by exact(V6 trivial));refine MZ fun W hS=> ?_;go_wp2;exact bodyPost_ret (Z0 rfl rfl (hS.blk (i:=0) rfl) (by kernel_rfl) (by rw[J5];kernel_rfl)) rfl ⟨rfl,hS.ext⟩
theorem Z6o {D:DD}{y:LD}(w:World)(hD:DK D y w)(hL:LOk D y)(hK:DOk D):
  Calls Tryz.prog 25 #[.pointer (some ⟨y.p,0,none⟩)] w fun e w' =>Ret (.agg (Q6 [.c (.int .i64 (D.L:Int)),.c (.int .i64 (D.P:Int)),.c (.int .i64 (D.E:Int))])) w w' e:=by
 have hS:=SH.nil [] w
 go_enter Tryz.func25,Tryz.ntmps25
 go_upto_region 0 with fail;refine RL hS ?_;clear hS;refine MN (z:=Q6 [.c (.int .i64 0),.c (.int .i64 0),.c (.int .i64 0)]) (t:=67) ?_;intro Z8;refine MZ fun W hS=> ?_;go_upto_region 3 with fail;refine RL hS ?_;clear hS;(iterate 3 refine MV ?_);refine MF (v:=.agg (Q6 [.c (.int .i64 (D.L:Int)),.c (.int .i64 (D.P:Int)),.c (.int .i64 (D.E:Int))])) (fun W hS=>J1y rfl rfl (fun i v hv=>by rw[J4 (J3 hD.d hS.ext)];exact(Q13 (off:=65) 3 3) i v hv) (by kernel_rfl) (by first|kernel_rfl|(rw[J5];kernel_rfl))) ?_;refine MRa 0 ?_ (h1:=by exact(V6 ⟨rfl,rfl,rfl,trivial⟩));refine MZ fun W hS=> ?_;go_wp2;exact bodyPost_ret (Z0 rfl rfl (hS.blk (i:=0) rfl) (by kernel_rfl) (by rw[J5];kernel_rfl)) rfl ⟨rfl,hS.ext⟩
theorem Z99 {D:DD}{y:LD}(w:World)(hD:DK D y w)(hL:LOk D y)(hK:DOk D):
  Calls Tryz.prog 33 #[.pointer (some ⟨y.p,0,none⟩)] w fun e w' => ∃x:{x:Value×List Pv // x.2.map pvP=D.waits},e=.returned x.1.1∧SH [] w w' [.r 115 2 x.1.1 (x.1.2.map pvC),obT (pbs x.1.2)]:=by
 have hS:=SH.nil [] w
 go_enter Tryz.func33,Tryz.ntmps33
 go_upto_region 3 with fail;refine RL hS ?_;clear hS;(iterate 3 refine MV ?_);refine MF (v:=y.wv) (fun W hS=>Z9 rfl rfl (by rw[J4 (J3 hD.d hS.ext)];exact(J9 (off:=69) 7)) (by kernel_rfl)) ?_;refine ME (V:=fun x:{x:Value×List Pv // x.2.map pvP=y.wps.map pvP}=>x.1.1) (fun W hS=>J7n hS (Q9r (ps:=y.wps) (Nat.le_trans (hL.wn hK) (by decide)) W ((Row.off hD.wt hS.off0 f0).rr) (Y02 (fun b hb=>J0i (hD.by b hb) hS.ext) hL.bw (hL.wl hK))) (fun _=>rfl)) ?_;rintro⟨⟨uc,qs⟩,G⟩;dsimp only at G⊢;refine MV ?_;refine MZ fun W hS=> ?_;go_wp2;exact bodyPost_ret (v:=uc) (by simp only[results,Tryz.results33];go_simp) rfl ⟨⟨(uc,qs),by rw[G];exact hL.w⟩,rfl,hS.pick [0,1]⟩
theorem DK.ext {D:DD}{y:LD}{w W:World}(h:DK D y w)(q:Ext w W):DK D y W:=fun x hx=>As.keep0 (J0b q) (h x hx)
theorem Y60 {e_:Nat}{D:DD}{y:LD}(w:World)(hD:DK D y w)(hL:LOk D y)(hK:DOk D)(he:e_<D.puts.length):
  Calls Tryz.prog 31 #[.pointer (some ⟨y.p,0,none⟩),.int .i64 (e_:Int)] w fun e w' => ∃x:{x:Value×List Pv // x.2.map pvP=(D.puts[e_]?).getD []},e=.returned (.tuple #[x.1.1,.int .i64 0])∧SH [] w w' [.r 115 2 x.1.1 (x.1.2.map pvC),obT (pbs x.1.2)]:=by
 have α:=hK.pos;have Z:=hK.len;obtain⟨r,rh,T⟩:=hL.pat he;obtain⟨β,Y,U,_,M⟩:=RR.opf hD.pu.rr;obtain⟨X,S,R,N⟩:=M.out e_ r rh;have G:=List.mem_of_getElem? rh;have hS:=SH.nil [] w
 go_enter Tryz.func31,Tryz.ntmps31
 go_upto_region 3 with fail;refine RL hS ?_;clear hS;refine MV ?_;refine Wfo ?_;refine Wf ?_;refine MV ?_;refine MV ?_;refine MC (v:=.int .i64 ((D.puts.length-1:Nat):Int)) (fun W hS=>Q35 W (hD.ext hS.ext) hL hK) ?_;refine Wfo ?_;refine Wf ?_;refine Wf ?_;refine MZ fun W hS=> ?_;go_upto_region 5 with fail;refine RL hS ?_;clear hS;(iterate 3 refine MV ?_);refine MF (v:=y.pv) (fun W hS=>Z9 rfl rfl (by rw[J4 (J3 hD.d hS.ext)];exact(J9 (off:=70) 8)) (by kernel_rfl)) ?_;refine MV ?_;refine MW ?_ (v:=.pointer (some ⟨X,S+e_*1,none⟩)) (hv:=fun _=>J2l R (List.getElem?_eq_some_iff.1 rh).1 rfl U rfl Tryz.underlying109 (by kernel_rfl));refine MF (v:=r.1) (fun W hS=>Z9 rfl rfl (J0q (N 0 _ rfl) hS.ext) (by kernel_rfl)) ?_;refine ME (V:=fun x:{x:Value×List Pv // x.2.map pvP=r.2.map pvP}=>x.1.1) (fun W hS=>J7n hS (Q9r (ps:=r.2) (Nat.le_trans (hL.pn hK G) (by decide)) W ((hD.rw r G).ext hS.ext) (Y02 (fun b hb=>J0i (hD.by b hb) hS.ext) (hL.bp r G) (hL.pl hK G))) (fun _=>rfl)) ?_;rintro⟨⟨uc,qs⟩,J⟩;dsimp only at J⊢;refine MV ?_;refine W0 ?_;refine MZ fun W hS=> ?_;go_wp2;exact bodyPost_ret (v:=.tuple #[uc,.int .i64 0]) (by simp only[results,Tryz.results31];go_simp) rfl ⟨⟨(uc,qs),by rw[J,T];rfl⟩,rfl,hS.pick [0,1]⟩
end

section
set_option maxHeartbeats 3000000
attribute [local irreducible] wpList Z6 wpX
open S8 (Kn GA kP)
theorem DK.tree {D:DD}{y:LD}{w:World}(h:DK D y w){e:Nat}(he:e<D.puts.length):∃u,y.tus[e]?=some u∧TA w (D.tree e) u:=by
 have h1:=h.ta;have hl:e<y.tus.length:=by rw[←h1.1,DD.trees_len];exact he
 exact⟨_,List.getElem?_eq_getElem hl,h1.2 e _ _ (DD.trees_at he) (List.getElem?_eq_getElem hl)⟩
def enP (e:En):Nat×Nat×List UInt8:=(e.ep,e.ver,e.x)
def ebs (es:List En):List (Value×List UInt8):=es.map fun e=>(e.u,e.x)
attribute [local irreducible] eI be8 hs4 lb J3e J2f J01 xt hm pbs DD.tree DD.link rs S8.kP S8.kN S8.kD ofT ebs

theorem Z98 {f t:Nat}{D:DD}{y:LD}(w:World)(hX:GX w)(hD:DK D y w)(hL:LOk D y)(hK:DOk D)(hft:f≤t)(ht:t<D.puts.length):
  Calls Tryz.prog 30 #[.pointer (some ⟨y.p,0,none⟩),.int .i64 (f:Int),.int .i64 (t:Int)] w fun e w' => ∃u,e=.returned (.tuple #[u,.int .i64 0])∧SH [] w w' [.r 86 65 u ((List.range' f (t+1-f)).map (mkC D))]:=by
 have φ:=hK.pos;have ρ:=hK.len;obtain⟨ν,χ,α,_,S⟩:=RR.opf hD.tr.rr;obtain⟨σ,τ,ζ,_,Y⟩:=RR.opf hD.lk.rr;have hS:=SH.nil [] w
 go_enter Tryz.func30,Tryz.ntmps30
 go_upto_region 3 with fail;refine RL hS ?_;clear hS;refine MV ?_;refine Wfo ?_;refine Wf ?_;refine MV ?_;refine MV ?_;refine Wfo ?_;refine Wf ?_;refine Wf ?_;refine MV ?_;refine MV ?_;refine MC (v:=.int .i64 ((D.puts.length-1:Nat):Int)) (fun W hS=>Q35 W (hD.ext hS.ext) hL hK) ?_;refine Wfo ?_;refine Wf ?_;refine Wf ?_;refine MZ fun W hS=> ?_;have hS:=hS.rnil 86 65 rfl
 go_wp2_with fail
 go_loopw [8,9] (fun uv jj wr=> ∃(j:Nat)(sv:Value),(f≤j)∧(j≤t+1)∧(sv=uv)∧(jj=.int .i64 (j:Int))∧SH [] w wr [.r 86 65 sv (List.map (mkC D) (List.range' f (j-f)))])
  (fun uv jj _=>t+1-(intOf jj).toNat)
 case atStart=>exact⟨f,_,Nat.le_refl _,by omega,rfl,rfl,(by rw[Nat.sub_self];exact hS)⟩
 clear hS
 case round=>
  obtain⟨j,sv,ξ,hk,rfl,rfl,hS⟩:=hrel;have κ:(List.range' f (j-f)).length=j-f:=List.length_range' ..
  by_cases R:j≤t
  ·
   have G:j<D.puts.length:=by omega
   obtain⟨J,N,β⟩:=hD.tree G;obtain⟨θ,γ,T,V⟩:=S.out j J N;obtain⟨δ,η,Z,U⟩:=Y.out j _ (DD.links_at G);go_upto_region 7 with fail;refine RL hS ?_;clear hS;refine MV ?_;refine MV ?_;refine Wto ?_;refine MZ fun W hS=> ?_;go_upto_region 9 with fail;refine RTp [] (.q 0 (.q 1 (.q 2 (.q 3 (.q 4 (.q 5 (.q 6 (.q 7 (.q 8 (.q 10 (.q 11 (.q 12 (.q 13 (.q 14 (.q 15 (.q 16 (.e 9 (.q 17 (.e 18 (.e 19 (.q 20 .z))))))))))))))))))))) hS ?_;clear hS;(iterate 5 refine TV ?_);refine TF (v:=y.tv) rfl (fun W hS=>Z9 rfl rfl (by rw[J4 (J3 hD.d hS.ext)];exact(J9 (off:=71) 9)) (by kernel_rfl)) ?_;refine TV ?_;refine TW ?_ (v:=.pointer (some ⟨θ,γ+j*1,none⟩)) (hv:=fun _=>J2l T (List.getElem?_eq_some_iff.1 N).1 rfl (by exact α) rfl Tryz.underlying110 (by kernel_rfl));refine TF (v:=J) rfl (fun W hS=>Z9 rfl rfl (J0q (V 0 _ rfl) hS.ext) (by kernel_rfl)) ?_;(iterate 3 refine TV ?_);refine TF (v:=y.lv) rfl (fun W hS=>Z9 rfl rfl (by rw[J4 (J3 hD.d hS.ext)];exact(J9 (off:=72) 10)) (by kernel_rfl)) ?_;refine TV ?_;refine TW ?_ (v:=.pointer (some ⟨δ,η+j*32,none⟩)) (hv:=fun _=>J2l Z (show j<D.links.length by rw[DD.links_len];exact G) rfl (by exact ζ) rfl Tryz.underlying54 (by kernel_rfl));refine TF (v:=.agg (J0 .u8 32 (J7 (D.link j)))) rfl (fun W hS=>J1y rfl rfl (fun i_ v hv=>J0q (U i_ v (by simpa using hv)) hS.ext) (by kernel_rfl) (by rw[J1];kernel_rfl)) ?_;refine TE (fun _ h=>h.pick []) ?_;obtain⟨U1,M⟩:=exh (rs (D.tree j));refine MC (v:=.agg (J0 .u8 32 (J7 U1))) (fun W hS=>(by rw[M.out];exact Q7g W (hX.ext hS.ext).gt (β.ext hS.ext))) ?_;refine TNp [] [] ?_;refine TF (v:=.agg (Q6 [.c (.int .i64 (j:Int)),.a 32 U1,.a 32 (D.link j)])) rfl (fun W hS=>J5q [(0,[.c (.int .i64 (j:Int))]),(1,[.a 32 U1]),(2,[.a 32 (D.link j)])] rfl rfl Q2x Q2y (.c rfl (.c ((Q3x _ _).symm) (.c ((Q3x _ _).symm) .n)))) ?_;refine TE (fun _ h=>h.pick []) ?_;refine MB (z:=(Q6 [.c (.int .i64 (j:Int)),.a 32 U1,.a 32 (D.link j)])) (t:=86) (n:=1) (c:=1) ?_ (hr:=fun W _=>J2s rfl rfl rfl Tryz.underlying82 (by rw[J5];kernel_rfl) (by rw[J5];kernel_rfl) (by rw[J5];exact Nat.le_of_ble_eq_true (by kernel_rfl)) (by rw[J5];exact Nat.le_of_ble_eq_true (by kernel_rfl)));intro μ;refine TNp [0] [] ?_;refine TE (fun _ h=>h.pick [0]) ?_;refine MAr 1 0 (tS:=82) (bytes:=72) (es:=(List.map (mkC D) (List.range' f (j-f)))) (by first|omega|(simp only[lA,lM,lT,lD,lC,lN,J6,K5,V0,V1];omega)) (e:=fcs [.c (.int .i64 (j:Int)),.a 32 U1,.a 32 (D.link j)]) (hk:=by rw[J5];kernel_rfl) (h1:=by exact(V6 ⟨rfl,trivial⟩)) (cs:=(Q6 [.c (.int .i64 (j:Int)),.a 32 U1,.a 32 (D.link j)])) ?_;intro ε;refine TNp [0,1] [0] ?_;refine TV ?_;refine TZ (fun _ h=>h) fun W hS=> ?_;have X:mkC D j=fcs [.c (.int .i64 (j:Int)),.a 32 U1,.a 32 (D.link j)]:=by unfold mkC;rw[M.out]
   go_wp2;go_roundw
   case rel=>exact⟨(j+1),ε,by omega,by omega,rfl,by go_num,(by rw[show j+1-f=(j-f)+1 by omega,Z1u,show f+(j-f)=j by omega,List.map_append,List.map_cons,List.map_nil,X];exact(hS.pick [1]))⟩
   case measure=>simp[intOf];omega
  go_upto_region 7 with fail;refine RL hS ?_;clear hS;refine MV ?_;refine MV ?_;refine Wfo ?_;refine MZ fun W hS=> ?_;go_wp2;exact bodyPost_ret (v:=.tuple #[sv,.int .i64 0]) (by simp only[results,Tryz.results30];go_simp) rfl ⟨_,rfl,by rw[show t+1-f=j-f by omega];exact hS.pick [0]⟩
theorem LOk.xl {D:DD}{y:LD}(h:LOk D y)(hK:DOk D){a:Ac}(ha:a∈y.acs){x:En}(hx:x∈a.es):x.x.length≤64:=by
 have h1:(x.ep,x.ver,x.x)∈(D.made.filter fun m=>decide (m.l=a.l)).map fun m=>(m.ep,m.ver,m.x):=by rw[←h.e a ha];exact List.mem_map.2 ⟨x,hx,rfl⟩
 obtain⟨m,hm,e⟩:=List.mem_map.1 h1;injection e with e1 e2
 injection e2 with e2 e3
 have h2:=(DD.made_mem (List.mem_filter.1 hm).1).2;rw[←e3];exact hK.val _ (List.mem_append.2 (.inl h2))
theorem LOk.en {D:DD}{y:LD}(h:LOk D y){a:Ac}(ha:a∈y.acs):a.es.length=(D.made.filter fun m=>decide (m.l=a.l)).length:=by
 have:=congrArg List.length (h.e a ha);rwa [List.length_map,List.length_map] at this
theorem Q7h {e:Nat}:∀(ps:List J4a) (ms:List Md),(mdp ms e ps).length=ms.length+ps.length
 |[],ms=>rfl
 |p::ps,ms=>by
  show(mdp (ms++_) e ps).length=_;rw[Q7h ps,List.length_append];simp;omega
theorem Z45:∀(r:List (List J4a)) (ms:List Md) (e:Nat),(mdS ms e r).length=ms.length+r.flatten.length
 |[],ms,e=>by simp[mdS]
 |q::r,ms,e=>by
  show(mdS (mdp ms e q) (e+1) r).length=_;rw[Z45 r,Q7h,List.flatten_cons,List.length_append];omega
theorem DD.made_len (D:DD):D.made.length=D.puts.flatten.length:=by unfold DD.made;rw[Z45];simp
theorem Z46 {α:Type}{n:Nat}:∀{ls:List (List α)},(∀l∈ls,l.length≤n)→ls.flatten.length≤ls.length*n
 |[],_=>by simp
 |l::ls,h=>by
  rw[List.flatten_cons,List.length_append,List.length_cons,Nat.add_mul,Nat.one_mul];have:=Z46 (ls:=ls) fun l hl=>h l (List.mem_cons_of_mem _ hl);have:=h l (by simp);omega
theorem DOk.made {D:DD}(h:DOk D):D.made.length≤528:=by
 rw[DD.made_len];have h1:=Z46 h.pl;have h2:D.puts.length*D.P≤33*16:=Nat.mul_le_mul (h.len) h.p2;omega
theorem LOk.el {D:DD}{y:LD}(h:LOk D y)(hK:DOk D){a:Ac}(ha:a∈y.acs):a.es.length≤528:=by
 rw[h.en ha];exact Nat.le_trans (List.length_filter_le _ _) hK.made
end

section
open K4
attribute [local irreducible] wpList Z6 wpX
def txB (l:List UInt8):List UInt8:=[u8 (l.length / 256),u8 l.length]++l
def pqB (q:J4a):List UInt8:=txB q.1++txB q.2
def prB (ps:List J4a):List UInt8:=be8 ps.length++ps.flatMap pqB
abbrev DD.rowE (D:DD)(e:Nat):List J4a:=(D.puts[e]?).getD []
def epB (D:DD)(e:Nat):List UInt8:=prB (D.rowE e)++lb 32 (rs (D.tree e))
def J8h (D:DD)(k:Nat):List UInt8:=(List.range k).flatMap fun e=>epB D (e+1)
def hdB (D:DD)(P A:Nat)(H:Bool):List UInt8:=[1]++txB D.id++lb 32 D.vk++lb 32 D.bk++be8 D.L++be8 D.P++be8 D.E++be8 P++be8 A++[if H then 1 else 0]++be8 (D.puts.length-1)
def pkB (D:DD)(P A:Nat)(H:Bool):List UInt8:=hdB D P A H++J8h D (D.puts.length-1)++prB D.waits++lb 32 (D.link (D.puts.length-1))
theorem J1p (l:List UInt8):(txB l).length=2+l.length:=by unfold txB;rw[List.length_append];rfl
theorem Q0s {ps:List J4a}(h:∀q∈ps,q.1.length≤32∧q.2.length≤64):(prB ps).length≤8+100*ps.length:=by
  unfold prB;rw[List.length_append,J0s]
  have:∀ps:List J4a,(∀q∈ps,q.1.length≤32∧q.2.length≤64)→(ps.flatMap pqB).length≤100*ps.length:=by
    intro ps
    induction ps with
    |nil=>intro _;exact Nat.le_refl _
    |cons q r ih=>
      intro h;have h1:=h q (by simp);have h2:=ih fun z hz=>h z (by simp[hz]);rw[List.flatMap_cons,List.length_append,List.length_cons];have h3:(pqB q).length=2+q.1.length+(2+q.2.length):=by unfold pqB;rw[List.length_append,J1p,J1p]
      omega
  have:=this ps h;omega
theorem DD.rowE_mem {D:DD}{e:Nat}{q:J4a}(h:q∈D.rowE e):q∈D.puts.flatten:=by
  unfold DD.rowE at h;cases h1:D.puts[e]? with
  |none=>rw[h1] at h;cases h
  |some ps=>rw[h1] at h;exact List.mem_flatten.2 ⟨ps,List.mem_of_getElem? h1,h⟩
theorem DD.rowE_len {D:DD}(hK:DOk D)(e:Nat):(D.rowE e).length≤16:=by
  unfold DD.rowE;cases h1:D.puts[e]? with
  |none=>exact Nat.zero_le _
  |some ps=>exact Nat.le_trans (hK.pl ps (List.mem_of_getElem? h1)) hK.p2
theorem DD.qb {D:DD}(hK:DOk D){q:J4a}(h:q∈D.puts.flatten++D.waits):q.1.length≤32∧q.2.length≤64:=⟨(hK.lab q.1 (DD.mem_labs.2 ⟨q,h,rfl⟩)).2.1,hK.val q h⟩
theorem Q5v (D:DD)(k:Nat):J8h D (k+1)=J8h D k++epB D (k+1):=by
  unfold J8h;rw[List.range_succ,List.flatMap_append];simp
theorem Y5p {D:DD}(hK:DOk D)(e:Nat):(epB D e).length≤2000:=by
  unfold epB;rw[List.length_append,J6];have h1:=Q0s (ps:=D.rowE e) fun q hq=>DD.qb hK (List.mem_append_left _ (DD.rowE_mem hq));have h2:=DD.rowE_len hK e;omega
theorem Q0t {D:DD}(hK:DOk D):∀k,(J8h D k).length≤2000*k
  |0=>Nat.le_refl _
  |k+1=>by
    rw[Q5v,List.length_append];have:=Q0t hK k;have:=Y5p hK (k+1);omega
theorem Z3o {D:DD}(hK:DOk D)(P A:Nat)(H:Bool):(hdB D P A H).length≤200:=by
  unfold hdB;simp only[List.length_append,J1p,J6,J0s,List.length_cons,List.length_nil];have:=hK.id2;omega
theorem SH.wtap {F:List Nat}{w W:World}{H:List As}{i j k p:Nat}{c:Array Value}{t:TypeId}{v u:Value}{l m:List UInt8}{y:As}(h:SH F w W H)(hi:H[i]?=some (.b p c t))(hj:H[j]?=some (.o v l))(hk:H[k]?=some y)(hik:i≠k)(hjk:j≠k)(ht:∀T K,y≠ .t T K)(hf:∀b,sb u m=some b→b∈y.foot):∀b,sb u m=some b→b≠p∧v.ownBlock≠some b:=fun b hb=>by
  have h1:=(h.ap2 hi hk hik).1 rfl;have h2:=(h.ap2 hj hk hjk).1 rfl;have D:=hf b hb;cases y with
  |t T K=>exact absurd rfl (ht T K)
  |_=>exact⟨fun e=>h1 p (by simp[As.foot]) (e▸D),fun e=>h2 b (by show b∈v.ownBlock.toList;rw[e];simp) D⟩
theorem Q73 {W:World}{p:Nat}{v u:Value}{l m:List UInt8}{big:Bool}(hS:SH (SH.feet (wrL p v l big)) W W (wrL p v l big))(hu:Sl W u m)(ha:∀b,sb u m=some b→b≠p∧v.ownBlock≠some b)(hm:m.length≤65535)(hl:l.length<140737488280000):
    Calls Tryz.prog 22 #[.pointer (some ⟨p,0,none⟩),u] W fun e W' => ∃v',e=.returned (.tuple #[])∧SH (SH.feet (wrL p v l big)) W W' (wrL p v' (l++txB m) big):=
  J4i hS fun hw=>by
    have h:=Y5q p v l big W hw u m hu hm (fun e=>(ha p e).1 rfl) (fun x hx e=>(ha x e).2 hx) hl;unfold txB;rw[←List.append_assoc];exact h
def pvB (q:Pv):List UInt8:=txB q.l++txB q.x
theorem Z91 (ps:List Pv):prB (ps.map pvP)=be8 ps.length++ps.flatMap pvB:=by
  unfold prB;rw[List.length_map,List.flatMap_map];rfl
theorem Z92 {ps:List Pv}{k:Nat}{q:Pv}(h:ps[k]?=some q)(l:List UInt8):l++(ps.take k).flatMap pvB++txB q.l++txB q.x=l++(ps.take (k+1)).flatMap pvB:=by
  rw[List.take_add_one,h,List.flatMap_append];show _=l++((ps.take k).flatMap pvB++(pvB q++[]))
  unfold pvB;simp only[List.append_assoc,List.append_nil]
theorem Y5r {ps:List Pv}(h:∀q∈ps,q.l.length≤32∧q.x.length≤64)(hn:ps.length≤16)(k:Nat):((ps.take k).flatMap pvB).length≤1600:=by
  have h1:=Q0s (ps:=(ps.take k).map pvP) fun q hq=>by
    obtain⟨z,hz,rfl⟩:=List.mem_map.1 hq;exact h z (List.mem_of_mem_take hz)
  rw[Z91,List.length_append,J0s,List.length_map,List.length_take] at h1;omega
end
end Go.Proofs.YtlkbneflnjmgbaaGreatDoor

namespace Go.Proofs.YtlkbneflnjmgbaaGreatDoor.S8
open Sc (LL J10)
end Go.Proofs.YtlkbneflnjmgbaaGreatDoor.S8
namespace Go.Proofs.YtlkbneflnjmgbaaGreatDoor
section
end

section
set_option maxHeartbeats 3000000
attribute [local irreducible] wpList Z6 wpX
open S8 (Kn GA kP)
theorem DD.links_put (D:DD)(l x:List UInt8):(D.put l x).links=D.links:=by
 unfold DD.links;exact List.map_congr_left fun e _=>DD.link_put D l x e
theorem DD.trees_put (D:DD)(l x:List UInt8):(D.put l x).trees=D.trees:=rfl
def svK (vl:Value)(l:List UInt8)(vx:Value)(x:List UInt8)(W:World):Prop:=Sl W vl l∧Sl W vx x
abbrev svT (vl:Value)(l:List UInt8)(vx:Value)(x:List UInt8):As:=.p ((sb vl l).toList++(sb vx x).toList) (svK vl l vx x)
theorem Q65 {vl vx:Value}{l x:List UInt8}{w:World}(h1:Sl w vl l)(h2:Sl w vx x):(svT vl l vx x).holds w:=
 ⟨⟨h1,h2⟩,fun k hk=>(List.mem_append.1 hk).elim (fun h=>Sl.lt h1 k (As.mem_toList h)) (fun h=>Sl.lt h2 k (As.mem_toList h)),fun W' _ e=>⟨Q14 h1 fun b hb=>e b (List.mem_append.2 (.inl (by rw[hb];simp))),Q14 h2 fun b hb=>e b (List.mem_append.2 (.inr (by rw[hb];simp)))⟩⟩
attribute [local irreducible] ixN pfN erN
def LD.put (y:LD)(acs:List Ac)(wv c1 c2:Value)(l x:List UInt8):LD:={y with acs:=acs,wv:=wv,wps:=y.wps++[⟨c1,c2,l,x⟩],bs:=y.bs++[(c1,l),(c2,x)]}
theorem LOk.put {D:DD}{y:LD}(h:LOk D y){acs:List Ac}{wv c1 c2:Value}{l x:List UInt8}(ha:(acs=y.acs∧l∈D.labs)∨∃b,l∉D.labs∧acs=y.acs++[⟨b,l,ixN D.vk l,pfN D.vk l,.slice none 0 0,[]⟩]):LOk (D.put l x) (y.put acs wv c1 c2 l x) where
 w:=by show List.map pvP (y.wps++[_])=D.waits++[(l,x)];rw[List.map_append,h.w];rfl
 p:=h.p
 a:=by
  rw[DD.labs_put];rcases ha with⟨rfl,hl⟩|⟨b,hl,rfl⟩
  ·
   rw[if_pos hl];exact h.a
  ·
   rw[if_neg hl];show List.map _ (y.acs++[_])=_;rw[List.map_append,h.a];rfl
 n:=fun a hm=>by
  rcases ha with⟨rfl,hl⟩|⟨b,hl,rfl⟩
  ·
   exact h.n a hm
  rcases List.mem_append.1 hm with hm|hm
  ·
   exact h.n a hm
  rw[List.mem_singleton.1 hm];exact⟨(rfl:ixN D.vk l=ixN D.vk l),(rfl:pfN D.vk l=pfN D.vk l)⟩
 e:=fun a hm=>by
  rcases ha with⟨rfl,hl⟩|⟨b,hl,rfl⟩
  ·
   exact h.e a hm
  rcases List.mem_append.1 hm with hm|hm
  ·
   exact h.e a hm
  rw[List.mem_singleton.1 hm]
  have e0:(D.made.filter fun m=>decide (m.l=l))=[]:=List.filter_eq_nil_iff.2 fun m G=>by
   have h2:=(DD.made_mem G).2;simp only[decide_eq_true_eq];exact fun e=>hl (DD.mem_labs.2 ⟨(m.l,m.x),List.mem_append.2 (.inl h2),e⟩)
  show[]=List.map _ ((D.put l x).made.filter fun m=>decide (m.l=l));rw[DD.made_put,e0];rfl
 i:=List.mem_append.2 (.inl h.i)
 bw:=fun q hq=>by
  rcases List.mem_append.1 hq with hq|hq
  ·
   exact⟨List.mem_append.2 (.inl (h.bw q hq).1),List.mem_append.2 (.inl (h.bw q hq).2)⟩
  rw[List.mem_singleton.1 hq];exact⟨List.mem_append.2 (.inr (by simp)),List.mem_append.2 (.inr (by simp))⟩
 bp:=fun r hr q hq=>⟨List.mem_append.2 (.inl (h.bp r hr q hq).1),List.mem_append.2 (.inl (h.bp r hr q hq).2)⟩
 be:=fun a hm q hq=>by
  rcases ha with⟨rfl,hl⟩|⟨b,hl,rfl⟩
  ·
   exact List.mem_append.2 (.inl (h.be a hm q hq))
  rcases List.mem_append.1 hm with hm|hm
  ·
   exact List.mem_append.2 (.inl (h.be a hm q hq))
  rw[List.mem_singleton.1 hm] at hq;cases hq
structure PutOk (D:DD)(l x:List UInt8):Prop where
 l1:1≤l.length
 l2:l.length≤32
 x2:x.length≤64
 w:D.waits.length<D.P
 e:erN D.vk l=0
 n:l∉D.labs→D.labs.length<D.L
theorem DOk.put {D:DD}(h:DOk D){l x:List UInt8}(hp:PutOk D l x):DOk (D.put l x) where
 id1:=h.id1
 id2:=h.id2
 l1:=h.l1
 l2:=h.l2
 p1:=h.p1
 p2:=h.p2
 e1:=h.e1
 e2:=h.e2
 ep:=h.ep
 zero:=h.zero
 pl:=h.pl
 wl:=by show(D.waits++[_]).length≤D.P;rw[List.length_append];exact hp.w
 ll:=by
  rw[DD.labs_put]
  split
  ·
   exact h.ll
  ·
   rename_i hl;rw[List.length_append];exact hp.n hl
 lab:=fun m hm=>by
  rw[DD.labs_put] at hm
  split at hm
  ·
   exact h.lab m hm
  rcases List.mem_append.1 hm with hm|hm
  ·
   exact h.lab m hm
  rw[List.mem_singleton.1 hm];exact⟨hp.l1,hp.l2,hp.e⟩
 val:=fun q hq=>by
  rcases List.mem_append.1 hq with hq|hq
  ·
   exact h.val q (List.mem_append.2 (.inl hq))
  rcases List.mem_append.1 hq with hq|hq
  ·
   exact h.val q (List.mem_append.2 (.inr hq))
  rw[List.mem_singleton.1 hq];exact hp.x2
theorem Y6v {acs:List Ac}{l:List UInt8}{b:Nat}(h:mlk (J16 acs) l=some b):mst (J16 acs) l b=J16 acs:=by unfold mst;rw[h]
theorem Y6w {acs:List Ac}{l:List UInt8}{b ix pf:Nat}{v:Value}(h:mlk (J16 acs) l=none):mst (J16 acs) l b=J16 (acs++[⟨b,l,ix,pf,v,[]⟩]):=by unfold mst;rw[h];unfold J16;rw[List.map_append];rfl
theorem SH.acadd {F:List Nat}{w W:World}{H:List As}{acs:List Ac}{a:Ac}(h:SH F w W (.b a.b (acF a) 127::acT acs::H)):SH F w W (acT (acs++[a])::H):=by
 have h1:=h.blk (i:=0) rfl;have h2:acK acs W:=(h.at_ (i:=1) rfl).1;have ha:=(h.ap2 (i:=0) (j:=1) rfl rfl (by decide)).1 rfl
 have hk:acK (acs++[a]) W:=by
  refine⟨fun z hz=> ?_,?_⟩
  ·
   rcases List.mem_append.1 hz with hz|hz
   ·
    exact h2.1 z hz
   rw[List.mem_singleton.1 hz];exact h1
  rw[List.map_append];refine List.nodup_append.2 ⟨h2.2,List.nodup_cons.2 ⟨by simp,.nil⟩,fun k hk j hj e=> ?_⟩;rw[List.map_cons,List.map_nil,List.mem_singleton] at hj;exact ha a.b (by simp[As.foot]) (by rw[←hj,←e];exact hk)
 refine h.merge rfl rfl rfl (J9m hk) fun k D=> ?_;rw[List.map_append] at D;rcases List.mem_append.1 D with D|D
 ·
  exact .inr D
 exact .inl D
theorem SH.ennil {F:List Nat}{w W:World}{H:List As}{acs:List Ac}{b ix pf:Nat}{l:List UInt8}(h:SH F w W (enT acs::H)):SH F w W (enT (acs++[⟨b,l,ix,pf,.slice none 0 0,[]⟩])::H):=by
 have h2:enK acs W:=(h.at_ (i:=0) rfl).1
 have hk:enK (acs++[⟨b,l,ix,pf,.slice none 0 0,[]⟩]) W:=by
  refine⟨fun z hz=> ?_,List.pairwise_append.2 ⟨h2.2,List.pairwise_singleton ..,fun a ha c hc k J D=> ?_⟩⟩
  ·
   rcases List.mem_append.1 hz with hz|hz
   ·
    exact h2.1 z hz
   rw[List.mem_singleton.1 hz];exact Z49 _ _ _
  rw[List.mem_singleton.1 hc] at D;cases D
 refine h.asM rfl rfl rfl (J9n hk) fun k G=> ?_;obtain⟨z,hz,h3⟩:=List.mem_flatMap.1 G;rcases List.mem_append.1 hz with hz|hz
 ·
  exact List.mem_flatMap.2 ⟨z,hz,h3⟩
 rw[List.mem_singleton.1 hz] at h3;cases h3
attribute [local irreducible] eI be8 hs4 lb J3e J2f J01 xt hm pbs rs S8.kP S8.kN S8.kD ofT ebs lk0 DD.links DD.trees DD.labs DD.made DD.tree DD.link

theorem V37 {l x:List UInt8}{vl vx:Value}{D:DD}{y:LD}(w:World)(hX:GX w)(hD:DK D y w)(hL:LOk D y)(hK:DOk D)(hsl:Sl w vl l)(hsx:Sl w vx x)(hla:¬(1≤l.length∧l.length≤32)):
  Calls Tryz.prog 14 #[.pointer (some ⟨y.p,0,none⟩),vl,vx] w fun e w' =>Ret (.int .i64 1) w w' e:=by
 have J:=hK.pos;have M:=hK.len;have G:¬(1≤(l.length:Int)∧(l.length:Int)≤32):=by omega
 have hS:=SH.nil [] w
 go_enter Tryz.func14,Tryz.ntmps14
 go_upto_region 1 with fail;refine RL hS ?_;clear hS;refine MV ?_;refine Wf ?_;refine Wf ?_;refine MV ?_;refine MC (v:=.bool false) (fun W hS=>(by have h_:=J7p W (J0i hsl hS.ext);rw[show win _ 32=false from decide_eq_false G] at h_;exact h_)) ?_;(iterate 3 refine Wt ?_);(iterate 3 refine MS ?_);refine Wt ?_;refine Wt ?_;refine MZ fun W hS=> ?_;go_wp2;exact bodyPost_ret (v:=.int .i64 1) (by simp only[results,Tryz.results14];go_simp) rfl ⟨rfl,hS.ext⟩
theorem V38 {l x:List UInt8}{vl vx:Value}{D:DD}{y:LD}(w:World)(hX:GX w)(hD:DK D y w)(hL:LOk D y)(hK:DOk D)(hsl:Sl w vl l)(hsx:Sl w vx x)(hla:1≤l.length∧l.length≤32)(hx2:64<x.length):
  Calls Tryz.prog 14 #[.pointer (some ⟨y.p,0,none⟩),vl,vx] w fun e w' =>Ret (.int .i64 1) w w' e:=by
 have J:=hK.pos;have M:=hK.len;have G:1≤(l.length:Int)∧(l.length:Int)≤32:=by omega
 have hS:=SH.nil [] w
 go_enter Tryz.func14,Tryz.ntmps14
 go_upto_region 1 with fail;refine RL hS ?_;clear hS;refine MV ?_;refine Wf ?_;refine Wf ?_;refine MV ?_;refine MC (v:=.bool true) (fun W hS=>(by have h_:=J7p W (J0i hsl hS.ext);rw[show win _ 32=true from decide_eq_true G] at h_;exact h_)) ?_;(iterate 3 refine Wf ?_);refine MV ?_;refine MF (v:=.int .i64 (x.length:Int)) (fun W hS=>X5 (J0i hsx hS.ext) rfl rfl) ?_;refine Wto ?_;refine Wt ?_;refine Wt ?_;refine MZ fun W hS=> ?_;go_wp2;exact bodyPost_ret (v:=.int .i64 1) (by simp only[results,Tryz.results14];go_simp) rfl ⟨rfl,hS.ext⟩
theorem V88 {l x:List UInt8}{vl vx:Value}{D:DD}{y:LD}(w:World)(hX:GX w)(hD:DK D y w)(hL:LOk D y)(hK:DOk D)(hsl:Sl w vl l)(hsx:Sl w vx x)(hla:1≤l.length∧l.length≤32)(hx2:x.length≤64)(hf:D.P≤D.waits.length):
  Calls Tryz.prog 14 #[.pointer (some ⟨y.p,0,none⟩),vl,vx] w fun e w' =>Ret (.int .i64 6) w w' e:=by
 have J:=hK.pos;have M:=hK.len;have G:1≤(l.length:Int)∧(l.length:Int)≤32:=by omega
 have hS:=SH.nil [] w
 go_enter Tryz.func14,Tryz.ntmps14
 go_upto_region 1 with fail;refine RL hS ?_;clear hS;refine MV ?_;refine Wf ?_;refine Wf ?_;refine MV ?_;refine MC (v:=.bool true) (fun W hS=>(by have h_:=J7p W (J0i hsl hS.ext);rw[show win _ 32=true from decide_eq_true G] at h_;exact h_)) ?_;(iterate 3 refine Wf ?_);refine MV ?_;refine MF (v:=.int .i64 (x.length:Int)) (fun W hS=>X5 (J0i hsx hS.ext) rfl rfl) ?_;refine Wfo ?_;refine Wf ?_;refine Wf ?_;refine MZ fun W hS=> ?_;go_upto_region 3 with fail;refine RTh (.q 0 (.q 1 (.q 2 (.q 3 (.q 4 (.q 5 (.q 6 (.q 7 (.q 8 (.q 9 (.q 10 (.q 11 .z)))))))))))) hS ?_;clear hS;(iterate 3 refine TV ?_);refine TF (v:=y.wv) rfl (fun W hS=>Z9 rfl rfl (by rw[J4 (J3 hD.d hS.ext)];exact(J9 (off:=69) 7)) (by kernel_rfl)) ?_;refine TF (v:=.int .i64 (D.waits.length:Int)) rfl (fun W hS=>(by rw[show(D.waits.length:Int)=((List.map pvC y.wps).length:Int) by rw[List.length_map,←hL.w,List.length_map]];exact J3f (Row.off hD.wt hS.off0 f0) rfl rfl Tryz.underlying87)) ?_;(iterate 4 refine TV ?_);refine TF (v:=.int .i64 (D.P:Int)) rfl (fun W hS=>Z9 rfl rfl (by rw[J4 (J3 hD.d hS.ext)];exact(J9 (off:=66) 4)) (by kernel_rfl)) ?_;refine Tto ?_;refine Tt ?_;refine TZ (fun _ h=>h) fun W hS=> ?_;go_wp2;exact bodyPost_ret (v:=.int .i64 6) (by simp only[results,Tryz.results14];go_simp) rfl ⟨rfl,hS.ext⟩
theorem V89 {l x:List UInt8}{vl vx:Value}{D:DD}{y:LD}(w:World)(hX:GX w)(hD:DK D y w)(hL:LOk D y)(hK:DOk D)(hsl:Sl w vl l)(hsx:Sl w vx x)(hla:1≤l.length∧l.length≤32)(hx2:x.length≤64)(hf:D.waits.length<D.P)(hn:l∉D.labs)(hm_:D.L≤D.labs.length):
  Calls Tryz.prog 14 #[.pointer (some ⟨y.p,0,none⟩),vl,vx] w fun e w' =>Ret (.int .i64 6) w w' e:=by
 have J:=hK.pos;have M:=hK.len;have G:1≤(l.length:Int)∧(l.length:Int)≤32:=by omega
 have hS:=SH.nil [] w
 go_enter Tryz.func14,Tryz.ntmps14
 go_upto_region 1 with fail;refine RL hS ?_;clear hS;refine MV ?_;refine Wf ?_;refine Wf ?_;refine MV ?_;refine MC (v:=.bool true) (fun W hS=>(by have h_:=J7p W (J0i hsl hS.ext);rw[show win _ 32=true from decide_eq_true G] at h_;exact h_)) ?_;(iterate 3 refine Wf ?_);refine MV ?_;refine MF (v:=.int .i64 (x.length:Int)) (fun W hS=>X5 (J0i hsx hS.ext) rfl rfl) ?_;refine Wfo ?_;refine Wf ?_;refine Wf ?_;refine MZ fun W hS=> ?_;go_upto_region 3 with fail;refine RTh (.q 0 (.q 1 (.q 2 (.q 3 (.q 4 (.q 5 (.q 6 (.q 7 (.q 8 (.q 9 (.q 10 (.q 11 .z)))))))))))) hS ?_;clear hS;(iterate 3 refine TV ?_);refine TF (v:=y.wv) rfl (fun W hS=>Z9 rfl rfl (by rw[J4 (J3 hD.d hS.ext)];exact(J9 (off:=69) 7)) (by kernel_rfl)) ?_;refine TF (v:=.int .i64 (D.waits.length:Int)) rfl (fun W hS=>(by rw[show(D.waits.length:Int)=((List.map pvC y.wps).length:Int) by rw[List.length_map,←hL.w,List.length_map]];exact J3f (Row.off hD.wt hS.off0 f0) rfl rfl Tryz.underlying87)) ?_;(iterate 4 refine TV ?_);refine TF (v:=.int .i64 (D.P:Int)) rfl (fun W hS=>Z9 rfl rfl (by rw[J4 (J3 hD.d hS.ext)];exact(J9 (off:=66) 4)) (by kernel_rfl)) ?_;refine Tfo ?_;refine Tf ?_;refine TZ (fun _ h=>h) fun W hS=> ?_;go_upto_region 5 with fail;refine RTh (.q 0 (.q 1 (.q 2 (.q 3 (.q 4 (.q 5 (.q 6 (.q 7 (.q 8 (.q 9 (.q 10 (.q 11 (.q 12 (.q 13 (.q 14 (.q 15 (.q 16 (.q 17 (.q 18 (.q 19 (.q 20 (.q 21 .z)))))))))))))))))))))) hS ?_;clear hS;(iterate 3 refine TV ?_);refine TF (v:=.map (some y.h)) rfl (fun W hS=>Z9 rfl rfl (by rw[J4 (J3 hD.d hS.ext)];exact(J9 (off:=68) 6)) (by kernel_rfl)) ?_;refine TV ?_;refine TF (v:=str l) rfl (fun W hS=>J2q (J0i hsl hS.ext) rfl rfl) ?_;refine TF (v:=.pointer none) rfl (fun W hS=>(by rw[show(.pointer none:Value)=mpt (mlk (J16 y.acs) l) by rw[hL.mlk_n hn];rfl];exact J6f (J5s hD.m hS.ext) Tryz.underlying108 Tryz.underlying9 (by kernel_rfl) rfl rfl rfl)) ?_;refine TW ?_ (v:=.bool true) (hv:=by intro W;go_simp;first|done|rfl);refine Tt ?_;(iterate 3 refine TV ?_);refine TF (v:=.map (some y.h)) rfl (fun W hS=>Z9 rfl rfl (by rw[J4 (J3 hD.d hS.ext)];exact(J9 (off:=68) 6)) (by kernel_rfl)) ?_;refine TF (v:=.int .i64 (D.labs.length:Int)) rfl (fun W hS=>(by rw[show(D.labs.length:Int)=((J16 y.acs).length:Int) by unfold J16;rw[List.length_map,←hL.a,List.length_map]];exact Q45 (J5s hD.m hS.ext) Tryz.underlying108 rfl rfl rfl)) ?_;(iterate 4 refine TV ?_);refine TF (v:=.int .i64 (D.L:Int)) rfl (fun W hS=>Z9 rfl rfl (by rw[J4 (J3 hD.d hS.ext)];exact(J9 (off:=65) 3)) (by kernel_rfl)) ?_;refine Tto ?_;refine Tt ?_;refine Tt ?_;refine TZ (fun _ h=>h) fun W hS=> ?_;go_wp2;exact bodyPost_ret (v:=.int .i64 6) (by simp only[results,Tryz.results14];go_simp) rfl ⟨rfl,hS.ext⟩
theorem V8a {l x:List UInt8}{vl vx:Value}{D:DD}{y:LD}(w:World)(hX:GX w)(hD:DK D y w)(hL:LOk D y)(hK:DOk D)(hsl:Sl w vl l)(hsx:Sl w vx x)(hla:1≤l.length∧l.length≤32)(hx2:x.length≤64)(hf:D.waits.length<D.P)(hn:l∉D.labs)(hm_:D.labs.length<D.L){E:Nat}(hE:E=erN D.vk l)(hz:E≠0):
  Calls Tryz.prog 14 #[.pointer (some ⟨y.p,0,none⟩),vl,vx] w fun e w' =>Ret (.int .i64 (E:Int)) w w' e:=by
 have J:=hK.pos;have M:=hK.len;have G:1≤(l.length:Int)∧(l.length:Int)≤32:=by omega
 have hS:=SH.nil [] w
 go_enter Tryz.func14,Tryz.ntmps14
 go_upto_region 1 with fail;refine RL hS ?_;clear hS;refine MV ?_;refine Wf ?_;refine Wf ?_;refine MV ?_;refine MC (v:=.bool true) (fun W hS=>(by have h_:=J7p W (J0i hsl hS.ext);rw[show win _ 32=true from decide_eq_true G] at h_;exact h_)) ?_;(iterate 3 refine Wf ?_);refine MV ?_;refine MF (v:=.int .i64 (x.length:Int)) (fun W hS=>X5 (J0i hsx hS.ext) rfl rfl) ?_;refine Wfo ?_;refine Wf ?_;refine Wf ?_;refine MZ fun W hS=> ?_;go_upto_region 3 with fail;refine RTh (.q 0 (.q 1 (.q 2 (.q 3 (.q 4 (.q 5 (.q 6 (.q 7 (.q 8 (.q 9 (.q 10 (.q 11 .z)))))))))))) hS ?_;clear hS;(iterate 3 refine TV ?_);refine TF (v:=y.wv) rfl (fun W hS=>Z9 rfl rfl (by rw[J4 (J3 hD.d hS.ext)];exact(J9 (off:=69) 7)) (by kernel_rfl)) ?_;refine TF (v:=.int .i64 (D.waits.length:Int)) rfl (fun W hS=>(by rw[show(D.waits.length:Int)=((List.map pvC y.wps).length:Int) by rw[List.length_map,←hL.w,List.length_map]];exact J3f (Row.off hD.wt hS.off0 f0) rfl rfl Tryz.underlying87)) ?_;(iterate 4 refine TV ?_);refine TF (v:=.int .i64 (D.P:Int)) rfl (fun W hS=>Z9 rfl rfl (by rw[J4 (J3 hD.d hS.ext)];exact(J9 (off:=66) 4)) (by kernel_rfl)) ?_;refine Tfo ?_;refine Tf ?_;refine TZ (fun _ h=>h) fun W hS=> ?_;go_upto_region 5 with fail;refine RTh (.q 0 (.q 1 (.q 2 (.q 3 (.q 4 (.q 5 (.q 6 (.q 7 (.q 8 (.q 9 (.q 10 (.q 11 (.q 12 (.q 13 (.q 14 (.q 15 (.q 16 (.q 17 (.q 18 (.q 19 (.q 20 (.q 21 .z)))))))))))))))))))))) hS ?_;clear hS;(iterate 3 refine TV ?_);refine TF (v:=.map (some y.h)) rfl (fun W hS=>Z9 rfl rfl (by rw[J4 (J3 hD.d hS.ext)];exact(J9 (off:=68) 6)) (by kernel_rfl)) ?_;refine TV ?_;refine TF (v:=str l) rfl (fun W hS=>J2q (J0i hsl hS.ext) rfl rfl) ?_;refine TF (v:=.pointer none) rfl (fun W hS=>(by rw[show(.pointer none:Value)=mpt (mlk (J16 y.acs) l) by rw[hL.mlk_n hn];rfl];exact J6f (J5s hD.m hS.ext) Tryz.underlying108 Tryz.underlying9 (by kernel_rfl) rfl rfl rfl)) ?_;refine TW ?_ (v:=.bool true) (hv:=by intro W;go_simp;first|done|rfl);refine Tt ?_;(iterate 3 refine TV ?_);refine TF (v:=.map (some y.h)) rfl (fun W hS=>Z9 rfl rfl (by rw[J4 (J3 hD.d hS.ext)];exact(J9 (off:=68) 6)) (by kernel_rfl)) ?_;refine TF (v:=.int .i64 (D.labs.length:Int)) rfl (fun W hS=>(by rw[show(D.labs.length:Int)=((J16 y.acs).length:Int) by unfold J16;rw[List.length_map,←hL.a,List.length_map]];exact Q45 (J5s hD.m hS.ext) Tryz.underlying108 rfl rfl rfl)) ?_;(iterate 4 refine TV ?_);refine TF (v:=.int .i64 (D.L:Int)) rfl (fun W hS=>Z9 rfl rfl (by rw[J4 (J3 hD.d hS.ext)];exact(J9 (off:=65) 3)) (by kernel_rfl)) ?_;refine Tfo ?_;refine Tf ?_;refine Tf ?_;refine TZ (fun _ h=>h) fun W hS=> ?_;go_upto_region 7 with fail;refine RL hS ?_;clear hS;refine MV ?_;refine MV ?_;refine MC (v:=.tuple #[.pointer none,.int .i64 (E:Int)]) (fun W hS=>Y6t hE hn hz W (hX.ext hS.ext) (hD.ext hS.ext) hL (J0i hsl hS.ext) hla.2) ?_;(iterate 5 refine MV ?_);refine MZ fun W hS=> ?_;go_upto_region 8 with fail;refine RL hS ?_;clear hS;refine MV ?_;refine Wto ?_;refine MZ fun W hS=> ?_;go_wp2;exact bodyPost_ret (v:=.int .i64 (E:Int)) (by simp only[results,Tryz.results14];go_simp) rfl ⟨rfl,hS.ext⟩
end

section
def OldF (L:List As)(W:World)(f:List Nat):Prop:=∀k∈f,k<W.heap.size→∃x∈L,(∀T K,x≠ .t T K)∧k∈x.foot
theorem OldF.mem {L:List As}{W:World}{x:As}{f:List Nat}(hx:x∈L)(ht:∀T K,x≠ .t T K)(hf:∀k∈f,k∈x.foot):OldF L W f:=fun k hk _=>⟨x,hx,ht,hf k hk⟩
namespace SH
variable {F : List Nat} {w W W' : World} {H H' L L' N R : List As} {x y : As}
def okQ (L R:List As)(W:World):List As→Prop
  |[]=>True
  |y::l=>(y∈L∨(y.mv=true∧R.all (tyOk y)=true)∨(∃T K,y=.t T K∧R.all (fun z=>tyOk z y)=true)∨∃f K,y=.p f K∧OldF L W f)∧okQ L R W l
theorem Q85:∀{l:List As},okQ L R W l→∀y∈l,y∈L∨(y.mv=true∧R.all (tyOk y)=true)∨(∃T K,y=.t T K∧R.all (fun z=>tyOk z y)=true)∨∃f K,y=.p f K∧OldF L W f
  |_::_,h,y,hy=>by
    rcases List.mem_cons.1 hy with rfl|hy
    · exact h.1
    · exact Q85 h.2 y hy
theorem frameQ (h:SH F w W (L++R))(h' :SH (feet L) W W' L')(ok:okQ L R W L'):SH F w W' (L' ++R):=by
  have hp:=List.pairwise_append.1 h.ap;have hR:∀z∈R,z.holds W:=fun z hz=>h.all z (by simp[hz]);have hL:∀x∈L,x.holds W:=fun x hx=>h.all x (by simp[hx])
  have hf:∀k,k∈feet L→∀z∈R,(∀T K,z≠ .t T K)→k∉z.foot:=fun k hk z hz hT=>by
    obtain⟨x,hx,hm,hk⟩:=mem_feet.1 hk;have:=(hp.2.2 x hx z hz).1 hm;cases z with
    |t T K=>exact absurd rfl (hT T K)
    |_=>exact this k hk
  have hl:∀y∈L',y.mv=true→∀z∈R,(∀T K,z≠ .t T K)→∀k∈y.foot,k∉z.foot:=fun y hy hm z hz hT k hk D=>
    hf k (h'.old y hy hm k hk (As.lt (hR z hz) k D)) z hz hT D
  refine⟨h.off.step h'.off fun k hk G=> ?_,fun z hz=> ?_,List.pairwise_append.2 ⟨h'.ap,hp.2.1,fun y hy z hz=>⟨fun hm=> ?_,fun hm=> ?_⟩⟩,fun z hz hm k hk G=> ?_⟩
  · obtain⟨x,hx,hm,hk⟩:=mem_feet.1 hk
    exact h.old x (by simp[hx]) hm k hk G
  · rcases List.mem_append.1 hz with hz|hz
    · exact h'.all z hz
    refine As.keep h'.off (hR z hz) (fun k hk M=> ?_) fun T K e k M G ht=> ?_
    · cases z with
      |t T K=>cases hk
      |_=>exact hf k M _ hz (fun _ _ e=>by cases e) hk
    obtain⟨x,hx,hm,hk⟩:=mem_feet.1 M;have h1:=(hp.2.2 x hx z hz).1 hm;subst e;exact h1 ((As.tyOf (hL x hx) hm k hk).symm.trans ht)
  · rcases Q85 ok y hy with N|⟨_,J⟩|⟨T,K,e,_⟩|⟨f,K,e,_⟩
    · exact(hp.2.2 y N z hz).1 hm
    · cases z with
      |t T K=>have:=List.all_eq_true.1 J _ hz;simpa[tyOk,hm] using this
      |_=>exact hl y hy hm _ hz (fun _ _ e=>by cases e)
    · subst e;cases hm
    subst e;cases hm
  · rcases Q85 ok y hy with N|⟨S,_⟩|⟨T,K,e,J⟩|⟨f,K,e,ho⟩
    · exact(hp.2.2 y N z hz).2 hm
    · cases y with
      |t T K=>cases S
      |_=>exact fun k hk D=>hl _ hy S z hz (fun T K e=>by subst e;cases hm) k D hk
    · subst e;have:=List.all_eq_true.1 J _ hz;simpa[tyOk,hm] using this
    subst e;intro k hk D;obtain⟨x,hx,ht,X⟩:=ho k D (As.lt (hR z hz) k hk);have h2:=(hp.2.2 x hx z hz).2 hm;cases x with
    |t T K=>exact ht T K rfl
    |_=>exact h2 k hk X
  rcases List.mem_append.1 hz with hz|hz
  · by_cases U:k<W.heap.size
    · obtain⟨x,hx,V,D⟩:=mem_feet.1 (h'.old z hz hm k hk U)
      exact h.old x (by simp[hx]) V k D G
    have:=h.size;omega
  exact h.old z (by simp[hz]) hm k hk G
theorem OldF.less {f:List Nat}{g:List Nat}{K:World→Prop}(h:OldF (L++[.p g K]) W f)(hg:InF N g):OldF (L++N) W f:=fun k hk G=>by
  obtain⟨x,hx,ht,D⟩:=h k hk G;rcases List.mem_append.1 hx with hx|hx
  · exact⟨x,List.mem_append.2 (.inl hx),ht,D⟩
  · rw[List.mem_singleton.1 hx] at D
    obtain⟨z,hz,h1,h2⟩:=hg k D;exact⟨z,List.mem_append.2 (.inr hz),h1,h2⟩
end SH
end

section
def Y08 (D:DD)(y:LD)(val:Value)(D' :DD)(R:List As)(F:List Nat)(w w' :World)(e:Ending):Prop:=∃z:LD,e=.returned val∧LOk D' z∧z.p=y.p∧SH F w w' (ldL D' z++R)∧OldF (ldL D y) w (J3v z.bs)∧OldF (ldL D y) w (J45 z.pvs)
def tyD (R:List As):Bool:=R.all fun z=>(match z with
  | .t T _=>T !=112 &&(T !=127 &&(T !=130 &&(T !=115 &&(T !=87 &&(T !=113 && T !=22)))))
  |_=>true) &&(!z.mv ||z.ty !=some 160)
theorem J0l {R:List As}{y:As}(h:tyD R=true)(hy:∀T,y.ty=some T→T=112∨T=127∨T=130∨T=115∨T=87∨T=113∨T=22):R.all (SH.tyOk y)=true:=by
  refine List.all_eq_true.2 fun z hz=> ?_;have h1:=List.all_eq_true.1 h z hz;cases z with
  |t T K=>
    simp only[Bool.and_eq_true,bne_iff_ne] at h1;show(!y.mv ||y.ty !=some T)=true;rw[Bool.or_eq_true,bne_iff_ne];refine .inr fun e=> ?_;rcases hy T e with rfl|rfl|rfl|rfl|rfl|rfl|rfl
    · exact h1.1.1 rfl
    · exact h1.1.2.1 rfl
    · exact h1.1.2.2.1 rfl
    · exact h1.1.2.2.2.1 rfl
    · exact h1.1.2.2.2.2.1 rfl
    · exact h1.1.2.2.2.2.2.1 rfl
    · exact h1.1.2.2.2.2.2.2 rfl
  |_=>rfl
theorem Z3w {R:List As}{K:World→Prop}(h:tyD R=true):R.all (fun z=>SH.tyOk z (.t 160 K))=true:=by
  refine List.all_eq_true.2 fun z hz=> ?_;have h1:=List.all_eq_true.1 h z hz;rw[Bool.and_eq_true] at h1;exact h1.2
theorem Z4b {D D' :DD}{y z:LD}{W:World}{R:List As}(hR:tyD R=true)(h1:OldF (ldL D y) W (J3v z.bs))(h2:OldF (ldL D y) W (J45 z.pvs)):SH.okQ (ldL D y++[gx]) R W (ldL D' z++[gx]):=by
  have hm:∀{f:List Nat},OldF (ldL D y) W f→OldF (ldL D y++[gx]) W f:=fun h k hk G=>by
    obtain⟨x,hx,h3⟩:=h k hk G;exact⟨x,List.mem_append.2 (.inl hx),h3⟩
  refine⟨.inr (.inl ⟨rfl,J0l hR fun T e=> ?_⟩),.inr (.inl ⟨rfl,J0l hR fun T e=> ?_⟩),.inr (.inl ⟨rfl,J0l hR fun T e=> ?_⟩),.inr (.inl ⟨rfl,J0l hR fun T e=> ?_⟩),.inr (.inl ⟨rfl,J0l hR fun T e=> ?_⟩),.inr (.inl ⟨rfl,J0l hR fun T e=> ?_⟩),.inr (.inl ⟨rfl,J0l hR fun T e=> ?_⟩),.inr (.inl ⟨rfl,J0l hR fun T e=> ?_⟩),.inr (.inr (.inr ⟨_,_,rfl,hm h1⟩)),.inr (.inr (.inr ⟨_,_,rfl,hm h2⟩)),.inr (.inr (.inl ⟨_,_,rfl,Z3w hR⟩)),.inl (List.mem_append.2 (.inr (by simp))),trivial⟩
  · injection e with e;exact .inl e.symm
  · cases e
  · injection e with e;exact .inr (.inl e.symm)
  · injection e with e;exact .inr (.inr (.inl e.symm))
  · injection e with e;exact .inr (.inr (.inr (.inl e.symm)))
  · injection e with e;exact .inr (.inr (.inr (.inr (.inl e.symm))))
  · injection e with e;exact .inr (.inr (.inr (.inr (.inr (.inl e.symm)))))
  injection e with e;exact .inr (.inr (.inr (.inr (.inr (.inr e.symm)))))
section
variable {P : Program} {g : FuncId} {args : Array Value} {F : List Nat} {w W : World} {N R : List As} {D D' : DD} {y : LD} {val : Value}
end
theorem SH.oldD {D:DD}{y:LD}{w W:World}{R H:List As}{x:As}(h:SH (feet (ldL D y++R)) w W H)(hR:R.all (fun z=> !z.mv)=true)(hx:x∈H)(hm:x.mv=true):OldF (ldL D y) w x.foot:=fun k hk M=>by
  obtain⟨z,hz,G,J⟩:=mem_feet.1 (h.old x hx hm k hk M);rcases List.mem_append.1 hz with hz|hz
  · exact⟨z,hz,fun T K e=>(by subst e;cases G),J⟩
  · have:=List.all_eq_true.1 hR z hz
    rw[G] at this;cases this
end
end Go.Proofs.YtlkbneflnjmgbaaGreatDoor

/- Contracts and plain laws for superSeals_holds. Conditions: the tables hold their numbers. -/
import Derived.Test.YtdjacgmmidbieaaGreatDoorJ25
open Go renaming World->AA,Value->AB,bodyPost_ret->BH,Calls->BI,TypeId->AE,IntKind->AI
open _root_.List renaming length_append->Ao,mem_singleton->Ai,append_nil->Ar,append_assoc->At,mem_cons_self->BO,length_drop->AZ,length_map->Bc,mem_cons->Ad,flatten_cons->Aw,mem_append->Ay,length_take->BC,map_append->Bf
open _root_.Nat renaming le_of_ble_eq_true->Bh,two_pow_pos->AQ
open Go.RowKit
set_option linter.unusedSimpArgs false
set_option linter.unusedVariables false
namespace Go.Proofs.YtdjacgmmidbieaaGreatDoor
section
set_option maxHeartbeats 3000000
set_option maxRecDepth 100000
attribute [local irreducible] wpList K1 wpX
open S8 (Kn GA kP sig vfy)
def eS (l:List UInt8):Nat:=hs4 ([0]++l)
structure Sg where
 ep:Int
 ro:Nat
 sig:Nat
abbrev sgF (x:Sg):Array AB:=K4 [.c (.int .i64 x.ep),.a 32 x.ro,.a 64 x.sig]
def sgC (x:Sg):List AB:=fcs [.c (.int .i64 x.ep),.a 32 x.ro,.a 64 x.sig]
abbrev suF (S:Nat)(vt vl vs:AB):Array AB:=K4 [.a 32 S,.c vt,.c vl,.c vs]
abbrev nSl:AB:=.slice none 0 0
abbrev suL (p S:Nat)(T:TR)(xs:List Sg)(us:List Nat)(vt vl vs:AB):List As:=[.b p (suF S vt vl vs) 74,.r 26 97 vl (xs.map sgC),.r 22 32 vs (us.map X4),.t 116 (fun W=>TA W T vt)]
def SuR (F:List Nat)(val:AB)(p S:Nat)(T:TR)(xs:List Sg)(us:List Nat)(R:List As)(w w' :AA)(e:Ending):Prop:=∃y:AB×AB×AB,e=.returned val∧SH F w w' (suL p S T xs us y.1 y.2.1 y.2.2++R)
def sgN (S:Nat)(T:TR)(n:Nat):Sg:=⟨(n:Int),rs T,sig S (sTx (n:Int) (rs T))⟩
theorem Q28 (xs:List Sg)(S:Nat)(T:TR)(n:Nat):List.map sgC xs++[sgC ⟨(n:Int),rs T,sig S (sTx (n:Int) (rs T))⟩]=List.map sgC (xs++[sgN S T n]):=by rw[Bf];rfl
def Y5s (ms:List Mb):List Nat:=ms.flatMap fun y=>(sb y.u y.id).toList
def MbR (v:AB)(ms:List Mb)(W:AA):Prop:=RR 35 W v (ms.map mbC)∧mbK ms W
abbrev mbT (v:AB)(ms:List Mb):As:=.p (fbR v (ms.map mbC)++Y5s ms) (MbR v ms)
theorem Z6j {ms:List Mb}{w:AA}(h:mbK ms w):(As.p (Y5s ms) (mbK ms)).holds w:=by
 refine⟨h,fun k hk=> ?_,fun W' _ e y hy=> ?_⟩
 ·
  obtain⟨y,hy,h1⟩:=List.mem_flatMap.1 hk;exact Sl.lt (h y hy).1 k (As.mem_toList h1)
 exact⟨Z2p (h y hy).1 fun b hb=>e b (List.mem_flatMap.2 ⟨y,hy,by rw[hb];simp⟩),(h y hy).2⟩
theorem Q5t {v:AB}{ms:List Mb}{w:AA}(h:MbR v ms w):(mbT v ms).holds w:=by
 have h1:=RR.pholds (by decide) Z2v h.1;have h2:=Z6j h.2;exact⟨h,fun k hk=>(Ay.1 hk).elim (h1.2.1 k) (h2.2.1 k),fun W' hs e=>⟨h1.2.2 W' hs fun k hk=>e k (Ay.2 (.inl hk)),h2.2.2 W' hs fun k hk=>e k (Ay.2 (.inr hk))⟩⟩
attribute [local irreducible] eI be8 hs4 lb kTx vTx sTx rs ofT sE sL sN S8.sig S8.vfy S8.kP S8.kN S8.kD

theorem Q1o:zer Tryz.prog 74=some (some (K4 [.a 32 0,.c (.pointer none),.c (.slice none 0 0),.c (.slice none 0 0)])):=by kernel_rfl
theorem Q1p:plc Tryz.prog 74=some [(0,32),(32,1),(33,1),(34,1)]:=by kernel_rfl
theorem J3v:zer Tryz.prog 26=some (some (K4 [.c (.int .i64 0),.a 32 0,.a 64 0])):=by kernel_rfl
theorem J3w:plc Tryz.prog 26=some [(0,1),(1,32),(33,64)]:=by kernel_rfl
theorem Y1h {q:Prop}{v:AB}{l:List UInt8}(w:AA)(hG:GT q w)(hid:Sl w v l)(hl:l.length≤100000000):
  BI Tryz.prog 68 #[v] w fun e w' =>V4 (.agg (J0 .u8 32 (J6 (eS l)))) w w' e:=by
 have hS:=SH.nil [] w
 go_enter Tryz.func68,Tryz.ntmps68
 go_upto_region 0 with fail;refine RL hS ?_;clear hS;refine MN (z:=J0 .u8 32 (J6 0)) (t:=22) ?_;intro K9;refine MZ fun W hS=> ?_;go_upto_region 1 with fail;refine RL hS ?_;clear hS;refine MO (m:=[0]) (n:=1) (z:= #[.int .u8 0]) ?_;intro D;refine MV ?_;refine MB (z:= #[D,v]) (t:=45) (n:=2) (c:=2) ?_ (hr:=fun W hS=>J0p [D,v] rfl rfl (vsc (V9 (hS.osl (i:=0) rfl)).1 (vsc (V9 (J3j hid hS.ext)).1 vs0)) Tryz.underlying158 (by kernel_rfl) (by kernel_rfl) rfl (by decide) (by decide));intro J;obtain⟨U1,G⟩:=exh (hs4 ([0]++l));refine MC (v:=.agg (J0 .u8 32 (J6 U1))) (fun W hS=>J5n G.out [[0],l] (some ⟨J,0,none⟩) 2 (by simp only[Aw,List.flatten_nil,Ar,List.nil_append,At,List.cons_append]) (by first|omega|(simp only[lA,lM,lT,lD,lC,lN,J2,Y0,Z3,Q7];omega)) (by simp) W (J1w (hS.blk (i:=0) rfl) (pvc (hS.osl (i:=1) rfl) (pvc (J3j hid hS.ext) pv0))) (J29 hG.1 hS.ext)) ?_;refine MR 2 ?_;refine MZ fun W hS=> ?_;have e_:=G.out;subst e_;go_wp2;exact BH (Z5 rfl rfl (hS.blk (i:=2) rfl) (by kernel_rfl) (by rw[J1];kernel_rfl)) rfl ⟨rfl,hS.ext⟩
theorem Q0f {p S:Nat}{vt vl vs u:AB}{us:List Nat}{l:List UInt8}(hn:us.length≤1000000)(hl:l.length≤100000000)(w:AA)(h_:SH (SH.feet [.b p (suF S vt vl vs) 74,.r 22 32 vs (us.map X4),.s u l,gx]) w w [.b p (suF S vt vl vs) 74,.r 22 32 vs (us.map X4),.s u l,gx]):
  BI Tryz.prog 34 #[.pointer (some ⟨p,34,none⟩),u] w fun e w' => ∃x,e=.returned (.int .i64 (us.length:Int))∧SH (SH.feet [.b p (suF S vt vl vs) 74,.r 22 32 vs (us.map X4),.s u l,gx]) w w' [.b p (suF S vt vl x) 74,.r 22 32 x ((us++[eS l]).map X4),.s u l,gx]:=by
 have hS:=h_;clear h_;have T:=(Row.cells (hS.row (i:=1) rfl)).2
 go_enter Tryz.func34,Tryz.ntmps34
 go_upto_region 3 with fail;refine RTp [2,3] (.q 0 (.q 1 (.q 2 (.q 3 (.q 5 (.b 4 (.e 6 (.e 7 (.e 8 (.q 9 (.q 10 (.e 11 .z)))))) 6 (.b 4 (.e 7 (.e 8 (.q 9 (.q 10 (.e 11 .z))))) 7 (.e 4 (.e 8 (.q 9 (.q 10 (.e 11 .z)))))))))))) hS ?_;clear hS;(iterate 5 refine TV ?_);refine TB (fun _ h=>h.pick [2,3]) ?_ ?_
 ·
  refine MG 0 ?_ (v:=vs) (hj:=(V1 (off:=34) 3));refine TNp [2,3] [0,1] ?_;refine TE (fun _ h=>h.pick [2,3]) ?_;refine MC (v:=.agg (J0 .u8 32 (J6 (eS l)))) (fun W hS=>Y1h W (hS.pp (i:=3) rfl:GX W).gt (hS.sl (i:=2) rfl) (by first|omega|(simp only[lA,lM,lT,lD,lC,lN,J2,Y0,Z3,Q7];omega))) ?_;refine TNp [2,3] [0,1] ?_;refine TE (fun _ h=>h.pick [2,3]) ?_;refine MB (z:=(J0 .u8 32 (J6 (eS l)))) (t:=22) (n:=1) (c:=1) ?_ (hr:=fun W _=>J0d rfl rfl rfl Tryz.underlying37 (by rw[J1];kernel_rfl) (by rw[J1];kernel_rfl) (by rw[J1];decide) (by rw[J1];decide));intro X;refine TNp [0,3,4] [1,2] ?_;refine TE (fun _ h=>h.pick [0,3,4]) ?_;refine MAr 2 0 (tS:=37) (bytes:=32) (es:=(List.map X4 us)) (by first|omega|(simp only[lA,lM,lT,lD,lC,lN,J2,Y0,Z3,Q7];omega)) (e:=X4 (eS l)) (hk:=J1 _ _ _) (h1:=by exact Z8 _ _ _) ?_;intro J;refine TNp [0,2,3,4] [0,2,3] ?_;refine TV ?_;refine TV ?_;refine TE (fun _ h=>h.pick [0,2,3,4]) ?_;refine J6z (fun W hS=>(Row.cells (hS.row (i:=2) rfl)).2) ?_;intro M;refine MP 1 (v:=J) (cs' :=K4 [.a 32 S,.c vt,.c vl,.c J]) ?_ (hs:=agl) (hc:=J3a (off:=34) 3) (hv:=fun W hS=>Row.cells (hS.row (i:=2) rfl));refine TNp [0,2,3,4] [0,1,2,3] ?_;refine TZ (fun _ h=>h.pick [0,2,3,4]) fun W hS=> ?_;go_upto_region 4 with fail;refine RL hS ?_;clear hS;(iterate 3 refine MV ?_);refine MG 1 ?_ (v:=J) (hj:=(V1 (off:=34) 3));refine MF (v:=.int .i64 (((List.map X4 us)++[X4 (eS l)]).length:Int)) (fun W hS=>J0x (hS.row (i:=2) rfl) rfl rfl Tryz.underlying37) ?_;refine MW ?_ (v:=.int .i64 (us.length:Int)) (hv:=by intro W;rw[Ao,Bc];go_simp;(try simp only[AI.wrap_i64]);omega);refine MV ?_;refine MZ fun W hS=> ?_;go_wp2;exact BH (v:=.int .i64 (us.length:Int)) (by simp only[results,Tryz.results34];go_simp) rfl ⟨_,rfl,by rw[Bf];exact hS.pick [1,2,3,4]⟩
 refine MC (v:=.agg (J0 .u8 32 (J6 (eS l)))) (fun W hS=>Y1h W (hS.pp (i:=3) rfl:GX W).gt (hS.sl (i:=2) rfl) (by first|omega|(simp only[lA,lM,lT,lD,lC,lN,J2,Y0,Z3,Q7];omega))) ?_;refine TNp [2,3] [0,1] ?_;refine TB (fun _ h=>h.pick [2,3]) ?_ ?_
 ·
  refine MG 0 ?_ (v:=vs) (hj:=(V1 (off:=34) 3));refine TNp [2,3] [0,1] ?_;refine TE (fun _ h=>h.pick [2,3]) ?_;refine MB (z:=(J0 .u8 32 (J6 (eS l)))) (t:=22) (n:=1) (c:=1) ?_ (hr:=fun W _=>J0d rfl rfl rfl Tryz.underlying37 (by rw[J1];kernel_rfl) (by rw[J1];kernel_rfl) (by rw[J1];decide) (by rw[J1];decide));intro U;refine TNp [0,3,4] [1,2] ?_;refine TE (fun _ h=>h.pick [0,3,4]) ?_;refine MAr 2 0 (tS:=37) (bytes:=32) (es:=(List.map X4 us)) (by first|omega|(simp only[lA,lM,lT,lD,lC,lN,J2,Y0,Z3,Q7];omega)) (e:=X4 (eS l)) (hk:=J1 _ _ _) (h1:=by exact Z8 _ _ _) ?_;intro D;refine TNp [0,2,3,4] [0,2,3] ?_;refine TV ?_;refine TV ?_;refine TE (fun _ h=>h.pick [0,2,3,4]) ?_;refine J6z (fun W hS=>(Row.cells (hS.row (i:=2) rfl)).2) ?_;intro R;refine MP 1 (v:=D) (cs' :=K4 [.a 32 S,.c vt,.c vl,.c D]) ?_ (hs:=agl) (hc:=J3a (off:=34) 3) (hv:=fun W hS=>Row.cells (hS.row (i:=2) rfl));refine TNp [0,2,3,4] [0,1,2,3] ?_;refine TZ (fun _ h=>h.pick [0,2,3,4]) fun W hS=> ?_;go_upto_region 4 with fail;refine RL hS ?_;clear hS;(iterate 3 refine MV ?_);refine MG 1 ?_ (v:=D) (hj:=(V1 (off:=34) 3));refine MF (v:=.int .i64 (((List.map X4 us)++[X4 (eS l)]).length:Int)) (fun W hS=>J0x (hS.row (i:=2) rfl) rfl rfl Tryz.underlying37) ?_;refine MW ?_ (v:=.int .i64 (us.length:Int)) (hv:=by intro W;rw[Ao,Bc];go_simp;(try simp only[AI.wrap_i64]);omega);refine MV ?_;refine MZ fun W hS=> ?_;go_wp2;exact BH (v:=.int .i64 (us.length:Int)) (by simp only[results,Tryz.results34];go_simp) rfl ⟨_,rfl,by rw[Bf];exact hS.pick [1,2,3,4]⟩
 refine MB (z:=(J0 .u8 32 (J6 (eS l)))) (t:=22) (n:=1) (c:=1) ?_ (hr:=fun W _=>J0d rfl rfl rfl Tryz.underlying37 (by rw[J1];kernel_rfl) (by rw[J1];kernel_rfl) (by rw[J1];decide) (by rw[J1];decide));intro V;refine TNp [0,3,4] [1,2] ?_;refine TE (fun _ h=>h.pick [0,3,4]) ?_;refine MG 1 ?_ (v:=vs) (hj:=(V1 (off:=34) 3));refine TNp [0,3,4] [0,1,2] ?_;refine TE (fun _ h=>h.pick [0,3,4]) ?_;refine MAr 2 0 (tS:=37) (bytes:=32) (es:=(List.map X4 us)) (by first|omega|(simp only[lA,lM,lT,lD,lC,lN,J2,Y0,Z3,Q7];omega)) (e:=X4 (eS l)) (hk:=J1 _ _ _) (h1:=by exact Z8 _ _ _) ?_;intro G;refine TNp [0,2,3,4] [0,2,3] ?_;refine TV ?_;refine TV ?_;refine TE (fun _ h=>h.pick [0,2,3,4]) ?_;refine J6z (fun W hS=>(Row.cells (hS.row (i:=2) rfl)).2) ?_;intro N;refine MP 1 (v:=G) (cs' :=K4 [.a 32 S,.c vt,.c vl,.c G]) ?_ (hs:=agl) (hc:=J3a (off:=34) 3) (hv:=fun W hS=>Row.cells (hS.row (i:=2) rfl));refine TNp [0,2,3,4] [0,1,2,3] ?_;refine TZ (fun _ h=>h.pick [0,2,3,4]) fun W hS=> ?_;go_upto_region 4 with fail;refine RL hS ?_;clear hS;(iterate 3 refine MV ?_);refine MG 1 ?_ (v:=G) (hj:=(V1 (off:=34) 3));refine MF (v:=.int .i64 (((List.map X4 us)++[X4 (eS l)]).length:Int)) (fun W hS=>J0x (hS.row (i:=2) rfl) rfl rfl Tryz.underlying37) ?_;refine MW ?_ (v:=.int .i64 (us.length:Int)) (hv:=by intro W;rw[Ao,Bc];go_simp;(try simp only[AI.wrap_i64]);omega);refine MV ?_;refine MZ fun W hS=> ?_;go_wp2;exact BH (v:=.int .i64 (us.length:Int)) (by simp only[results,Tryz.results34];go_simp) rfl ⟨_,rfl,by rw[Bf];exact hS.pick [1,2,3,4]⟩
theorem Z4c (S:Nat)(w:AA):
  BI Tryz.prog 12 #[.agg (J0 .u8 32 (J6 S))] w fun e w' => ∃p,e=.returned (.pointer (some ⟨p,0,none⟩))∧SH [] w w' [.b p (suF S nlp nSl nSl) 74]:=by
 have hS:=SH.nil [] w
 go_enter Tryz.func12,Tryz.ntmps12
 go_upto_region 0 with fail;refine RL hS ?_;clear hS;refine MN (z:=J0 .u8 32 (J6 S)) (t:=22) ?_;intro G;refine MV ?_;refine MZ fun W hS=> ?_;go_upto_region 1 with fail;refine RL hS ?_;clear hS;refine ML 0 ?_;refine MF (v:=.agg (K4 [.a 32 S,.c (.pointer none),.c (.slice none 0 0),.c (.slice none 0 0)])) (fun W hS=>J7m [(0,[.a 32 S])] rfl rfl Q1o Q1p (.c ((J9v _ _).symm) .n)) ?_;refine MN (z:=K4 [.a 32 S,.c (.pointer none),.c (.slice none 0 0),.c (.slice none 0 0)]) (t:=74) ?_;intro D;refine MV ?_;refine MZ fun W hS=> ?_;go_wp2;exact BH (v:=.pointer (some ⟨D,0,none⟩)) (by simp only[results,Tryz.results12];go_simp) rfl ⟨_,rfl,hS.pick [0]⟩
theorem Q5s {p S:Nat}{vt vl vs:AB}(w:AA)(hb:Blk w p (suF S vt vl vs) 74)(hX:GX w):
  BI Tryz.prog 8 #[.pointer (some ⟨p,0,none⟩)] w fun e w' =>V4 (.agg (J0 .u8 32 (J6 (kP S)))) w w' e:=by
 have hS:=SH.nil [] w
 go_enter Tryz.func8,Tryz.ntmps8
 go_upto_region 0 with fail;refine RL hS ?_;clear hS;refine MN (z:=J0 .u8 32 (J6 0)) (t:=22) ?_;intro K9;refine MZ fun W hS=> ?_;go_upto_region 3 with fail;refine RL hS ?_;clear hS;(iterate 3 refine MV ?_);refine MF (v:=.agg (J0 .u8 32 (J6 S))) (fun W hS=>V8 rfl rfl (fun i v hv=>by rw[J5 (J3 hb hS.ext)];exact(J11 (off:=0) 0) i v hv) (by kernel_rfl) (by first|kernel_rfl|(rw[J1];kernel_rfl))) ?_;obtain⟨U1,J⟩:=exh (S8.kN S);obtain⟨U2,D⟩:=exh (S8.kD S);obtain⟨U3,G⟩:=exh (kP S);refine MC (v:=.agg (S8.s3 U1 U2 U3)) (fun W hS=>S8.spreadN_c (kn:=kn0) trivial trivial J.out D.out G.out W (GX.ext hX hS.ext).2) ?_;refine MW ?_ (v:=.agg (J0 .u8 32 (J6 U3))) (hv:=by intro W;kernel_rfl);refine MR 0 ?_;refine MZ fun W hS=> ?_;have e_:=J.out;subst e_;have e_:=D.out;subst e_;have e_:=G.out;subst e_;go_wp2;exact BH (Z5 rfl rfl (hS.blk (i:=0) rfl) (by kernel_rfl) (by rw[J1];kernel_rfl)) rfl ⟨rfl,hS.ext⟩
theorem J51 {p S:Nat}{vt vs:AB}{A:Option Addr}{n c:Nat}(w:AA)(hb:Blk w p (suF S vt (.slice A n c) vs) 74):
  BI Tryz.prog 10 #[.pointer (some ⟨p,0,none⟩)] w fun e w' =>V4 (.int .i64 (n:Int)) w w' e:=by
 have hS:=SH.nil [] w
 go_enter Tryz.func10,Tryz.ntmps10
 go_upto_region 3 with fail;refine RL hS ?_;clear hS;(iterate 3 refine MV ?_);refine MF (v:=(.slice A n c)) (fun W hS=>V6 rfl rfl (by rw[J5 (J3 hb hS.ext)];exact(V1 (off:=33) 2)) (by kernel_rfl)) ?_;refine MW ?_ (v:=.int .i64 (n:Int)) (hv:=by intro W;exact Q38 rfl rfl Tryz.underlying50);refine MV ?_;refine MZ fun W hS=> ?_;go_wp2;exact BH (v:=.int .i64 (n:Int)) (by simp only[results,Tryz.results10];go_simp) rfl ⟨rfl,hS.ext⟩
theorem Q9v {V:Nat}{x:Sg}(hV:V<2^256)(hx:x.sig<2^(256+256))(w:AA)(hX:GX w):
  BI Tryz.prog 18 #[.agg (J0 .u8 32 (J6 V)),.agg (sgF x)] w fun e w' =>V4 (.int .i64 ((vfy V (sTx x.ep x.ro) x.sig:Nat):Int)) w w' e:=by
 have hS:=SH.nil [] w
 go_enter Tryz.func18,Tryz.ntmps18
 go_upto_region 0 with fail;refine RL hS ?_;clear hS;refine MN (z:=J0 .u8 32 (J6 V)) (t:=22) ?_;intro K9;refine MN (z:=K4 [.c (.int .i64 x.ep),.a 32 x.ro,.a 64 x.sig]) (t:=26) ?_;intro J;refine W0 ?_;refine MZ fun W hS=> ?_;go_upto_region 1 with fail;refine RTh (.q 0 (.q 1 (.q 2 (.q 3 (.q 4 (.q 6 (.q 7 (.e 5 (.e 8 (.q 9 .z)))))))))) hS ?_;clear hS;refine TL 1 ?_;refine TV ?_;refine TG 0 ?_ (v:=.int .i64 x.ep) (hj:=(V1 (off:=0) 0));refine TV ?_;refine Tk 0 ?_ (sub:=J0 .u8 32 (J6 x.ro)) (hs:=(J11 (off:=1) 1));refine TV ?_;refine Tk 0 ?_ (sub:=J0 .u8 64 (J6 x.sig)) (hs:=(J11 (off:=33) 2));refine TE (fun _ h=>h) ?_;refine ME (V:=fun v=>v) (fun W hS=>J24 hS (Q7t x.ep x.ro W) (fun _=>⟨rfl,rfl⟩)) ?_;intro G;refine TNh (fun W hS=>hS.pick [1,2]) ?_;refine TE (fun _ h=>h) ?_;obtain⟨U1,D⟩:=exh (vfy V (sTx x.ep x.ro) x.sig);refine MC (v:=.int .i64 (U1:Int)) (fun W hS=>S8.verifyN_c (kn:=kn0) trivial trivial trivial D.out hV hx G [] (by first|omega|(simp only[lA,lM,lT,lD,lC,lN,J2,Y0,Z3,Q7];omega)) W (GX.ext hX hS.ext).2 (hS.osl (i:=0) rfl)) ?_;refine TNh (fun W hS=>hS) ?_;refine TV ?_;refine TZ (fun _ h=>h) fun W hS=> ?_;go_wp2;exact BH (v:=.int .i64 (U1:Int)) (by simp only[results,Tryz.results18];go_simp) rfl ⟨(by(try rw[D.out]);first|done|rfl),hS.ext⟩
theorem Z49 {p S:Nat}{T:TR}{xs:List Sg}{us:List Nat}{vt vl vs v:AB}{ms:List Mb}(hn:ms.length≤1000)(hx:xs.length≤1000000)(hu:us.length≤1000000)(w:AA)(h_:SH (SH.feet (suL p S T xs us vt vl vs++[gx,mbT v ms])) w w (suL p S T xs us vt vl vs++[gx,mbT v ms])):
  BI Tryz.prog 9 #[.pointer (some ⟨p,0,none⟩),v] w fun e w' =>SuR (SH.feet (suL p S T xs us vt vl vs++[gx,mbT v ms])) (.agg (sgF (sgN S (ovT ms) xs.length))) p S (ovT ms) (xs++[sgN S (ovT ms) xs.length]) (us++[eS (sTx (xs.length:Int) (rs (ovT ms)))]) [gx,mbT v ms] w w' e:=by
 have hS:SH _ w w [.b p (suF S vt vl vs) 74,.r 26 97 vl (xs.map sgC),.r 22 32 vs (us.map X4),.t 116 (fun W=>TA W T vt),gx,mbT v ms]:=h_;clear h_;obtain⟨Al,cl,rfl⟩:=Row.form (hS.row (i:=1) rfl);have ζ:=(Row.cells (hS.row (i:=2) rfl)).2;have η:=TA.one (hS.tt (i:=3) rfl)
 go_enter Tryz.func9,Tryz.ntmps9
 go_upto_region 0 with fail;refine RL hS ?_;clear hS;refine MN (z:=K4 [.c (.int .i64 0),.a 32 0,.a 64 0]) (t:=26) ?_;intro κ;refine MZ fun W hS=> ?_;go_upto_region 3 with fail;refine RL hS ?_;clear hS;refine MV ?_;refine MV ?_;refine ME (fun W hS=>J4h (T:=(ovT ms)) hS (V1x hn W (hS.pp (i:=5) rfl:GX W).gt (hS.pp (i:=6) rfl:MbR v ms W).1 (hS.pp (i:=6) rfl:MbR v ms W).2) rfl) ?_;intro D;refine MV ?_;refine MV ?_;refine MP 2 (v:=D) (cs' :=K4 [.a 32 S,.c D,.c (.slice Al xs.length cl),.c vs]) ?_ (hs:=agl) (hc:=J3a (off:=32) 1) (hv:=fun W hS=>TA.one (hS.tt (i:=0) rfl));refine MZ fun W hS=> ?_;go_upto_region 4 with fail;refine RTh (.q 0 (.q 1 (.q 2 (.q 3 (.q 4 (.q 5 (.q 6 (.q 7 (.q 8 (.b 9 (.q 10 (.e 11 (.e 12 .z))) 11 (.e 9 (.q 10 (.e 12 .z))))))))))))) hS ?_;clear hS;(iterate 3 refine TV ?_);refine TG 2 ?_ (v:=(.slice Al xs.length cl)) (hj:=(V1 (off:=33) 2));refine TW ?_ (v:=.int .i64 (xs.length:Int)) (hv:=by intro W;exact Q38 rfl rfl Tryz.underlying50);(iterate 3 refine TV ?_);refine TG 2 ?_ (v:=D) (hj:=(V1 (off:=32) 1));refine TB (fun _ h=>h) ?_ ?_
 ·
  refine MC (v:=.agg (J0 .u8 32 (J6 (rs (ovT ms))))) (fun W hS=>Q7j W (hS.pp (i:=6) rfl:GX W).gt (hS.tt (i:=0) rfl)) ?_;refine TNh (fun W hS=>hS) ?_;refine TF (v:=.agg (K4 [.c (.int .i64 (xs.length:Int)),.a 32 (rs (ovT ms)),.a 64 0])) rfl (fun W hS=>J7m [(0,[.c (.int .i64 (xs.length:Int))]),(1,[.a 32 (rs (ovT ms))])] rfl rfl J3v J3w (.c rfl (.c ((J9v _ _).symm) .n))) ?_;refine TE (fun _ h=>h) ?_;refine MN (z:=K4 [.c (.int .i64 0),.a 32 0,.a 64 0]) (t:=26) ?_;intro ν;refine TNp [1,2,3,4,5,6,7,8] [0,1,2,3,4,5,6,7] ?_;refine TE (fun _ h=>h.pick [1,2,3,4,5,6,7,8]) ?_;refine MRa 0 ?_ (h1:=by exact(K2 ⟨rfl,trivial⟩));refine TNp [1,2,3,4,5,6,7,8] [0,1,2,3,4,5,6,7] ?_;refine TZ (fun _ h=>h.pick [1,2,3,4,5,6,7,8]) fun W hS=> ?_;go_upto_region 5 with fail;refine RL hS ?_;clear hS;refine MV ?_;refine MG 0 ?_ (v:=.int .i64 (xs.length:Int)) (hj:=(V1 (off:=0) 0));refine MV ?_;refine Mk 0 ?_ (sub:=J0 .u8 32 (J6 (rs (ovT ms)))) (hs:=(J11 (off:=1) 1));refine ME (V:=fun v=>v) (fun W hS=>J24 hS (Q7t (xs.length:Int) (rs (ovT ms)) W) (fun _=>⟨rfl,rfl⟩)) ?_;intro δ;refine MV ?_;refine MZ fun W hS=> ?_;go_upto_region 6 with fail;refine RL hS ?_;clear hS;(iterate 3 refine MV ?_);refine Mk 4 ?_ (sub:=J0 .u8 32 (J6 S)) (hs:=(J11 (off:=0) 0));refine MV ?_;obtain⟨U1,G⟩:=exh (sig S (sTx (xs.length:Int) (rs (ovT ms))));refine MC (v:=.agg (J0 .u8 64 (J6 U1))) (fun W hS=>S8.signN_c (kn:=kn0) trivial trivial G.out δ [] (by first|omega|(simp only[lA,lM,lT,lD,lC,lN,J2,Y0,Z3,Q7];omega)) W (hS.pp (i:=8) rfl:GX W).2 (hS.osl (i:=0) rfl)) ?_;refine MV ?_;refine Mq 1 (new:=K4 [.c (.int .i64 (xs.length:Int)),.a 32 (rs (ovT ms)),.a 64 U1]) ?_ (hc:=Q8j (off:=33) 2) (hs:=by rw[J1,J7];exact Bh (by kernel_rfl));refine MZ fun W hS=> ?_;go_upto_region 7 with fail;refine RTp [0,1,2,3,6,7,8,9] (.q 0 (.q 1 (.q 2 (.q 3 (.q 5 (.b 4 (.e 6 (.e 7 (.q 8 (.q 9 (.e 10 .z))))) 6 (.e 4 (.e 7 (.q 8 (.q 9 (.e 10 .z))))))))))) hS ?_;clear hS;(iterate 4 refine TV ?_);refine TL 1 ?_ (hs:=by rw[J7];kernel_rfl);refine TB (fun _ h=>h.pick [0,1,2,3,6,7,8,9]) ?_ ?_
  ·
   refine MG 4 ?_ (v:=(.slice Al xs.length cl)) (hj:=(V1 (off:=33) 2));refine TNp [0,1,2,3,6,7,8,9] [0,1,2,3,4,5,6,7] ?_;refine TE (fun _ h=>h.pick [0,1,2,3,6,7,8,9]) ?_;refine MB (z:=(K4 [.c (.int .i64 (xs.length:Int)),.a 32 (rs (ovT ms)),.a 64 U1])) (t:=26) (n:=1) (c:=1) ?_ (hr:=fun W _=>J0d rfl rfl rfl Tryz.underlying50 (by rw[J7];kernel_rfl) (by rw[J7];kernel_rfl) (by rw[J7];exact Bh (by kernel_rfl)) (by rw[J7];exact Bh (by kernel_rfl)));intro μ;refine TNp [0,1,2,3,4,7,8,9,10] [1,2,3,4,5,6,7,8] ?_;refine TE (fun _ h=>h.pick [0,1,2,3,4,7,8,9,10]) ?_;refine MAr 6 0 (tS:=50) (bytes:=104) (es:=(List.map sgC xs)) (by first|omega|(simp only[lA,lM,lT,lD,lC,lN,J2,Y0,Z3,Q7];omega)) (e:=sgC ⟨(xs.length:Int),rs (ovT ms),U1⟩) (hk:=by rw[J7];kernel_rfl) (h1:=by exact(K2 ⟨rfl,trivial⟩)) (cs:=(K4 [.c (.int .i64 (xs.length:Int)),.a 32 (rs (ovT ms)),.a 64 U1])) ?_;intro J;refine TNp [0,1,2,3,4,6,7,8,9,10] [0,1,2,3,4,6,7,8,9] ?_;refine TV ?_;refine TV ?_;refine TE (fun _ h=>h.pick [0,1,2,3,4,6,7,8,9,10]) ?_;refine J6z (fun W hS=>(Row.cells (hS.row (i:=6) rfl)).2) ?_;intro Z;refine MP 5 (v:=J) (cs' :=K4 [.a 32 S,.c D,.c J,.c vs]) ?_ (hs:=agl) (hc:=J3a (off:=33) 2) (hv:=fun W hS=>Row.cells (hS.row (i:=6) rfl));refine TNp [0,1,2,3,4,6,7,8,9,10] [0,1,2,3,4,5,6,7,8,9] ?_;refine TZ (fun _ h=>h.pick [0,1,2,3,4,6,7,8,9,10]) fun W hS=> ?_;go_upto_region 8 with fail;refine RL hS ?_;clear hS;(iterate 4 refine MV ?_);refine MT (fun W hS=>hS.read (i:=1) rfl (hS.osl (i:=1) rfl) J2o) ?_;refine ME (V:=fun _=> .int .i64 (us.length:Int)) (fun W hS=>Q8g [5,7,1,9] [0,2,3,4,6,8,10] hS (fun hT=>Q0f (us:=us) (l:=(sTx (xs.length:Int) (rs (ovT ms)))) (by first|omega|(simp only[lA,lM,lT,lD,lC,lN,J2,Y0,Z3,Q7];omega)) (by first|omega|(simp only[lA,lM,lT,lD,lC,lN,J2,Y0,Z3,Q7];omega)) W hT) (fun _=>⟨.inr ⟨rfl,rfl⟩,.inr ⟨rfl,rfl⟩,.inl (by simp),.inl (by simp),trivial⟩)) ?_;intro x8;refine MZ fun W hS=> ?_;go_upto_region 9 with fail;refine RL hS ?_;clear hS;refine ML 5 ?_ (hs:=by rw[J7];kernel_rfl);refine MRa 7 ?_ (h1:=by exact(K2 ⟨rfl,trivial⟩));refine MZ fun W hS=> ?_;have e_:=G.out;subst e_;go_wp2;exact BH (Z5 rfl rfl (hS.blk (i:=7) rfl) (by kernel_rfl) (by rw[J7];kernel_rfl)) rfl ⟨(D,J,x8),rfl,by have h_:=hS.pick [0,8,1,6,3,10];rw[Q28] at h_;exact h_⟩
  refine MB (z:=(K4 [.c (.int .i64 (xs.length:Int)),.a 32 (rs (ovT ms)),.a 64 U1])) (t:=26) (n:=1) (c:=1) ?_ (hr:=fun W _=>J0d rfl rfl rfl Tryz.underlying50 (by rw[J7];kernel_rfl) (by rw[J7];kernel_rfl) (by rw[J7];exact Bh (by kernel_rfl)) (by rw[J7];exact Bh (by kernel_rfl)));intro θ;refine TNp [0,1,2,3,4,7,8,9,10] [1,2,3,4,5,6,7,8] ?_;refine TE (fun _ h=>h.pick [0,1,2,3,4,7,8,9,10]) ?_;refine MG 5 ?_ (v:=(.slice Al xs.length cl)) (hj:=(V1 (off:=33) 2));refine TNp [0,1,2,3,4,7,8,9,10] [0,1,2,3,4,5,6,7,8] ?_;refine TE (fun _ h=>h.pick [0,1,2,3,4,7,8,9,10]) ?_;refine MAr 6 0 (tS:=50) (bytes:=104) (es:=(List.map sgC xs)) (by first|omega|(simp only[lA,lM,lT,lD,lC,lN,J2,Y0,Z3,Q7];omega)) (e:=sgC ⟨(xs.length:Int),rs (ovT ms),U1⟩) (hk:=by rw[J7];kernel_rfl) (h1:=by exact(K2 ⟨rfl,trivial⟩)) (cs:=(K4 [.c (.int .i64 (xs.length:Int)),.a 32 (rs (ovT ms)),.a 64 U1])) ?_;intro R;refine TNp [0,1,2,3,4,6,7,8,9,10] [0,1,2,3,4,6,7,8,9] ?_;refine TV ?_;refine TV ?_;refine TE (fun _ h=>h.pick [0,1,2,3,4,6,7,8,9,10]) ?_;refine J6z (fun W hS=>(Row.cells (hS.row (i:=6) rfl)).2) ?_;intro U;refine MP 5 (v:=R) (cs' :=K4 [.a 32 S,.c D,.c R,.c vs]) ?_ (hs:=agl) (hc:=J3a (off:=33) 2) (hv:=fun W hS=>Row.cells (hS.row (i:=6) rfl));refine TNp [0,1,2,3,4,6,7,8,9,10] [0,1,2,3,4,5,6,7,8,9] ?_;refine TZ (fun _ h=>h.pick [0,1,2,3,4,6,7,8,9,10]) fun W hS=> ?_;go_upto_region 8 with fail;refine RL hS ?_;clear hS;(iterate 4 refine MV ?_);refine MT (fun W hS=>hS.read (i:=1) rfl (hS.osl (i:=1) rfl) J2o) ?_;refine ME (V:=fun _=> .int .i64 (us.length:Int)) (fun W hS=>Q8g [5,7,1,9] [0,2,3,4,6,8,10] hS (fun hT=>Q0f (us:=us) (l:=(sTx (xs.length:Int) (rs (ovT ms)))) (by first|omega|(simp only[lA,lM,lT,lD,lC,lN,J2,Y0,Z3,Q7];omega)) (by first|omega|(simp only[lA,lM,lT,lD,lC,lN,J2,Y0,Z3,Q7];omega)) W hT) (fun _=>⟨.inr ⟨rfl,rfl⟩,.inr ⟨rfl,rfl⟩,.inl (by simp),.inl (by simp),trivial⟩)) ?_;intro β;refine MZ fun W hS=> ?_;go_upto_region 9 with fail;refine RL hS ?_;clear hS;refine ML 5 ?_ (hs:=by rw[J7];kernel_rfl);refine MRa 7 ?_ (h1:=by exact(K2 ⟨rfl,trivial⟩));refine MZ fun W hS=> ?_;have e_:=G.out;subst e_;go_wp2;exact BH (Z5 rfl rfl (hS.blk (i:=7) rfl) (by kernel_rfl) (by rw[J7];kernel_rfl)) rfl ⟨(D,R,β),rfl,by have h_:=hS.pick [0,8,1,6,3,10];rw[Q28] at h_;exact h_⟩
 refine MN (z:=K4 [.c (.int .i64 0),.a 32 0,.a 64 0]) (t:=26) ?_;intro ρ;refine TNp [1,2,3,4,5,6,7,8] [0,1,2,3,4,5,6,7] ?_;refine TE (fun _ h=>h.pick [1,2,3,4,5,6,7,8]) ?_;refine MC (v:=.agg (J0 .u8 32 (J6 (rs (ovT ms))))) (fun W hS=>Q7j W (hS.pp (i:=7) rfl:GX W).gt (hS.tt (i:=1) rfl)) ?_;refine TNp [1,2,3,4,5,6,7,8] [0,1,2,3,4,5,6,7] ?_;refine TF (v:=.agg (K4 [.c (.int .i64 (xs.length:Int)),.a 32 (rs (ovT ms)),.a 64 0])) rfl (fun W hS=>J7m [(0,[.c (.int .i64 (xs.length:Int))]),(1,[.a 32 (rs (ovT ms))])] rfl rfl J3v J3w (.c rfl (.c ((J9v _ _).symm) .n))) ?_;refine TE (fun _ h=>h.pick [1,2,3,4,5,6,7,8]) ?_;refine MRa 0 ?_ (h1:=by exact(K2 ⟨rfl,trivial⟩));refine TNp [1,2,3,4,5,6,7,8] [0,1,2,3,4,5,6,7] ?_;refine TZ (fun _ h=>h.pick [1,2,3,4,5,6,7,8]) fun W hS=> ?_;go_upto_region 5 with fail;refine RL hS ?_;clear hS;refine MV ?_;refine MG 0 ?_ (v:=.int .i64 (xs.length:Int)) (hj:=(V1 (off:=0) 0));refine MV ?_;refine Mk 0 ?_ (sub:=J0 .u8 32 (J6 (rs (ovT ms)))) (hs:=(J11 (off:=1) 1));refine ME (V:=fun v=>v) (fun W hS=>J24 hS (Q7t (xs.length:Int) (rs (ovT ms)) W) (fun _=>⟨rfl,rfl⟩)) ?_;intro α;refine MV ?_;refine MZ fun W hS=> ?_;go_upto_region 6 with fail;refine RL hS ?_;clear hS;(iterate 3 refine MV ?_);refine Mk 4 ?_ (sub:=J0 .u8 32 (J6 S)) (hs:=(J11 (off:=0) 0));refine MV ?_;obtain⟨U1,G⟩:=exh (sig S (sTx (xs.length:Int) (rs (ovT ms))));refine MC (v:=.agg (J0 .u8 64 (J6 U1))) (fun W hS=>S8.signN_c (kn:=kn0) trivial trivial G.out α [] (by first|omega|(simp only[lA,lM,lT,lD,lC,lN,J2,Y0,Z3,Q7];omega)) W (hS.pp (i:=8) rfl:GX W).2 (hS.osl (i:=0) rfl)) ?_;refine MV ?_;refine Mq 1 (new:=K4 [.c (.int .i64 (xs.length:Int)),.a 32 (rs (ovT ms)),.a 64 U1]) ?_ (hc:=Q8j (off:=33) 2) (hs:=by rw[J1,J7];exact Bh (by kernel_rfl));refine MZ fun W hS=> ?_;go_upto_region 7 with fail;refine RTp [0,1,2,3,6,7,8,9] (.q 0 (.q 1 (.q 2 (.q 3 (.q 5 (.b 4 (.e 6 (.e 7 (.q 8 (.q 9 (.e 10 .z))))) 6 (.e 4 (.e 7 (.q 8 (.q 9 (.e 10 .z))))))))))) hS ?_;clear hS;(iterate 4 refine TV ?_);refine TL 1 ?_ (hs:=by rw[J7];kernel_rfl);refine TB (fun _ h=>h.pick [0,1,2,3,6,7,8,9]) ?_ ?_
 ·
  refine MG 4 ?_ (v:=(.slice Al xs.length cl)) (hj:=(V1 (off:=33) 2));refine TNp [0,1,2,3,6,7,8,9] [0,1,2,3,4,5,6,7] ?_;refine TE (fun _ h=>h.pick [0,1,2,3,6,7,8,9]) ?_;refine MB (z:=(K4 [.c (.int .i64 (xs.length:Int)),.a 32 (rs (ovT ms)),.a 64 U1])) (t:=26) (n:=1) (c:=1) ?_ (hr:=fun W _=>J0d rfl rfl rfl Tryz.underlying50 (by rw[J7];kernel_rfl) (by rw[J7];kernel_rfl) (by rw[J7];exact Bh (by kernel_rfl)) (by rw[J7];exact Bh (by kernel_rfl)));intro σ;refine TNp [0,1,2,3,4,7,8,9,10] [1,2,3,4,5,6,7,8] ?_;refine TE (fun _ h=>h.pick [0,1,2,3,4,7,8,9,10]) ?_;refine MAr 6 0 (tS:=50) (bytes:=104) (es:=(List.map sgC xs)) (by first|omega|(simp only[lA,lM,lT,lD,lC,lN,J2,Y0,Z3,Q7];omega)) (e:=sgC ⟨(xs.length:Int),rs (ovT ms),U1⟩) (hk:=by rw[J7];kernel_rfl) (h1:=by exact(K2 ⟨rfl,trivial⟩)) (cs:=(K4 [.c (.int .i64 (xs.length:Int)),.a 32 (rs (ovT ms)),.a 64 U1])) ?_;intro N;refine TNp [0,1,2,3,4,6,7,8,9,10] [0,1,2,3,4,6,7,8,9] ?_;refine TV ?_;refine TV ?_;refine TE (fun _ h=>h.pick [0,1,2,3,4,6,7,8,9,10]) ?_;refine J6z (fun W hS=>(Row.cells (hS.row (i:=6) rfl)).2) ?_;intro Y;refine MP 5 (v:=N) (cs' :=K4 [.a 32 S,.c D,.c N,.c vs]) ?_ (hs:=agl) (hc:=J3a (off:=33) 2) (hv:=fun W hS=>Row.cells (hS.row (i:=6) rfl));refine TNp [0,1,2,3,4,6,7,8,9,10] [0,1,2,3,4,5,6,7,8,9] ?_;refine TZ (fun _ h=>h.pick [0,1,2,3,4,6,7,8,9,10]) fun W hS=> ?_;go_upto_region 8 with fail;refine RL hS ?_;clear hS;(iterate 4 refine MV ?_);refine MT (fun W hS=>hS.read (i:=1) rfl (hS.osl (i:=1) rfl) J2o) ?_;refine ME (V:=fun _=> .int .i64 (us.length:Int)) (fun W hS=>Q8g [5,7,1,9] [0,2,3,4,6,8,10] hS (fun hT=>Q0f (us:=us) (l:=(sTx (xs.length:Int) (rs (ovT ms)))) (by first|omega|(simp only[lA,lM,lT,lD,lC,lN,J2,Y0,Z3,Q7];omega)) (by first|omega|(simp only[lA,lM,lT,lD,lC,lN,J2,Y0,Z3,Q7];omega)) W hT) (fun _=>⟨.inr ⟨rfl,rfl⟩,.inr ⟨rfl,rfl⟩,.inl (by simp),.inl (by simp),trivial⟩)) ?_;intro γ;refine MZ fun W hS=> ?_;go_upto_region 9 with fail;refine RL hS ?_;clear hS;refine ML 5 ?_ (hs:=by rw[J7];kernel_rfl);refine MRa 7 ?_ (h1:=by exact(K2 ⟨rfl,trivial⟩));refine MZ fun W hS=> ?_;have e_:=G.out;subst e_;go_wp2;exact BH (Z5 rfl rfl (hS.blk (i:=7) rfl) (by kernel_rfl) (by rw[J7];kernel_rfl)) rfl ⟨(D,N,γ),rfl,by have h_:=hS.pick [0,8,1,6,3,10];rw[Q28] at h_;exact h_⟩
 refine MB (z:=(K4 [.c (.int .i64 (xs.length:Int)),.a 32 (rs (ovT ms)),.a 64 U1])) (t:=26) (n:=1) (c:=1) ?_ (hr:=fun W _=>J0d rfl rfl rfl Tryz.underlying50 (by rw[J7];kernel_rfl) (by rw[J7];kernel_rfl) (by rw[J7];exact Bh (by kernel_rfl)) (by rw[J7];exact Bh (by kernel_rfl)));intro ξ;refine TNp [0,1,2,3,4,7,8,9,10] [1,2,3,4,5,6,7,8] ?_;refine TE (fun _ h=>h.pick [0,1,2,3,4,7,8,9,10]) ?_;refine MG 5 ?_ (v:=(.slice Al xs.length cl)) (hj:=(V1 (off:=33) 2));refine TNp [0,1,2,3,4,7,8,9,10] [0,1,2,3,4,5,6,7,8] ?_;refine TE (fun _ h=>h.pick [0,1,2,3,4,7,8,9,10]) ?_;refine MAr 6 0 (tS:=50) (bytes:=104) (es:=(List.map sgC xs)) (by first|omega|(simp only[lA,lM,lT,lD,lC,lN,J2,Y0,Z3,Q7];omega)) (e:=sgC ⟨(xs.length:Int),rs (ovT ms),U1⟩) (hk:=by rw[J7];kernel_rfl) (h1:=by exact(K2 ⟨rfl,trivial⟩)) (cs:=(K4 [.c (.int .i64 (xs.length:Int)),.a 32 (rs (ovT ms)),.a 64 U1])) ?_;intro M;refine TNp [0,1,2,3,4,6,7,8,9,10] [0,1,2,3,4,6,7,8,9] ?_;refine TV ?_;refine TV ?_;refine TE (fun _ h=>h.pick [0,1,2,3,4,6,7,8,9,10]) ?_;refine J6z (fun W hS=>(Row.cells (hS.row (i:=6) rfl)).2) ?_;intro X;refine MP 5 (v:=M) (cs' :=K4 [.a 32 S,.c D,.c M,.c vs]) ?_ (hs:=agl) (hc:=J3a (off:=33) 2) (hv:=fun W hS=>Row.cells (hS.row (i:=6) rfl));refine TNp [0,1,2,3,4,6,7,8,9,10] [0,1,2,3,4,5,6,7,8,9] ?_;refine TZ (fun _ h=>h.pick [0,1,2,3,4,6,7,8,9,10]) fun W hS=> ?_;go_upto_region 8 with fail;refine RL hS ?_;clear hS;(iterate 4 refine MV ?_);refine MT (fun W hS=>hS.read (i:=1) rfl (hS.osl (i:=1) rfl) J2o) ?_;refine ME (V:=fun _=> .int .i64 (us.length:Int)) (fun W hS=>Q8g [5,7,1,9] [0,2,3,4,6,8,10] hS (fun hT=>Q0f (us:=us) (l:=(sTx (xs.length:Int) (rs (ovT ms)))) (by first|omega|(simp only[lA,lM,lT,lD,lC,lN,J2,Y0,Z3,Q7];omega)) (by first|omega|(simp only[lA,lM,lT,lD,lC,lN,J2,Y0,Z3,Q7];omega)) W hT) (fun _=>⟨.inr ⟨rfl,rfl⟩,.inr ⟨rfl,rfl⟩,.inl (by simp),.inl (by simp),trivial⟩)) ?_;intro ε;refine MZ fun W hS=> ?_;go_upto_region 9 with fail;refine RL hS ?_;clear hS;refine ML 5 ?_ (hs:=by rw[J7];kernel_rfl);refine MRa 7 ?_ (h1:=by exact(K2 ⟨rfl,trivial⟩));refine MZ fun W hS=> ?_;have e_:=G.out;subst e_;go_wp2;exact BH (Z5 rfl rfl (hS.blk (i:=7) rfl) (by kernel_rfl) (by rw[J7];kernel_rfl)) rfl ⟨(D,M,ε),rfl,by have h_:=hS.pick [0,8,1,6,3,10];rw[Q28] at h_;exact h_⟩
end

section
def nN (a b:Nat):Nat:=hs4 ([1]++lb 32 a++lb 32 b)
def hlf (n:Nat):Nat→Nat→Nat
  |0,k=>k
  |f+1,k=>if k<n-k then hlf n f (k*2) else k
def hfn (n:Nat):Nat:=hlf n n 1
theorem Z4h {n e:Nat}(h1:2^e<n)(h2:n≤2^(e+1)):∀(d j f:Nat),j+d=e→d≤f→hlf n f (2^j)=2^e
  |0,j,f,hj,_=>by
    have hj:j=e:=by omega
    subst hj;cases f with
    |zero=>rfl
    |succ f=>unfold hlf;rw[if_neg (by have:=Nat.pow_succ 2 j;omega)]
  |d+1,j,f,hj,hf=>by
    obtain⟨f,rfl⟩:∃g,f=g+1:=⟨f-1,by omega⟩
    have h3:2^(j+1)≤2^e:=Nat.pow_le_pow_right (by decide) (by omega);have h4:=Nat.pow_succ 2 j;unfold hlf;rw[if_pos (by omega),←Nat.pow_succ];exact Z4h h1 h2 d (j+1) f (by omega) (by omega)
theorem Y1n {n e:Nat}(h1:2^e<n)(h2:n≤2^(e+1)):hfn n=2^e:=
  Z4h h1 h2 e 0 n (by omega) (by have:= @Nat.lt_two_pow_self e;omega)
theorem Y5v {n:Nat}(h:2≤n):∃e,2^e<n∧n≤2^(e+1):=by
  refine⟨(n-1).log2,?_,?_⟩
  · have:=Nat.log2_self_le (n:=n-1) (by omega);omega
  have:= @Nat.lt_log2_self (n-1);omega
theorem J4t {n:Nat}(h:2≤n):0<hfn n∧hfn n<n:=by
  obtain⟨e,h1,h2⟩:=Y5v h;rw[Y1n h1 h2];exact⟨AQ e,h1⟩
theorem Z01 {n k f:Nat}(h:k<n-k):hlf n (f+1) k=hlf n f (k*2):=by unfold hlf;rw[if_pos h];cases f<;>rfl
theorem Z02 {n k:Nat}(f:Nat)(h:¬k<n-k):hlf n f k=k:=by
  cases f with
  |zero=>rfl
  |succ f=>unfold hlf;rw[if_neg h]
def mth (l:List Nat):Nat:=
  if h:2≤l.length then
    have:=J4t h
    nN (mth (l.take (hfn l.length))) (mth (l.drop (hfn l.length)))
  else match l with
    |[]=>hs4 []
    |a::_=>a
termination_by l.length
decreasing_by
  · rw[BC];omega
  · rw[AZ];omega
theorem Q7w:mth []=hs4 []:=by rw[mth];rfl
theorem Z4i (a:Nat):mth [a]=a:=by rw[mth];rfl
theorem Z4j {l:List Nat}(h:2≤l.length):mth l=nN (mth (l.take (hfn l.length))) (mth (l.drop (hfn l.length))):=by rw[mth,dif_pos h]
theorem Z4k {a b:List Nat}{e:Nat}(ha:a.length=2^e)(hb:0<b.length)(hb2:b.length≤2^e):mth (a++b)=nN (mth a) (mth b):=by
  have h0:=AQ e;have hl:(a++b).length=a.length+b.length:=Ao;have h2:=Nat.pow_succ 2 e;rw[Z4j (by omega),Y1n (e:=e) (by omega) (by omega),←ha,List.take_left,List.drop_left]
def Dec (cs:List (List Nat)):Prop:=(∀c∈cs,∃e,c.length=2^e)∧cs.Pairwise fun a b=>b.length<a.length
def pkf:List (List Nat)→Nat
  |[]=>hs4 []
  |[c]=>mth c
  |c::d::cs=>nN (mth c) (pkf (d::cs))
theorem Z4l:∀{cs:List (List Nat)} {e:Nat},Dec cs→(∀c∈cs,c.length<2^e)→cs.flatten.length<2^e
  |[],e,_,_=>AQ e
  |c::cs,e,h,hl=>by
    have hp:=List.pairwise_cons.1 h.2;obtain⟨f,hf⟩:=h.1 c (by simp);have h1:=Z4l (e:=f) ⟨fun x hx=>h.1 x (by simp[hx]),hp.2⟩ fun x hx=>hf▸hp.1 x hx;have h2:=hl c (by simp);have hfe:f<e:=(Nat.pow_lt_pow_iff_right (by decide:1<2)).1 (hf▸h2);have h3:2^(f+1)≤2^e:=Nat.pow_le_pow_right (by decide) hfe;have h4:=Nat.pow_succ 2 f;rw[Aw,Ao];omega
theorem Z4m:∀{cs:List (List Nat)},Dec cs→pkf cs=mth cs.flatten
  |[],_=>by rw[List.flatten_nil,Q7w];rfl
  |[c],_=>by rw[Aw,List.flatten_nil,Ar];rfl
  |c::d::cs,h=>by
    have hp:=List.pairwise_cons.1 h.2;have h' :Dec (d::cs):=⟨fun x hx=>h.1 x (by simp[hx]),hp.2⟩
    obtain⟨f,hf⟩:=h.1 c (by simp);have h1:=Z4l (e:=f) h' fun x hx=>hf▸hp.1 x hx;obtain⟨e,he⟩:=h.1 d (by simp);show nN (mth c) (pkf (d::cs))=_;have hd:0<(d::cs).flatten.length:=by rw[Aw,Ao,he];have:=AQ e;omega
    show _=mth (c++(d::cs).flatten);rw[Z4m h',Z4k hf hd (by omega)]
theorem Y1o {cs:List (List Nat)}{k:Nat}{c:List Nat}(h:cs[k]?=some c)(hk:k+1<cs.length):pkf (cs.drop k)=nN (mth c) (pkf (cs.drop (k+1))):=by
  obtain⟨hl,e⟩:=List.getElem?_eq_some_iff.1 h;rw[List.drop_eq_getElem_cons hl,e];rw[List.drop_eq_getElem_cons hk];rfl
theorem Y1p {cs:List (List Nat)}{c:List Nat}(h:cs[cs.length-1]?=some c):pkf (cs.drop (cs.length-1))=mth c:=by
  obtain⟨hl,e⟩:=List.getElem?_eq_some_iff.1 h;rw[List.drop_eq_getElem_cons hl,e,List.drop_of_length_le (by omega)];rfl
def Fit (cs:List (List Nat))(c:List Nat):Prop:=Dec cs∧(∃e,c.length=2^e)∧∀x∈cs,c.length≤x.length
theorem Y5w {cs:List (List Nat)}(h:Dec cs)(a:Nat):Fit cs [a]:=⟨h,⟨0,rfl⟩,fun x hx=>by
  obtain⟨e,he⟩:=h.1 x hx
  rw[he];exact AQ e⟩
theorem Y1q {cs:List (List Nat)}(h:Dec cs)(n:Nat):Dec (cs.take n):=⟨fun x hx=>h.1 x (List.mem_of_mem_take hx),h.2.sublist (List.take_sublist ..)⟩
theorem Z4n {cs:List (List Nat)}{d:List Nat}(h:cs[cs.length-1]?=some d):cs=cs.take (cs.length-1)++[d]:=by
  obtain⟨hl,e⟩:=List.getElem?_eq_some_iff.1 h
  conv=>lhs;rw[←List.take_append_drop (cs.length-1) cs]
  rw[List.drop_eq_getElem_cons hl,e,List.drop_of_length_le (by omega)]
theorem J3h {cs:List (List Nat)}{c d:List Nat}(h:Fit cs c)(hd:cs[cs.length-1]?=some d)(hl:d.length=c.length):Fit (cs.take (cs.length-1)) (d++c)∧mth (d++c)=nN (mth d) (mth c)∧(cs.take (cs.length-1)).flatten++(d++c)=cs.flatten++c:=by
  obtain⟨h1,⟨e,he⟩,h3⟩:=h;have D:=Z4n hd;have h0:=AQ e;refine⟨⟨Y1q h1 _,⟨e+1,by rw[Ao,hl,he,Nat.pow_succ];omega⟩,fun x hx=> ?_⟩,Z4k (e:=e) (by omega) (by omega) (by omega),?_⟩
  · have hp:=h1.2
    rw[D,List.pairwise_append] at hp;have h4:=hp.2.2 x hx d (by simp);obtain⟨f,hf⟩:=h1.1 x (List.mem_of_mem_take hx);rw[Ao,hl,he];rw[hl,he,hf] at h4;have G:e<f:=(Nat.pow_lt_pow_iff_right (by decide:1<2)).1 h4;have h5:2^(e+1)≤2^f:=Nat.pow_le_pow_right (by decide) G;have h6:=Nat.pow_succ 2 e;omega
  conv=>rhs;rw[D]
  rw[List.flatten_append,Aw,List.flatten_nil,Ar,At]
theorem Z4o {cs:List (List Nat)}{c:List Nat}(h:Fit cs c)(hn:∀d,cs[cs.length-1]?=some d→d.length≠c.length):Dec (cs++[c]):=by
  obtain⟨h1,h2,h3⟩:=h;refine⟨fun x hx=> ?_,List.pairwise_append.2 ⟨h1.2,List.pairwise_singleton ..,fun x hx y hy=> ?_⟩⟩
  · rcases Ay.1 hx with hx|hx
    · exact h1.1 x hx
    rw[Ai.1 hx];exact h2
  rw[Ai.1 hy];have hl:0<cs.length:=List.length_pos_of_mem hx;obtain⟨d,hd⟩:∃d,cs[cs.length-1]?=some d:=⟨_,List.getElem?_eq_getElem (by omega)⟩
  have h4:=hn d hd;have h5:=h3 d (List.mem_of_getElem? hd);have D:=Z4n hd;rw[D] at hx;rcases Ay.1 hx with hx|hx
  · have hp:=h1.2
    rw[D,List.pairwise_append] at hp;have:=hp.2.2 x hx d (by simp);omega
  rw[Ai.1 hx];omega
def pth (l:List Nat)(i:Nat):List Nat:=
  if h:2≤l.length then
    have:=J4t h
    if i<hfn l.length then pth (l.take (hfn l.length)) i++[mth (l.drop (hfn l.length))]
    else pth (l.drop (hfn l.length)) (i-hfn l.length)++[mth (l.take (hfn l.length))]
  else[]
termination_by l.length
decreasing_by
  · rw[BC];omega
  · rw[AZ];omega
theorem Q12 {l:List Nat}{i:Nat}(h:¬2≤l.length):pth l i=[]:=by rw[pth,dif_neg h]
theorem Q7x {l:List Nat}{i:Nat}(h:2≤l.length)(hi:i<hfn l.length):pth l i=pth (l.take (hfn l.length)) i++[mth (l.drop (hfn l.length))]:=by rw[pth,dif_pos h,if_pos hi]
theorem Q7y {l:List Nat}{i:Nat}(h:2≤l.length)(hi:¬i<hfn l.length):pth l i=pth (l.drop (hfn l.length)) (i-hfn l.length)++[mth (l.take (hfn l.length))]:=by rw[pth,dif_pos h,if_neg hi]
def sbp (l:List Nat)(m:Nat)(b:Bool):List Nat:=
  if h:m<l.length∧1≤m then
    have:=J4t (n:=l.length) (by omega)
    if m≤hfn l.length then sbp (l.take (hfn l.length)) m b++[mth (l.drop (hfn l.length))]
    else sbp (l.drop (hfn l.length)) (m-hfn l.length) false++[mth (l.take (hfn l.length))]
  else if b then[] else[mth l]
termination_by l.length
decreasing_by
  · rw[BC];omega
  · rw[AZ];omega
theorem J8n {l:List Nat}{m:Nat}{b:Bool}(h:¬m<l.length):sbp l m b=if b then[] else[mth l]:=by rw[sbp,dif_neg (by omega)]
theorem Z1x {l:List Nat}{m:Nat}{b:Bool}(h:m<l.length)(h0:1≤m)(hm:m≤hfn l.length):sbp l m b=sbp (l.take (hfn l.length)) m b++[mth (l.drop (hfn l.length))]:=by rw[sbp,dif_pos ⟨h,h0⟩,if_pos hm]
theorem Z1y {l:List Nat}{m:Nat}{b:Bool}(h:m<l.length)(h0:1≤m)(hm:¬m≤hfn l.length):sbp l m b=sbp (l.drop (hfn l.length)) (m-hfn l.length) false++[mth (l.take (hfn l.length))]:=by rw[sbp,dif_pos ⟨h,h0⟩,if_neg hm]
end

section
namespace SH
variable {F : List Nat} {w W W' : AA} {H H' L L' R : List As} {x y : As} {i j : Nat}
def okT (L R:List As):List As→Prop
  |[]=>True
  |y::l=>(y∈L∨(y.mv=true∧R.all (tyOk y)=true)∨∃T K,y=.t T K∧R.all (fun z=>tyOk z y)=true)∧okT L R l
theorem Q7z:∀{l:List As},okT L R l→∀y∈l,y∈L∨(y.mv=true∧R.all (tyOk y)=true)∨∃T K,y=.t T K∧R.all (fun z=>tyOk z y)=true
  |_::_,h,y,hy=>by
    rcases Ad.1 hy with rfl|hy
    · exact h.1
    · exact Q7z h.2 y hy
theorem frameT (h:SH F w W (L++R))(h' :SH (feet L) W W' L')(ok:okT L R L'):SH F w W' (L' ++R):=by
  have hp:=List.pairwise_append.1 h.ap;have hR:∀z∈R,z.holds W:=fun z hz=>h.all z (by simp[hz]);have hL:∀x∈L,x.holds W:=fun x hx=>h.all x (by simp[hx])
  -- a block of what may turn is no block of R
  have hf:∀k,k∈feet L→∀z∈R,(∀T K,z≠ .t T K)→k∉z.foot:=fun k hk z hz hT=>by
    obtain⟨x,hx,hm,hk⟩:=mem_feet.1 hk;have:=(hp.2.2 x hx z hz).1 hm;cases z with
    |t T K=>exact absurd rfl (hT T K)
    |_=>exact this k hk
  have hl:∀y∈L',y.mv=true→∀z∈R,(∀T K,z≠ .t T K)→∀k∈y.foot,k∉z.foot:=fun y hy hm z hz hT k hk D=>
    hf k (h'.old y hy hm k hk (As.lt (hR z hz) k D)) z hz hT D
  refine⟨h.off.step h'.off fun k hk G=> ?_,fun z hz=> ?_,List.pairwise_append.2 ⟨h'.ap,hp.2.1,fun y hy z hz=>⟨fun hm=> ?_,fun hm=> ?_⟩⟩,fun z hz hm k hk G=> ?_⟩
  · obtain⟨x,hx,hm,hk⟩:=mem_feet.1 hk
    exact h.old x (by simp[hx]) hm k hk G
  · rcases Ay.1 hz with hz|hz
    · exact h'.all z hz
    refine As.keep h'.off (hR z hz) (fun k hk N=> ?_) fun T K e k N G ht=> ?_
    · cases z with
      |t T K=>cases hk
      |_=>exact hf k N _ hz (fun _ _ e=>by cases e) hk
    obtain⟨x,hx,hm,hk⟩:=mem_feet.1 N;have h1:=(hp.2.2 x hx z hz).1 hm;subst e;exact h1 ((As.tyOf (hL x hx) hm k hk).symm.trans ht)
  · rcases Q7z ok y hy with J|⟨_,M⟩|⟨T,K,e,_⟩
    · exact(hp.2.2 y J z hz).1 hm
    · cases z with
      |t T K=>have:=List.all_eq_true.1 M _ hz;simpa[tyOk,hm] using this
      |_=>exact hl y hy hm _ hz (fun _ _ e=>by cases e)
    subst e;cases hm
  · rcases Q7z ok y hy with J|⟨S,_⟩|⟨T,K,e,M⟩
    · exact(hp.2.2 y J z hz).2 hm
    · cases y with
      |t T K=>cases S
      |_=>exact fun k hk D=>hl _ hy S z hz (fun T K e=>by subst e;cases hm) k D hk
    subst e;have:=List.all_eq_true.1 M _ hz;simpa[tyOk,hm] using this
  rcases Ay.1 hz with hz|hz
  · by_cases U:k<W.heap.size
    · obtain⟨x,hx,V,D⟩:=mem_feet.1 (h'.old z hz hm k hk U)
      exact h.old x (by simp[hx]) V k D G
    have:=h.size;omega
  exact h.old z (by simp[hz]) hm k hk G
end SH
section
variable {P : Program} {f : FuncId} {args : Array AB} {F : List Nat} {w W : AA} {H L R : List As}
theorem V6a {α:Type}(I J:List Nat){V:α→Value}{L' H' :α→List As}(hS:SH F w W H)(hc:SH (SH.feet L) W W L→Calls P f args W fun e W' => ∃x,e=.returned (V x)∧SH (SH.feet L) W W' (L' x))(ok:∀x,SH.okT L R (L' x))(hI:pk H I=L:=by exact rfl)(hJ:pk H J=R:=by exact rfl)(hn:(I++J).Nodup:=by decide)(hH:∀x,L' x++R=H' x:=by exact fun _=>rfl):Calls P f args W fun e W' => ∃x,e=.returned (V x)∧SH F w W' (H' x):=by
  subst hI hJ
  have h:SH F w W (pk H I++pk H J):=hS.pick (I++J) (by
    exact J94 H I J) hn
  exact(hc h.here).mono fun e W' ⟨x,h1,h2⟩=>⟨x,h1,by rw[←hH x];exact h.frameT h2 (ok x)⟩
end
end

section
def InF (N:List As)(f:List Nat):Prop:=∀k∈f,∃x∈N,(∀T K,x≠ .t T K)∧k∈x.foot
theorem Y2r {N:List As}{f g:List Nat}(h1:InF N f)(h2:InF N g):InF N (f++g):=fun k hk=>(Ay.1 hk).elim (h1 k) (h2 k)
theorem V36 {N:List As}{T:Option AE}{g f:List Nat}{K:AA→Prop}(i:Nat)(h:N[i]?=some (.m T g K))(hf:∀k∈f,k∈g):InF N f:=fun k hk=>⟨_,SH.mem h,fun T K e=>(by cases e),hf k hk⟩
theorem V37 {N:List As}{t:AE}{n:Nat}{v:AB}{es:List (List AB)}{f:List Nat}(i:Nat)(h:N[i]?=some (.r t n v es))(hf:∀k∈f,k∈v.ownBlock.toList):InF N f:=fun k hk=>⟨_,SH.mem h,fun T K e=>(by cases e),hf k hk⟩
namespace SH
variable {F : List Nat} {w W W' : AA} {H H' L L' N R : List As} {x y : As} {i j : Nat} {f : List Nat} {K : AA → Prop} {T : Option AE}
theorem Z2q {z:As}(hx:x.mv=true)(h:x.apart z)(hy:y.mv=true)(ht:y.ty=x.ty)(hf:∀k∈y.foot,k∈x.foot):y.apart z:=by
  refine⟨fun _=> ?_,fun hm=> ?_⟩
  · have h1:=h.1 hx
    cases z with
    |t T K=>exact fun e=>h1 (ht▸e)
    |_=>exact fun k hk=>h1 k (hf k hk)
  have h2:=h.2 hm
  have h3:∀k∈z.foot,k∉x.foot:=by
    cases x with
    |t T K=>cases hx
    |_=>exact h2
  cases y with
  |t T K=>cases hy
  |_=>exact fun k hk D=>h3 k hk (hf k D)
theorem Y2s {u z:As}(hx:x.mv=true)(hy:y.mv=true)(h:x.apart z)(h' :y.apart z)(hu:u.mv=true)(tx:x.ty=u.ty)(hf:∀k∈u.foot,k∈x.foot∨k∈y.foot):u.apart z:=by
  refine⟨fun _=> ?_,fun hm=> ?_⟩
  · have h1:=h.1 hx
    have h1' :=h'.1 hy;cases z with
    |t T K=>exact fun e=>h1 (tx▸e)
    |_=>exact fun k hk=>(hf k hk).elim (h1 k) (h1' k)
  have h2:=h.2 hm;have h2' :=h'.2 hm
  have h3:∀k∈z.foot,k∉x.foot:=by
    cases x with
    |t T K=>cases hx
    |_=>exact h2
  have h3' :∀k∈z.foot,k∉y.foot:=by
    cases y with
    |t T K=>cases hy
    |_=>exact h2'
  cases u with
  |t T K=>cases hu
  |_=>exact fun k hk D=>(hf k D).elim (h3 k hk) (h3' k hk)
theorem merge (h:SH F w W (x::y::H))(hx:x.mv=true)(hy:y.mv=true)(tx:x.ty=T)(hz:(As.m T f K).holds W)(hf:∀k∈f,k∈x.foot∨k∈y.foot):SH F w W (.m T f K::H):=by
  have hp:=List.pairwise_cons.1 h.ap;have J:=List.pairwise_cons.1 hp.2;refine⟨h.off,fun z D=> ?_,List.pairwise_cons.2 ⟨fun z D=>Y2s hx hy (hp.1 z (List.mem_cons_of_mem _ D)) (J.1 z D) rfl tx hf,J.2⟩,fun z D hm k hk G=> ?_⟩
  · rcases Ad.1 D with rfl|D
    · exact hz
    exact h.all z (List.mem_cons_of_mem _ (List.mem_cons_of_mem _ D))
  rcases Ad.1 D with rfl|D
  · rcases hf k hk with hk|hk
    · exact h.old x (BO ..) hx k hk G
    exact h.old y (by simp) hy k hk G
  exact h.old z (by simp[D]) hm k hk G
theorem split {u:As}(h:SH F w W (u::H))(hu:u.mv=true)(hx:x.holds W)(hy:y.holds W)(mx:x.mv=true)(my:y.mv=true)(tx:x.ty=u.ty)(ty:y.ty=u.ty)(fx:∀k∈x.foot,k∈u.foot)(fy:∀k∈y.foot,k∈u.foot)(dj:∀k∈x.foot,k∉y.foot):SH F w W (x::y::H):=by
  have hp:=List.pairwise_cons.1 h.ap;refine⟨h.off,fun z D=> ?_,List.pairwise_cons.2 ⟨fun z D=> ?_,List.pairwise_cons.2 ⟨fun z D=>Z2q hu (hp.1 z D) my ty fy,hp.2⟩⟩,fun z D hm k hk G=> ?_⟩
  · rcases Ad.1 D with rfl|D
    · exact hx
    rcases Ad.1 D with rfl|D
    · exact hy
    exact h.all z (List.mem_cons_of_mem _ D)
  · rcases Ad.1 D with rfl|D
    · refine⟨fun _=> ?_,fun _=> ?_⟩
      · cases z with
        |t T K=>cases my
        |_=>exact dj
      cases x with
      |t T K=>cases mx
      |_=>exact fun k hk J=>dj k J hk
    exact Z2q hu (hp.1 z D) mx tx fx
  rcases Ad.1 D with rfl|D
  · exact h.old u (BO ..) hu k (fx k hk) G
  rcases Ad.1 D with rfl|D
  · exact h.old u (BO ..) hu k (fy k hk) G
  exact h.old z (List.mem_cons_of_mem _ D) hm k hk G
theorem mnil (T:Option AE)(h:SH F w W H)(hz:(As.m T [] K).holds W)(ht:H.all (fun y=>tyOk (.m T [] K) y)=true):SH F w W (.m T [] K::H):=h.new (Off.refl _ _) hz (fun k hk=>by cases hk) rfl ht
theorem feet_p:feet (L++[.p f K])=feet L:=by
  unfold feet;rw[List.filter_append,List.flatMap_append];show _++[]=_;rw[Ar]
theorem hereP (h:SH F w W (L++(N++R)))(hz:(As.p f K).holds W)(hf:InF N f):SH (feet (L++[.p f K])) W W (L++[.p f K]):=by
  rw[feet_p];have h0:=h.here;have hp:=List.pairwise_append.1 h.ap;refine⟨h0.off,fun z D=> ?_,List.pairwise_append.2 ⟨h0.ap,List.pairwise_singleton ..,fun z D y hy=> ?_⟩,fun z D hm k hk J=> ?_⟩
  · rcases Ay.1 D with D|D
    · exact h0.all z D
    rw[Ai.1 D];exact hz
  · rw[Ai.1 hy]
    refine⟨fun hm k hk G=> ?_,fun e=>by cases e⟩;obtain⟨x,hx,ht,M⟩:=hf k G;have h2:=(hp.2.2 z D x (by simp[hx])).1 hm;cases x with
    |t T K=>exact ht T K rfl
    |_=>exact h2 k hk M
  rcases Ay.1 D with D|D
  · exact h0.old z D hm k hk J
  rw[Ai.1 D] at hm;cases hm
end SH
section
variable {P : Program} {g : FuncId} {args : Array AB} {F : List Nat} {w W : AA} {H L N R : List As}
theorem V38 {α:Type}(I M J:List Nat){f:List Nat}{K:World→Prop}{V:α→Value}{L' H' :α→List As}(hS:SH F w W H)(hz:(As.p f K).holds W)(hf:InF N f)
    (hc:SH (SH.feet (L++[.p f K])) W W (L++[.p f K])→Calls P g args W fun e W' => ∃x,e=.returned (V x)∧SH (SH.feet (L++[.p f K])) W W' (L' x++[.p f K])) (ok:∀x,SH.okT L (N++R) (L' x))
    (hI:pk H I=L:=by exact rfl) (hM:pk H M=N:=by exact rfl) (hJ:pk H J=R:=by exact rfl) (hn:(I++(M++J)).Nodup:=by decide) (hH:∀x,L' x++(N++R)=H' x:=by exact fun _=>rfl):Calls P g args W fun e W' => ∃x,e=.returned (V x)∧SH F w W' (H' x):=by
  subst hI hM hJ;have h:SH F w W (pk H I++(pk H M++pk H J)):=hS.pick (I++(M++J)) (by rw[J94,J94]) hn;refine(hc (h.hereP hz hf)).mono fun e W' ⟨x,h1,h2⟩=>⟨x,h1,?_⟩
  rw[←hH x];rw[SH.feet_p] at h2;exact h.frameT (h2.less (List.sublist_append_left ..)) (ok x)
end
end
end Go.Proofs.YtdjacgmmidbieaaGreatDoor

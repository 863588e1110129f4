/- Contracts and plain laws for superSeals_holds. Conditions: the tables hold their numbers. -/
import Derived.Test.YtdjacgmmidbieaaGreatDoorJ23
open Go renaming World->AA,Value->AB,bodyPost_ret->BH,execOp->AV,Calls->BI,TypeId->AE,IntKind->AI
open _root_.List renaming length_append->Ao,mem_singleton->Ai,nil_append->BU,append_nil->Ar,append_assoc->At,length_map->Bc,mem_cons->Ad,flatten_cons->Aw,cons_append->BT,mem_append->Ay,length_take->BC
open _root_.Nat renaming le_refl->AM,zero_le->An
open Go.RowKit
set_option linter.unusedSimpArgs false
set_option linter.unusedVariables false
namespace Go.Proofs.YtdjacgmmidbieaaGreatDoor
section
set_option maxHeartbeats 3000000
set_option maxRecDepth 100000
attribute [local irreducible] wpList K1 wpX
def eI (n:Int):List UInt8:=be8 (n % 18446744073709551616).toNat
theorem Y0 (n:Int):(eI n).length=8:=rfl
def by8 (X j:Nat):UInt8:=u8 (X / 2^(8*(7-j)))
theorem Q9z (X:Nat):∀{j:Nat},j<8→(be8 X).take (j+1)=(be8 X).take j++[by8 X j]
 |0,_=>rfl
 |1,_=>rfl
 |2,_=>rfl
 |3,_=>rfl
 |4,_=>rfl
 |5,_=>rfl
 |6,_=>rfl
 |7,_=>by unfold by8;rw[show 2^(8*(7-7))=1 from rfl,Nat.div_one];rfl
 |j+8,h=>absurd h (by omega)
theorem Z00 {a:Act}{o:Oper}{x y:Operand}{t t' :AE}{W:AA}{p n:Nat}{k:AI}(hn:n≤64)(ho:o.op=.binOp .shr t x y t')(hx:a.eval x=.int .u64 (p:Int))(hy:a.eval y=.int k (n:Int)):(AV a.eval o).run Tryz.prog W=.ok (.value (.int .u64 ((p / 2^n:Nat):Int))) W:=by
 have h2:min ((n:Int)).toNat AI.u64.bits=n:=by rw[Int.toNat_natCast];exact Nat.min_eq_left hn
 have e:(p:Int) / 2^n=((p / 2^n:Nat):Int):=by rw[Int.natCast_ediv,Int.natCast_pow];rfl
 have:(AV a.eval o).run Tryz.prog W=.ok (.value (.int .u64 ((p:Int) / 2^n))) W:=by
  simp only[AV,ho,hx,hy,eqGuard,binOp,Sem.run_bind];simp[Op.shift,h2,go_sem,Sem.run_bind]
 rw[this,e]
theorem Z4e {a:Act}{o:Oper}{x:Operand}{s t:AE}{W:AA}{p:Nat}(ho:o.op=.convert s t x)(hx:a.eval x=.int .u64 (p:Int))(hs:Tryz.prog.underlying s=some (.int .u64))(ht:Tryz.prog.underlying t=some (.int .u8)):(AV a.eval o).run Tryz.prog W=.ok (.value (.int .u8 ((u8 p).toNat:Int))) W:=by
 rw[J86,←AI.wrap_u8];simp only[AV,ho,hx,Sem.run_bind];simp[hs,ht,go_sem,Sem.run_bind]
structure Mb where
 u:AB
 id:List UInt8
 gone:Bool
 ep:Int
 link:Nat
abbrev mbF (m:Mb):Array AB:=K4 [.c m.u,.c (.bool m.gone),.c (.int .i64 m.ep),.a 32 m.link]
theorem lA {α:Type}{l m:List α}:(l++m).length=l.length+m.length:=Ao
theorem lM {α β:Type}{f:α→β}{l:List α}:(l.map f).length=l.length:=Bc _
theorem lT {α:Type}{i:Nat}{l:List α}:(l.take i).length=min i l.length:=BC
theorem lD {α:Type}{i:Nat}{l:List α}:(l.drop i).length=l.length-i:=List.length_drop
theorem lC {α:Type}{a:α}{l:List α}:(a::l).length=l.length+1:=rfl
theorem lN {α:Type}:([]:List α).length=0:=rfl
def kTx (l:List UInt8):List UInt8:=[5]++l
def vTx (m:Mb):List UInt8:=if m.gone=true then[7] else[6]++eI m.ep++lb 32 m.link
def sTx (e:Int)(r:Nat):List UInt8:=[8]++eI e++lb 32 r
theorem Y7z {m:Mb}(h:m.gone=true):vTx m=[7]:=if_pos h
theorem Y80 {m:Mb}(h:¬m.gone=true):vTx m=[6]++eI m.ep++lb 32 m.link:=if_neg h
theorem Z3 (l:List UInt8):(kTx l).length=1+l.length:=by unfold kTx;simp;omega
theorem Q7 (e:Int)(r:Nat):(sTx e r).length=41:=by unfold sTx;simp[Y0,J2]
theorem Z4f (m:Mb):(vTx m).length≤41:=by unfold vTx;split<;>simp[Y0,J2]

theorem Z6i (n:Int)(X:Nat)(hx:n % 18446744073709551616=(X:Int))(w:AA):
  BI Tryz.prog 62 #[.int .i64 n] w fun e w' => ∃u,e=.returned u∧SH [] w w' [.o u (be8 X)]:=by
 have J:AI.wrap .u64 n=(X:Int):=by rw[AI.wrap_u64];exact hx
 have hS:=SH.nil [] w
 go_enter Tryz.func62,Tryz.ntmps62
 have hS:=hS.onil rfl
 go_wp2_with fail
 go_loopw [3,4] (fun uv kk wr=> ∃(j:Nat)(sv:AB),(j≤8)∧(sv=uv)∧(kk=.int .i64 ((7:Int)-(j:Int)))∧SH [] w wr [.o sv (List.take j (be8 X))])
  (fun uv kk _=>(intOf kk+1).toNat)
 case atStart=>exact⟨0,_,An _,rfl,rfl,hS⟩
 clear hS
 case round=>
  obtain⟨j,sv,hj,rfl,rfl,hS⟩:=hrel
  by_cases D:j<8
  ·
   go_upto_region 3 with fail;refine RL hS ?_;clear hS;refine MV ?_;refine Wto ?_;refine MZ fun W hS=> ?_;go_upto_region 5 with fail;refine RL hS ?_;clear hS;refine MV ?_;refine MV ?_;refine MW ?_ (v:=.int .u64 (X:Int)) (hv:=by intro W;go_simp;(try simp only[J]));refine MV ?_;refine MW ?_ (v:=.int .i64 ((8*(7-j):Nat):Int)) (hv:=by intro W;go_simp;(try simp only[AI.wrap_i64]);omega);refine MW ?_ (v:=.int .u64 ((X / 2^(8*(7-j)):Nat):Int)) (hv:=by intro W;exact Z00 (by omega) rfl rfl rfl);refine MW ?_ (v:=.int .u8 ((by8 X j).toNat:Int)) (hv:=by intro W;exact Z4e rfl rfl Tryz.underlying105 Tryz.underlying5);refine MO (m:=[by8 X j]) (n:=1) (z:= #[.int .u8 ((by8 X j).toNat:Int)]) ?_;intro M;refine MA 1 (xs:=(List.take j (be8 X))) (ys:=[by8 X j]) (fun W hS=>(hS.osl (i:=0) rfl)) (by first|omega|(simp only[lA,lM,lT,lD,lC,lN,J2,Y0,Z3,Q7];omega)) ?_;intro G;refine MV ?_;refine MZ fun W hS=> ?_;go_wp2;go_roundw
   case rel=>exact⟨j+1,G,by omega,rfl,by rw[show(7:Int)-((j+1:Nat):Int)=7-(j:Int)-1 by omega],(by rw[Q9z X D];exact(hS.pick [1]))⟩
   case measure=>simp[intOf];omega
  obtain rfl:j=8:=by omega
  go_upto_region 3 with fail;refine RL hS ?_;clear hS;refine MV ?_;refine Wfo ?_;refine MZ fun W hS=> ?_;go_wp2;exact BH (v:=sv) (by simp only[results,Tryz.results62];go_simp) rfl ⟨_,rfl,hS.pick [0]⟩
theorem Y1e (n:Int)(X:Nat)(hx:n % 18446744073709551616=(X:Int))(w:AA):
  BI Tryz.prog 46 #[.int .i64 n] w fun e w' =>V4 (Z9 (be8 X)) w w' e:=by
 have G:AI.wrap .u64 n=(X:Int):=by rw[AI.wrap_u64];exact hx
 have hS:=SH.nil [] w
 go_enter Tryz.func46,Tryz.ntmps46
 go_wp2_with fail
 go_loopw [3,4] (fun uv kk wr=> ∃(j:Nat),(j≤8)∧(uv=Z9 (List.take j (be8 X)))∧(kk=.int .i64 ((56:Int)-8*(j:Int)))∧SH [] w wr [])
  (fun uv kk _=>(intOf kk+8).toNat)
 case atStart=>exact⟨0,An _,rfl,rfl,hS⟩
 clear hS
 case round=>
  obtain⟨j,hj,rfl,rfl,hS⟩:=hrel
  by_cases D:j<8
  ·
   go_upto_region 3 with fail;refine RL hS ?_;clear hS;refine MV ?_;refine Wto ?_;refine MZ fun W hS=> ?_;go_upto_region 5 with fail;refine RL hS ?_;clear hS;refine MV ?_;refine MV ?_;refine MW ?_ (v:=.int .u64 (X:Int)) (hv:=by intro W;go_simp;(try simp only[G]));refine MW ?_ (v:=.int .i64 ((8*(7-j):Nat):Int)) (hv:=by intro W;go_simp;omega);refine MW ?_ (v:=.int .u64 ((X / 2^(8*(7-j)):Nat):Int)) (hv:=by intro W;exact Z00 (by omega) rfl rfl rfl);refine MW ?_ (v:=.int .u8 ((by8 X j).toNat:Int)) (hv:=by intro W;exact Z4e rfl rfl Tryz.underlying105 Tryz.underlying5);refine MO (m:=[by8 X j]) (n:=1) (z:= #[.int .u8 ((by8 X j).toNat:Int)]) ?_;intro J;refine MF (v:=Z9 [by8 X j]) (fun W hS=>J1j (hS.osl (i:=0) rfl) rfl rfl) ?_;refine MW ?_ (v:=Z9 ((List.take j (be8 X))++[by8 X j])) (hv:=fun _=>J1d (l:=(List.take j (be8 X))) (m:=[by8 X j]) rfl rfl rfl (by first|omega|(simp only[lA,lM,lT,lD,lC,lN,J2,Y0,Z3,Q7];omega)));refine MV ?_;refine MZ fun W hS=> ?_;go_wp2;go_roundw
   case rel=>exact⟨j+1,by omega,by rw[Q9z X D],by rw[show(56:Int)-8*((j+1:Nat):Int)=56-8*(j:Int)-8 by omega],(hS.pick [])⟩
   case measure=>simp[intOf];omega
  obtain rfl:j=8:=by omega
  go_upto_region 3 with fail;refine RL hS ?_;clear hS;refine MV ?_;refine Wfo ?_;refine MZ fun W hS=> ?_;go_wp2;exact BH (v:=Z9 (List.take 8 (be8 X))) (by simp only[results,Tryz.results46];first|(go_simp;done)|(go_simp;rfl)) rfl ⟨rfl,hS.ext⟩
theorem Z4g (n:Int)(w:AA):BI Tryz.prog 46 #[.int .i64 n] w fun e w' =>V4 (Z9 (eI n)) w w' e:=Y1e n _ (by omega) w
theorem J8m (n:Int)(w:AA):BI Tryz.prog 62 #[.int .i64 n] w fun e w' => ∃u,e=.returned u∧SH [] w w' [.o u (eI n)]:=Z6i n _ (by omega) w
attribute [local irreducible] eI be8 hs4 lb
theorem Z1t {v:AB}{l:List UInt8}(w:AA)(hid:Sl w v l)(hl:l.length≤100000000):
  BI Tryz.prog 70 #[v] w fun e w' => ∃u,e=.returned u∧SH [] w w' [.o u (kTx l)]:=by
 have hS:=SH.nil [] w
 go_enter Tryz.func70,Tryz.ntmps70
 go_upto_region 1 with fail;refine RL hS ?_;clear hS;refine MO (m:=[5]) (n:=1) (z:= #[.int .u8 5]) ?_;intro G;refine MV ?_;refine MA 0 (xs:=[5]) (ys:=l) (fun W hS=>(J3j hid hS.ext)) (by first|omega|(simp only[lA,lM,lT,lD,lC,lN,J2,Y0,Z3,Q7];omega)) ?_;intro D;refine MV ?_;refine MZ fun W hS=> ?_;go_wp2;exact BH (v:=D) (by simp only[results,Tryz.results70];go_simp) rfl ⟨_,rfl,(hS.pick [0])⟩
theorem V1t {q:Prop}{v:AB}{l:List UInt8}(w:AA)(hG:GT q w)(hid:Sl w v l)(hl:l.length≤100000000):
  BI Tryz.prog 36 #[v] w fun e w' =>V4 (.agg (J0 .u8 32 (J6 (hs4 (kTx l))))) w w' e:=by
 have hS:=SH.nil [] w
 go_enter Tryz.func36,Tryz.ntmps36
 go_upto_region 0 with fail;refine RL hS ?_;clear hS;refine MN (z:=J0 .u8 32 (J6 0)) (t:=38) ?_;intro K9;refine MZ fun W hS=> ?_;go_upto_region 1 with fail;refine RL hS ?_;clear hS;refine MV ?_;refine ME (V:=fun v=>v) (fun W hS=>J24 hS (Z1t W (J3j hid hS.ext) (by first|omega|(simp only[lA,lM,lT,lD,lC,lN,J2,Y0,Z3,Q7];omega))) (fun _=>⟨rfl,rfl⟩)) ?_;intro G;refine MB (z:= #[G]) (t:=45) (n:=1) (c:=1) ?_ (hr:=fun W hS=>J0p [G] rfl rfl (vsc (V9 (hS.osl (i:=0) rfl)).1 vs0) Tryz.underlying158 (by kernel_rfl) (by kernel_rfl) rfl (by decide) (by decide));intro J;obtain⟨U1,D⟩:=exh (hs4 ((kTx l)));refine MC (v:=.agg (J0 .u8 32 (J6 U1))) (fun W hS=>J5n D.out [kTx l] (some ⟨J,0,none⟩) 1 (by simp only[Aw,List.flatten_nil,Ar,BU,At,BT]) (by first|omega|(simp only[lA,lM,lT,lD,lC,lN,J2,Y0,Z3,Q7];omega)) (by simp) W (J1w (hS.blk (i:=0) rfl) (pvc (hS.osl (i:=1) rfl) pv0)) (J29 hG.1 hS.ext)) ?_;refine MR 2 ?_;refine MZ fun W hS=> ?_;have e_:=D.out;subst e_;go_wp2;exact BH (Z5 rfl rfl (hS.blk (i:=2) rfl) (by kernel_rfl) (by rw[J1];kernel_rfl)) rfl ⟨rfl,hS.ext⟩
theorem Q7s {m:Mb}(w:AA)(hid:Sl w m.u m.id):
  BI Tryz.prog 109 #[.agg (mbF m)] w fun e w' => ∃u,e=.returned u∧SH [] w w' [.o u (vTx m)]:=by
 have S:=V9 hid;have hS:=SH.nil [] w
 go_enter Tryz.func109,Tryz.ntmps109
 go_upto_region 0 with fail;refine RL hS ?_;clear hS;refine MN (z:=K4 [.c m.u,.c (.bool m.gone),.c (.int .i64 m.ep),.a 32 m.link]) (t:=56) ?_;intro J;refine MV ?_;refine MZ fun W hS=> ?_
 by_cases hg:m.gone=true
 ·
  go_upto_region 1 with fail;refine RL hS ?_;clear hS;refine MV ?_;refine MG 0 ?_ (v:=.bool true) (hj:=((V1 (off:=1) 1).trans (by rw[hg])));refine MZ fun W hS=> ?_;go_upto_region 2 with fail;refine RL hS ?_;clear hS;refine MO (m:=[7]) (n:=1) (z:= #[.int .u8 7]) ?_;intro G;refine MV ?_;refine MZ fun W hS=> ?_;go_wp2;exact BH (v:=G) (by simp only[results,Tryz.results109];go_simp) rfl ⟨_,rfl,by unfold vTx;(first|rw[if_pos hg]|rw[if_neg hg]);exact(hS.pick [0])⟩
 have M:m.gone=false:=by simpa using hg
 go_upto_region 1 with fail;refine RL hS ?_;clear hS;refine MV ?_;refine MG 0 ?_ (v:=.bool false) (hj:=((V1 (off:=1) 1).trans (by rw[M])));refine MZ fun W hS=> ?_;go_upto_region 3 with fail;refine RTh (.q 1 (.q 2 (.q 5 (.q 6 (.b 0 (.e 3 (.e 4 (.e 7 (.q 8 .z)))) 3 (.e 0 (.e 4 (.e 7 (.q 8 .z))))))))) hS ?_;clear hS;refine TV ?_;refine TG 0 ?_ (v:=.int .i64 m.ep) (hj:=(V1 (off:=2) 2));refine TV ?_;refine TW ?_ (v:=.slice (some ⟨J,3,none⟩) 32 32);refine TB (fun _ h=>h) ?_ ?_
 ·
  refine MO (m:=[6]) (n:=1) (z:= #[.int .u8 6]) ?_;intro Z;refine TNp [1] [0] ?_;refine TE (fun _ h=>h.pick [1]) ?_;refine ME (V:=fun v=>v) (fun W hS=>J24 hS (J8m m.ep W) (fun _=>⟨rfl,rfl⟩)) ?_;intro U;refine TNp [0,2] [1] ?_;refine TE (fun _ h=>h.pick [0,2]) ?_;refine MA 1 (xs:=[6]) (ys:=(eI m.ep)) (fun W hS=>(hS.osl (i:=0) rfl)) (by first|omega|(simp only[lA,lM,lT,lD,lC,lN,J2,Y0,Z3,Q7];omega)) ?_;intro Y;refine TNp [0,2] [0,1] ?_;refine TE (fun _ h=>h.pick [0,2]) ?_;refine MA 1 (xs:=([6]++(eI m.ep))) (ys:=(lb 32 m.link)) (fun W hS=>(V2 (V:=m.link) (n:=32) (off:=3) (c:=32) (hS.blk (i:=2) rfl) (J11 (off:=3) 3) (by decide) (by decide))) (by first|omega|(simp only[lA,lM,lT,lD,lC,lN,J2,Y0,Z3,Q7];omega)) ?_;intro N;refine TNp [0,1,2] [0,2] ?_;refine TV ?_;refine TZ (fun _ h=>h) fun W hS=> ?_;go_wp2;exact BH (v:=N) (by simp only[results,Tryz.results109];go_simp) rfl ⟨_,rfl,by unfold vTx;(first|rw[if_pos hg]|rw[if_neg hg]);exact(hS.pick [1])⟩
 refine ME (V:=fun v=>v) (fun W hS=>J24 hS (J8m m.ep W) (fun _=>⟨rfl,rfl⟩)) ?_;intro R;refine TNp [0,1] [1] ?_;refine TE (fun _ h=>h) ?_;refine MO (m:=[6]) (n:=1) (z:= #[.int .u8 6]) ?_;intro X;refine TNp [1,2] [0,1] ?_;refine TE (fun _ h=>h.pick [1,2]) ?_;refine MA 0 (xs:=[6]) (ys:=(eI m.ep)) (fun W hS=>(hS.osl (i:=1) rfl)) (by first|omega|(simp only[lA,lM,lT,lD,lC,lN,J2,Y0,Z3,Q7];omega)) ?_;intro T;refine TNp [1,2] [0,1] ?_;refine TE (fun _ h=>h.pick [1,2]) ?_;refine MA 0 (xs:=([6]++(eI m.ep))) (ys:=(lb 32 m.link)) (fun W hS=>(V2 (V:=m.link) (n:=32) (off:=3) (c:=32) (hS.blk (i:=2) rfl) (J11 (off:=3) 3) (by decide) (by decide))) (by first|omega|(simp only[lA,lM,lT,lD,lC,lN,J2,Y0,Z3,Q7];omega)) ?_;intro D;refine TNp [0,1,2] [1,2] ?_;refine TV ?_;refine TZ (fun _ h=>h) fun W hS=> ?_;go_wp2;exact BH (v:=D) (by simp only[results,Tryz.results109];go_simp) rfl ⟨_,rfl,by unfold vTx;(first|rw[if_pos hg]|rw[if_neg hg]);exact(hS.pick [0])⟩
theorem Y1f {q:Prop}{m:Mb}(w:AA)(hG:GT q w)(hid:Sl w m.u m.id):
  BI Tryz.prog 61 #[.agg (mbF m)] w fun e w' =>V4 (.agg (J0 .u8 32 (J6 (hs4 (vTx m))))) w w' e:=by
 have R:=V9 hid;have M:=Z4f m;have hS:=SH.nil [] w
 go_enter Tryz.func61,Tryz.ntmps61
 go_upto_region 0 with fail;refine RL hS ?_;clear hS;refine MN (z:=K4 [.c m.u,.c (.bool m.gone),.c (.int .i64 m.ep),.a 32 m.link]) (t:=56) ?_;intro N;refine MN (z:=J0 .u8 32 (J6 0)) (t:=22) ?_;intro S;refine MZ fun W hS=> ?_;go_upto_region 1 with fail;refine RL hS ?_;clear hS;refine ML 1 ?_ (hs:=by rw[J7];kernel_rfl);refine ME (V:=fun v=>v) (fun W hS=>J24 hS (Q7s W (J3j hid hS.ext)) (fun _=>⟨rfl,rfl⟩)) ?_;intro G;refine MB (z:= #[G]) (t:=45) (n:=1) (c:=1) ?_ (hr:=fun W hS=>J0p [G] rfl rfl (vsc (V9 (hS.osl (i:=0) rfl)).1 vs0) Tryz.underlying158 (by kernel_rfl) (by kernel_rfl) rfl (by decide) (by decide));intro J;obtain⟨U1,D⟩:=exh (hs4 ((vTx m)));refine MC (v:=.agg (J0 .u8 32 (J6 U1))) (fun W hS=>J5n D.out [vTx m] (some ⟨J,0,none⟩) 1 (by simp only[Aw,List.flatten_nil,Ar,BU,At,BT]) (by first|omega|(simp only[lA,lM,lT,lD,lC,lN,J2,Y0,Z3,Q7];omega)) (by simp) W (J1w (hS.blk (i:=0) rfl) (pvc (hS.osl (i:=1) rfl) pv0)) (J29 hG.1 hS.ext)) ?_;refine MR 2 ?_;refine MZ fun W hS=> ?_;have e_:=D.out;subst e_;go_wp2;exact BH (Z5 rfl rfl (hS.blk (i:=2) rfl) (by kernel_rfl) (by rw[J1];kernel_rfl)) rfl ⟨rfl,hS.ext⟩
theorem Q7t (n:Int)(r:Nat)(w:AA):
  BI Tryz.prog 32 #[.int .i64 n,.agg (J0 .u8 32 (J6 r))] w fun e w' => ∃u,e=.returned u∧SH [] w w' [.o u (sTx n r)]:=by
 have hS:=SH.nil [] w
 go_enter Tryz.func32,Tryz.ntmps32
 go_upto_region 0 with fail;refine RL hS ?_;clear hS;refine MN (z:=J0 .u8 32 (J6 r)) (t:=22) ?_;intro D;refine MV ?_;refine MZ fun W hS=> ?_;go_upto_region 1 with fail;refine RTh (.q 1 (.q 4 (.b 0 (.e 2 (.e 3 (.e 5 (.q 6 .z)))) 2 (.e 0 (.e 3 (.e 5 (.q 6 .z))))))) hS ?_;clear hS;refine TV ?_;refine TW ?_ (v:=.slice (some ⟨D,0,none⟩) 32 32);refine TB (fun _ h=>h) ?_ ?_
 ·
  refine MO (m:=[8]) (n:=1) (z:= #[.int .u8 8]) ?_;intro S;refine TNp [1] [0] ?_;refine TE (fun _ h=>h.pick [1]) ?_;refine ME (V:=fun v=>v) (fun W hS=>J24 hS (J8m n W) (fun _=>⟨rfl,rfl⟩)) ?_;intro N;refine TNp [0,2] [1] ?_;refine TE (fun _ h=>h.pick [0,2]) ?_;refine MA 1 (xs:=[8]) (ys:=(eI n)) (fun W hS=>(hS.osl (i:=0) rfl)) (by first|omega|(simp only[lA,lM,lT,lD,lC,lN,J2,Y0,Z3,Q7];omega)) ?_;intro U;refine TNp [0,2] [0,1] ?_;refine TE (fun _ h=>h.pick [0,2]) ?_;refine MA 1 (xs:=([8]++(eI n))) (ys:=(lb 32 r)) (fun W hS=>(V2 (V:=r) (n:=32) (off:=0) (c:=32) (hS.blk (i:=2) rfl) ap0 (by decide) (by decide))) (by first|omega|(simp only[lA,lM,lT,lD,lC,lN,J2,Y0,Z3,Q7];omega)) ?_;intro G;refine TNp [0,1,2] [0,2] ?_;refine TV ?_;refine TZ (fun _ h=>h) fun W hS=> ?_;go_wp2;exact BH (v:=G) (by simp only[results,Tryz.results32];go_simp) rfl ⟨_,rfl,(hS.pick [1])⟩
 refine ME (V:=fun v=>v) (fun W hS=>J24 hS (J8m n W) (fun _=>⟨rfl,rfl⟩)) ?_;intro T;refine TNp [0,1] [1] ?_;refine TE (fun _ h=>h) ?_;refine MO (m:=[8]) (n:=1) (z:= #[.int .u8 8]) ?_;intro R;refine TNp [1,2] [0,1] ?_;refine TE (fun _ h=>h.pick [1,2]) ?_;refine MA 0 (xs:=[8]) (ys:=(eI n)) (fun W hS=>(hS.osl (i:=1) rfl)) (by first|omega|(simp only[lA,lM,lT,lD,lC,lN,J2,Y0,Z3,Q7];omega)) ?_;intro M;refine TNp [1,2] [0,1] ?_;refine TE (fun _ h=>h.pick [1,2]) ?_;refine MA 0 (xs:=([8]++(eI n))) (ys:=(lb 32 r)) (fun W hS=>(V2 (V:=r) (n:=32) (off:=0) (c:=32) (hS.blk (i:=2) rfl) ap0 (by decide) (by decide))) (by first|omega|(simp only[lA,lM,lT,lD,lC,lN,J2,Y0,Z3,Q7];omega)) ?_;intro J;refine TNp [0,1,2] [1,2] ?_;refine TV ?_;refine TZ (fun _ h=>h) fun W hS=> ?_;go_wp2;exact BH (v:=J) (by simp only[results,Tryz.results32];go_simp) rfl ⟨_,rfl,(hS.pick [0])⟩
theorem V1v {q:Prop}(hr:q){l:List UInt8}(hl:l.length≤100000000)(w:AA)(hG:GT q w):
  BI Tryz.prog 81 #[Z9 l] w fun e w' =>V4 (Z9 (lb 32 (hs4 (kTx l)))) w w' e:=by
 have hS:=SH.nil [] w
 go_enter Tryz.func81,Tryz.ntmps81
 go_upto_region 1 with fail;refine RL hS ?_;clear hS;refine MV ?_;refine MW ?_ (v:=Z9 ([5]++l)) (hv:=fun _=>J1d (l:=[5]) (m:=l) rfl rfl rfl (by first|omega|(simp only[lA,lM,lT,lD,lC,lN,J2,Y0,Z3,Q7];omega)));obtain⟨U1,D⟩:=exh (hs4 ([5]++l));refine MC (v:=Z9 (lb 32 U1)) (fun W hS=>J4g D.out (by first|omega|(simp only[lA,lM,lT,lD,lC,lN,J2,Y0,Z3,Q7];omega)) W (J5h (hG.2 hr) hS.ext)) ?_;refine MV ?_;refine MZ fun W hS=> ?_;go_wp2;exact BH (v:=Z9 (lb 32 U1)) (by simp only[results,Tryz.results81];go_simp) rfl ⟨(by(try rw[D.out]);first|done|rfl),hS.ext⟩
theorem Q7u {m:Mb}(w:AA):
  BI Tryz.prog 82 #[.agg (K4 [.c (Z9 m.id),.c (.bool m.gone),.c (.int .i64 m.ep),.c (Z9 (lb 32 m.link))])] w fun e w' =>V4 (Z9 (vTx m)) w w' e:=by
 have hS:=SH.nil [] w
 go_enter Tryz.func82,Tryz.ntmps82
 go_upto_region 0 with fail;refine RL hS ?_;clear hS;refine MN (z:=K4 [.c (Z9 m.id),.c (.bool m.gone),.c (.int .i64 m.ep),.c (Z9 (lb 32 m.link))]) (t:=93) ?_;intro G;refine MV ?_;refine MZ fun W hS=> ?_
 by_cases hg:m.gone=true
 ·
  go_upto_region 1 with fail;refine RL hS ?_;clear hS;refine MV ?_;refine MG 0 ?_ (v:=.bool true) (hj:=((V1 (off:=1) 1).trans (by rw[hg])));refine MZ fun W hS=> ?_;go_wp2;exact BH (v:=Z9 [7]) (by simp only[results,Tryz.results82];first|(go_simp;done)|(go_simp;rfl)) rfl ⟨by first|rw[Y7z hg]|rw[Y80 hg],hS.ext⟩
 have D:m.gone=false:=by simpa using hg
 go_upto_region 1 with fail;refine RL hS ?_;clear hS;refine MV ?_;refine MG 0 ?_ (v:=.bool false) (hj:=((V1 (off:=1) 1).trans (by rw[D])));refine MZ fun W hS=> ?_;go_upto_region 3 with fail;refine RTh (.q 0 (.q 1 (.q 4 (.q 5 (.e 2 (.q 3 (.q 6 (.q 7 .z)))))))) hS ?_;clear hS;refine TV ?_;refine TG 0 ?_ (v:=.int .i64 m.ep) (hj:=(V1 (off:=2) 2));refine TV ?_;refine TG 0 ?_ (v:=Z9 (lb 32 m.link)) (hj:=(V1 (off:=3) 3));refine TE (fun _ h=>h) ?_;refine MC (v:=Z9 (eI m.ep)) (fun W hS=>Z4g m.ep W) ?_;refine TNh (fun W hS=>hS) ?_;refine TW ?_ (v:=Z9 ([6]++(eI m.ep))) (hv:=fun _=>J1d (l:=[6]) (m:=(eI m.ep)) rfl rfl rfl (by first|omega|(simp only[lA,lM,lT,lD,lC,lN,J2,Y0,Z3,Q7];omega)));refine TW ?_ (v:=Z9 (([6]++(eI m.ep))++(lb 32 m.link))) (hv:=fun _=>J1d (l:=([6]++(eI m.ep))) (m:=(lb 32 m.link)) rfl rfl rfl (by first|omega|(simp only[lA,lM,lT,lD,lC,lN,J2,Y0,Z3,Q7];omega)));refine TV ?_;refine TZ (fun _ h=>h) fun W hS=> ?_;go_wp2;exact BH (v:=Z9 (([6]++(eI m.ep))++(lb 32 m.link))) (by simp only[results,Tryz.results82];first|(go_simp;done)|(go_simp;rfl)) rfl ⟨by first|rw[Y7z hg]|rw[Y80 hg],hS.ext⟩
theorem Q7q (n:Int)(r:Nat)(w:AA):
  BI Tryz.prog 19 #[.int .i64 n,Z9 (lb 32 r)] w fun e w' =>V4 (Z9 (sTx n r)) w w' e:=by
 have hS:=SH.nil [] w
 go_enter Tryz.func19,Tryz.ntmps19
 go_upto_region 1 with fail;refine RL hS ?_;clear hS;refine MV ?_;refine MC (v:=Z9 (eI n)) (fun W hS=>Z4g n W) ?_;refine MW ?_ (v:=Z9 ([8]++(eI n))) (hv:=fun _=>J1d (l:=[8]) (m:=(eI n)) rfl rfl rfl (by first|omega|(simp only[lA,lM,lT,lD,lC,lN,J2,Y0,Z3,Q7];omega)));refine MV ?_;refine MW ?_ (v:=Z9 (([8]++(eI n))++(lb 32 r))) (hv:=fun _=>J1d (l:=([8]++(eI n))) (m:=(lb 32 r)) rfl rfl rfl (by first|omega|(simp only[lA,lM,lT,lD,lC,lN,J2,Y0,Z3,Q7];omega)));refine MV ?_;refine MZ fun W hS=> ?_;go_wp2;exact BH (v:=Z9 (([8]++(eI n))++(lb 32 r))) (by simp only[results,Tryz.results19];go_simp) rfl ⟨rfl,hS.ext⟩
end

section
def kl (a b:Nat):Bool:=Q9l (J6 a) (J6 b)
theorem Q26 {a b i:Nat}(h:i<256):kb a i=kb b i↔J20 (J6 a) i=J20 (J6 b) i:=by
  rw[←J8i h,←J8i h];omega
theorem J2l (a b:Nat):(∀i,i<J0b (J6 a) (J6 b)→kb a i=kb b i)∧(J0b (J6 a) (J6 b)<256→kb a (J0b (J6 a) (J6 b))≠kb b (J0b (J6 a) (J6 b))):=by
  have D:∀n i,n+i=256→(∀j,j<i→kb a j=kb b j)→(∀j,j<J7z (J6 a) (J6 b) (256-i) i→kb a j=kb b j)∧(J7z (J6 a) (J6 b) (256-i) i<256→kb a (J7z (J6 a) (J6 b) (256-i) i)≠kb b (J7z (J6 a) (J6 b) (256-i) i)):=by
    intro n
    induction n with
    |zero=>
      intro i hi h;obtain rfl:i=256:=by omega
      exact⟨h,fun h1=>absurd h1 (by show ¬256<256;omega)⟩
    |succ n ih=>
      intro i hi h;rw[J4z (by omega)]
      split
      · rename_i he
        exact ih (i+1) (by omega) fun j hj=>by
          rcases Nat.lt_succ_iff_lt_or_eq.1 hj with hj|rfl
          · exact h j hj
          · exact(Q26 (by omega)).2 he
      · rename_i he
        exact⟨h,fun h1=>fun h2=>he ((Q26 h1).1 h2)⟩
  exact D 256 0 rfl (fun j hj=>absurd hj (Nat.not_lt_zero _))
theorem Q7n {a b m:Nat}(hm:m≤256)(hlt:∀i,i<m→kb a i=kb b i)(he:m<256→kb a m≠kb b m):J0b (J6 a) (J6 b)=m:=
  Q7l hm (fun i hi=>(Q26 (by omega)).1 (hlt i hi)) fun h=>fun h2=>he h ((Q26 h).2 h2)
theorem Q5o (a b:Nat):J0b (J6 a) (J6 b)=J0b (J6 b) (J6 a):=by
  obtain⟨h1,h2⟩:=J2l b a;exact Q7n (Q24 _ _) (fun i hi=>(h1 i hi).symm) fun h=>(h2 h).symm
theorem kl_iff {a b:Nat}:kl a b=true↔J0b (J6 a) (J6 b)<256∧kb a (J0b (J6 a) (J6 b))=0:=by
  unfold kl Q9l;simp only[Bool.and_eq_true,decide_eq_true_eq];constructor
  · rintro⟨h1,h2⟩;exact⟨h1,by have:=J8i (k:=a) h1;omega⟩
  rintro⟨h1,h2⟩;exact⟨h1,by have:=J8i (k:=a) h1;omega⟩
theorem Q7o {a b:Nat}(h:kl a b=true):kb b (J0b (J6 a) (J6 b))=1:=by
  obtain⟨h1,h2⟩:=kl_iff.1 h;have h3:=(J2l a b).2 h1;have:=Q5k b (J0b (J6 a) (J6 b));omega
theorem Q0z (a:Nat):kl a a=false:=by
  cases h:kl a a with
  |false=>rfl
  |true=>have h1:=kl_iff.1 h;exact absurd rfl ((J2l a a).2 h1.1)
theorem Q3z {a b c:Nat}(h1:kl a b=true)(h2:kl b c=true):kl a c=true:=by
  obtain⟨p1,p2⟩:=kl_iff.1 h1;obtain⟨q1,q2⟩:=kl_iff.1 h2;have p3:=Q7o h1;have q3:=Q7o h2;have sa:=(J2l a b).1;have sb:=(J2l b c).1;generalize J0b (J6 a) (J6 b)=m at*;generalize J0b (J6 b) (J6 c)=n at*;rcases Nat.lt_trichotomy m n with h|h|h
  · have e:J0b (J6 a) (J6 c)=m:=Q7n (by omega) (fun i hi=>(sa i hi).trans (sb i (by omega))) fun _=>by rw[p2,←sb m h,p3];decide
    exact kl_iff.2 (by rw[e];exact⟨p1,p2⟩)
  · subst h;omega
  have e:J0b (J6 a) (J6 c)=n:=Q7n (by omega) (fun i hi=>(sa i (by omega)).trans (sb i hi)) fun _=>by rw[sa n h,q2,q3];decide
  exact kl_iff.2 (by rw[e];exact⟨q1,by rw[sa n h,q2]⟩)
theorem Q40 {a b:Nat}(ha:a<2^256)(hb:b<2^256)(hne:a≠b)(h:kl a b=false):kl b a=true:=by
  have h1:=Z44 ha hb hne;have h2:=(J2l a b).2 h1;have h3:kb a (J0b (J6 a) (J6 b))≠0:=fun e=>by rw[kl_iff.2 ⟨h1,e⟩] at h;cases h
  have h4:=Q5k a (J0b (J6 a) (J6 b));have h5:=Q5k b (J0b (J6 a) (J6 b));have h6:kb b (J0b (J6 a) (J6 b))=0:=by omega
  exact kl_iff.2 (by rw[Q5o b a];exact⟨h1,h6⟩)
/-! ### Lists of leaves, by the document -/
def J3n (x:Lf):Bool→List Lf→List Lf
  |done,[]=>if done=true then[] else[x]
  |done,y::r=>(if done=false∧kl y.1 x.1=false then[x] else[])++((if y.1=x.1 then[] else[y])++J3n x (done || !kl y.1 x.1) r)
def J30 (l:List Lf)(x:Lf):List Lf:=J3n x false l
def J3o (ls:List Lf):List Lf:=ls.foldl J30 []
def J0f (l:List Lf)(d b:Nat):List Lf:=l.filter fun y=>decide (kb y.1 d=b)
def Srt (l:List Lf):Prop:=l.Pairwise (fun a b=>kl a.1 b.1=true)
def J2q (l:List Lf):Prop:=∀y∈l,y.1<2^256∧y.2<2^256
theorem J6t (x:Lf):∀l:List Lf,J3n x true l=l.filter fun y=>decide (y.1≠x.1)
  |[]=>rfl
  |y::r=>by
    show([]:List Lf)++((if y.1=x.1 then[] else[y])++J3n x true r)=_;rw[J6t x r,List.filter_cons]
    by_cases h:y.1=x.1
    · rw[if_pos h,if_neg (by simp[h])];rfl
    · rw[if_neg h,if_pos (by simp[h])];rfl
theorem J6u {x y:Lf}{r:List Lf}(h:kl y.1 x.1=true):J30 (y::r) x=y::J30 r x:=by
  have D:y.1≠x.1:=fun e=>by rw[e,Q0z] at h;cases h
  show J3n x false (y::r)=y::J3n x false r;simp[J3n,h,D]
theorem J3f {x y:Lf}{r:List Lf}(h:kl y.1 x.1=false):J30 (y::r) x=x::(if y.1=x.1 then[] else[y])++r.filter fun z=>decide (z.1≠x.1):=by
  show(if(false=false∧kl y.1 x.1=false) then[x] else[])++((if y.1=x.1 then[] else[y])++J3n x (false || !kl y.1 x.1) r)=_;rw[if_pos ⟨rfl,h⟩,h];show[x]++(_++J3n x true r)=_;rw[J6t];simp
theorem J9d {l:List Lf}(p:Lf→Bool)(h:Srt l):Srt (l.filter p):=List.Pairwise.filter p h
theorem Q41 {x z:Lf}:∀{l:List Lf},z∈J30 l x→z=x∨z∈l
  |[],h=>by rw[show J30 [] x=[x] from rfl] at h;exact .inl (Ai.1 h)
  |y::r,h=>by
    cases hk:kl y.1 x.1 with
    |true=>
      rw[J6u hk] at h;rcases Ad.1 h with rfl|h
      · exact .inr (by simp)
      · rcases Q41 h with h|h
        · exact .inl h
        · exact .inr (by simp[h])
    |false=>
      rw[J3f hk] at h;simp only[BT,Ad,Ay,List.mem_filter] at h;rcases h with h|h|h
      · exact .inl h
      · split at h
        · cases h
        · exact .inr (by simp at h;simp[h])
      · exact .inr (by simp[h.1])
theorem Z45 {l:List Lf}{x:Lf}(h:J2q l)(hx:x.1<2^256∧x.2<2^256):J2q (J30 l x):=fun z hz=>by
  rcases Q41 hz with rfl|hz
  · exact hx
  · exact h z hz
theorem Q42 {x:Lf}(hx:x.1<2^256):∀{l:List Lf},J2q l→Srt l→Srt (J30 l x)
  |[],_,_=>by show Srt [x];exact List.pairwise_singleton _ _
  |y::r,ho,hs=>by
    have hc:=List.pairwise_cons.1 hs;have hy:=ho y (by simp);cases hk:kl y.1 x.1 with
    |true=>
      rw[J6u hk];refine List.pairwise_cons.2 ⟨fun z hz=> ?_,Q42 hx (fun z hz=>ho z (by simp[hz])) hc.2⟩;rcases Q41 hz with rfl|hz
      · exact hk
      · exact hc.1 z hz
    |false=>
      rw[J3f hk]
      have hxy:y.1=x.1∨kl x.1 y.1=true:=by
        by_cases e:y.1=x.1
        · exact .inl e
        · exact .inr (Q40 hy.1 hx e hk)
      have D:∀z∈r,kl x.1 z.1=true:=fun z hz=>by
        rcases hxy with e|e
        · rw[←e];exact hc.1 z hz
        exact Q3z e (hc.1 z hz)
      rw[BT];refine List.pairwise_cons.2 ⟨fun z hz=> ?_,?_⟩
      · rcases Ay.1 hz with hz|hz
        · split at hz
          · cases hz
          rename_i e;rw[Ai.1 hz];exact hxy.resolve_left e
        exact D z (List.mem_filter.1 hz).1
      split
      · exact J9d _ hc.2
      refine List.pairwise_cons.2 ⟨fun z hz=>hc.1 z (List.mem_filter.1 hz).1,J9d _ hc.2⟩
theorem Q43 {ls:List Lf}(h:J2q ls):J2q (J3o ls)∧Srt (J3o ls):=by
  unfold J3o
  have:∀(ls D:List Lf),J2q ls→J2q D→Srt D→J2q (ls.foldl J30 D)∧Srt (ls.foldl J30 D):=by
    intro ls
    induction ls with
    |nil=>intro D _ h1 h2;exact⟨h1,h2⟩
    |cons x r ih=>
      intro D ho h1 h2;have hx:=ho x (by simp);exact ih (J30 D x) (fun z hz=>ho z (by simp[hz])) (Z45 h1 hx) (Q42 hx.1 h1 h2)
  exact this ls [] h (fun z hz=>by cases hz) .nil
theorem J6b {x:Lf}{l:List Lf}(h:∀z∈l,kl x.1 z.1=true):(l.filter fun z=>decide (z.1≠x.1))=l:=by
  rw[List.filter_eq_self];intro z hz;have:=h z hz;simp only[decide_eq_true_eq];intro e;rw[e,Q0z] at this;cases this
theorem J9e {d b:Nat}{x:Lf}(hx:x.1<2^256):∀{l:List Lf},J2q l→Srt l→J0f (J30 l x) d b=if kb x.1 d=b then J30 (J0f l d b) x else J0f l d b
  |[],_,_=>by
    show J0f [x] d b=_;unfold J0f
    by_cases h:kb x.1 d=b
    · rw[if_pos h,List.filter_cons,if_pos (by simp[h])];rfl
    · rw[if_neg h,List.filter_cons,if_neg (by simp[h])]
  |y::r,ho,hs=>by
    have hc:=List.pairwise_cons.1 hs;have hy:=ho y (by simp);have hr:J2q r:=fun z hz=>ho z (by simp[hz]);cases hk:kl y.1 x.1 with
    |true=>
      have ih:=J9e (d:=d) (b:=b) hx hr hc.2;rw[J6u hk];have e:∀q:List Lf,J0f (y::q) d b=if kb y.1 d=b then y::J0f q d b else J0f q d b:=fun q=>by unfold J0f;rw[List.filter_cons];simp
      rw[e,e,ih]
      by_cases h1:kb y.1 d=b
      · rw[if_pos h1,if_pos h1]
        by_cases h2:kb x.1 d=b
        · rw[if_pos h2,if_pos h2,J6u hk]
        · rw[if_neg h2,if_neg h2]
      · rw[if_neg h1,if_neg h1]
    |false=>
      have M:y.1=x.1∨kl x.1 y.1=true:=by
        by_cases e:y.1=x.1
        · exact .inl e
        · exact .inr (Q40 hy.1 hx e hk)
      have D:∀z∈r,kl x.1 z.1=true:=fun z hz=>by
        rcases M with e|e
        · rw[←e];exact hc.1 z hz
        exact Q3z e (hc.1 z hz)
      have J:∀z∈r,kl z.1 x.1=false:=fun z hz=>by
        cases h:kl z.1 x.1 with
        |false=>rfl
        |true=>have:=Q3z h (D z hz);rw[Q0z] at this;cases this
      rw[J3f hk,J6b D]
      have G:∀q:List Lf,(∀z∈q,z∈r)→J30 q x=x::q:=fun q hq=>by
        cases q with
        |nil=>rfl
        |cons z q=>
          have hz:=hq z (by simp);rw[J3f (J z hz),J6b fun u hu=>D u (hq u (by simp[hu])),if_neg (fun e=>by have:=D z hz;rw[e,Q0z] at this;cases this)];rfl
      unfold J0f
      by_cases hb:kb x.1 d=b
      · rw[if_pos hb,BT,List.filter_cons,if_pos (by simp[hb])]
        by_cases e:y.1=x.1
        · rw[if_pos e,BU,List.filter_cons,if_pos (by simp[e,hb])]
          rw[J3f hk,if_pos e,J6b fun z hz=>D z (List.mem_filter.1 hz).1];rfl
        rw[if_neg e,List.singleton_append,List.filter_cons]
        by_cases h1:kb y.1 d=b
        · rw[if_pos (by simp[h1]),J3f hk,if_neg e,J6b fun z hz=>D z (List.mem_filter.1 hz).1]
          rfl
        rw[if_neg (by simp[h1]),G _ fun z hz=>(List.mem_filter.1 hz).1]
      rw[if_neg hb,BT,List.filter_cons,if_neg (by simp[hb])]
      by_cases e:y.1=x.1
      · rw[if_pos e,BU,List.filter_cons,if_neg (by simp[e,hb])]
      rw[if_neg e];rfl
end

section
def can:Nat→List Lf→Nat→TR
  |_,[],_=> .nil
  |_,[x],_=> .leaf x.1 x.2
  |0,x::_::_,_=> .leaf x.1 x.2
  |f+1,x::y::r,d=> .node d (can f (J0f (x::y::r) d 0) (d+1)) (can f (J0f (x::y::r) d 1) (d+1))
theorem J8k (f d:Nat):can f [] d=.nil:=by cases f<;>rfl
theorem J6v (f d:Nat)(x:Lf):can f [x] d=.leaf x.1 x.2:=by cases f<;>rfl
theorem Q27 {f d:Nat}{ws:List Lf}(h:2≤ws.length):can (f+1) ws d=.node d (can f (J0f ws d 0) (d+1)) (can f (J0f ws d 1) (d+1)):=by
  match ws,h with
  |x::y::r,_=>rfl
def Pre (ws:List Lf)(d:Nat):Prop:=∀y∈ws,∀z∈ws,∀i,i<d→kb y.1 i=kb z.1 i
theorem mem_rside {y:Lf}{ws:List Lf}{d b:Nat}:y∈J0f ws d b↔y∈ws∧kb y.1 d=b:=by unfold J0f;simp
theorem Q44 (y:Lf)(q:List Lf)(d b:Nat):J0f (y::q) d b=if kb y.1 d=b then y::J0f q d b else J0f q d b:=by unfold J0f;rw[List.filter_cons];simp
theorem Q45 {ws:List Lf}{d b:Nat}(h:Pre ws d):Pre (J0f ws d b) (d+1):=fun y hy z hz i hi=>by
  obtain⟨y1,y2⟩:=mem_rside.1 hy;obtain⟨z1,z2⟩:=mem_rside.1 hz;rcases Nat.lt_succ_iff_lt_or_eq.1 hi with hi|rfl
  · exact h y y1 z z1 i hi
  · rw[y2,z2]
theorem Z46 {ws:List Lf}{d b:Nat}(h:J2q ws):J2q (J0f ws d b):=fun y hy=>h y (mem_rside.1 hy).1
theorem Q0e {ws:List Lf}{d b:Nat}(h:Srt ws):Srt (J0f ws d b):=J9d _ h
theorem Y0z {x y:Lf}{r:List Lf}(hs:Srt (x::y::r))(hp:Pre (x::y::r) 256):False:=by
  have h1:=(List.pairwise_cons.1 hs).1 y (by simp);obtain⟨h2,_⟩:=kl_iff.1 h1;exact(J2l x.1 y.1).2 h2 (hp x (by simp) y (by simp) _ h2)
def Y7u (K d:Nat)(T:TR):TR:=if kb K d=0 then .node d T .nil else .node d .nil T
theorem Q5p {K d:Nat}:∀(m:Nat) (T:TR),d<m→J4i K d m T=Y7u K d (J4i K (d+1) m T)
  |0,_,h=>by omega
  |m+1,T,h=>by
    rw[J8j (by omega)];rcases Nat.lt_or_ge d m with h1|h1
    · rw[J8j (show d+1≤m by omega)]
      exact Q5p m _ h1
    · obtain rfl:m=d:=by omega
      rw[Q0d (AM _),Q0d (AM _)];rfl
theorem Q9q {a b:Lf}(hk:kl a.1 b.1=true):∀(f d:Nat),f+d=256→d≤J0b (J6 a.1) (J6 b.1)→can f [a,b] d=J4i a.1 d (J0b (J6 a.1) (J6 b.1)) (.node (J0b (J6 a.1) (J6 b.1)) (.leaf a.1 a.2) (.leaf b.1 b.2))
  |0,d,h,hd=>by have:=(kl_iff.1 hk).1;omega
  |f+1,d,h,hd=>by
    obtain⟨h1,h2⟩:=kl_iff.1 hk;have h3:=Q7o hk;have h4:=(J2l a.1 b.1).1;rw[Q27 (by simp)];rcases Nat.lt_or_ge d (J0b (J6 a.1) (J6 b.1)) with h5|h5
    · have h6:=h4 d h5
      rw[Q5p _ _ h5,←Q9q hk f (d+1) (by omega) h5];have hb:=Q5k a.1 d;unfold Y7u;simp only[Q44,←h6];rcases Nat.lt_or_ge 0 (kb a.1 d) with hz|hz
      · have e:kb a.1 d=1:=by omega
        rw[e];simp[J0f,J8k]
      · have e:kb a.1 d=0:=by omega
        rw[e];simp[J0f,J8k]
    · obtain rfl:d=J0b (J6 a.1) (J6 b.1):=by omega
      rw[Q0d (AM _)];simp only[Q44,h2,h3];simp[J0f,J6v]
theorem Q9r {a b:Lf}(hk:kl a.1 b.1=true){f d:Nat}(h:f+d=256)(hd:d≤J0b (J6 a.1) (J6 b.1)):J3m a.1 a.2 b.1 b.2 d=can f [a,b] d∧J3m b.1 b.2 a.1 a.2 d=can f [a,b] d:=by
  obtain⟨h1,h2⟩:=kl_iff.1 hk;have h3:=Q7o hk;rw[Q9q hk f d h hd];unfold J3m;rw[Q5o b.1 a.1,if_neg (by rw[h2];decide),if_pos h3];exact⟨rfl,rfl⟩
theorem Q46 {a b:Lf}{ws:List Lf}{d:Nat}(hd:d≤256)(h:Pre ws d)(ha:a∈ws)(hb:b∈ws):d≤J0b (J6 a.1) (J6 b.1):=by
  rcases Nat.lt_or_ge (J0b (J6 a.1) (J6 b.1)) d with h1|h1
  · exact absurd (h a ha b hb _ h1) ((J2l a.1 b.1).2 (by omega))
  exact h1
theorem Y10 {x:Lf}{ws:List Lf}(hx:x.1<2^256)(ho:J2q ws)(hs:Srt ws)(h:2≤ws.length):2≤(J30 ws x).length:=by
  match ws,h with
  |y::z::r,_=>
    cases hk:kl y.1 x.1 with
    |true=>
      rw[J6u hk];cases hq:J30 (z::r) x with
      |nil=>
        cases hk2:kl z.1 x.1 with
        |true=>rw[J6u hk2] at hq;cases hq
        |false=>rw[J3f hk2] at hq;cases hq
      |cons u q=>simp
    |false=>
      rw[J3f hk]
      by_cases e:y.1=x.1
      · have hc:=(List.pairwise_cons.1 hs).1
        rw[if_pos e,J6b fun u hu=>by rw[←e];exact hc u hu];simp
      · rw[if_neg e];simp
theorem Y4y (x:Lf)(hx:x.1<2^256):∀(f d:Nat) (ws:List Lf),f+d=256→J2q ws→Srt ws→Pre (x::ws) d→J2h x.1 x.2 (can f ws d) d=can f (J30 ws x) d:=by
  intro f
  induction f with
  |zero=>
    intro d ws hd ho hs hp;obtain rfl:d=256:=by omega
    match ws with
    |[]=>rw[J8k,show J30 [] x=[x] from rfl,J6v];rfl
    |[y]=>
      rw[J6v]
      have e:y.1=x.1:=J9r (ho y (by simp)).1 hx fun j hj=>by
        have h0:J0b (J6 y.1) (J6 x.1)=256:=by
          have:=Q46 (a:=y) (b:=x) (AM _) hp (by simp) (by simp);have:=Q24 (J6 y.1) (J6 x.1);omega
        rcases Nat.lt_or_ge (J0b (J6 y.1) (J6 x.1)) 256 with h|h
        · omega
        · by_cases e:y.1=x.1
          · rw[e]
          · exact absurd (Z44 (ho y (by simp)).1 hx e) (by omega)
      rw[J3f (by rw[e];exact Q0z _),if_pos e];show(if y.1=x.1 then TR.leaf x.1 x.2 else _)=can 0 [x] 256;rw[if_pos e];rfl
    |y::z::r=>exact(Y0z hs fun u hu v hv=>hp u (List.mem_cons_of_mem _ hu) v (List.mem_cons_of_mem _ hv)).elim
  |succ f ih=>
    intro d ws hd ho hs hp
    match ws,ho,hs,hp with
    |[],_,_,_=>rw[J8k,show J30 [] x=[x] from rfl,J6v];rfl
    |[y],ho,hs,hp=>
      rw[J6v];show(if y.1=x.1 then TR.leaf x.1 x.2 else J3m y.1 y.2 x.1 x.2 d)=_
      by_cases e:y.1=x.1
      · rw[if_pos e,J3f (by rw[e];exact Q0z _),if_pos e]
        exact(J6v _ _ x).symm
      · rw[if_neg e]
        cases hk:kl y.1 x.1 with
        |true=>
          rw[J6u hk];exact(Q9r hk hd (Q46 (by omega) hp (by simp) (by simp))).1
        |false=>
          rw[J3f hk,if_neg e];have G:=Q40 (ho y (by simp)).1 hx e hk;exact(Q9r G hd (Q46 (by omega) hp (by simp) (by simp))).2
    |y::z::r,ho,hs,hp=>
      have h2:=Y10 hx ho hs (by simp);rw[Q27 (by simp),Q27 h2,J9e hx ho hs,J9e hx ho hs];have hb:=Q5k x.1 d;have J:Pre (y::z::r) d:=fun u hu v hv=>hp u (List.mem_cons_of_mem _ hu) v (List.mem_cons_of_mem _ hv)
      have D:∀b,kb x.1 d=b→Pre (x::J0f (y::z::r) d b) (d+1):=fun b hb u hu v hv=>by
        refine Q45 (b:=b) hp u ?_ v ?_
        · rcases Ad.1 hu with rfl|hu
          · exact mem_rside.2 ⟨by simp,hb⟩
          · exact mem_rside.2 ⟨List.mem_cons_of_mem _ (mem_rside.1 hu).1,(mem_rside.1 hu).2⟩
        · rcases Ad.1 hv with rfl|hv
          · exact mem_rside.2 ⟨by simp,hb⟩
          · exact mem_rside.2 ⟨List.mem_cons_of_mem _ (mem_rside.1 hv).1,(mem_rside.1 hv).2⟩
      show(if kb x.1 d=0 then TR.node d (J2h x.1 x.2 (can f (J0f (y::z::r) d 0) (d+1)) (d+1)) _ else TR.node d _ (J2h x.1 x.2 (can f (J0f (y::z::r) d 1) (d+1)) (d+1)))=_;rcases Nat.lt_or_ge 0 (kb x.1 d) with h0|h0
      · have e:kb x.1 d=1:=by omega
        rw[if_neg (by omega),if_neg (by omega),if_pos e,ih (d+1) _ (by omega) (Z46 ho) (Q0e hs) (D 1 e)]
      · have e:kb x.1 d=0:=by omega
        rw[if_pos e,if_pos e,if_neg (by omega),ih (d+1) _ (by omega) (Z46 ho) (Q0e hs) (D 0 e)]
theorem Y7v (ws:List Lf):Pre ws 0:=fun _ _ _ _ i hi=>absurd hi (Nat.not_lt_zero i)
theorem Y4z {ls:List Lf}(h:J2q ls):ofT ls=can 256 (J3o ls) 0:=by
  unfold ofT J3o
  have:∀(ls D:List Lf),J2q ls→J2q D→Srt D→ls.foldl (fun T x=>J2h x.1 x.2 T 0) (can 256 D 0)=can 256 (ls.foldl J30 D) 0:=by
    intro ls
    induction ls with
    |nil=>intro D _ _ _;rfl
    |cons x r ih=>
      intro D ho h1 h2;have hx:=ho x (by simp);show r.foldl _ (J2h x.1 x.2 (can 256 D 0) 0)=_;rw[Y4y x hx.1 256 0 D rfl h1 h2 (Y7v _)];exact ih (J30 D x) (fun z hz=>ho z (by simp[hz])) (Z45 h1 hx) (Q42 hx.1 h1 h2)
  have h0:=this ls [] h (fun z hz=>by cases hz) .nil;rw[J8k] at h0;exact h0
/-! ### The leaves of a tree -/
/-! ### Lists, step by step -/
theorem Q5q (x:Lf):∀(d:Bool) (l:List Lf),(J3n x d l).length≤l.length+1
  |d,[]=>by cases d<;>simp[J3n]
  |true,y::r=>by rw[J6t];exact Nat.le_trans (List.length_filter_le _ _) (Nat.le_succ _)
  |false,y::r=>by
    have h:=Q5q x (!kl y.1 x.1) r;have h2:(J3n x true r).length≤r.length:=by rw[J6t];exact List.length_filter_le _ _
    show((if false=false∧kl y.1 x.1=false then[x] else[])++((if y.1=x.1 then[] else[y])++J3n x (false || !kl y.1 x.1) r)).length≤r.length+1+1;cases hk:kl y.1 x.1 with
    |true=>
      rw[hk] at h;simp only[Ao,Bool.false_or,Bool.not_true] at h⊢;rw[if_neg (by decide)]
      split<;>simp<;>omega
    |false=>
      simp only[Ao,Bool.false_or,Bool.not_false];rw[if_pos (by decide)]
      split<;>simp<;>omega
theorem Y11 (l:List Lf)(x:Lf):(J30 l x).length≤l.length+1:=Q5q x false l
theorem J50 {ls:List Lf}{i:Nat}{x y:Lf}{dn:Bool}(h:ls[i]?=some y):J3n x dn (ls.drop i)=(if dn=false∧kl y.1 x.1=false then[x] else[])++((if y.1=x.1 then[] else[y])++J3n x (dn || !kl y.1 x.1) (ls.drop (i+1))):=by
  obtain⟨hi,e⟩:=List.getElem?_eq_some_iff.1 h;rw[List.drop_eq_getElem_cons hi,e];rfl
theorem Z1m {ls:List Lf}{i:Nat}{x:Lf}(h:ls[i]?=some x):J3o (ls.take (i+1))=J30 (J3o (ls.take i)) x:=by
  unfold J3o;rw[List.take_add_one,h,List.foldl_append];rfl
theorem Q5r (ls:List Lf):(J3o ls).length≤ls.length:=by
  unfold J3o
  have:∀(ls D:List Lf),(ls.foldl J30 D).length≤D.length+ls.length:=by
    intro ls
    induction ls with
    |nil=>intro D;exact AM _
    |cons x r ih=>intro D;have:=ih (J30 D x);have:=Y11 D x;show(r.foldl J30 (J30 D x)).length≤_;rw[List.length_cons];omega
  have:=this ls []
  simpa using this
theorem Q47 {ls:List Lf}{i:Nat}{x:Lf}(h:ls[i]?=some x)(d b:Nat):J0f (ls.take (i+1)) d b=J0f (ls.take i) d b++(if kb x.1 d=b then[x] else[]):=by
  unfold J0f;rw[List.take_add_one,h,List.filter_append]
  congr 1
  by_cases hb:kb x.1 d=b
  · simp[hb]
  simp[hb]
theorem Q10 (ls:List Lf)(d b:Nat):(J0f ls d b).length≤ls.length:=List.length_filter_le _ _
theorem Y12 {ls:List Lf}{i:Nat}(d b:Nat):(J0f (ls.take i) d b).length≤i:=by
  have:=Q10 (ls.take i) d b;rw[BC] at this;omega
end

section
attribute [local irreducible] wpList K1 wpX
theorem RR.op {w:AA}{u:AB}{ls:List Lf}(h:RR 64 w u (ls.map lfl)):∃A c,u=.slice A ls.length c∧ls.length≤c∧Hid (∀(j:Nat) (x:Lf),ls[j]?=some x→∃g o,A=some ⟨g,o,none⟩∧∀(i:Nat) (v:AB),(lfl x)[i]?=some v→w.cell? ⟨g,o+j*64+i,none⟩=some v):=by
 obtain⟨A,c,h1,h2,_,h3⟩:=h;rw[Bc] at h1 h2;exact⟨A,c,h1,h2,Lib.hid fun j x hj=>h3 j (lfl x) (by rw[List.getElem?_map,hj];rfl)⟩
def Y13 (t:AE)(ls:List Lf)(w w' :AA)(e:Ending):Prop:=∃u,e=.returned u∧SH [] w w' [.r t 64 u (ls.map lfl)]
theorem Z47 {f:FuncId}{args:Array AB}{F:List Nat}{w W:AA}{H:List As}{t:AE}{ls:List Lf}(hS:SH F w W H)(hc:BI Tryz.prog f args W fun e W' =>Y13 t ls W W' e)(ht:H.all (SH.tyOk (.r t 64 undef []))=true):
  BI Tryz.prog f args W fun e W' => ∃u,e=.returned u∧SH F w W' (.r t 64 u (ls.map lfl)::H):=
 hc.mono fun e W' ⟨u,h1,h2⟩=>⟨u,h1,SH.frame (L:=[]) (L' :=[.r t 64 u (ls.map lfl)]) (R:=H) hS h2 ⟨.inr ⟨rfl,ht⟩,trivial⟩⟩

end
end Go.Proofs.YtdjacgmmidbieaaGreatDoor

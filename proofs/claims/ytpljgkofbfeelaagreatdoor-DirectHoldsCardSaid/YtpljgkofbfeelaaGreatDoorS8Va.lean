/- Contracts and plain laws for directHolds_holds. Conditions: the tables hold their numbers. -/
import Derived.Test.YtpljgkofbfeelaaGreatDoorJ20
open Go renaming undef->AP,World->AA,Value->AB,bodyPost_ret->BC,Calls->Az,TypeId->AD
open _root_.Array renaming size_append->BL
open _root_.Option renaming some.inj->Aa
open Go.RowKit
set_option maxRecDepth 100000
set_option linter.unusedSimpArgs false
set_option linter.unusedVariables false
namespace Go.Proofs.YtpljgkofbfeelaaGreatDoor.S8
section
set_option maxHeartbeats 2000000
attribute [local irreducible] wpList
variable {kn : Kn}
open Sc (LL J0k)
attribute [local irreducible] hs

end

section
set_option maxHeartbeats 2000000
attribute [local irreducible] wpList
variable {kn : Kn}
open Sc (LL J0k)
attribute [local irreducible] hs
def q4 (a b c d:Array AB):Array AB:=a++b++c++d
section
variable {X1 Y1 Z1 T1 X2 Y2 Z2 T2 X3 Y3 Z3 T3 X4 Y4 Z4 T4 : Nat}
theorem Z85 {X Y Z T:Nat}:(p4 X Y Z T).size=16:=rfl
theorem K34:∀i v,(p4 X1 Y1 Z1 T1)[i]?=some v→(q4 (p4 X1 Y1 Z1 T1) (p4 X2 Y2 Z2 T2) (p4 X3 Y3 Z3 T3) (p4 X4 Y4 Z4 T4))[0+i]?=some v:=fun i v h=>by rw[Nat.zero_add];exact J2p (J2p (J2p h))
theorem K35:∀i v,(p4 X2 Y2 Z2 T2)[i]?=some v→(q4 (p4 X1 Y1 Z1 T1) (p4 X2 Y2 Z2 T2) (p4 X3 Y3 Z3 T3) (p4 X4 Y4 Z4 T4))[16+i]?=some v:=fun i v h=>J2p (J2p (J69 Z85 h))
theorem K36:∀i v,(p4 X3 Y3 Z3 T3)[i]?=some v→(q4 (p4 X1 Y1 Z1 T1) (p4 X2 Y2 Z2 T2) (p4 X3 Y3 Z3 T3) (p4 X4 Y4 Z4 T4))[32+i]?=some v:=fun i v h=>J2p (J69 (by rw[BL,Z85,Z85]) h)
theorem K37:∀i v,(p4 X4 Y4 Z4 T4)[i]?=some v→(q4 (p4 X1 Y1 Z1 T1) (p4 X2 Y2 Z2 T2) (p4 X3 Y3 Z3 T3) (p4 X4 Y4 Z4 T4))[48+i]?=some v:=fun i v h=>J69 (by rw[BL,BL,Z85,Z85,Z85]) h
end
theorem Q8p {w:AA}{gP:Nat}{cs:Array AB}{t:AD}(h:Blk w gP cs t){P4:Array AB}{o:Nat}(hq:∀i v,P4[i]?=some v→cs[o+i]?=some v)(i:Nat)(x:AB)(hx:P4.toList[i]?=some x):w.cell? ⟨gP,o+i,none⟩=some x:=by
  rw[J3 h];exact hq i x (by rw[Array.getElem?_toList] at hx;exact hx)
theorem K38 {w:AA}{gP k:Nat}{a b c d:List AB}(ha:∀i x,a[i]?=some x→w.cell? ⟨gP,0+i,none⟩=some x)(hb:∀i x,b[i]?=some x→w.cell? ⟨gP,k+i,none⟩=some x)(hc:∀i x,c[i]?=some x→w.cell? ⟨gP,2*k+i,none⟩=some x)(hd:∀i x,d[i]?=some x→w.cell? ⟨gP,3*k+i,none⟩=some x):
    RR k w (.slice (some ⟨gP,0,none⟩) 4 4) [a,b,c,d]:=by
  refine⟨_,_,rfl,Nat.le_refl _,fun e=>by(cases e),fun j e hj=>⟨gP,0,rfl,fun i x hx=> ?_⟩⟩
  match j,hj with
  |0,hj=>obtain rfl:=Aa hj;rw[show 0+0*k+i=0+i by omega];exact ha i x hx
  |1,hj=>obtain rfl:=Aa hj;rw[show 0+1*k+i=k+i by omega];exact hb i x hx
  |2,hj=>obtain rfl:=Aa hj;rw[show 0+2*k+i=2*k+i by omega];exact hc i x hx
  |3,hj=>obtain rfl:=Aa hj;rw[show 0+3*k+i=3*k+i by omega];exact hd i x hx
theorem rr4 {X1 Y1 Z1 T1 X2 Y2 Z2 T2 X3 Y3 Z3 T3 X4 Y4 Z4 T4 gP:Nat}{w:AA}{t:AD}(h:Blk w gP (q4 (p4 X1 Y1 Z1 T1) (p4 X2 Y2 Z2 T2) (p4 X3 Y3 Z3 T3) (p4 X4 Y4 Z4 T4)) t):
    RR 16 w (.slice (some ⟨gP,0,none⟩) 4 4) [(p4 X1 Y1 Z1 T1).toList,(p4 X2 Y2 Z2 T2).toList,(p4 X3 Y3 Z3 T3).toList,(p4 X4 Y4 Z4 T4).toList]:=
  K38 (Q8p h K34) (Q8p h K35) (Q8p h K36) (Q8p h K37)
theorem Q6i {ops:Array Oper}{Q:Exit→Act→World→Prop}{w:World}{r:List Oper}{o:Oper}{a:Act}{x y:Operand}{v:Value}{l:List UInt8}{g:Nat}{cur:Array Value}{t:TypeId}{n c:Nat}(hs:Sl w v l)(hB:Blk w g cur t)(hcur:cur.size=n)(hn:l.length≤n)(hp:0<l.length)(hw:Region.wanted o (yielded ops a.tmps)=true)
    (ho:o.op=.call {callee:=.builtin .copy,args:= #[x,y],argTypes:= #[22,22]}) (hx:a.eval x=.slice (some ⟨g,0,none⟩) n c) (hy:a.eval y=v)
    (h:∀W,Off [g] w W→Blk W g (bs8 l++cur.toList.drop l.length).toArray t→wpList Tryz.prog ops Q r (a.put o.dst (goInt l.length)) W):wpList Tryz.prog ops Q (o::r) a w:=by
  obtain⟨A,cc,rfl,h1,h2,h0,h3⟩:=hs;obtain⟨ad,rfl,_⟩:=h3 0 l[0] (List.getElem?_eq_getElem hp)
  have D:=run_copy_row (P:=Tryz.prog) w 22 22 o.type 5 g 0 n c ad l.length cc cur t (bs8 l) Tryz.underlying22 J59 hB (by rw[Q9];exact(Nat.min_eq_left hn).symm) (fun j u hj=>by
    simp only[bs8,List.getElem?_map,Option.map_eq_some_iff] at hj;obtain⟨z,hz,rfl⟩:=hj;obtain⟨G,e,hc⟩:=h3 j z hz;obtain rfl:=Aa e
    exact hc) (by rw[Q9];omega) (J94 l)
  have e:(cur.toList.take 0++bs8 l++cur.toList.drop (0+(bs8 l).length))=bs8 l++cur.toList.drop l.length:=by
    rw[List.take_zero,List.nil_append,Nat.zero_add,Q9]
  rw[e] at D;have h4:Blk (w.setRow g (bs8 l++cur.toList.drop l.length).toArray) g (bs8 l++cur.toList.drop l.length).toArray t:=J2o hB _;refine J38 hw (v:=goInt l.length) (W:=w.setRow g (bs8 l++cur.toList.drop l.length).toArray) ?_ (h _ ⟨rfl,rfl,rfl,by simp,fun k _ hk=>setRow_other w g k _ (by simpa using hk)⟩ h4);unfold execOp;simp only[ho,resolve,invoke,builtin,Sem.run_bind,Sem.run_pure,Result.andThen_ok,List.map_toArray,List.map_cons,List.map_nil,hx,hy,D,Q9]
theorem Z37 {l:List UInt8}(hl:l.length=16):(bs8 l++(J0 .u8 32 (J2 0)).toList.drop l.length).toArray=J0 .u8 32 (J2 (le l)):=by
  have h1:=Q95 l;rw[hl] at h1⊢;have e:le l / 2^(8*16)=0:=Nat.div_eq_of_lt h1;have hR:(J0 .u8 32 (J2 (le l))).toList=bs8 l++bs8 (lb 16 0):=by rw[J2v,←J9s,show lb 32 (le l)=lb 16 (le l)++lb 16 (le l / 2^(8*16)) from Z35 16 16 _,e,Q76 hl,J49]
  apply Array.ext';rw[hR];show bs8 l++_=_
  congr 1

theorem MCP {ops:Array Oper}{Q:Exit→Act→World→Prop}{F:List Nat}{w:World}{H:List As}{r:List Oper}{o:Oper}{a:Act}(i:Nat){x y:Operand}{v:Value}{l:List UInt8}{g:Nat}{cur new:Array Value}{t:TypeId}{n c:Nat}(hs:∀W,SH F w W H→Sl W v l)(hcur:cur.size=n)(hn:l.length≤n)(hp:0<l.length)(e:(bs8 l++cur.toList.drop l.length).toArray=new){H' :List As}{a' :Act}(h:wpM Tryz.prog ops (.L Q) F w H' r a')(hi:H[i]?=some (.b g cur t):=by exact rfl)(hw:Region.wanted o (yielded ops a.tmps)=true:=by exact rfl)
  (ho:o.op=.call {callee:=.builtin .copy,args:= #[x,y],argTypes:= #[22,22]}:=by exact rfl) (hx:a.eval x=.slice (some ⟨g,0,none⟩) n c:=by exact rfl) (hy:a.eval y=v:=by exact rfl)
  (hH:H.set i (.b g new t)=H' :=by dsimp only[sB,sC];first|done|exact rfl) (hq:a.put o.dst (goInt l.length)=a' :=by first|exact pl (by dsimp only[mB,mC];first|done|exact rfl)|exact pn|exact rfl):wpM Tryz.prog ops (.L Q) F w H (o::r) a:=by
 subst hq hH;intro W hS;refine Q6i (hs W hS) (hS.blk hi) hcur hn hp hw ho hx hy fun W' hO hB=> ?_;rw[e] at hB;exact h W' (hS.setb hi hO hB)
theorem V52 (v:AB)(l:List UInt8)(hl:l.length=16)(w:AA)(hsl:Sl w v l):
  Az Tryz.prog 52 #[v] w fun e w' =>V5 (.agg (J0 .u8 32 (J2 (le l)))) w w' e:=by
 have hS:=SH.nil [] w
 go_enter Tryz.func52,Tryz.ntmps52
 go_upto_region 0 with fail;refine RL hS ?_;clear hS;refine MN (z:=J0 .u8 32 (J2 0)) (t:=23) ?_;intro K9;refine MZ fun W hS=> ?_;go_upto_region 1 with fail;refine RL hS ?_;clear hS;refine MN (z:=J0 .u8 32 (J2 0)) (t:=23) ?_;intro D;refine MZ fun W hS=> ?_;go_upto_region 2 with fail;refine RL hS ?_;clear hS;refine MW ?_ (v:=.slice (some ⟨D,0,none⟩) 32 32);refine MV ?_;refine MCP 0 (new:=J0 .u8 32 (J2 (le l))) (fun W hS=>K4 hsl hS.ext) (by rw[J1]) (by omega) (by omega) (Z37 hl) ?_;refine MZ fun W hS=> ?_;go_upto_region 3 with fail;refine RL hS ?_;clear hS;refine ML 0 ?_;refine MR 1 ?_;refine MZ fun W hS=> ?_;go_wp2;exact BC (Z6 rfl rfl (hS.blk (i:=1) rfl) (by kernel_rfl) (by rw[J1];kernel_rfl)) rfl ⟨rfl,hS.ext⟩
end

section
set_option maxHeartbeats 2000000
attribute [local irreducible] wpList Z9
variable {kn : Kn}
open Sc (LL J0k)
attribute [local irreducible] hs
theorem Q8q (V off j:Nat):J2 (V / 2^(8*off)) j=J2 V (off+j):=by
  unfold J2;rw[Nat.div_div_eq_div_mul,←Nat.pow_add,show 8*off+8*j=8*(off+j) by omega]
theorem Z6b {V m j:Nat}(hj:j<m):J2 (V % 2^(8*m)) j=J2 V j:=by
  unfold J2;have e:(2:Nat)^(8*m)=2^(8*j)*2^(8*m-8*j):=by rw[←Nat.pow_add];congr 1;omega
  have e2:(2:Nat)^(8*m-8*j)=256*2^(8*m-8*j-8):=by rw[show 8*m-8*j=8+(8*m-8*j-8) by omega,Nat.pow_add,Nat.add_sub_cancel_left]
  rw[e,Nat.mod_mul_right_div_self,e2,Nat.mod_mul_right_mod]
theorem Q3o {n m off V U:Nat}(hU:∀j,j<m→J2 U j=J2 V (off+j))(h:off+m≤n):∀i v,(J0 .u8 m (J2 U))[i]?=some v→(J0 .u8 n (J2 V))[off+i]?=some v:=fun i v hv=>by
  have hi:i<m:=by have:=(Array.getElem?_eq_some_iff.1 hv).1;rwa [J1] at this
  rw[Z8 _ _ _ _ hi,hU i hi] at hv;rw[Z8 _ _ _ _ (by omega)];exact hv
theorem V53 {P j:Nat}(hj:j<16):J2 (pC P) j=J2 P (32+j):=by
  unfold pC;rw[show J2h=2^(8*16) from rfl,Z6b hj,show(2:Nat)^256=2^(8*32) from rfl,Q8q]
theorem V54 (P j:Nat):J2 (pN P) j=J2 P (48+j):=by
  unfold pN;rw[show J2h=2^(8*16) from rfl,Q8q,show(2:Nat)^256=2^(8*32) from rfl,Q8q,show 32+(16+j)=48+j by omega]
theorem Z86 {P:Nat}:∀i v,(J0 .u8 32 (J2 (pG P)))[i]?=some v→(J0 .u8 80 (J2 P))[0+i]?=some v:=Q3o (fun j hj=>by rw[Nat.zero_add];exact Y32 hj) (by decide)
theorem V55 {P:Nat}:∀i v,(J0 .u8 16 (J2 (pC P)))[i]?=some v→(J0 .u8 80 (J2 P))[32+i]?=some v:=Q3o (fun j hj=>V53 hj) (by decide)
theorem Y7e {P:Nat}:∀i v,(J0 .u8 32 (J2 (pN P)))[i]?=some v→(J0 .u8 80 (J2 P))[48+i]?=some v:=Q3o (fun j _=>V54 P j) (by decide)
theorem Q6s (P:Nat):pG P<2^256:=lo_lt P
theorem Z6c (P:Nat):pC P<J2h:=Nat.mod_lt _ (by decide)
def B80 (P:Nat):Prop:=pN P<2^256
theorem J9c {P:Program}{fn:Func}{p q r:Tmp}{ty tz t t' :AD}{tmps:Array AB}{w:AA}{g g' :Nat}{cs ds:Array AB}{v:AB}(h:fn.results= #[.cell p ty,.cell q tz,.tmp r])
    (hp:tmps.getD p AP=.pointer (some ⟨g,0,none⟩)) (hq:tmps.getD q AP=.pointer (some ⟨g',0,none⟩)) (hr:tmps.getD r AP=v) (hB:Blk w g cs t) (hC:Blk w g' ds t') (hk:(P.underlying ty).map TypeDesc.isRow=some true) (hi:(P.info? ty).map (·.size)=some cs.size)
    (hk' :(P.underlying tz).map TypeDesc.isRow=some true) (hi' :(P.info? tz).map (·.size)=some ds.size):(results fn tmps).run P w=.ok (.tuple #[.agg cs,.agg ds,v]) w:=by
  cases hu:P.underlying ty with
  |none=>simp[hu] at hk
  |some d=>
    cases hu' :P.underlying tz with
    |none=>simp[hu'] at hk'
    |some d' =>
      have hd:d.isRow=true:=by simpa[hu] using hk
      have hd' :d'.isRow=true:=by simpa[hu'] using hk'
      have hp' :tmps[p]?.getD AP=.pointer (some ⟨g,0,none⟩):=by simpa using hp
      have hq' :tmps[q]?.getD AP=.pointer (some ⟨g',0,none⟩):=by simpa using hq
      have hr' :tmps[r]?.getD AP=v:=by simpa using hr
      simp[results,h,hp',hq',hr',asAddr,run_loadVar_row w g t ty cs _ d hB hu (by cases d<;>simp_all [TypeDesc.isRow]) hi,run_loadVar_row w g' t' tz ds _ d' hC hu' (by cases d' <;>simp_all [TypeDesc.isRow]) hi']

theorem K0j (hc:kn.c){V:Nat}(hV:V<2^256)(hok:dOk V=false):
  ∀w,GA kn w→Az Tryz.prog 49 #[.agg (J0 .u8 32 (J2 V))] w fun e w' =>V5 (.tuple #[.agg (p4 0 0 0 0),.int .i64 15]) w w' e:=by
 have dc:=Q26 (kn:=kn) hc (V:=V) hV hok;intro w hG;have hS:=SH.nil [] w
 go_enter Tryz.func49,Tryz.ntmps49
 go_upto_region 0 with fail;refine RL hS ?_;clear hS;refine MN (z:=J0 .u8 32 (J2 V)) (t:=23) ?_;intro U0;refine MN (z:=p4 0 0 0 0) (t:=140) ?_;intro G;refine W0 ?_;refine MZ fun W hS=> ?_;go_upto_region 1 with fail;refine RL hS ?_;clear hS;refine ML 1 ?_;refine MC (v:=.tuple #[.agg (p4 0 0 0 0),.int .i64 15]) (fun W hS=>dc W (GA_ext hG hS.ext).1) ?_;refine MV ?_;refine MV ?_;refine MW ?_ (v:=.int .i64 15);refine MN (z:=p4 0 0 0 0) (t:=140) ?_;intro D;refine MR 0 ?_;refine MW ?_ (v:=.int .i64 15);refine MZ fun W hS=> ?_;go_upto_region 2 with fail;refine RL hS ?_;clear hS;refine MW ?_ (v:=.int .i64 15);refine Wf ?_;refine Wf ?_;(iterate 4 refine MS ?_);refine Wf ?_;refine MZ fun W hS=> ?_;go_upto_region 4 with fail;refine RL hS ?_;clear hS;refine ML 0 ?_;refine MW ?_ (v:=.int .i64 15);refine MR 1 ?_;refine MW ?_ (v:=.int .i64 15);refine MZ fun W hS=> ?_;go_wp2;exact BC (Y7 rfl rfl rfl (hS.blk (i:=1) rfl) (by kernel_rfl) (by kernel_rfl)) rfl ⟨rfl,hS.ext⟩
theorem K0k (hc:kn.c){V:Nat}(hV:V<2^256)(hok:dOk V=true)(h8:pm (dPt V) 8=p0):
  ∃X Y T,RN X Y 1 T (dPt V)∧∀w,GA kn w→Az Tryz.prog 49 #[.agg (J0 .u8 32 (J2 V))] w fun e w' =>V5 (.tuple #[.agg (p4 X Y 1 T),.int .i64 15]) w w' e:=by
 obtain⟨dx,dt,dr,dc⟩:=J8g hc (V:=V) hV hok;obtain⟨y0,G⟩:=exn (V % 2^255);rw[←G] at dr dc;clear G;obtain⟨x1,y2,z3,t4,r5,c6⟩:=J6z (kn:=kn) dr.rw;have D:=Q14 (kn:=kn) r5.rw J9a;rw[decide_eq_true h8] at D;refine⟨dx,y0,dt,dr,fun w hG=> ?_⟩;have hS:=SH.nil [] w
 go_enter Tryz.func49,Tryz.ntmps49
 go_upto_region 0 with fail;refine RL hS ?_;clear hS;refine MN (z:=J0 .u8 32 (J2 V)) (t:=23) ?_;intro U0;refine MN (z:=p4 0 0 0 0) (t:=140) ?_;intro M;refine W0 ?_;refine MZ fun W hS=> ?_;go_upto_region 1 with fail;refine RL hS ?_;clear hS;refine ML 1 ?_;refine MC (v:=.tuple #[.agg (p4 dx y0 1 dt),.int .i64 0]) (fun W hS=>dc W (GA_ext hG hS.ext).1) ?_;refine MV ?_;refine MV ?_;refine W0 ?_;refine MN (z:=p4 0 0 0 0) (t:=140) ?_;intro J;refine MR 0 ?_;refine W0 ?_;refine MZ fun W hS=> ?_;go_upto_region 2 with fail;refine RL hS ?_;clear hS;refine W0 ?_;refine Wt ?_;refine Wt ?_;refine ML 0 ?_;refine MC (v:=.agg (p4 x1 y2 z3 t4)) (fun W hS=>c6 W (GA_ext hG hS.ext).1) ?_;refine MW ?_ (v:=.agg (p4 0 0 0 0)) (hv:=by intro W;kernel_rfl);refine MC (v:=.bool true) (fun W hS=>D W (GA_ext hG hS.ext).1) ?_;refine Wt ?_;refine MZ fun W hS=> ?_;go_upto_region 4 with fail;refine RL hS ?_;clear hS;refine ML 0 ?_;refine MW ?_ (v:=.int .i64 15);refine MR 1 ?_;refine MW ?_ (v:=.int .i64 15);refine MZ fun W hS=> ?_;go_wp2;exact BC (Y7 rfl rfl rfl (hS.blk (i:=1) rfl) (by kernel_rfl) (by kernel_rfl)) rfl ⟨rfl,hS.ext⟩
theorem Z0q (hc:kn.c){V:Nat}(hV:V<2^256)(hok:dOk V=true)(h8:¬pm (dPt V) 8=p0):
  ∃X Y T,RN X Y 1 T (dPt V)∧∀w,GA kn w→Az Tryz.prog 49 #[.agg (J0 .u8 32 (J2 V))] w fun e w' =>V5 (.tuple #[.agg (p4 X Y 1 T),.int .i64 0]) w w' e:=by
 obtain⟨dx,dt,dr,dc⟩:=J8g hc (V:=V) hV hok;obtain⟨y0,G⟩:=exn (V % 2^255);rw[←G] at dr dc;clear G;obtain⟨x1,y2,z3,t4,r5,c6⟩:=J6z (kn:=kn) dr.rw;have D:=Q14 (kn:=kn) r5.rw J9a;rw[decide_eq_false h8] at D;refine⟨dx,y0,dt,dr,fun w hG=> ?_⟩;have hS:=SH.nil [] w
 go_enter Tryz.func49,Tryz.ntmps49
 go_upto_region 0 with fail;refine RL hS ?_;clear hS;refine MN (z:=J0 .u8 32 (J2 V)) (t:=23) ?_;intro U0;refine MN (z:=p4 0 0 0 0) (t:=140) ?_;intro M;refine W0 ?_;refine MZ fun W hS=> ?_;go_upto_region 1 with fail;refine RL hS ?_;clear hS;refine ML 1 ?_;refine MC (v:=.tuple #[.agg (p4 dx y0 1 dt),.int .i64 0]) (fun W hS=>dc W (GA_ext hG hS.ext).1) ?_;refine MV ?_;refine MV ?_;refine W0 ?_;refine MN (z:=p4 0 0 0 0) (t:=140) ?_;intro J;refine MR 0 ?_;refine W0 ?_;refine MZ fun W hS=> ?_;go_upto_region 2 with fail;refine RL hS ?_;clear hS;refine W0 ?_;refine Wt ?_;refine Wt ?_;refine ML 0 ?_;refine MC (v:=.agg (p4 x1 y2 z3 t4)) (fun W hS=>c6 W (GA_ext hG hS.ext).1) ?_;refine MW ?_ (v:=.agg (p4 0 0 0 0)) (hv:=by intro W;kernel_rfl);refine MC (v:=.bool false) (fun W hS=>D W (GA_ext hG hS.ext).1) ?_;refine Wf ?_;refine MZ fun W hS=> ?_;go_upto_region 4 with fail;refine RL hS ?_;clear hS;refine ML 0 ?_;refine W0 ?_;refine MR 1 ?_;refine W0 ?_;refine MZ fun W hS=> ?_;go_wp2;exact BC (Y7 rfl rfl rfl (hS.blk (i:=1) rfl) (by kernel_rfl) (by kernel_rfl)) rfl ⟨rfl,hS.ext⟩
theorem Y7f (hc:kn.c){P:Nat}(hP:B80 P)(hok:dOk (pG P)=false)(h1:LL≤pN P):
  ∀w,GA kn w→Az Tryz.prog 50 #[.agg (J0 .u8 80 (J2 P))] w fun e w' =>V5 (.tuple #[.agg (p4 0 0 0 0),.agg (c4 0),.int .i64 17]) w w' e:=by
 have dc:=Q26 (kn:=kn) hc (V:=(pG P)) (Q6s P) hok;intro w hG;have hS:=SH.nil [] w
 go_enter Tryz.func50,Tryz.ntmps50
 go_upto_region 0 with fail;refine RL hS ?_;clear hS;refine MN (z:=J0 .u8 80 (J2 P)) (t:=36) ?_;intro U0;refine MN (z:=p4 0 0 0 0) (t:=140) ?_;intro J;refine MN (z:=c4 0) (t:=143) ?_;intro G;refine W0 ?_;refine MZ fun W hS=> ?_;go_upto_region 1 with fail;refine RL hS ?_;clear hS;refine MW ?_ (v:=.slice (some ⟨U0,0,none⟩) 32 80);refine MW ?_ (v:=.pointer (some ⟨U0,0,none⟩)) (hv:=by intro W;first|rfl|(go_simp;done)|(go_simp;with_reducible rfl));refine Ml 2 Z86 ?_;refine MC (v:=.tuple #[.agg (p4 0 0 0 0),.int .i64 15]) (fun W hS=>dc W (GA_ext hG hS.ext).1) ?_;refine MV ?_;refine MV ?_;refine MW ?_ (v:=.int .i64 15);refine MN (z:=p4 0 0 0 0) (t:=140) ?_;intro D;refine MR 0 ?_;refine MW ?_ (v:=.int .i64 15);refine MZ fun W hS=> ?_;go_upto_region 2 with fail;refine RL hS ?_;clear hS;refine MW ?_ (v:=.slice (some ⟨U0,48,none⟩) 32 32);refine MW ?_ (v:=.pointer (some ⟨U0,48,none⟩)) (hv:=by intro W;first|rfl|(go_simp;done)|(go_simp;with_reducible rfl));refine Ml 3 Y7e ?_;refine MC (v:=.tuple #[.agg (c4 0),.bool false]) (fun W hS=>Z0n h1 hP W (GA_ext hG hS.ext).2.2.1) ?_;refine MV ?_;refine MV ?_;refine Wf ?_;refine MN (z:=c4 0) (t:=143) ?_;intro M;refine MR 0 ?_;refine Wf ?_;refine MZ fun W hS=> ?_;go_upto_region 4 with fail;refine RL hS ?_;clear hS;refine MW ?_ (v:=.agg (p4 0 0 0 0)) (hv:=by intro W;kernel_rfl);refine MW ?_ (v:=.agg (c4 0)) (hv:=by intro W;kernel_rfl);refine MR 3 ?_;refine MR 2 ?_;refine MW ?_ (v:=.int .i64 17);refine MZ fun W hS=> ?_;go_wp2;exact BC (J9c rfl rfl rfl rfl (hS.blk (i:=3) rfl) (hS.blk (i:=2) rfl) (by kernel_rfl) (by kernel_rfl) (by kernel_rfl) (by kernel_rfl)) rfl ⟨rfl,hS.ext⟩
theorem Y7g (hc:kn.c){P:Nat}(hP:B80 P)(hok:dOk (pG P)=false)(h1:pN P<LL):
  ∀w,GA kn w→Az Tryz.prog 50 #[.agg (J0 .u8 80 (J2 P))] w fun e w' =>V5 (.tuple #[.agg (p4 0 0 0 0),.agg (c4 0),.int .i64 17]) w w' e:=by
 have dc:=Q26 (kn:=kn) hc (V:=(pG P)) (Q6s P) hok;intro w hG;have hS:=SH.nil [] w
 go_enter Tryz.func50,Tryz.ntmps50
 go_upto_region 0 with fail;refine RL hS ?_;clear hS;refine MN (z:=J0 .u8 80 (J2 P)) (t:=36) ?_;intro U0;refine MN (z:=p4 0 0 0 0) (t:=140) ?_;intro J;refine MN (z:=c4 0) (t:=143) ?_;intro G;refine W0 ?_;refine MZ fun W hS=> ?_;go_upto_region 1 with fail;refine RL hS ?_;clear hS;refine MW ?_ (v:=.slice (some ⟨U0,0,none⟩) 32 80);refine MW ?_ (v:=.pointer (some ⟨U0,0,none⟩)) (hv:=by intro W;first|rfl|(go_simp;done)|(go_simp;with_reducible rfl));refine Ml 2 Z86 ?_;refine MC (v:=.tuple #[.agg (p4 0 0 0 0),.int .i64 15]) (fun W hS=>dc W (GA_ext hG hS.ext).1) ?_;refine MV ?_;refine MV ?_;refine MW ?_ (v:=.int .i64 15);refine MN (z:=p4 0 0 0 0) (t:=140) ?_;intro D;refine MR 0 ?_;refine MW ?_ (v:=.int .i64 15);refine MZ fun W hS=> ?_;go_upto_region 2 with fail;refine RL hS ?_;clear hS;refine MW ?_ (v:=.slice (some ⟨U0,48,none⟩) 32 32);refine MW ?_ (v:=.pointer (some ⟨U0,48,none⟩)) (hv:=by intro W;first|rfl|(go_simp;done)|(go_simp;with_reducible rfl));refine Ml 3 Y7e ?_;refine MC (v:=.tuple #[.agg (c4 (pN P)),.bool true]) (fun W hS=>Z0m h1 W (GA_ext hG hS.ext).2.2.1) ?_;refine MV ?_;refine MV ?_;refine Wt ?_;refine MN (z:=c4 0) (t:=143) ?_;intro M;refine MR 0 ?_;refine Wt ?_;refine MZ fun W hS=> ?_;go_upto_region 4 with fail;refine RL hS ?_;clear hS;refine MW ?_ (v:=.agg (p4 0 0 0 0)) (hv:=by intro W;kernel_rfl);refine MW ?_ (v:=.agg (c4 0)) (hv:=by intro W;kernel_rfl);refine MR 3 ?_;refine MR 2 ?_;refine MW ?_ (v:=.int .i64 17);refine MZ fun W hS=> ?_;go_wp2;exact BC (J9c rfl rfl rfl rfl (hS.blk (i:=3) rfl) (hS.blk (i:=2) rfl) (by kernel_rfl) (by kernel_rfl) (by kernel_rfl) (by kernel_rfl)) rfl ⟨rfl,hS.ext⟩
theorem Y7h (hc:kn.c){P:Nat}(hP:B80 P)(hok:dOk (pG P)=true)(h1:LL≤pN P):
  ∀w,GA kn w→Az Tryz.prog 50 #[.agg (J0 .u8 80 (J2 P))] w fun e w' =>V5 (.tuple #[.agg (p4 0 0 0 0),.agg (c4 0),.int .i64 17]) w w' e:=by
 obtain⟨dx,dt,dr,dc⟩:=J8g hc (V:=(pG P)) (Q6s P) hok;obtain⟨y0,D⟩:=exn ((pG P) % 2^255);rw[←D] at dr dc;clear D;intro w hG;have hS:=SH.nil [] w
 go_enter Tryz.func50,Tryz.ntmps50
 go_upto_region 0 with fail;refine RL hS ?_;clear hS;refine MN (z:=J0 .u8 80 (J2 P)) (t:=36) ?_;intro U0;refine MN (z:=p4 0 0 0 0) (t:=140) ?_;intro M;refine MN (z:=c4 0) (t:=143) ?_;intro J;refine W0 ?_;refine MZ fun W hS=> ?_;go_upto_region 1 with fail;refine RL hS ?_;clear hS;refine MW ?_ (v:=.slice (some ⟨U0,0,none⟩) 32 80);refine MW ?_ (v:=.pointer (some ⟨U0,0,none⟩)) (hv:=by intro W;first|rfl|(go_simp;done)|(go_simp;with_reducible rfl));refine Ml 2 Z86 ?_;refine MC (v:=.tuple #[.agg (p4 dx y0 1 dt),.int .i64 0]) (fun W hS=>dc W (GA_ext hG hS.ext).1) ?_;refine MV ?_;refine MV ?_;refine W0 ?_;refine MN (z:=p4 0 0 0 0) (t:=140) ?_;intro G;refine MR 0 ?_;refine W0 ?_;refine MZ fun W hS=> ?_;go_upto_region 2 with fail;refine RL hS ?_;clear hS;refine MW ?_ (v:=.slice (some ⟨U0,48,none⟩) 32 32);refine MW ?_ (v:=.pointer (some ⟨U0,48,none⟩)) (hv:=by intro W;first|rfl|(go_simp;done)|(go_simp;with_reducible rfl));refine Ml 3 Y7e ?_;refine MC (v:=.tuple #[.agg (c4 0),.bool false]) (fun W hS=>Z0n h1 hP W (GA_ext hG hS.ext).2.2.1) ?_;refine MV ?_;refine MV ?_;refine Wf ?_;refine MN (z:=c4 0) (t:=143) ?_;intro N;refine MR 0 ?_;refine Wf ?_;refine MZ fun W hS=> ?_;go_upto_region 4 with fail;refine RL hS ?_;clear hS;refine MW ?_ (v:=.agg (p4 0 0 0 0)) (hv:=by intro W;kernel_rfl);refine MW ?_ (v:=.agg (c4 0)) (hv:=by intro W;kernel_rfl);refine MR 3 ?_;refine MR 2 ?_;refine MW ?_ (v:=.int .i64 17);refine MZ fun W hS=> ?_;go_wp2;exact BC (J9c rfl rfl rfl rfl (hS.blk (i:=3) rfl) (hS.blk (i:=2) rfl) (by kernel_rfl) (by kernel_rfl) (by kernel_rfl) (by kernel_rfl)) rfl ⟨rfl,hS.ext⟩
theorem Z6d (hc:kn.c){P:Nat}(hP:B80 P)(hok:dOk (pG P)=true)(h1:pN P<LL):
  ∃X Y T,RN X Y 1 T (dPt (pG P))∧∀w,GA kn w→Az Tryz.prog 50 #[.agg (J0 .u8 80 (J2 P))] w fun e w' =>V5 (.tuple #[.agg (p4 X Y 1 T),.agg (c4 (pN P)),.int .i64 0]) w w' e:=by
 obtain⟨dx,dt,dr,dc⟩:=J8g hc (V:=(pG P)) (Q6s P) hok;obtain⟨y0,D⟩:=exn ((pG P) % 2^255);rw[←D] at dr dc;clear D;refine⟨dx,y0,dt,dr,fun w hG=> ?_⟩;have hS:=SH.nil [] w
 go_enter Tryz.func50,Tryz.ntmps50
 go_upto_region 0 with fail;refine RL hS ?_;clear hS;refine MN (z:=J0 .u8 80 (J2 P)) (t:=36) ?_;intro U0;refine MN (z:=p4 0 0 0 0) (t:=140) ?_;intro M;refine MN (z:=c4 0) (t:=143) ?_;intro J;refine W0 ?_;refine MZ fun W hS=> ?_;go_upto_region 1 with fail;refine RL hS ?_;clear hS;refine MW ?_ (v:=.slice (some ⟨U0,0,none⟩) 32 80);refine MW ?_ (v:=.pointer (some ⟨U0,0,none⟩)) (hv:=by intro W;first|rfl|(go_simp;done)|(go_simp;with_reducible rfl));refine Ml 2 Z86 ?_;refine MC (v:=.tuple #[.agg (p4 dx y0 1 dt),.int .i64 0]) (fun W hS=>dc W (GA_ext hG hS.ext).1) ?_;refine MV ?_;refine MV ?_;refine W0 ?_;refine MN (z:=p4 0 0 0 0) (t:=140) ?_;intro G;refine MR 0 ?_;refine W0 ?_;refine MZ fun W hS=> ?_;go_upto_region 2 with fail;refine RL hS ?_;clear hS;refine MW ?_ (v:=.slice (some ⟨U0,48,none⟩) 32 32);refine MW ?_ (v:=.pointer (some ⟨U0,48,none⟩)) (hv:=by intro W;first|rfl|(go_simp;done)|(go_simp;with_reducible rfl));refine Ml 3 Y7e ?_;refine MC (v:=.tuple #[.agg (c4 (pN P)),.bool true]) (fun W hS=>Z0m h1 W (GA_ext hG hS.ext).2.2.1) ?_;refine MV ?_;refine MV ?_;refine Wt ?_;refine MN (z:=c4 0) (t:=143) ?_;intro N;refine MR 0 ?_;refine Wt ?_;refine MZ fun W hS=> ?_;go_upto_region 5 with fail;refine RTp [0,1,4] (.q 0 (.q 1 (.e 2 (.e 3 (.q 4 .z))))) hS ?_;clear hS;refine TL 1 ?_;refine TL 0 ?_;refine TE (fun _ h=>h.pick [0,1,4]) ?_;refine MR 3 ?_;refine Y6 [0,1,4] [0,1,2] ?_;refine TE (fun _ h=>h.pick [0,1,4]) ?_;refine MR 2 ?_;refine Y6 [0,1,4] [0,1,2] ?_;refine T0 ?_;refine TZ (fun _ h=>h.pick [0,1,4]) fun W hS=> ?_;go_wp2;exact BC (J9c rfl rfl rfl rfl (hS.blk (i:=3) rfl) (hS.blk (i:=2) rfl) (by kernel_rfl) (by kernel_rfl) (by kernel_rfl) (by kernel_rfl)) rfl ⟨rfl,hS.ext⟩
theorem V57 (hc:kn.c){P:Nat}(hok:dOk (pG P)=false):
  ∀w,GA kn w→Az Tryz.prog 59 #[.agg (J0 .u8 80 (J2 P))] w fun e w' =>V5 (.tuple #[.agg (J0 .u8 64 (J2 0)),.int .i64 17]) w w' e:=by
 have dc:=Q26 (kn:=kn) hc (V:=(pG P)) (Q6s P) hok;intro w hG;have hS:=SH.nil [] w
 go_enter Tryz.func59,Tryz.ntmps59
 go_upto_region 0 with fail;refine RL hS ?_;clear hS;refine MN (z:=J0 .u8 80 (J2 P)) (t:=36) ?_;intro U0;refine MN (z:=J0 .u8 64 (J2 0)) (t:=67) ?_;intro G;refine W0 ?_;refine MZ fun W hS=> ?_;go_upto_region 1 with fail;refine RL hS ?_;clear hS;refine MW ?_ (v:=.slice (some ⟨U0,0,none⟩) 32 80);refine MW ?_ (v:=.pointer (some ⟨U0,0,none⟩)) (hv:=by intro W;first|rfl|(go_simp;done)|(go_simp;with_reducible rfl));refine Ml 1 Z86 ?_;refine MC (v:=.tuple #[.agg (p4 0 0 0 0),.int .i64 15]) (fun W hS=>dc W (GA_ext hG hS.ext).1) ?_;refine MV ?_;refine MV ?_;refine MW ?_ (v:=.int .i64 15);refine MN (z:=p4 0 0 0 0) (t:=140) ?_;intro D;refine MR 0 ?_;refine MW ?_ (v:=.int .i64 15);refine MZ fun W hS=> ?_;go_upto_region 3 with fail;refine RL hS ?_;clear hS;refine MW ?_ (v:=.agg (J0 .u8 64 (J2 0))) (hv:=by intro W;kernel_rfl);refine MR 1 ?_;refine MW ?_ (v:=.int .i64 17);refine MZ fun W hS=> ?_;go_wp2;exact BC (Y7 rfl rfl rfl (hS.blk (i:=1) rfl) (by kernel_rfl) (by rw[J1];kernel_rfl)) rfl ⟨rfl,hS.ext⟩
theorem Y37 (hc:kn.c){P X:Nat}(hok:dOk (pG P)=true)(hX:X=vSum P):
  ∀w,GA kn w→Az Tryz.prog 59 #[.agg (J0 .u8 80 (J2 P))] w fun e w' =>V5 (.tuple #[.agg (J0 .u8 64 (J2 X)),.int .i64 0]) w w' e:=by
 obtain⟨dx,dt,dr,dc⟩:=J8g hc (V:=(pG P)) (Q6s P) hok;obtain⟨y0,N⟩:=exn ((pG P) % 2^255);rw[←N] at dr dc;clear N;obtain⟨x1,y2,z3,t4,r5,c6⟩:=J6z (kn:=kn) dr.rw;obtain⟨U1,D⟩:=exn (enc (pm (dPt (pG P)) 8));have U:U1<2^256:=by rw[D];exact J8k _
 have S:=Lib.hid D;clear D;obtain⟨U2,J⟩:=exh (hs ([3,3]++(lb 32 U1)++[0]));intro w hG;have hS:=SH.nil [] w
 go_enter Tryz.func59,Tryz.ntmps59
 go_upto_region 0 with fail;refine RL hS ?_;clear hS;refine MN (z:=J0 .u8 80 (J2 P)) (t:=36) ?_;intro U0;refine MN (z:=J0 .u8 64 (J2 0)) (t:=67) ?_;intro Z;refine W0 ?_;refine MZ fun W hS=> ?_;go_upto_region 1 with fail;refine RL hS ?_;clear hS;refine MW ?_ (v:=.slice (some ⟨U0,0,none⟩) 32 80);refine MW ?_ (v:=.pointer (some ⟨U0,0,none⟩)) (hv:=by intro W;first|rfl|(go_simp;done)|(go_simp;with_reducible rfl));refine Ml 1 Z86 ?_;refine MC (v:=.tuple #[.agg (p4 dx y0 1 dt),.int .i64 0]) (fun W hS=>dc W (GA_ext hG hS.ext).1) ?_;refine MV ?_;refine MV ?_;refine W0 ?_;refine MN (z:=p4 0 0 0 0) (t:=140) ?_;intro Y;refine MR 0 ?_;refine W0 ?_;refine MZ fun W hS=> ?_;go_upto_region 4 with fail;refine RL hS ?_;clear hS;refine ML 0 ?_;refine MC (v:=.agg (p4 x1 y2 z3 t4)) (fun W hS=>c6 W (GA_ext hG hS.ext).1) ?_;refine MC (v:=.agg (J0 .u8 32 (J2 U1))) (fun W hS=>Q59 r5.rw S.out W (GA_ext hG hS.ext).1) ?_;refine MN (z:=J0 .u8 32 (J2 0)) (t:=23) ?_;intro G;refine MR 0 ?_;refine MZ fun W hS=> ?_;go_upto_region 5 with fail;refine RL hS ?_;clear hS;refine MO (m:=[3,3]) (n:=2) (z:= #[.int .u8 3,.int .u8 3]) ?_;intro R;refine MW ?_ (v:=.slice (some ⟨G,0,none⟩) 32 32);refine MO (m:=[0]) (n:=1) (z:= #[.int .u8 0]) ?_;intro M;refine MB (z:= #[R,.slice (some ⟨G,0,none⟩) 32 32,M]) (t:=22) (n:=3) (c:=3) ?_ (hr:=fun W hS=>Y0 [R,.slice (some ⟨G,0,none⟩) 32 32,M] rfl rfl (vsc (J6 (hS.osl (i:=1) rfl)).1 (vsc (J6 (Q7 (V:=U1) (n:=32) (off:=0) (c:=32) (hS.blk (i:=2) rfl) ap0 (by decide) (by decide))).1 (vsc (J6 (hS.osl (i:=0) rfl)).1 vs0))) Tryz.underlying155 (by kernel_rfl) (by kernel_rfl) rfl (by decide) (by decide));intro T;refine MC (v:=.agg (J0 .u8 64 (J2 U2))) (fun W hS=>J7m J.out [[3,3],lb 32 U1,[0]] (some ⟨T,0,none⟩) 3 (by simp only[List.flatten_cons,List.flatten_nil,List.append_nil,List.nil_append,List.append_assoc,List.cons_append]) (by first|omega|(simp only[List.length_append,List.length_cons,List.length_nil,J7];omega)) (by simp) W (J0c (hS.blk (i:=0) rfl) (pvc (hS.osl (i:=2) rfl) (pvc (Q7 (V:=U1) (n:=32) (off:=0) (c:=32) (hS.blk (i:=3) rfl) ap0 (by decide) (by decide)) (pvc (hS.osl (i:=1) rfl) pv0)))) (GA_ext hG hS.ext).2.1) ?_;refine MR 5 ?_;refine W0 ?_;refine MZ fun W hS=> ?_;go_wp2;rw[hX,show vSum P=U2 by rw[J.out,S.out];rfl];exact BC (Y7 rfl rfl rfl (hS.blk (i:=5) rfl) (by kernel_rfl) (by rw[J1];kernel_rfl)) rfl ⟨rfl,hS.ext⟩
theorem index_c {X:Nat}(w:AA):
  Az Tryz.prog 23 #[.agg (J0 .u8 64 (J2 X))] w fun e w' =>V5 (.agg (J0 .u8 32 (J2 (lo X)))) w w' e:=by
 have hS:=SH.nil [] w
 go_enter Tryz.func23,Tryz.ntmps23
 go_upto_region 0 with fail;refine RL hS ?_;clear hS;refine MN (z:=J0 .u8 64 (J2 X)) (t:=67) ?_;intro U0;refine MN (z:=J0 .u8 32 (J2 0)) (t:=23) ?_;intro D;refine MZ fun W hS=> ?_;go_upto_region 1 with fail;refine RL hS ?_;clear hS;refine MW ?_ (v:=.slice (some ⟨U0,0,none⟩) 32 64);refine MW ?_ (v:=.pointer (some ⟨U0,0,none⟩)) (hv:=by intro W;first|rfl|(go_simp;done)|(go_simp;with_reducible rfl));refine Ml 1 Z32 ?_;refine MR 0 ?_;refine MZ fun W hS=> ?_;go_wp2;exact BC (Z6 rfl rfl (hS.blk (i:=0) rfl) (by kernel_rfl) (by rw[J1];kernel_rfl)) rfl ⟨rfl,hS.ext⟩
end
end Go.Proofs.YtpljgkofbfeelaaGreatDoor.S8

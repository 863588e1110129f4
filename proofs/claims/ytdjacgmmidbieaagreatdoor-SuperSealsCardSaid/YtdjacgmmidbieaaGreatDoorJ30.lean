/- Contracts and plain laws for superSeals_holds. Conditions: the tables hold their numbers. -/
import Derived.Test.YtdjacgmmidbieaaGreatDoorJ29
open Go renaming World->AA,Value->AB,bodyPost_ret->BH,Calls->BI,IntKind->AI
open _root_.List renaming length_append->Ao,getElem?_eq_getElem->Aj,getElem?_map->Bd,length_map->Bc,mem_of_getElem?->Az
open Go.RowKit
set_option maxRecDepth 100000
set_option linter.unusedSimpArgs false
set_option linter.unusedVariables false
namespace Go.Proofs.YtdjacgmmidbieaaGreatDoor
section
set_option maxHeartbeats 3000000
attribute [local irreducible] wpList K1 wpX
open S8 (sig)
theorem V27 {ms:List Mb}:rs (can 256 (J3o (ms.map mkL)) 0)=rs (ovT ms):=by rw[←Y4z (Y1g ms)]
attribute [local irreducible] eI be8 hs4 lb kTx vTx sTx eS rs ofT sE sL sN nN pkf hfn

theorem Q5v {xs:List Nat}{v:AB}(hn:xs.length≤1000000)(w:AA)(hp:RR 32 w v (xs.map X4)):
  BI Tryz.prog 25 #[v] w fun e w' => ∃u,e=.returned u∧SH [] w w' [.r 9 1 u (xs.map J3g)]:=by
 obtain⟨Ap,cp,rfl,S,R⟩:=RR.opf hp;have hS:=SH.nil [] w
 go_enter Tryz.func25,Tryz.ntmps25
 go_upto_region 1 with fail;refine RL hS ?_;clear hS;refine MB0 (t:=9) (n:=1) ?_;intro U;refine MV ?_;refine MZ fun W hS=> ?_
 go_wp2_with fail
 go_loopw [3,4] (fun uv ii wr=> ∃(i:Nat)(sv:AB),(i≤xs.length)∧(sv=uv)∧(ii=.int .i64 (i:Int))∧SH [] w wr [.r 9 1 sv (List.map J3g (List.take i xs))])
  (fun uv ii _=>xs.length-(intOf ii).toNat)
 case atStart=>exact⟨0,_,Nat.zero_le _,rfl,rfl,hS⟩
 clear hS
 case round=>
  obtain⟨i,sv,hi,rfl,rfl,hS⟩:=hrel
  by_cases D:i<xs.length
  ·
   obtain⟨x,xh⟩:∃x,xs[i]?=some x:=⟨_,Aj D⟩
   obtain⟨gp,op,G,N⟩:=R.out i x xh;have M:=Lib.hid G;clear G;go_upto_region 3 with fail;refine RL hS ?_;clear hS;(iterate 3 refine MV ?_);refine Wto ?_;refine MZ fun W hS=> ?_;go_upto_region 5 with fail;refine RL hS ?_;clear hS;(iterate 3 refine MV ?_);refine MW ?_ (v:=.pointer (some ⟨gp,op+i*32,none⟩)) (hv:=fun _=>Y7 M.out D rfl rfl rfl Tryz.underlying37 (by kernel_rfl));refine MW ?_ (v:=.slice (some ⟨gp,op+i*32,none⟩) 32 32);refine MF (v:=Z9 (lb 32 x)) (fun W hS=>J1j (Z86 (fun i_ v_ h_=>U0 (N i_ v_ h_) hS.ext)) rfl rfl) ?_;refine MB (z:= #[Z9 (lb 32 x)]) (t:=9) (n:=1) (c:=1) ?_ (hr:=fun W hS=>J0p [Z9 (lb 32 x)] rfl rfl (vsc rfl vs0) Tryz.underlying49 (by kernel_rfl) (by kernel_rfl) rfl (by decide) (by decide));intro T;refine MAr 1 0 (tS:=49) (bytes:=16) (es:=(List.map J3g (List.take i xs))) (by first|omega|(simp only[lA,lM,lT,lD,lC,lN,J2,Y0,Z3,Q7];omega)) (e:=([Z9 (lb 32 x)]:List AB)) ?_;intro J;refine MV ?_;refine MZ fun W hS=> ?_;go_wp2;go_roundw
   case rel=>exact⟨i+1,J,by omega,rfl,by go_num,(by rw[Q5x xh J3g];exact(hS.pick [1]))⟩
   case measure=>simp[intOf];omega
  obtain rfl:i=xs.length:=by omega
  rw[List.take_length] at hS;go_upto_region 3 with fail;refine RL hS ?_;clear hS;(iterate 3 refine MV ?_);refine Wfo ?_;refine MZ fun W hS=> ?_;go_wp2;exact BH (v:=sv) (by simp only[results,Tryz.results25];go_simp) rfl ⟨_,rfl,hS.pick [0]⟩
theorem Q9y {xs:List Nat}{u v:AB}(hn:xs.length≤1000000)(w:AA)(ha:RR 1 w u (xs.map J3g))(hb:RR 1 w v (xs.map J3g)):
  BI Tryz.prog 24 #[u,v] w fun e w' =>V4 (.bool true) w w' e:=by
 obtain⟨Aa,ca,rfl,X,M⟩:=RR.opf ha;obtain⟨Ab,cb,rfl,V,U⟩:=RR.opf hb;have hS:=SH.nil [] w
 go_enter Tryz.func24,Tryz.ntmps24
 go_upto_region 1 with fail;refine RL hS ?_;clear hS;(iterate 4 refine MV ?_);refine Wfo ?_;refine MZ fun W hS=> ?_
 go_wp2_with fail
 go_loopw [5] (fun ii wr=> ∃(i:Nat),(i≤xs.length)∧(ii=.int .i64 (i:Int))∧SH [] w wr [])
  (fun ii _=>xs.length-(intOf ii).toNat)
 case atStart=>exact⟨0,Nat.zero_le _,rfl,hS⟩
 clear hS
 case round=>
  obtain⟨i,hi,rfl,hS⟩:=hrel
  by_cases D:i<xs.length
  ·
   obtain⟨x,xh⟩:∃x,xs[i]?=some x:=⟨_,Aj D⟩
   obtain⟨ga,oa,J,S⟩:=M.out i x xh;have R:=Lib.hid J;clear J;obtain⟨gb,ob,G,T⟩:=U.out i x xh;have N:=Lib.hid G;clear G;go_upto_region 4 with fail;refine RL hS ?_;clear hS;(iterate 3 refine MV ?_);refine Wto ?_;refine MZ fun W hS=> ?_;go_upto_region 6 with fail;refine RTh (.q 0 (.q 1 (.q 2 (.q 3 (.q 4 (.q 5 (.q 6 (.q 7 (.q 8 .z))))))))) hS ?_;clear hS;refine TV ?_;refine TV ?_;refine TW ?_ (v:=.pointer (some ⟨ga,oa+i*1,none⟩)) (hv:=fun _=>Y7 R.out D rfl rfl rfl Tryz.underlying49 (by kernel_rfl));refine TF (v:=Z9 (lb 32 x)) rfl (fun W hS=>V6 rfl rfl (U0 (S 0 _ rfl) hS.ext) (by kernel_rfl)) ?_;refine TV ?_;refine TV ?_;refine TW ?_ (v:=.pointer (some ⟨gb,ob+i*1,none⟩)) (hv:=fun _=>Y7 N.out D rfl rfl rfl Tryz.underlying49 (by kernel_rfl));refine TF (v:=Z9 (lb 32 x)) rfl (fun W hS=>V6 rfl rfl (U0 (T 0 _ rfl) hS.ext) (by kernel_rfl)) ?_;refine TW ?_ (v:=.bool false) (hv:=fun _=>J57 (l:=(lb 32 x)) (m:=(lb 32 x)) (b:=true) (decide_eq_true rfl) rfl rfl rfl);refine TZ (fun _ h=>h) fun W hS=> ?_;go_wp2;go_roundw
   case rel=>exact⟨i+1,by omega,by go_num,hS⟩
   case measure=>simp[intOf];omega
  go_upto_region 4 with fail;refine RL hS ?_;clear hS;(iterate 3 refine MV ?_);refine Wfo ?_;refine MZ fun W hS=> ?_;go_wp2;exact BH (v:=.bool true) (by simp only[results,Tryz.results24];go_simp) rfl ⟨rfl,hS.ext⟩
theorem Y59 {q:Prop}(hr:q){ms:List Mb}{v:AB}(hn:ms.length≤1000)(w:AA)(hG:GT q w)(hp:RR 4 w v (ms.map rmC))(hk:∀y∈ms,y.id.length≤100000000):
  BI Tryz.prog 16 #[v] w fun e w' =>V4 (Z9 (lb 32 (rs (ovT ms)))) w w' e:=by
 obtain⟨Ap,cp,rfl,G,M⟩:=RR.opf hp;have hS:=SH.nil [] w
 go_enter Tryz.func16,Tryz.ntmps16
 go_upto_region 1 with fail;refine RL hS ?_;clear hS;refine MV ?_;refine ME (fun W hS=>Z47 (ls:=J3o (ms.map mkL)) hS (Z6k hr hn W (Y5 hG hS.ext) (hp.ext hS.ext) hk) rfl) ?_;intro J;obtain⟨U1,D⟩:=exh (rs (ovT ms));refine MC (v:=Z9 (lb 32 U1)) (fun W hS=>(by rw[D.out,←V27];exact Z1n hr 256 0 rfl (Q43 (Y1g ms)).2 (Y7v _) (Nat.le_trans (Q5r (ms.map mkL)) (by rw[Bc];omega)) W (Y5 hG hS.ext) (hS.row (i:=0) rfl).rr)) ?_;refine MV ?_;refine MZ fun W hS=> ?_;go_wp2;exact BH (v:=Z9 (lb 32 U1)) (by simp only[results,Tryz.results16];go_simp) rfl ⟨by rw[D.out],hS.ext⟩
theorem Y5a {S r:Nat}{ep:Int}(w:AA)(hR:S8.GR w):
  BI Tryz.prog 17 #[Z9 (lb 32 S),.int .i64 ep,Z9 (lb 32 r)] w fun e w' =>V4 (Z9 (lb 64 (sig S (sTx ep r)))) w w' e:=by
 have hS:=SH.nil [] w
 go_enter Tryz.func17,Tryz.ntmps17
 go_upto_region 1 with fail;refine RL hS ?_;clear hS;(iterate 3 refine MV ?_);refine MC (v:=Z9 (sTx ep r)) (fun W hS=>Q7q ep r W) ?_;obtain⟨U1,D⟩:=exh (sig S (sTx ep r));refine MC (v:=Z9 (lb 64 U1)) (fun W hS=>S8.rsignN_c D.out [] (by rw[Q7];decide) W (S8.GR_ext hR hS.ext)) ?_;refine MV ?_;refine MZ fun W hS=> ?_;go_wp2;exact BH (v:=Z9 (lb 64 U1)) (by simp only[results,Tryz.results17];go_simp) rfl ⟨by rw[D.out],hS.ext⟩
end

section
set_option maxHeartbeats 3000000
attribute [local irreducible] wpList K1 wpX
theorem V6j {W:AA}{A:Option Addr}{n cp i g o:Nat}{xs:List Sg}{x:Sg}(h:RR 97 W (.slice A n cp) (xs.map sgC))(xh:xs[i]?=some x)(hA:A=some ⟨g,o,none⟩):∀(j:Nat) (v:AB),(sgF x)[j]?=some v→W.cell? ⟨g,o+i*97+j,none⟩=some v:=fun j v hv=>
 RR.cellat h (by rw[Bd,xh];rfl) hA j v (by unfold sgC;rw[←J64,Array.getElem?_toList];exact hv)
attribute [local irreducible] eI be8 hs4 lb kTx vTx sTx eS rs ofT sE sL sN nN pkf

theorem Y7y {p S i:Nat}{vt vl vs:AB}{xs:List Sg}{x:Sg}(hn:xs.length≤1000000)(xh:xs[i]?=some x)(w:AA)(hb:Blk w p (suF S vt vl vs) 74)(hl:RR 97 w vl (xs.map sgC)):
  BI Tryz.prog 6 #[.pointer (some ⟨p,0,none⟩),.int .i64 (i:Int)] w fun e w' =>V4 (.tuple #[.agg (sgF x),.int .i64 0]) w w' e:=by
 obtain⟨Ap,cp,rfl,N,D⟩:=RR.opf hl;have M:i<xs.length:=(List.getElem?_eq_some_iff.1 xh).1;obtain⟨gp,op,G,_⟩:=D.out i x xh;have J:=Lib.hid G;clear G D;have hS:=SH.nil [] w
 go_enter Tryz.func6,Tryz.ntmps6
 go_upto_region 0 with fail;refine RL hS ?_;clear hS;refine MN (z:=K4 [.c (.int .i64 0),.a 32 0,.a 64 0]) (t:=26) ?_;intro R;refine W0 ?_;refine MZ fun W hS=> ?_;go_upto_region 3 with fail;refine RL hS ?_;clear hS;refine MV ?_;refine Wfo ?_;refine Wf ?_;(iterate 4 refine MV ?_);refine MF (v:=(.slice Ap xs.length cp)) (fun W hS=>V6 rfl rfl (by rw[J5 (J3 hb hS.ext)];exact(V1 (off:=33) 2)) (by kernel_rfl)) ?_;refine MV ?_;refine Wfo ?_;refine Wf ?_;refine Wf ?_;refine MZ fun W hS=> ?_;go_upto_region 5 with fail;refine RL hS ?_;clear hS;(iterate 3 refine MV ?_);refine MF (v:=(.slice Ap xs.length cp)) (fun W hS=>V6 rfl rfl (by rw[J5 (J3 hb hS.ext)];exact(V1 (off:=33) 2)) (by kernel_rfl)) ?_;refine MV ?_;refine MW ?_ (v:=.pointer (some ⟨gp,op+i*97,none⟩)) (hv:=fun _=>Y7 J.out M rfl rfl rfl Tryz.underlying50 (by kernel_rfl));refine MF (v:=.agg (K4 [.c (.int .i64 x.ep),.a 32 x.ro,.a 64 x.sig])) (fun W hS=>V8 rfl rfl (fun i_ v hv=>(V6j (hl.ext hS.ext) xh J.out) i_ v (by simpa using hv)) (by kernel_rfl) (by rw[J7];kernel_rfl)) ?_;refine MRa 0 ?_ (h1:=by exact(K2 ⟨rfl,trivial⟩));refine W0 ?_;refine MZ fun W hS=> ?_;go_wp2;exact BH (J6n rfl rfl rfl (hS.blk (i:=0) rfl) (by kernel_rfl) (by kernel_rfl)) rfl ⟨rfl,hS.ext⟩
theorem Q7r {p S:Nat}{i:Int}{vt vl vs:AB}{xs:List Sg}(hn:xs.length≤1000000)(hi:i<0)(w:AA)(hb:Blk w p (suF S vt vl vs) 74)(hl:RR 97 w vl (xs.map sgC)):
  BI Tryz.prog 6 #[.pointer (some ⟨p,0,none⟩),.int .i64 i] w fun e w' =>V4 (.tuple #[.agg (sgF ⟨0,0,0⟩),.int .i64 10]) w w' e:=by
 obtain⟨Ap,cp,rfl,D,G⟩:=RR.opf hl;have hS:=SH.nil [] w
 go_enter Tryz.func6,Tryz.ntmps6
 go_upto_region 0 with fail;refine RL hS ?_;clear hS;refine MN (z:=K4 [.c (.int .i64 0),.a 32 0,.a 64 0]) (t:=26) ?_;intro J;refine W0 ?_;refine MZ fun W hS=> ?_;go_upto_region 3 with fail;refine RL hS ?_;clear hS;refine MV ?_;refine Wto ?_;refine Wt ?_;(iterate 7 refine MS ?_);refine Wto ?_;refine Wt ?_;refine MZ fun W hS=> ?_;go_upto_region 4 with fail;refine RL hS ?_;clear hS;refine MW ?_ (v:=.agg (K4 [.c (.int .i64 0),.a 32 0,.a 64 0])) (hv:=by intro W;kernel_rfl);refine MRa 0 ?_ (h1:=by exact(K2 ⟨rfl,trivial⟩));refine MW ?_ (v:=.int .i64 10);refine MZ fun W hS=> ?_;go_wp2;exact BH (J6n rfl rfl rfl (hS.blk (i:=0) rfl) (by kernel_rfl) (by kernel_rfl)) rfl ⟨rfl,hS.ext⟩
theorem Y1d {p S:Nat}{i:Int}{vt vl vs:AB}{xs:List Sg}(hn:xs.length≤1000000)(hi0:¬i<0)(hi:(xs.length:Int)≤i)(w:AA)(hb:Blk w p (suF S vt vl vs) 74)(hl:RR 97 w vl (xs.map sgC)):
  BI Tryz.prog 6 #[.pointer (some ⟨p,0,none⟩),.int .i64 i] w fun e w' =>V4 (.tuple #[.agg (sgF ⟨0,0,0⟩),.int .i64 10]) w w' e:=by
 obtain⟨Ap,cp,rfl,D,G⟩:=RR.opf hl;have hS:=SH.nil [] w
 go_enter Tryz.func6,Tryz.ntmps6
 go_upto_region 0 with fail;refine RL hS ?_;clear hS;refine MN (z:=K4 [.c (.int .i64 0),.a 32 0,.a 64 0]) (t:=26) ?_;intro J;refine W0 ?_;refine MZ fun W hS=> ?_;go_upto_region 3 with fail;refine RL hS ?_;clear hS;refine MV ?_;refine Wfo ?_;refine Wf ?_;(iterate 4 refine MV ?_);refine MF (v:=(.slice Ap xs.length cp)) (fun W hS=>V6 rfl rfl (by rw[J5 (J3 hb hS.ext)];exact(V1 (off:=33) 2)) (by kernel_rfl)) ?_;refine MV ?_;refine Wto ?_;refine Wt ?_;refine Wt ?_;refine MZ fun W hS=> ?_;go_upto_region 4 with fail;refine RL hS ?_;clear hS;refine MW ?_ (v:=.agg (K4 [.c (.int .i64 0),.a 32 0,.a 64 0])) (hv:=by intro W;kernel_rfl);refine MRa 0 ?_ (h1:=by exact(K2 ⟨rfl,trivial⟩));refine MW ?_ (v:=.int .i64 10);refine MZ fun W hS=> ?_;go_wp2;exact BH (J6n rfl rfl rfl (hS.blk (i:=0) rfl) (by kernel_rfl) (by kernel_rfl)) rfl ⟨rfl,hS.ext⟩
theorem Z4b (i:Int)(w:AA):
  BI Tryz.prog 6 #[.pointer none,.int .i64 i] w fun e w' =>V4 (.tuple #[.agg (sgF ⟨0,0,0⟩),.int .i64 1]) w w' e:=by
 have hS:=SH.nil [] w
 go_enter Tryz.func6,Tryz.ntmps6
 go_upto_region 0 with fail;refine RL hS ?_;clear hS;refine MN (z:=K4 [.c (.int .i64 0),.a 32 0,.a 64 0]) (t:=26) ?_;intro D;refine W0 ?_;refine MZ fun W hS=> ?_;go_upto_region 1 with fail;refine RL hS ?_;clear hS;refine MV ?_;refine Wto ?_;refine Wt ?_;refine MZ fun W hS=> ?_;go_upto_region 2 with fail;refine RL hS ?_;clear hS;refine MW ?_ (v:=.agg (K4 [.c (.int .i64 0),.a 32 0,.a 64 0])) (hv:=by intro W;kernel_rfl);refine MRa 0 ?_ (h1:=by exact(K2 ⟨rfl,trivial⟩));refine MW ?_ (v:=.int .i64 1);refine MZ fun W hS=> ?_;go_wp2;exact BH (J6n rfl rfl rfl (hS.blk (i:=0) rfl) (by kernel_rfl) (by kernel_rfl)) rfl ⟨rfl,hS.ext⟩
theorem Y5p {p S:Nat}{vt vl vs:AB}{xs:List Sg}{x:Sg}(hn:xs.length≤1000000)(xh:xs[xs.length-1]?=some x)(w:AA)(hb:Blk w p (suF S vt vl vs) 74)(hl:RR 97 w vl (xs.map sgC)):
  BI Tryz.prog 5 #[.pointer (some ⟨p,0,none⟩)] w fun e w' =>V4 (.tuple #[.agg (sgF x),.int .i64 0]) w w' e:=by
 obtain⟨Ap,cp,rfl,D,G⟩:=RR.opf hl;have J:xs.length-1<xs.length:=(List.getElem?_eq_some_iff.1 xh).1;have hS:=SH.nil [] w
 go_enter Tryz.func5,Tryz.ntmps5
 go_upto_region 0 with fail;refine RL hS ?_;clear hS;refine MN (z:=K4 [.c (.int .i64 0),.a 32 0,.a 64 0]) (t:=26) ?_;intro K9;refine W0 ?_;refine MZ fun W hS=> ?_;go_upto_region 1 with fail;refine RL hS ?_;clear hS;refine MV ?_;refine MV ?_;refine MC (v:=.int .i64 (xs.length:Int)) (fun W hS=>J51 W (J3 hb hS.ext)) ?_;refine MW ?_ (v:=.int .i64 ((xs.length-1:Nat):Int)) (hv:=by intro W;go_simp;(try simp only[AI.wrap_i64]);omega);refine MC (v:=.tuple #[.agg (K4 [.c (.int .i64 x.ep),.a 32 x.ro,.a 64 x.sig]),.int .i64 0]) (fun W hS=>Y7y hn xh W (J3 hb hS.ext) (hl.ext hS.ext)) ?_;refine MV ?_;refine W0 ?_;refine MRa 0 ?_ (h1:=by exact(K2 ⟨rfl,trivial⟩));refine W0 ?_;refine MZ fun W hS=> ?_;go_wp2;exact BH (J6n rfl rfl rfl (hS.blk (i:=0) rfl) (by kernel_rfl) (by kernel_rfl)) rfl ⟨rfl,hS.ext⟩
theorem Z1q {p S:Nat}{vt vl vs:AB}(w:AA)(hb:Blk w p (suF S vt vl vs) 74)(hl:RR 97 w vl (([]:List Sg).map sgC)):
  BI Tryz.prog 5 #[.pointer (some ⟨p,0,none⟩)] w fun e w' =>V4 (.tuple #[.agg (sgF ⟨0,0,0⟩),.int .i64 10]) w w' e:=by
 obtain⟨xs,D⟩:=exn ([]:List Sg);rw[←D] at hl;have G:=Lib.hid (show xs.length=0 by rw[D];rfl);clear D;obtain⟨Ap,cp,rfl,J,M⟩:=RR.opf hl;have hS:=SH.nil [] w
 go_enter Tryz.func5,Tryz.ntmps5
 go_upto_region 0 with fail;refine RL hS ?_;clear hS;refine MN (z:=K4 [.c (.int .i64 0),.a 32 0,.a 64 0]) (t:=26) ?_;intro K9;refine W0 ?_;refine MZ fun W hS=> ?_;go_upto_region 1 with fail;refine RL hS ?_;clear hS;refine MV ?_;refine MV ?_;refine MC (v:=.int .i64 (xs.length:Int)) (fun W hS=>J51 W (J3 hb hS.ext)) ?_;refine MW ?_ (v:=.int .i64 (-1)) (hv:=by intro W;have N:=G.out;go_simp;(try simp only[AI.wrap_i64]);omega);refine MC (v:=.tuple #[.agg (K4 [.c (.int .i64 0),.a 32 0,.a 64 0]),.int .i64 10]) (fun W hS=>Q7r (i:= -1) (by rw[G.out];decide) (by decide) W (J3 hb hS.ext) (hl.ext hS.ext)) ?_;refine MV ?_;refine MW ?_ (v:=.int .i64 10);refine MRa 0 ?_ (h1:=by exact(K2 ⟨rfl,trivial⟩));refine MW ?_ (v:=.int .i64 10);refine MZ fun W hS=> ?_;go_wp2;exact BH (J6n rfl rfl rfl (hS.blk (i:=0) rfl) (by kernel_rfl) (by kernel_rfl)) rfl ⟨rfl,hS.ext⟩
theorem Q1g (w:AA):
  BI Tryz.prog 10 #[.pointer none] w fun e w' =>V4 (.int .i64 0) w w' e:=by
 have hS:=SH.nil [] w
 go_enter Tryz.func10,Tryz.ntmps10
 go_wp2;exact BH (v:=.int .i64 0) (by simp only[results,Tryz.results10];go_simp) rfl ⟨rfl,hS.ext⟩
theorem Z6g (w:AA):
  BI Tryz.prog 5 #[.pointer none] w fun e w' =>V4 (.tuple #[.agg (sgF ⟨0,0,0⟩),.int .i64 1]) w w' e:=by
 have hS:=SH.nil [] w
 go_enter Tryz.func5,Tryz.ntmps5
 go_upto_region 0 with fail;refine RL hS ?_;clear hS;refine MN (z:=K4 [.c (.int .i64 0),.a 32 0,.a 64 0]) (t:=26) ?_;intro K9;refine W0 ?_;refine MZ fun W hS=> ?_;go_upto_region 1 with fail;refine RL hS ?_;clear hS;refine MV ?_;refine MV ?_;refine MC (v:=.int .i64 0) (fun W hS=>Q1g W) ?_;refine MW ?_ (v:=.int .i64 (-1)) (hv:=by intro W;first|rfl|kernel_rfl|(go_simp;(try simp only[AI.wrap_i64]);omega));refine MC (v:=.tuple #[.agg (K4 [.c (.int .i64 0),.a 32 0,.a 64 0]),.int .i64 1]) (fun W hS=>Z4b (-1) W) ?_;refine MV ?_;refine MW ?_ (v:=.int .i64 1);refine MRa 0 ?_ (h1:=by exact(K2 ⟨rfl,trivial⟩));refine MW ?_ (v:=.int .i64 1);refine MZ fun W hS=> ?_;go_wp2;exact BH (J6n rfl rfl rfl (hS.blk (i:=0) rfl) (by kernel_rfl) (by kernel_rfl)) rfl ⟨rfl,hS.ext⟩
end

section
set_option maxHeartbeats 3000000
attribute [local irreducible] wpList K1 wpX
attribute [local irreducible] eI be8 hs4 lb kTx vTx sTx eS rs ofT sE sL sN nN pkf

theorem Q9u (w:AA):
  BI Tryz.prog 8 #[.pointer none] w fun e w' =>V4 (.agg (J0 .u8 32 (J6 0))) w w' e:=by
 have hS:=SH.nil [] w
 go_enter Tryz.func8,Tryz.ntmps8
 go_upto_region 0 with fail;refine RL hS ?_;clear hS;refine MN (z:=J0 .u8 32 (J6 0)) (t:=22) ?_;intro K9;refine MZ fun W hS=> ?_;go_upto_region 2 with fail;refine RL hS ?_;clear hS;refine MW ?_ (v:=.agg (J0 .u8 32 (J6 0))) (hv:=by intro W;kernel_rfl);refine MR 0 ?_;refine MZ fun W hS=> ?_;go_wp2;exact BH (Z5 rfl rfl (hS.blk (i:=0) rfl) (by kernel_rfl) (by rw[J1];kernel_rfl)) rfl ⟨rfl,hS.ext⟩
theorem Z6h (u:AB)(w:AA):
  BI Tryz.prog 9 #[.pointer none,u] w fun e w' =>V4 (.agg (sgF ⟨0,0,0⟩)) w w' e:=by
 have hS:=SH.nil [] w
 go_enter Tryz.func9,Tryz.ntmps9
 go_upto_region 0 with fail;refine RL hS ?_;clear hS;refine MN (z:=K4 [.c (.int .i64 0),.a 32 0,.a 64 0]) (t:=26) ?_;intro D;refine MZ fun W hS=> ?_;go_upto_region 2 with fail;refine RL hS ?_;clear hS;refine MW ?_ (v:=.agg (K4 [.c (.int .i64 0),.a 32 0,.a 64 0])) (hv:=by intro W;kernel_rfl);refine MRa 0 ?_ (h1:=by exact(K2 ⟨rfl,trivial⟩));refine MZ fun W hS=> ?_;go_wp2;exact BH (Z5 rfl rfl (hS.blk (i:=0) rfl) (by kernel_rfl) (by kernel_rfl)) rfl ⟨rfl,hS.ext⟩
theorem Z1p (u:AB)(w:AA):
  BI Tryz.prog 11 #[.pointer none,u] w fun e w' =>V4 (.agg (pfc nSl false 0 0)) w w' e:=by
 have hS:=SH.nil [] w
 go_enter Tryz.func11,Tryz.ntmps11
 go_upto_region 0 with fail;refine RL hS ?_;clear hS;refine MN (z:=pfc (.slice none 0 0) false 0 0) (t:=42) ?_;intro D;refine MZ fun W hS=> ?_;go_upto_region 2 with fail;refine RL hS ?_;clear hS;refine MW ?_ (v:=.agg (pfc (.slice none 0 0) false 0 0)) (hv:=by intro W;first|rfl|kernel_rfl);refine MR 0 ?_ (hz:=by rw[Q1x];kernel_rfl) (hs:=by first|rw[Q1x,Q1x]|rw[Q1x]|kernel_rfl) (h1:=(Y94 rfl));refine MZ fun W hS=> ?_;go_wp2;exact BH (Z5 rfl rfl (hS.blk (i:=0) rfl) (by kernel_rfl) (by kernel_rfl)) rfl ⟨rfl,hS.ext⟩
end

section
attribute [local irreducible] wpList K1 wpX

def upl:Nat→Nat→Nat→Nat×Nat
 |0,a,b=>(a,b)
 |f+1,a,b=>if a≠0∧a % 2=0 then upl f (a / 2) (b / 2) else(a,b)
def upn (a b:Nat):Nat×Nat:=((upl a a b).1 / 2,(upl a a b).2 / 2)
end

section
attribute [local irreducible] wpList K1 wpX
end

section
attribute [local irreducible] wpList K1 wpX
def clb:List Nat→Nat→Nat→Nat→Option Nat
 |[],_,b,x=>if b=0 then some x else none
 |s::p,a,b,x=>if b=0 then none else if a % 2=1∨a=b then clb p (upn a b).1 (upn a b).2 (nN s x) else clb p (a / 2) (b / 2) (nN x s)
attribute [local irreducible] eI be8 hs4 lb nN
end

section
attribute [local irreducible] wpList K1 wpX
attribute [local irreducible] eI be8 hs4 lb kTx vTx sTx eS rs ofT sE sL sN nN pkf clb upn

end

section
attribute [local irreducible] wpList K1 wpX
open S8 (Kn GA kP sig vfy)
attribute [local irreducible] eI be8 hs4 lb kTx vTx sTx eS rs ofT sE sL sN S8.sig S8.vfy S8.kP S8.kN S8.kD

end

section
attribute [local irreducible] wpList K1 wpX
open S8 (Kn GA kP sig vfy)
def enS (y:Sg):Nat:=eS (sTx y.ep y.ro)
theorem Q9x:∀(l:List Nat) (i:Nat),(pth l i).length≤l.length:=by
 have h:∀(N:Nat)(l:List Nat),l.length≤N→∀i,(pth l i).length≤N:=by
  intro N
  induction N with
  |zero=>intro l h i;rw[Q12 (by omega)];exact Nat.le_refl _
  |succ N ih=>
   intro l h i
   by_cases h2:2≤l.length
   ·
    have hf:=J4t h2
    by_cases hi:i<hfn l.length
    ·
     rw[Q7x h2 hi,Ao];exact Nat.succ_le_succ (ih _ (by rw[List.length_take];omega) i)
    ·
     rw[Q7y h2 hi,Ao];exact Nat.succ_le_succ (ih _ (by rw[List.length_drop];omega) _)
   ·
    rw[Q12 h2];exact Nat.zero_le _
 exact fun l i=>h _ l (Nat.le_refl _) i
attribute [local irreducible] eI be8 hs4 lb kTx vTx sTx eS enS rs ofT sE sL sN nN S8.sig S8.vfy S8.kP S8.kN S8.kD clb
end

section
set_option maxHeartbeats 3000000
attribute [local irreducible] wpList K1 wpX
open S8 (Kn GA kP sig vfy)
theorem V5u:∀{x:Sg} (j:Nat),j<32→((sgF x).extract 1 (1+32))[j]?=some (.int .u8 (J6 x.ro j)):=fun{x} j hj=>by
 rw[Array.getElem?_extract,if_pos (by rw[J7];show j<min (1+32) 97-1;omega)];exact(J11 (off:=1) 1:∀(j_:Nat)(v_:AB),(J0 .u8 32 (J6 x.ro))[j_]?=some v_→(sgF x)[1+j_]?=some v_) j _ (Q6 _ _ _ _ hj)
theorem V5v:∀{x:Sg} (j:Nat),j<64→((sgF x).extract 33 (33+64))[j]?=some (.int .u8 (J6 x.sig j)):=fun{x} j hj=>by
 rw[Array.getElem?_extract,if_pos (by rw[J7];show j<min (33+64) 97-33;omega)];exact(J11 (off:=33) 2:∀(j_:Nat)(v_:AB),(J0 .u8 64 (J6 x.sig))[j_]?=some v_→(sgF x)[33+j_]?=some v_) j _ (Q6 _ _ _ _ hj)
theorem V1h (x:Sg)(w:AA):(Op.equalIn 10000 26 (.agg (sgF x)) (.agg (sgF x))).run Tryz.prog w=.ok true w:=by
 have hu:=Tryz.underlying26;have hf:Tryz.prog.fieldsOf 26=(match Tryz.prog.underlying 26 with|some (.struct fs)=>fs|_=> #[]):=rfl;rw[hu] at hf;rw[run_equalIn_struct w 9999 26 _ _ (by rw[hf];exact hu) (by kernel_rfl),hf]
 have p0:(part 3 (sgF x) 0).run Tryz.prog w=.ok (.int .i64 x.ep) w:=by
  have h1:(isAgg 3).run Tryz.prog w=.ok false w:=by
   unfold isAgg;rw[Sem.run_bind,run_underlying Tryz.underlying3 w];rfl
  have h2:(sgF x)[0]?=some (.int .i64 x.ep):=V1 (off:=0) 0;simp[part,Sem.run_bind,h1,h2]
 have p1:=Q8n (P:=Tryz.prog) w 22 32 5 (sgF x) 1 Tryz.underlying22 (by kernel_rfl) (by rw[J7];show _≤97;decide);have p2:=Q8n (P:=Tryz.prog) w 24 64 5 (sgF x) 33 Tryz.underlying24 (by kernel_rfl) (by rw[J7];show _≤97;decide);refine(J7o (by decide) p0 p0 (run_equalIn_int w 9998 3 .i64 .i64 x.ep x.ep Tryz.underlying3)).trans ?_;rw[if_pos (by simp)];have e1:=J13 (P:=Tryz.prog) w 9997 22 5 32 .u8 _ _ (J6 x.ro) (J6 x.ro) Tryz.underlying22 Tryz.underlying5 (by kernel_rfl) (V5u (x:=x)) (V5u (x:=x));rw[(J2w _ _ _).2 fun _ _=>rfl] at e1;refine(J7o (by decide) p1 p1 e1).trans ?_;rw[if_pos rfl];have e2:=J13 (P:=Tryz.prog) w 9997 24 5 64 .u8 _ _ (J6 x.sig) (J6 x.sig) Tryz.underlying24 Tryz.underlying5 (by kernel_rfl) (V5v (x:=x)) (V5v (x:=x));rw[(J2w _ _ _).2 fun _ _=>rfl] at e2;refine(J7o (by decide) p2 p2 e2).trans ?_;rw[if_pos rfl];simp[Op.eqFields]
attribute [local irreducible] eI be8 hs4 lb kTx vTx sTx eS enS rs ofT sE sL sN nN S8.sig S8.vfy S8.kP S8.kN S8.kD clb
theorem Y16 {p S i R G:Nat}{T Tn:TR}{xs:List Sg}{us:List Nat}{U:Nat}{vt vl vs v:AB}{ms:List Mb}(hT:Tn=ovT ms)(hR:R=rs (ovT ms))(hG:G=sig S (sTx (i:Int) R))(hU:U=eS (sTx (i:Int) R))(hi:xs.length=i)(hn:ms.length≤1000)(hx:xs.length≤1000000)(hu:us.length≤1000000)(w:AA)(h_:SH (SH.feet ((suL p S T xs us vt vl vs++[gx])++[mbT v ms])) w w ((suL p S T xs us vt vl vs++[gx])++[mbT v ms])):
  BI Tryz.prog 9 #[.pointer (some ⟨p,0,none⟩),v] w fun e w' => ∃y:AB×AB×AB,e=.returned (.agg (sgF ⟨(i:Int),R,G⟩))∧SH (SH.feet ((suL p S T xs us vt vl vs++[gx])++[mbT v ms])) w w' (suL p S Tn (xs++[⟨(i:Int),R,G⟩]) (us++[U]) y.1 y.2.1 y.2.2++[gx]++[mbT v ms]):=by
 subst hU;subst hG;subst hR;subst hT;subst hi;exact Z49 (ms:=ms) hn hx hu w h_
def tid (y:Mb)(b:UInt8):Mb:={y with id:=y.id.set 0 b}
theorem Y51 (y:Mb)(b:UInt8):mbC (tid y b)=mbC y:=rfl
theorem Y52 {q:List Mb}{k:Nat}{y:Mb}{b:UInt8}(h:q[k]?=some y):(q.set k (tid y b)).map mbC=q.map mbC:=by
 obtain⟨hk,e⟩:=List.getElem?_eq_some_iff.1 h;rw[List.map_set,Y51,←e];apply List.ext_getElem?;intro j;rw[List.getElem?_set]
 split
 ·
  subst_vars
  split
  ·
   rw[Bd,Aj hk];rfl
  rename_i h2;exact absurd (by rw[Bc];exact hk) h2
 rfl
theorem Y53 {q:List Mb}{k:Nat}{y:Mb}{b:UInt8}(h:q[k]?=some y):idF (q.set k (tid y b))=idF q:=by
 have e:∀l:List Mb,idF l=(l.map fun z=>z.u.ownBlock.toList).flatten:=fun l=>by unfold idF;rw[List.flatMap_def]
 rw[e,e]
 congr 1
 obtain⟨hk,e2⟩:=List.getElem?_eq_some_iff.1 h;rw[List.map_set];apply List.ext_getElem?;intro j;rw[List.getElem?_set]
 split
 ·
  subst_vars
  split
  ·
   rw[Bd,Aj hk];rfl
  rename_i h2;exact absurd (by rw[Bc];exact hk) h2
 rfl
theorem Y17 {q:List Mb}{k:Nat}{y:Mb}{b:UInt8}(h:q[k]?=some y):(q.set k (tid y b)).map (·.u)=q.map (·.u):=by
 obtain⟨hk,e⟩:=List.getElem?_eq_some_iff.1 h;rw[List.map_set,show(tid y b).u=y.u from rfl,←e];apply List.ext_getElem?;intro j;rw[List.getElem?_set]
 split
 ·
  subst_vars
  split
  ·
   rw[Bd,Aj hk];rfl
  rename_i h2;exact absurd (by rw[Bc];exact hk) h2
 rfl
theorem Q7p:∀l:List UInt8,(l.map fun c=>[AB.int .u8 (c.toNat:Int)]).flatten=bs8 l
 |[]=>rfl
 |c::l=>by rw[List.map_cons,List.flatten_cons,Q7p l];rfl
theorem Q48 {W:AA}{v:AB}{l:List UInt8}(h:Own W v l):Row 5 1 W v (l.map fun c=>[AB.int .u8 (c.toNat:Int)]):=
 ⟨by rw[Bc,Q7p];exact h,fun e he=>by obtain⟨_,_,rfl⟩:=List.mem_map.1 he;rfl⟩
theorem Y18 {W:AA}{v:AB}{l:List UInt8}(h:Row 5 1 W v (l.map fun c=>[AB.int .u8 (c.toNat:Int)])):Own W v l:=by
 have h1:=h.1;rw[Bc,Q7p] at h1;exact h1
theorem Y54 {q:List Mb}{k:Nat}{y:Mb}{b:UInt8}{W W' :AA}(yh:q[k]?=some y)(h:idK q W)(hO:Off y.u.ownBlock.toList W W')(h1:Own W' y.u (y.id.set 0 b)):idK (q.set k (tid y b)) W' :=by
 obtain⟨hk,ey⟩:=List.getElem?_eq_some_iff.1 yh;refine⟨fun z hz=> ?_,?_⟩
 ·
  obtain⟨j,hj⟩:=List.mem_iff_getElem?.1 hz;rw[List.getElem?_set] at hj
  split at hj
  ·
   rename_i e;injection hj with hj;subst hj;exact h1
  rename_i hne;have J:=h.1 z (Az hj);obtain⟨D,ez⟩:=List.getElem?_eq_some_iff.1 hj;refine Q9s J fun c hc=> ?_;have R:c<W.heap.size:=As.lt (x:=.o z.u z.id) J c (by show c∈z.u.ownBlock.toList;rw[hc];simp);refine hO.block c R fun G=> ?_;rcases Nat.lt_or_gt_of_ne hne with N|M
  ·
   exact List.pairwise_iff_getElem.1 h.2 k j hk D N c (by rw[ey];exact G) (by rw[ez,hc];simp)
  exact List.pairwise_iff_getElem.1 h.2 j k D hk M c (by rw[ez,hc];simp) (by rw[ey];exact G)
 have e:=Y17 (b:=b) yh;have h2:(q.map (·.u)).Pairwise fun a b=> ∀k∈a.ownBlock.toList,k∉b.ownBlock.toList:=List.pairwise_map.2 h.2;rw[←e] at h2;exact List.pairwise_map.1 h2
section
variable {ops : Array Oper} {Q : Exit → Act → AA → Prop} {w : AA} {r : List Oper} {o : Oper} {a a' : Act} {F : List Nat} {H H' : List As}
theorem MPI (i:Nat){q:List Mb}{kq:Nat}{y:Mb}{ty:TypeId}{x yo:Operand}{g n c:Nat}{b:UInt8}(yh:q[kq]?=some y)(hpos:0<y.id.length)(hyu:y.u=.slice (some ⟨g,0,none⟩) n c)(h:wpM Tryz.prog ops (.L Q) F w H' r a')(hi:H[i]?=some (idT q):=by exact rfl)(hw:Region.wanted o (yielded ops a.tmps)=true:=by exact rfl)
  (ho:o.op=.store ty x yo:=by exact rfl) (hx:a.eval x=.pointer (some ⟨g,0,none⟩):=by exact rfl) (hy:a.eval yo=.int .u8 (b.toNat:Int):=by exact rfl) (hz:(Tryz.prog.info? ty).map (·.size)=some 1:=by kernel_rfl)
  (hH:H.set i (idT (q.set kq (tid y b)))=H' :=by dsimp only[sB,sC];first|done|exact rfl) (hp:a.put o.dst undef=a' :=by first|exact pl (by dsimp only[mB,mC];first|done|exact rfl)|exact pn|exact rfl):wpM Tryz.prog ops (.L Q) F w H (o::r) a:=by
 subst hp hH;intro W hS;have hI:idK q W:=(hS.at_ hi).1;have D:=Az yh;have G:=hI.1 y D;refine Z7x (j:=0) (q:=0) (e:=[.int .u8 ((y.id[0]).toNat:Int)]) ⟨rfl,rfl⟩ (Q48 G) hyu (by rw[Bd,Aj hpos];rfl) (by decide) hw ho hx hy hz fun W' h1 h2=>h W' (hS.set hi rfl h2 (fun k hk _=>List.mem_flatMap.2 ⟨y,D,hk⟩) (Q11 (Y54 yh hI h2 (Y18 ?_))) (fun k hk _=> ?_) (.inr rfl) (fun _ _ e=>by cases e))
 ·
  rw[List.map_set];exact h1
 show k∈idF q;rw[←Y53 (b:=b) yh];exact hk
end
theorem Y55 {ms:List Mb}{v:AB}(w:AA)(hp:RR 35 w v (ms.map mbC))(hk:∀y∈ms,Sl w y.u y.id):
  BI Tryz.prog 14 #[v] w fun e w' => ∃x:TM,e=.returned x.1.1∧SH [] w w' (mbO x.1.1 x.1.2)∧∀y∈mbO x.1.1 x.1.2,y.mv=false→∀k∈y.foot,w.heap.size≤k:=
 (V1j w hp hk).mono fun e w' ⟨x,h1,h2⟩=>⟨x,h1,h2,fun y hy hm=>by
  rcases List.mem_cons.1 hy with rfl|hy
  ·
   cases hm
  ·
   rw[List.mem_singleton.1 hy] at hm;cases hm⟩

theorem J6d (w:AA):
  BI Tryz.prog 4 #[] w fun e w' =>V4 (.pointer none) w w' e:=by
 have hS:=SH.nil [] w
 go_enter Tryz.func4,Tryz.ntmps4
 go_wp2;exact BH (v:=.pointer none) (by simp only[results,Tryz.results4];go_simp) rfl ⟨rfl,hS.ext⟩
end
end Go.Proofs.YtdjacgmmidbieaaGreatDoor

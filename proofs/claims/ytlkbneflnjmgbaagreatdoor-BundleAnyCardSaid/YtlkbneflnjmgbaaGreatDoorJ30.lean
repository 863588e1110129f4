/- Contracts and plain laws for bundleAny_holds. Conditions: the tables hold their numbers. -/
import Derived.Test.YtlkbneflnjmgbaaGreatDoorJ29
open Go.RowKit
set_option maxRecDepth 100000
set_option linter.unusedSimpArgs false
set_option linter.unusedVariables false
namespace Go.Proofs.YtlkbneflnjmgbaaGreatDoor
section
set_option maxHeartbeats 3000000
attribute [local irreducible] wpList Z6 wpX
open K4
open S8 (Kn GA kP)
def Z94 (P A:Int):Prop:=1≤P∧P≤1000∧0≤A
theorem K2g {D:DD}(hK:DOk D){ps:List Pv}(h:ps.map pvP=D.waits):(∀q∈ps,q.l.length≤32∧q.x.length≤64)∧ps.length≤16:=by
 refine⟨fun q hq=>DD.qb hK (q:=pvP q) (List.mem_append_right _ (by rw[←h];exact List.mem_map_of_mem hq)),?_⟩;have h1:=congrArg List.length h;rw[List.length_map] at h1;have:=hK.wl;have:=hK.p2;omega
theorem K2h {D:DD}(hK:DOk D){e:Nat}{ps:List Pv}(h:ps.map pvP=D.rowE e):(∀q∈ps,q.l.length≤32∧q.x.length≤64)∧ps.length≤16:=by
 refine⟨fun q hq=>DD.qb hK (q:=pvP q) (List.mem_append_left _ (DD.rowE_mem (e:=e) (by rw[←h];exact List.mem_map_of_mem hq))),?_⟩;have h1:=congrArg List.length h;rw[List.length_map] at h1;have:=DD.rowE_len hK e;omega
def nmB (D:DD)(P A:Nat):List Nat:=[D.L,D.P,D.E,P,A]
def Q0u (D:DD)(P A k:Nat):List UInt8:=((nmB D P A).take k).flatMap be8
theorem Z6l {D:DD}{P A k n:Nat}(h:(nmB D P A)[k]?=some n):Q0u D P A (k+1)=Q0u D P A k++be8 n:=by
 unfold Q0u;rw[List.take_add_one,h,List.flatMap_append];simp
theorem Z95 (D:DD)(P A k:Nat):(Q0u D P A k).length≤40:=by
 have:∀l:List Nat,(l.flatMap be8).length=8*l.length:=by
  intro l
  induction l with
  |nil=>rfl
  |cons a l ih=>rw[List.flatMap_cons,List.length_append,J0s,ih,List.length_cons];omega
 unfold Q0u;rw[this,List.length_take];show 8*min k 5≤40;omega
theorem V27 {D:DD}{P A k:Nat}(h:k<5):∃n,(nmB D P A)[k]?=some n:=⟨_,List.getElem?_eq_getElem (show k<(nmB D P A).length from h)⟩
theorem Y5t {D:DD}{P A k n:Nat}(h:(nmB D P A)[k]?=some n):n=D.L∨n=D.P∨n=D.E∨n=P∨n=A:=by
 have:=List.mem_of_getElem? h
 simpa[nmB] using this
theorem V28 {D:DD}{P A n:Nat}{H:Bool}(hn:n=D.puts.length-1):[]++[u8 1]++txB D.id++lb 32 D.vk++lb 32 D.bk++Q0u D P A 5++[if H then 1 else 0]++be8 n=hdB D P A H:=by
 rw[hn];unfold hdB Q0u nmB;simp only[List.take_succ_cons,List.take_zero,List.flatMap_cons,List.flatMap_nil,List.append_nil,List.nil_append,List.append_assoc];rfl
theorem V29 (D:DD)(P A:Nat):Q0u D P A 0=[]:=rfl
theorem Y5u {D:DD}{k R:Nat}(hR:R=rs (D.tree (k+1)))(l:List UInt8):l++J8h D k++prB (D.rowE (k+1))++lb 32 R=l++J8h D (k+1):=by
 rw[Q5v,hR];unfold epB;simp only[List.append_assoc]
theorem V2a {D:DD}{P A e K:Nat}{H:Bool}(he:e=D.puts.length-1)(hK:K=D.link e):hdB D P A H++J8h D e++prB D.waits++lb 32 K=pkB D P A H:=by
 unfold pkB;rw[hK,he]
theorem RR.atF {k n c j g o:Nat}{w:World}{A:Option Addr}{es:List (List Value)}{fl:List Fd}(h:RR k w (.slice A n c) es)(hj:es[j]?=some (fcs fl))(hA:A=some ⟨g,o,none⟩):∀(i:Nat) (v:Value),(Q6 fl)[i]?=some v→w.cell? ⟨g,o+j*k+i,none⟩=some v:=fun i v hv=>
 RR.cellat h hj hA i v (by rw[←Q95,Array.getElem?_toList];exact hv)
abbrev n1v (n:Nat):List Value:=[.int .i64 (n:Int)]
theorem V7i {W:World}{p:Nat}{t:TypeId}{D:DD}{P A:Nat}(h:Blk W p #[.int .i64 (D.L:Int),.int .i64 (D.P:Int),.int .i64 (D.E:Int),.int .i64 (P:Int),.int .i64 (A:Int)] t):RR 1 W (.slice (some ⟨p,0,none⟩) 5 5) ((nmB D P A).map n1v):=by
 refine⟨some ⟨p,0,none⟩,5,rfl,Nat.le_refl _,(fun e=>by cases e),fun j e hj=>⟨p,0,rfl,fun i x hx=> ?_⟩⟩;rw[List.getElem?_map] at hj;obtain⟨n,hn,rfl⟩:=Option.map_eq_some_iff.1 hj
 have hi:i=0:=by
  have:=(List.getElem?_eq_some_iff.1 hx).1;have h2:(n1v n).length=1:=rfl;omega
 subst hi;obtain rfl:=Option.some.inj hx;rw[Nat.zero_add,Nat.mul_one,Nat.add_zero,J4 h];have G:j<5:=(List.getElem?_eq_some_iff.1 hn).1
 match j,G,hn with
 |0,_,hn=>rw[show n=D.L from(Option.some.inj hn).symm];rfl
 |1,_,hn=>rw[show n=D.P from(Option.some.inj hn).symm];rfl
 |2,_,hn=>rw[show n=D.E from(Option.some.inj hn).symm];rfl
 |3,_,hn=>rw[show n=P from(Option.some.inj hn).symm];rfl
 |4,_,hn=>rw[show n=A from(Option.some.inj hn).symm];rfl
attribute [local irreducible] eI be8 hs4 lb txB prB J8h epB Q0u hdB DD.tree DD.link rs J70

theorem Y5v {D:DD}(hK:DOk D)(P A:Nat)(H:Bool):(pkB D P A H).length≤100000:=by
 unfold pkB;simp only[List.length_append,J6];have h1:=Z3o hK P A H;have h2:=Q0t hK (D.puts.length-1);have h3:=hK.len;have h4:=Q0s (ps:=D.waits) fun q hq=>DD.qb hK (List.mem_append_right _ hq);have h5:=hK.wl;have h6:=hK.p2;omega
theorem K9:zer Tryz.prog 40=some (some (Q6 [.c (.pointer none),.c (.int .i64 0),.c (.int .i64 0),.c (.bool false)])):=by kernel_rfl
theorem U0:plc Tryz.prog 40=some [(0,1),(1,1),(2,1),(3,1)]:=by kernel_rfl
theorem Z6m {P A:Int}{H:Bool}(w:World):
  Calls Tryz.prog 20 #[.agg (Q6 [.c (.pointer none),.c (.int .i64 P),.c (.int .i64 A),.c (.bool H)])] w fun e w' =>Ret (.bool false) w w' e:=by
 have hS:=SH.nil [] w
 go_enter Tryz.func20,Tryz.ntmps20
 go_upto_region 0 with fail;refine RL hS ?_;clear hS;refine MN (z:=Q6 [.c (.pointer none),.c (.int .i64 P),.c (.int .i64 A),.c (.bool H)]) (t:=40) ?_;intro D;refine Wf ?_;refine MZ fun W hS=> ?_;go_upto_region 1 with fail;refine RL hS ?_;clear hS;refine MV ?_;refine MG 0 ?_ (v:=.pointer none) (hj:=(J9 (off:=0) 0));refine Wfo ?_;refine Wf ?_;(iterate 3 refine MS ?_);refine Wf ?_;refine Wf ?_;(iterate 3 refine MS ?_);refine Wf ?_;refine Wf ?_;(iterate 3 refine MS ?_);refine Wf ?_;refine Wf ?_;refine MZ fun W hS=> ?_;go_wp2;exact bodyPost_ret (v:=.bool false) (by simp only[results,Tryz.results20];go_simp) rfl ⟨rfl,hS.ext⟩
theorem Z3r {p:Nat}{P A:Int}{H:Bool}(hP1:1≤P)(hP2:P≤1000)(hA:0≤A)(w:World):
  Calls Tryz.prog 20 #[.agg (Q6 [.c (.pointer (some ⟨p,0,none⟩)),.c (.int .i64 P),.c (.int .i64 A),.c (.bool H)])] w fun e w' =>Ret (.bool true) w w' e:=by
 have hS:=SH.nil [] w
 go_enter Tryz.func20,Tryz.ntmps20
 go_upto_region 0 with fail;refine RL hS ?_;clear hS;refine MN (z:=Q6 [.c (.pointer (some ⟨p,0,none⟩)),.c (.int .i64 P),.c (.int .i64 A),.c (.bool H)]) (t:=40) ?_;intro D;refine Wf ?_;refine MZ fun W hS=> ?_;go_upto_region 1 with fail;refine RL hS ?_;clear hS;refine MV ?_;refine MG 0 ?_ (v:=.pointer (some ⟨p,0,none⟩)) (hj:=(J9 (off:=0) 0));refine Wto ?_;refine Wt ?_;refine MV ?_;refine MG 0 ?_ (v:=.int .i64 P) (hj:=(J9 (off:=1) 1));refine Wto ?_;refine Wt ?_;refine Wt ?_;refine MV ?_;refine MG 0 ?_ (v:=.int .i64 P) (hj:=(J9 (off:=1) 1));refine Wto ?_;refine Wt ?_;refine Wt ?_;refine MV ?_;refine MG 0 ?_ (v:=.int .i64 A) (hj:=(J9 (off:=2) 2));refine Wto ?_;refine Wt ?_;refine Wt ?_;refine MZ fun W hS=> ?_;go_wp2;exact bodyPost_ret (v:=.bool true) (by simp only[results,Tryz.results20];go_simp) rfl ⟨rfl,hS.ext⟩
theorem Y5w {p:Nat}{P A:Int}{H:Bool}(hN:¬Z94 P A)(w:World):
  Calls Tryz.prog 20 #[.agg (Q6 [.c (.pointer (some ⟨p,0,none⟩)),.c (.int .i64 P),.c (.int .i64 A),.c (.bool H)])] w fun e w' =>Ret (.bool false) w w' e:=by
 have hS:=SH.nil [] w
 go_enter Tryz.func20,Tryz.ntmps20
 go_upto_region 0 with fail;refine RL hS ?_;clear hS;refine MN (z:=Q6 [.c (.pointer (some ⟨p,0,none⟩)),.c (.int .i64 P),.c (.int .i64 A),.c (.bool H)]) (t:=40) ?_;intro M;refine Wf ?_;refine MZ fun W hS=> ?_
 by_cases D:1≤P
 ·
  by_cases G:P≤1000
  ·
   have J:¬0≤A:=fun J=>hN ⟨D,G,J⟩;go_upto_region 1 with fail;refine RL hS ?_;clear hS;refine MV ?_;refine MG 0 ?_ (v:=.pointer (some ⟨p,0,none⟩)) (hj:=(J9 (off:=0) 0));refine Wto ?_;refine Wt ?_;refine MV ?_;refine MG 0 ?_ (v:=.int .i64 P) (hj:=(J9 (off:=1) 1));refine Wto ?_;refine Wt ?_;refine Wt ?_;refine MV ?_;refine MG 0 ?_ (v:=.int .i64 P) (hj:=(J9 (off:=1) 1));refine Wto ?_;refine Wt ?_;refine Wt ?_;refine MV ?_;refine MG 0 ?_ (v:=.int .i64 A) (hj:=(J9 (off:=2) 2));refine Wfo ?_;refine Wf ?_;refine Wf ?_;refine MZ fun W hS=> ?_;go_wp2;exact bodyPost_ret (v:=.bool false) (by simp only[results,Tryz.results20];go_simp) rfl ⟨rfl,hS.ext⟩
  go_upto_region 1 with fail;refine RL hS ?_;clear hS;refine MV ?_;refine MG 0 ?_ (v:=.pointer (some ⟨p,0,none⟩)) (hj:=(J9 (off:=0) 0));refine Wto ?_;refine Wt ?_;refine MV ?_;refine MG 0 ?_ (v:=.int .i64 P) (hj:=(J9 (off:=1) 1));refine Wto ?_;refine Wt ?_;refine Wt ?_;refine MV ?_;refine MG 0 ?_ (v:=.int .i64 P) (hj:=(J9 (off:=1) 1));refine Wfo ?_;refine Wf ?_;refine Wf ?_;(iterate 3 refine MS ?_);refine Wf ?_;refine Wf ?_;refine MZ fun W hS=> ?_;go_wp2;exact bodyPost_ret (v:=.bool false) (by simp only[results,Tryz.results20];go_simp) rfl ⟨rfl,hS.ext⟩
 go_upto_region 1 with fail;refine RL hS ?_;clear hS;refine MV ?_;refine MG 0 ?_ (v:=.pointer (some ⟨p,0,none⟩)) (hj:=(J9 (off:=0) 0));refine Wto ?_;refine Wt ?_;refine MV ?_;refine MG 0 ?_ (v:=.int .i64 P) (hj:=(J9 (off:=1) 1));refine Wfo ?_;refine Wf ?_;refine Wf ?_;(iterate 3 refine MS ?_);refine Wf ?_;refine Wf ?_;(iterate 3 refine MS ?_);refine Wf ?_;refine Wf ?_;refine MZ fun W hS=> ?_;go_wp2;exact bodyPost_ret (v:=.bool false) (by simp only[results,Tryz.results20];go_simp) rfl ⟨rfl,hS.ext⟩
theorem Z96 {P A:Int}{H:Bool}(w:World):
  Calls Tryz.prog 9 #[.agg (Q6 [.c (.pointer none),.c (.int .i64 P),.c (.int .i64 A),.c (.bool H)])] w fun e w' =>Ret (.tuple #[.slice none 0 0,.int .i64 1]) w w' e:=by
 have hS:=SH.nil [] w
 go_enter Tryz.func9,Tryz.ntmps9
 go_upto_region 0 with fail;refine RL hS ?_;clear hS;refine MN (z:=Q6 [.c (.pointer none),.c (.int .i64 P),.c (.int .i64 A),.c (.bool H)]) (t:=40) ?_;intro D;refine MV ?_;refine W0 ?_;refine MZ fun W hS=> ?_;go_upto_region 1 with fail;refine RL hS ?_;clear hS;refine ML 0 ?_ (hs:=by rw[J5];kernel_rfl);refine MC (v:=.bool false) (fun W hS=>Z6m W) ?_;refine Wt ?_;refine MZ fun W hS=> ?_;go_wp2;exact bodyPost_ret (v:=.tuple #[.slice none 0 0,.int .i64 1]) (by simp only[results,Tryz.results9];go_simp) rfl ⟨rfl,hS.ext⟩
theorem Z97 {D:DD}{y:LD}{P A:Nat}{H:Bool}(hP1:1≤P)(hP2:P≤1000)(hA:A<9223372036854775808)(w:World)(hX:GX w)(hD:DK D y w)(hL:LOk D y)(hK:DOk D):
  Calls Tryz.prog 9 #[.agg (Q6 [.c (.pointer (some ⟨y.p,0,none⟩)),.c (.int .i64 (P:Int)),.c (.int .i64 (A:Int)),.c (.bool H)])] w fun e w' => ∃u,e=.returned (.tuple #[u,.int .i64 0])∧SH [] w w' [.o u (pkB D P A H)]:=by
 obtain⟨e_,ψ⟩:=exn (D.puts.length-1);have He:=Lib.hid ψ;have G7:=hK.pos;have M3:=hK.len;have Ψ:e_<D.puts.length:=by omega
 have M0:e_≤32:=by omega
 clear ψ;obtain⟨Mz,η⟩:=exh (J70 D e_);have Z:=Lib.hid (show Mz.length=e_+1 by rw[η.out,Z6n]);have G1:=hK.id2;have G0:=hK.l2;have D9:=hK.p2;have D8:=hK.e2;have M6:(prB D.waits).length≤1608:=Nat.le_trans (Q0s fun q hq=>DD.qb hK (List.mem_append_right _ hq)) (by have h_:=hK.wl;omega);have hS:=SH.nil [] w
 go_enter Tryz.func9,Tryz.ntmps9
 go_upto_region 0 with fail;refine RL hS ?_;clear hS;refine MN (z:=Q6 [.c (.pointer (some ⟨y.p,0,none⟩)),.c (.int .i64 (P:Int)),.c (.int .i64 (A:Int)),.c (.bool H)]) (t:=40) ?_;intro χ;refine MV ?_;refine W0 ?_;refine MZ fun W hS=> ?_;go_upto_region 1 with fail;refine RL hS ?_;clear hS;refine ML 0 ?_ (hs:=by rw[J5];kernel_rfl);refine MC (v:=.bool true) (fun W hS=>Z3r (P:=(P:Int)) (A:=(A:Int)) (by omega) (by omega) (by omega) W) ?_;refine Wfo ?_;refine MZ fun W hS=> ?_;go_upto_region 3 with fail;refine RL hS ?_;clear hS;refine MV ?_;refine MG 0 ?_ (v:=.pointer (some ⟨y.p,0,none⟩)) (hj:=(J9 (off:=0) 0));refine MV ?_;refine MZ fun W hS=> ?_;go_upto_region 4 with fail;refine RL hS ?_;clear hS;refine MW ?_ (v:=.agg #[.slice none 0 0,.bool false]) (hv:=by intro W;first|rfl|kernel_rfl);refine MN (z:= #[.slice none 0 0,.bool false]) (t:=72) ?_;intro G;refine MT (fun W hS=>hS.onil rfl) ?_;refine MV ?_;refine MZ fun W hS=> ?_;go_upto_region 5 with fail;refine RL hS ?_;clear hS;refine MV ?_;refine ME (V:=fun _=> .tuple #[]) (fun W hS=>J4o [1,0] [2] hS (fun hS=>J4i hS (fun hw=>J3u (n:=1) (l:=[]) (by decide) hw (by first|omega|(simp only[List.length_append,J0s,J1p,J6,List.length_cons,List.length_nil];omega)))) (fun _=>⟨.inr ⟨rfl,rfl⟩,.inr ⟨rfl,rfl⟩,trivial⟩)) ?_;intro w3;refine MZ fun W hS=> ?_;go_upto_region 6 with fail;refine RL hS ?_;clear hS;refine MV ?_;refine MV ?_;refine ME (V:=fun v=>v) (fun W hS=>J47 hS (V7j W (hD.ext hS.ext) hL hK) (fun _=>⟨rfl,rfl⟩)) ?_;intro D1;refine ME (V:=fun _=> .tuple #[]) (fun W hS=>J4o [1,2] [0,3] hS (fun hT=>Q73 (l:=[]++[u8 1]) (m:=D.id) hT (hS.osl (i:=0) rfl) (hS.wtap (i:=1) (j:=2) (k:=0) rfl rfl rfl (by decide) (by decide) (fun T K e=>(by cases e)) (fun b D6=>by show b∈(D1).ownBlock.toList;rw[J2x D6];simp)) (by have h_:=hK.id2;omega) (by first|omega|(simp only[List.length_append,J0s,J1p,J6,List.length_cons,List.length_nil];omega))) (fun _=>⟨.inr ⟨rfl,rfl⟩,.inr ⟨rfl,rfl⟩,trivial⟩)) ?_;intro w5;dsimp only[List.cons_append,List.nil_append];refine MZ fun W hS=> ?_;go_upto_region 7 with fail;refine RL hS ?_;clear hS;refine MV ?_;refine MC (v:=.agg (Q6 [.a 32 D.vk,.a 32 D.bk])) (fun W hS=>Y5x W (hD.ext hS.ext) hL hK) ?_;refine MV ?_;refine MC (v:=.agg (Q6 [.c (.int .i64 (D.L:Int)),.c (.int .i64 (D.P:Int)),.c (.int .i64 (D.E:Int))])) (fun W hS=>Z6o W (hD.ext hS.ext) hL hK) ?_;refine MN (z:=Q6 [.a 32 0,.a 32 0]) (t:=24) ?_;intro G3;refine MN (z:=Q6 [.c (.int .i64 0),.c (.int .i64 0),.c (.int .i64 0)]) (t:=67) ?_;intro G6;refine MRa 1 ?_ (h1:=by exact(V6 trivial));refine MRa 0 ?_ (h1:=by exact(V6 ⟨rfl,rfl,rfl,trivial⟩));refine MZ fun W hS=> ?_;go_upto_region 8 with fail;refine RL hS ?_;clear hS;refine MV ?_;refine MV ?_;refine Mk 1 ?_ (sub:=J0 .u8 32 (J7 D.vk)) (hs:=(J4j (off:=0) 0));refine ME (V:=fun _=> .tuple #[]) (fun W hS=>J4o [2,3] [0,1,4,5] hS (fun hS=>J4i hS (fun hw=>Q74 D.vk G w5 (([]++[u8 1])++txB D.id) false W hw (by first|omega|(simp only[List.length_append,J0s,J1p,J6,List.length_cons,List.length_nil];omega)))) (fun _=>⟨.inr ⟨rfl,rfl⟩,.inr ⟨rfl,rfl⟩,trivial⟩)) ?_;intro w8;refine MZ fun W hS=> ?_;go_upto_region 9 with fail;refine RL hS ?_;clear hS;refine MV ?_;refine MV ?_;refine Mk 3 ?_ (sub:=J0 .u8 32 (J7 D.bk)) (hs:=(J4j (off:=32) 1));refine ME (V:=fun _=> .tuple #[]) (fun W hS=>J4o [0,1] [2,3,4,5] hS (fun hS=>J4i hS (fun hw=>Q74 D.bk G w8 ((([]++[u8 1])++txB D.id)++lb 32 D.vk) false W hw (by first|omega|(simp only[List.length_append,J0s,J1p,J6,List.length_cons,List.length_nil];omega)))) (fun _=>⟨.inr ⟨rfl,rfl⟩,.inr ⟨rfl,rfl⟩,trivial⟩)) ?_;intro w9;refine MZ fun W hS=> ?_;go_upto_region 10 with fail;refine RL hS ?_;clear hS;refine MV ?_;refine MG 2 ?_ (v:=.int .i64 (D.L:Int)) (hj:=(J9 (off:=0) 0));refine MV ?_;refine MG 2 ?_ (v:=.int .i64 (D.P:Int)) (hj:=(J9 (off:=1) 1));refine MV ?_;refine MG 2 ?_ (v:=.int .i64 (D.E:Int)) (hj:=(J9 (off:=2) 2));refine MV ?_;refine MG 5 ?_ (v:=.int .i64 (P:Int)) (hj:=(J9 (off:=1) 1));refine MV ?_;refine MG 5 ?_ (v:=.int .i64 (A:Int)) (hj:=(J9 (off:=2) 2));refine MB (z:= #[.int .i64 (D.L:Int),.int .i64 (D.P:Int),.int .i64 (D.E:Int),.int .i64 (P:Int),.int .i64 (A:Int)]) (t:=3) (n:=5) (c:=5) ?_ (hr:=fun W hS=>J0a [.int .i64 (D.L:Int),.int .i64 (D.P:Int),.int .i64 (D.E:Int),.int .i64 (P:Int),.int .i64 (A:Int)] rfl rfl (vsc rfl (vsc rfl (vsc rfl (vsc rfl (vsc rfl vs0))))) Tryz.underlying79 (by kernel_rfl) (by kernel_rfl) rfl (by decide) (by decide));intro γ;refine MW ?_ (v:=.int .i64 5);refine W0 ?_;refine MZ fun W hS=> ?_
 go_wp2_with fail
 go_loopw [53] (fun jj wr=> ∃(k:Nat)(v2:Value),(k≤5)∧(jj=.int .i64 (k:Int))∧SH [] w wr [.b χ (Q6 [.c (.pointer (some ⟨y.p,0,none⟩)),.c (.int .i64 (P:Int)),.c (.int .i64 (A:Int)),.c (.bool H)]) 40,.b G #[v2,.bool false] 72,.o v2 ((((([]++[u8 1])++txB D.id)++lb 32 D.vk)++lb 32 D.bk)++Q0u D P A k),.b γ #[.int .i64 (D.L:Int),.int .i64 (D.P:Int),.int .i64 (D.E:Int),.int .i64 (P:Int),.int .i64 (A:Int)] 3])
  (fun jj _=>5-(intOf jj).toNat)
 case atStart=>exact⟨0,_,Nat.zero_le _,rfl,(by rw[V29,List.append_nil];exact(hS.pick [6,1,2,0]))⟩
 clear hS
 case round=>
  obtain⟨k,v2,hk,rfl,hS⟩:=hrel;have M5:=Z95 D P A k
  by_cases J:k<5
  ·
   obtain⟨n_,ρ⟩:=V27 (D:=D) (P:=P) (A:=A) J;have M4:=Y5t ρ;go_upto_region 11 with fail;refine RL hS ?_;clear hS;refine Wto ?_;refine MZ fun W hS=> ?_;go_upto_region 12 with fail;refine RL hS ?_;clear hS;refine MW ?_ (v:=.pointer (some ⟨γ,0+k*1,none⟩)) (hv:=fun _=>J2l (rfl:some (⟨γ,0,none⟩:Addr)=some ⟨γ,0,none⟩) J rfl rfl rfl Tryz.underlying79 (by kernel_rfl));refine MF (v:=.int .i64 (n_:Int)) (fun W hS=>Z9 rfl rfl ((RR.cellat (k:=1) (e:=n1v n_) (V7i (hS.blk (i:=3) rfl)) (by rw[List.getElem?_map,ρ];rfl) rfl) 0 _ rfl) (by kernel_rfl)) ?_;refine MV ?_;refine MZ fun W hS=> ?_;go_upto_region 13 with fail;refine RL hS ?_;clear hS;refine MV ?_;refine MV ?_;refine ME (V:=fun _=> .tuple #[]) (fun W hS=>J4o [1,2] [0,3] hS (fun hS=>J4i hS (fun hw=>Z1k n_ (by omega) G v2 ((((([]++[u8 1])++txB D.id)++lb 32 D.vk)++lb 32 D.bk)++Q0u D P A k) false W hw (by first|omega|(simp only[List.length_append,J0s,J1p,J6,List.length_cons,List.length_nil];omega)))) (fun _=>⟨.inr ⟨rfl,rfl⟩,.inr ⟨rfl,rfl⟩,trivial⟩)) ?_;intro D0;refine MZ fun W hS=> ?_;go_wp2;go_roundw
   case rel=>exact⟨(k+1),D0,by omega,by go_num,(by rw[Z6l ρ,←List.append_assoc];exact(hS.pick [2,0,1,3]))⟩
   case measure=>simp[intOf];omega
  obtain rfl:k=5:=by omega
  go_upto_region 11 with fail;refine RL hS ?_;clear hS;refine Wfo ?_;refine MZ fun W hS=> ?_;go_upto_region 15 with fail;refine RL hS ?_;clear hS;refine MV ?_;refine MV ?_;refine MG 0 ?_ (v:=.bool H) (hj:=(J9 (off:=3) 3));refine ME (V:=fun _=> .tuple #[]) (fun W hS=>J4o [1,2] [0,3] hS (fun hS=>J4i hS (fun hw=>Y5y H G v2 ((((([]++[u8 1])++txB D.id)++lb 32 D.vk)++lb 32 D.bk)++Q0u D P A 5) false W hw (by first|omega|(simp only[List.length_append,J0s,J1p,J6,List.length_cons,List.length_nil];omega)))) (fun _=>⟨.inr ⟨rfl,rfl⟩,.inr ⟨rfl,rfl⟩,trivial⟩)) ?_;intro D5;refine MZ fun W hS=> ?_;go_upto_region 16 with fail;refine RL hS ?_;clear hS;refine MV ?_;refine MV ?_;refine MC (v:=.int .i64 (e_:Int)) (fun W hS=>(by have h_:=Q35 W (hD.ext hS.ext) hL hK;rw[←He.out] at h_;exact h_)) ?_;refine ME (V:=fun _=> .tuple #[]) (fun W hS=>J4o [0,1] [2,3] hS (fun hS=>J4i hS (fun hw=>Z1k e_ (by omega) G D5 (((((([]++[u8 1])++txB D.id)++lb 32 D.vk)++lb 32 D.bk)++Q0u D P A 5)++[if H then 1 else 0]) false W hw (by first|omega|(simp only[List.length_append,J0s,J1p,J6,List.length_cons,List.length_nil];omega)))) (fun _=>⟨.inr ⟨rfl,rfl⟩,.inr ⟨rfl,rfl⟩,trivial⟩)) ?_;intro G9;refine MZ fun W hS=> ?_;rw[show((((((([]++[u8 1])++txB D.id)++lb 32 D.vk)++lb 32 D.bk)++Q0u D P A 5)++[if H then 1 else 0])++be8 e_:List UInt8)=hdB D P A H from V28 He.out] at hS;have G5:=Z3o hK P A H;go_upto_region 17 with fail;refine RL hS ?_;clear hS;refine MV ?_;refine MV ?_;refine MC (v:=.int .i64 (e_:Int)) (fun W hS=>(by have h_:=Q35 W (hD.ext hS.ext) hL hK;rw[←He.out] at h_;exact h_)) ?_;refine ME (V:=fun u=> .tuple #[u,.int .i64 0]) (fun W hS=>J47 hS (by have h_:=Z98 (f:=0) (t:=e_) W (hX.ext hS.ext) (hD.ext hS.ext) hL hK (Nat.zero_le _) Ψ;rw[show(List.range' 0 (e_+1-0)).map (mkC D)=J70 D e_ from by unfold J70;rfl,←η.out] at h_;exact h_) (fun _=>⟨rfl,rfl⟩)) ?_;intro um;refine J0g (fun W hS=>RR.form2 (hS.row (i:=0) rfl).rr) ?_;rintro⟨Am,cm,rfl⟩;refine MV ?_;refine MV ?_;refine W0 ?_;refine MV ?_;refine W0 ?_;refine MZ fun W hS=> ?_;go_upto_region 18 with fail;refine RL hS ?_;clear hS;refine W0 ?_;refine Wfo ?_;refine MZ fun W hS=> ?_;obtain⟨M2,Δ,β⟩:=Y5z (m:=1) (hS.row (i:=0) rfl).rr (by have h_:=Z.out;omega) Tryz.underlying82 (by kernel_rfl);obtain⟨Ad,cd,ξ⟩:=RR.form2 (β _ (hS.row (i:=0) rfl).rr);rw[show(List.drop 1 Mz).length=e_ by rw[List.length_drop];have h_:=Z.out;omega] at ξ;subst ξ;go_upto_region 20 with fail;refine RL hS ?_;clear hS;refine MV ?_;refine MW ?_ (v:=.slice Ad e_ cd) (hv:=fun _=>Z6p Δ rfl rfl rfl);refine MV ?_;refine W0 ?_;refine MZ fun W hS=> ?_
  go_wp2_with fail
  go_loopw [82] (fun jj wr=> ∃(k:Nat)(v2:Value),(k≤e_)∧(jj=.int .i64 (k:Int))∧SH [] w wr [.b χ (Q6 [.c (.pointer (some ⟨y.p,0,none⟩)),.c (.int .i64 (P:Int)),.c (.int .i64 (A:Int)),.c (.bool H)]) 40,.b G #[v2,.bool false] 72,.o v2 (hdB D P A H++J8h D k),.r 86 65 (.slice Am Mz.length cm) Mz])
   (fun jj _=>e_-(intOf jj).toNat)
  case atStart=>exact⟨0,_,Nat.zero_le _,rfl,(by rw[show J8h D 0=[] by unfold J8h;rfl,List.append_nil];exact(hS.pick [3,1,2,0]))⟩
  clear hS
  case round=>
   obtain⟨k,v2,hk,rfl,hS⟩:=hrel;have G8:=Q0t hK k
   by_cases J:k<e_
   ·
    obtain⟨ζ,U⟩:=exn (rs (D.tree (k+1)));obtain⟨ω,σ⟩:=exn (D.link (k+1));have Γ:(Mz.drop 1)[k]?=some (fcs [.c (.int .i64 ((k+1:Nat):Int)),.a 32 ζ,.a 32 ω]):=by rw[List.getElem?_drop,Nat.add_comm,η.out,Q96 (by omega),U,σ];rfl
    have Ξ:=Lib.hid U;clear U σ;have M1:(prB (D.rowE (k+1))).length≤1608:=Nat.le_trans (Q0s fun q hq=>DD.qb hK (List.mem_append_left _ (DD.rowE_mem hq))) (by have h_:=DD.rowE_len hK (k+1);omega);obtain⟨κ,δ,S⟩:=RR.addr (β _ (hS.row (i:=3) rfl).rr) Γ;have N:=Lib.hid S;clear S;go_upto_region 21 with fail;refine RL hS ?_;clear hS;refine Wto ?_;refine MZ fun W hS=> ?_;go_upto_region 22 with fail;refine RL hS ?_;clear hS;refine MW ?_ (v:=.pointer (some ⟨κ,δ+k*65,none⟩)) (hv:=fun _=>J2l N.out J rfl rfl rfl Tryz.underlying82 (by kernel_rfl));refine MF (v:=.agg (Q6 [.c (.int .i64 ((k+1:Nat):Int)),.a 32 ζ,.a 32 ω])) (fun W hS=>J1y rfl rfl (fun i_ v hv=>(RR.atF (k:=65) (β _ (hS.row (i:=3) rfl).rr) Γ N.out) i_ v (by simpa using hv)) (by kernel_rfl) (by rw[J5];kernel_rfl)) ?_;refine MN (z:=Q6 [.c (.int .i64 0),.a 32 0,.a 32 0]) (t:=86) ?_;intro G2;refine MRa 0 ?_ (h1:=by exact(V6 ⟨rfl,trivial⟩));refine MZ fun W hS=> ?_;go_upto_region 23 with fail;refine RL hS ?_;clear hS;refine MV ?_;refine MV ?_;refine MG 0 ?_ (v:=.int .i64 ((k+1:Nat):Int)) (hj:=(J9 (off:=0) 0));refine ME (V:=fun x:{x:Value×List Pv // x.2.map pvP=(D.puts[k+1]?).getD []}=> .tuple #[x.1.1,.int .i64 0]) (fun W hS=>J7n hS (Y60 (e_:=k+1) W (hD.ext hS.ext) hL hK (by omega)) (fun _=>rfl)) ?_;rintro⟨⟨uc,qs⟩,θ⟩;dsimp only at θ⊢;obtain⟨Y,α⟩:=K2h hK (e:=k+1) θ;have ν:=Lib.hid θ;clear θ;refine MV ?_;refine MV ?_;refine W0 ?_;refine MV ?_;refine W0 ?_;refine MZ fun W hS=> ?_;go_upto_region 24 with fail;refine RL hS ?_;clear hS;refine W0 ?_;refine Wfo ?_;refine MZ fun W hS=> ?_;go_upto_region 26 with fail;refine RL hS ?_;clear hS;refine MV ?_;refine MV ?_;refine ME (V:=fun _:Value=> .tuple #[]) (fun W hS=>J4o [4,5,0,1] [2,3,6] hS (fun hT=>Z3p (l:=hdB D P A H++J8h D k) Y α (by first|omega|(simp only[List.length_append,J0s,J1p,J6,List.length_cons,List.length_nil];omega)) W hT) (fun _=>⟨.inr ⟨rfl,rfl⟩,.inr ⟨rfl,rfl⟩,.inl (by simp),.inl (by simp),trivial⟩)) ?_;intro D3;dsimp only[List.cons_append,List.nil_append];refine MT (fun W hS=>by rw[ν.out] at hS;exact hS) ?_;refine MZ fun W hS=> ?_;go_upto_region 27 with fail;refine RL hS ?_;clear hS;refine MV ?_;refine MV ?_;refine Mk 4 ?_ (sub:=J0 .u8 32 (J7 ζ)) (hs:=(J4j (off:=1) 1));refine ME (V:=fun _=> .tuple #[]) (fun W hS=>J4o [0,1] [2,3,4,5,6] hS (fun hS=>J4i hS (fun hw=>Q74 ζ G D3 ((hdB D P A H++J8h D k)++prB (D.rowE (k+1))) false W hw (by first|omega|(simp only[List.length_append,J0s,J1p,J6,List.length_cons,List.length_nil];omega)))) (fun _=>⟨.inr ⟨rfl,rfl⟩,.inr ⟨rfl,rfl⟩,trivial⟩)) ?_;intro D4;refine MZ fun W hS=> ?_;go_wp2;go_roundw
    case rel=>exact⟨(k+1),D4,by omega,by go_num,(by rw[←Y5u Ξ.out];exact(hS.pick [5,0,1,6]))⟩
    case measure=>simp[intOf];omega
   have φ:k=e_:=by omega
   rw[φ] at hS;clear φ;have D7:=Q0t hK e_;go_upto_region 21 with fail;refine RL hS ?_;clear hS;refine Wfo ?_;refine MZ fun W hS=> ?_;go_upto_region 29 with fail;refine RL hS ?_;clear hS;refine MV ?_;refine MV ?_;refine ME (V:=fun x:{x:Value×List Pv // x.2.map pvP=D.waits}=>x.1.1) (fun W hS=>J7n hS (Z99 W (hD.ext hS.ext) hL hK) (fun _=>rfl)) ?_;rintro⟨⟨uw,ws⟩,ε⟩;dsimp only at ε⊢;obtain⟨Y,α⟩:=K2g hK ε;have ν:=Lib.hid ε;clear ε;refine ME (V:=fun _:Value=> .tuple #[]) (fun W hS=>J4o [3,4,0,1] [2,5] hS (fun hT=>Z3p (l:=hdB D P A H++J8h D e_) Y α (by first|omega|(simp only[List.length_append,J0s,J1p,J6,List.length_cons,List.length_nil];omega)) W hT) (fun _=>⟨.inr ⟨rfl,rfl⟩,.inr ⟨rfl,rfl⟩,.inl (by simp),.inl (by simp),trivial⟩)) ?_;intro Ω;dsimp only[List.cons_append,List.nil_append];refine MT (fun W hS=>by rw[ν.out] at hS;exact hS) ?_;refine MZ fun W hS=> ?_;obtain⟨τ,μ⟩:=exn (rs (D.tree e_));obtain⟨M,X⟩:=exn (D.link e_);have R:Mz[e_]?=some (fcs [.c (.int .i64 (e_:Int)),.a 32 τ,.a 32 M]):=by rw[η.out,Q96 (Nat.le_refl _),μ,X];rfl
   have Θ:=Lib.hid X;clear μ X;obtain⟨κ,δ,S⟩:=RR.addr (hS.row (i:=5) rfl).rr R;have N:=Lib.hid S;clear S;go_upto_region 30 with fail;refine RL hS ?_;clear hS;(iterate 4 refine MV ?_);refine MW ?_ (v:=.int .i64 (e_:Int)) (hv:=by intro W;have h_:=Z.out;go_simp;(try simp only[IntKind.wrap_i64]);omega);refine MW ?_ (v:=.pointer (some ⟨κ,δ+e_*65,none⟩)) (hv:=fun _=>J2l N.out (List.getElem?_eq_some_iff.1 R).1 rfl rfl rfl Tryz.underlying82 (by kernel_rfl));refine MW ?_ (v:=.pointer (some ⟨κ,δ+e_*65+33,none⟩));refine MF (v:=.agg (J0 .u8 32 (J7 M))) (fun W hS=>J1y rfl rfl (fun i_ v hv=>(by rw[Nat.add_assoc];first|exact(RR.atF (k:=65) (hS.row (i:=5) rfl).rr R N.out) _ v ((show ∀(j_:Nat)(v_:Value),(J0 .u8 32 (J7 M))[j_]?=some v_→(Q6 [.c (.int .i64 (e_:Int)),.a 32 τ,.a 32 M])[33+j_]?=some v_ from(J4j (off:=33) 2)) i_ v hv)|exact(RR.atF (k:=65) (hS.row (i:=5) rfl).rr R N.out) _ v (by rw[Array.getElem?_toList];exact(show ∀(j_:Nat)(v_:Value),(J0 .u8 32 (J7 M))[j_]?=some v_→(Q6 [.c (.int .i64 (e_:Int)),.a 32 τ,.a 32 M])[33+j_]?=some v_ from(J4j (off:=33) 2)) i_ v hv))) (by kernel_rfl) (by rw[J1];kernel_rfl)) ?_;refine ME (V:=fun _=> .tuple #[]) (fun W hS=>J4o [0,1] [2,3,4,5] hS (fun hS=>J4i hS (fun hw=>Q74 M G Ω ((hdB D P A H++J8h D e_)++prB (D.waits)) false W hw (by first|omega|(simp only[List.length_append,J0s,J1p,J6,List.length_cons,List.length_nil];omega)))) (fun _=>⟨.inr ⟨rfl,rfl⟩,.inr ⟨rfl,rfl⟩,trivial⟩)) ?_;intro M7;refine MZ fun W hS=> ?_;rw[show(((hdB D P A H++J8h D e_)++prB (D.waits))++lb 32 M:List UInt8)=pkB D P A H from V2a He.out Θ.out] at hS;have G4:(pkB D P A H).length≤100000:=Y5v hK P A H;go_upto_region 31 with fail;refine RL hS ?_;clear hS;refine MV ?_;refine ME (V:=fun u=> .tuple #[u,.int .i64 0]) (fun W hS=>J47 hS (Z9a (l:=pkB D P A H) hS (i:=0) (j:=1) rfl rfl (by first|omega|(simp only[List.length_append,J0s,J1p,J6,List.length_cons,List.length_nil];omega))) (fun _=>⟨rfl,rfl⟩)) ?_;intro so;refine MV ?_;refine W0 ?_;refine MV ?_;refine W0 ?_;refine MZ fun W hS=> ?_;go_wp2;exact bodyPost_ret (v:=.tuple #[so,.int .i64 0]) (by simp only[results,Tryz.results9];go_simp) rfl ⟨so,rfl,hS.pick [0]⟩
end

section
open K4
theorem Q0x (m:Int)(s:RSt):(txS m s).1.length≤s.1.length:=by
 unfold txS
 split
 ·
  rw[List.length_drop];omega
 exact Nat.le_refl _
namespace SH
variable {F : List Nat} {w W : World} {H : List As} {x : As}
theorem addn {n:Nat}(h:SH F w W H)(hx:x.holds W)(hm:x.mv=true)(hn:∀k∈x.foot,n≤k)(hw:w.heap.size≤n)(hl:∀y∈H,∀k∈y.foot,k<n)(ht:H.all (tyOk x)=true):SH F w W (x::H):=by
 refine⟨h.off,fun y hy=> ?_,List.pairwise_cons.2 ⟨fun y hy=>⟨fun _=> ?_,fun _=> ?_⟩,h.ap⟩,fun y hy hm k hk G=> ?_⟩
 ·
  rcases List.mem_cons.1 hy with rfl|hy
  ·
   exact hx
  exact h.all y hy
 ·
  have hl:=hl y hy;have ht:=List.all_eq_true.1 ht y hy;cases y with
  |t T K=>simpa[tyOk,hm] using ht
  |_=>exact fun k hk D=>Nat.not_lt.2 (hn k hk) (hl k D)
 ·
  have hl:=hl y hy;cases x with
  |t T K=>cases hm
  |_=>exact fun k hk D=>Nat.not_lt.2 (hn k D) (hl k hk)
 rcases List.mem_cons.1 hy with rfl|hy
 ·
  have:=hn k hk;omega
 exact h.old y hy hm k hk G
end SH
theorem Q76 {P:Program}{f:FuncId}{args:Array Value}{t:List UInt8}{F:List Nat}{w W:World}{H:List As}{i j p:Nat}{v:Value}{l l' :List UInt8}{e e' :Int}(hS:SH F w W H)(hi:H[i]?=some (.b p #[v,.int .i64 e] 154))(hj:H[j]?=some (.s v l))
 (hc:Rdr W p v l e→Calls P f args W fun en W' => ∃u,en=.returned u∧Own W' u t∧Fr u.ownBlock W.heap.size []∧∃v',RdTo W p v l l' e' v' W') (ht:∀x y:Value,(As.s y l' ::H.set i (.b p #[y,.int .i64 e'] 154)).all (SH.tyOk (.o x t))=true):
 Calls P f args W fun en W' => ∃x:Value×{u:Value // Sub u l' (sb v l)},en=.returned x.1∧SH F w W' (.o x.1 t:: .s x.2.1 l' ::H.set i (.b p #[x.2.1,.int .i64 e'] 154)):=by
 have hn:i≠j:=fun e=>by subst e;rw[hi] at hj;cases hj
 refine(hc (Q3r hS hi hj)).mono fun en W' ⟨u,h1,h5,h6,v',h2⟩=>⟨(u,⟨v',h2.sub⟩),h1,?_⟩
 have h3:=hS.setb hi h2.off h2.rd.1;have h4:=h3.sub (i:=j) (by rw[List.getElem?_set_ne hn];exact hj) h2.rd.2.1 h2.sub;refine h4.addn (n:=W.heap.size) (x:=.o u t) h5 rfl (fun k hk=>Nat.le_of_not_lt fun G=>by have:=h6 k (As.mem_toList hk) G;cases this) hS.size (fun y hy k hk=> ?_) (ht u v');rcases List.mem_cons.1 hy with rfl|hy
 ·
  have hk' :sb v' l' =some k:=As.mem_toList hk;exact Sl.lt (hS.sl hj) k (h2.sub k hk')
 rcases SH.mem_set_ne hy with rfl|⟨j2,_,D⟩
 ·
  obtain rfl:k=p:=List.mem_singleton.1 hk;exact Q2 (hS.blk hi)
 exact As.lt (hS.at_ D) k hk
def J6c:Nat→RSt→DD→RSt×DD×Bool
  |0,s,D=>(s,D,true)
  |k+1,s,D=>if D.pcode (txV 32 s) (txV 64 (txS 32 s))=0 then J6c k (txS 64 (txS 32 s)) (D.put (txV 32 s) (txV 64 (txS 32 s))) else(txS 64 (txS 32 s),D,false)
def X8 (s:RSt)(D:DD):RSt×DD×Bool:=if K1 s<0∨16<K1 s then(tkS 8 s,D,false) else J6c (K1 s).toNat (tkS 8 s) D
theorem Q36 {s:RSt}{D:DD}(h:K1 s<0∨16<K1 s):X8 s D=(tkS 8 s,D,false):=if_pos h
theorem Q3s {s:RSt}{D:DD}(h:¬(K1 s<0∨16<K1 s)):X8 s D=J6c (K1 s).toNat (tkS 8 s) D:=if_neg h
theorem Q1x {k:Nat}{s:RSt}{D:DD}(h:D.pcode (txV 32 s) (txV 64 (txS 32 s))=0):J6c (k+1) s D=J6c k (txS 64 (txS 32 s)) (D.put (txV 32 s) (txV 64 (txS 32 s))):=if_pos h
theorem Q3t {k:Nat}{s:RSt}{D:DD}(h:¬D.pcode (txV 32 s) (txV 64 (txS 32 s))=0):J6c (k+1) s D=(txS 64 (txS 32 s),D,false):=if_neg h
theorem Q97:∀{k:Nat} {s:RSt} {D:DD},DOk D→DOk (J6c k s D).2.1
  |0,_,_,h=>h
  |k+1,s,D,h=>by
    by_cases hc:D.pcode (txV 32 s) (txV 64 (txS 32 s))=0
    · rw[Q1x hc];exact Q97 (h.put (J8i h hc))
    · rw[Q3t hc];exact h
theorem J9h {s:RSt}{D:DD}(h:DOk D):DOk (X8 s D).2.1:=by
  by_cases hc:K1 s<0∨16<K1 s
  · rw[Q36 hc];exact h
  rw[Q3s hc];exact Q97 h
theorem Q5w:∀{k:Nat} {s:RSt} {D:DD},(J6c k s D).1.1.length≤s.1.length
  |0,_,_=>Nat.le_refl _
  |k+1,s,D=>by
    have h2:(txS 64 (txS 32 s)).1.length≤s.1.length:=Nat.le_trans (Q0x _ _) (Q0x _ _)
    by_cases hc:D.pcode (txV 32 s) (txV 64 (txS 32 s))=0
    · rw[Q1x hc];exact Nat.le_trans Q5w h2
    · rw[Q3t hc];exact h2
theorem Q0y {s:RSt}{D:DD}:(X8 s D).1.1.length≤s.1.length:=by
  by_cases hc:K1 s<0∨16<K1 s
  · rw[Q36 hc];exact J21 8 s
  rw[Q3s hc];exact Nat.le_trans Q5w (J21 8 s)
def J5p:Nat→RSt→DD→RSt×DD×Bool
  |0,s,D=>(s,D,true)
  |k+1,s,D=>if(X8 s D).2.2=true∧(X8 s D).2.1.puts.length≤(X8 s D).2.1.E then J5p k (tkS 32 (X8 s D).1) (X8 s D).2.1.nxt else((X8 s D).1,(X8 s D).2.1,false)
theorem Q3u {k:Nat}{s:RSt}{D:DD}(h:(X8 s D).2.2=true∧(X8 s D).2.1.puts.length≤(X8 s D).2.1.E):J5p (k+1) s D=J5p k (tkS 32 (X8 s D).1) (X8 s D).2.1.nxt:=if_pos h
theorem Q1y {k:Nat}{s:RSt}{D:DD}(h:¬((X8 s D).2.2=true∧(X8 s D).2.1.puts.length≤(X8 s D).2.1.E)):J5p (k+1) s D=((X8 s D).1,(X8 s D).2.1,false):=if_neg h
theorem Q5x:∀{k:Nat} {s:RSt} {D:DD},DOk D→DOk (J5p k s D).2.1
  |0,_,_,h=>h
  |k+1,s,D,h=>by
    by_cases hc:(X8 s D).2.2=true∧(X8 s D).2.1.puts.length≤(X8 s D).2.1.E
    · rw[Q3u hc];exact Q5x ((J9h h).nxt hc.2)
    · rw[Q1y hc];exact J9h h
def s1R (s:RSt):RSt:=tkS 1 s
def idR (s:RSt):List UInt8:=txV 16 (s1R s)
def s2R (s:RSt):RSt:=txS 16 (s1R s)
def s3R (s:RSt):RSt:=tkS 32 (s2R s)
def s4R (s:RSt):RSt:=tkS 32 (s3R s)
def s5R (s:RSt):RSt:=tkS 8 (s4R s)
def s6R (s:RSt):RSt:=tkS 8 (s5R s)
def s7R (s:RSt):RSt:=tkS 8 (s6R s)
def s8R (s:RSt):RSt:=tkS 8 (s7R s)
def s9R (s:RSt):RSt:=tkS 8 (s8R s)
def Q1z (s:RSt):RSt:=flS (s9R s)
def Z6r (s:RSt):RSt:=tkS 8 (Q1z s)
def Y62 (id:List UInt8)(L P E:Int):Prop:=(1≤id.length∧id.length≤16)∧(1≤L∧L≤64)∧(1≤P∧P≤16)∧(1≤E∧E≤32)
instance (id:List UInt8)(L P E:Int):Decidable (Y62 id L P E):=by unfold Y62;exact inferInstance
instance (P A:Int):Decidable (Z94 P A):=by unfold Z94;exact inferInstance
def d0R (s:RSt):DD:=Q99 (idR s) (suV (s2R s)) (suV (s3R s)) (K1 (s4R s)).toNat (K1 (s5R s)).toNat (K1 (s6R s)).toNat
def epR (s:RSt):RSt×DD×Bool:=J5p (K1 (Q1z s)).toNat (Z6r s) (d0R s)
def ptR (s:RSt):RSt×DD×Bool:=X8 (epR s).1 (epR s).2.1
def RdOk (s:RSt):Prop:=byV s=1∧Y62 (idR s) (K1 (s4R s)) (K1 (s5R s)) (K1 (s6R s))∧0≤K1 (Q1z s)∧K1 (Q1z s)≤K1 (s6R s)∧(epR s).2.2=true∧(ptR s).2.2=true∧enV (tkS 32 (ptR s).1)=0∧Z94 (K1 (s7R s)) (K1 (s8R s))
theorem RdOk.new {s:RSt}(h:RdOk s):NewOk (idR s) (K1 (s4R s)).toNat (K1 (s5R s)).toNat (K1 (s6R s)).toNat:=by
  obtain⟨_,⟨⟨i1,i2⟩,⟨l1,l2⟩,⟨p1,p2⟩,e1,e2⟩,_⟩:=h;exact⟨i1,i2,by omega,by omega,by omega,by omega,by omega,by omega⟩
theorem RdOk.ok {s:RSt}(h:RdOk s):DOk (ptR s).2.1:=J9h (Q5x (Z3t h.new))
abbrev rdP (p:Nat)(v:Value)(s:RSt):List As:=[.b p #[v,.int .i64 s.2] 154,.s v s.1]
abbrev rdB (p:Nat)(v:Value)(s:RSt):List As:=[.b p #[v,.int .i64 s.2] 154]
def V2b (L:List As)(w:World)(H:List As):Prop:=∀x∈H,x.mv=true→∀k∈x.foot,k<w.heap.size→k∈SH.feet L
theorem SH.oldm {F:List Nat}{L H R:List As}{w W:World}(h:SH F w W (H++R))(hF:F=SH.feet L):V2b L w H:=fun x hx hm k hk D=>by rw[←hF];exact h.old x (List.mem_append_left _ hx) hm k hk D
theorem Q05 {L:List As}{D1:DD}{y1:LD}{w:World}{f:List Nat}(hM:V2b L w (ldL D1 y1))(h1:OldF L w (J3v y1.bs))(h2:OldF L w (J45 y1.pvs))(hf:OldF (ldL D1 y1) w f):OldF L w f:=fun k hk D=>by
  obtain⟨x,hx,ht,G⟩:=hf k hk D
  by_cases hm:x.mv=true
  · obtain⟨z,hz,M,J⟩:=SH.mem_feet.1 (hM x hx hm k G D)
    exact⟨z,hz,fun T K e=>(by subst e;cases M),J⟩
  · simp only[ldL,List.mem_cons,List.not_mem_nil,or_false] at hx
    rcases hx with rfl|rfl|rfl|rfl|rfl|rfl|rfl|rfl|rfl|rfl|rfl
    · exact absurd rfl hm
    · exact absurd rfl hm
    · exact absurd rfl hm
    · exact absurd rfl hm
    · exact absurd rfl hm
    · exact absurd rfl hm
    · exact absurd rfl hm
    · exact absurd rfl hm
    · exact h1 k G D
    · exact h2 k G D
    · exact absurd rfl (ht _ _)
theorem OldF.mono {L L' :List As}{w:World}{f:List Nat}(h:OldF L w f)(hs:∀x∈L,x∈L'):OldF L' w f:=fun k hk D=>by
  obtain⟨x,hx,h1,h2⟩:=h k hk D;exact⟨x,hs x hx,h1,h2⟩
end

section
set_option maxHeartbeats 3000000
attribute [local irreducible] wpList Z6 wpX
open K4
open S8 (Kn GA kP)
def K2k (D:DD)(y:LD)(p:Nat)(v:Value)(s:RSt)(r:RSt×DD×Bool)(w w' :World)(e:Ending):Prop:=∃x:LD×Value,e=.returned (.bool r.2.2)∧LOk r.2.1 x.1∧x.1.p=y.p∧SH (SH.feet (ldL D y++[gx]++rdP p v s)) w w' (ldL r.2.1 x.1++[gx]++[.b p #[x.2,.int .i64 r.1.2] 154,.s v s.1])∧OldF (ldL D y++rdB p v s) w (J3v x.1.bs)∧OldF (ldL D y++rdB p v s) w (J45 x.1.pvs)∧Sl w' x.2 r.1.1∧Sub x.2 r.1.1 (sb v s.1)
theorem Z3u {D:DD}{y:LD}{p:Nat}{v:Value}{s:RSt}:SH.feet (ldL D y++[gx]++rdP p v s)=SH.feet (ldL D y++rdB p v s):=by
 unfold SH.feet;simp only[List.filter_append,List.flatMap_append];show _++[]++_=_;rw[List.append_nil];rfl
attribute [local irreducible] eI be8 hs4 lb J3e J2f J01 xt hm pbs DD.tree DD.link rs S8.kP S8.kN S8.kD ofT ebs lk0 sE sL sN opn bnd ahd bsd ixN pfN erN J5c DD.links DD.trees DD.play DD.putD DD.sealD DD.pcode txV txS tkS K1 J6c X8 byV suV flV flS enV

theorem Y63 {D:DD}{l x:List UInt8}(h:D.pcode l x=0):D.putD l x=D.put l x:=by unfold DD.putD;rw[if_pos h]
theorem Y64 {D:DD}{l x:List UInt8}(h:¬D.pcode l x=0):D.putD l x=D:=by unfold DD.putD;rw[if_neg h]
theorem V2c {D:DD}{y:LD}{p:Nat}{v:Value}{s:RSt}(hb0:s.1.length≤1000000)(w:World)(hL:LOk D y)(hK:DOk D)(h_:SH (SH.feet (ldL D y++[gx]++rdP p v s)) w w (ldL D y++[gx]++rdP p v s)):
  Calls Tryz.prog 71 #[.pointer (some ⟨p,0,none⟩),.pointer (some ⟨y.p,0,none⟩)] w fun e w' =>K2k D y p v s (X8 s D) w w' e:=by
 have hS:SH (SH.feet (ldL D y++[gx]++rdP p v s)) w w [.b y.p (Q6 [.c y.uid,.a 32 D.vk,.a 32 D.bk,.c (.int .i64 (D.L:Int)),.c (.int .i64 (D.P:Int)),.c (.int .i64 (D.E:Int)),.c (.map (some y.h)),.c y.wv,.c y.pv,.c y.tv,.c y.lv]) 112,J3b y.h (J16 y.acs),acT y.acs,enT y.acs,.r 115 2 y.wv (List.map pvC y.wps),.r 87 1 y.pv (List.map J8m y.pvs),.r 113 1 y.tv (List.map J48 y.tus),.r 22 32 y.lv (List.map J46 D.links),byT y.bs,rwT y.pvs,taT D.trees y.tus,gx,.b p #[v,.int .i64 s.2] 154,.s v s.1]:=h_;clear h_;have hS:=hS.sub (i:=13) rfl (hS.sl (i:=13) rfl) J1e
 go_enter Tryz.func71,Tryz.ntmps71
 go_upto_region 1 with fail;refine RL hS ?_;clear hS;refine MV ?_;refine ME (V:=fun _=> .int .i64 (K1 s)) (fun W hS=>J2g (i:=13) (j:=0) hS rfl rfl (fun hr=>Q06 (s:=s) hr (by have:=hb0;omega))) ?_;rintro⟨θ,Y⟩;dsimp only;refine MD 1 ?_;have Γ:(tkS 8 s).1.length≤1000000:=Nat.le_trans (J21 _ _) hb0;refine MV ?_;refine MZ fun W hS=> ?_
 by_cases α:K1 s<0
 ·
  go_upto_region 2 with fail;refine RL hS ?_;clear hS;refine MV ?_;refine Wto ?_;refine Wt ?_;refine MS ?_;refine MS ?_;refine Wt ?_;refine MZ fun W hS=> ?_;go_wp2;exact bodyPost_ret (v:=.bool false) (by simp only[results,Tryz.results71];go_simp) rfl (by rw[Q36 (.inl α)];exact⟨(y,θ),rfl,hL,rfl,hS.pick [1,2,3,4,5,6,7,8,9,10,11,12,13,14],(by_oldS.mono (fun x hx=>List.mem_append_left _ hx)),(rw_oldS.mono (fun x hx=>List.mem_append_left _ hx)),hS.sl (i:=0) rfl,(J2d Y J1e)⟩)
 by_cases M:16<K1 s
 ·
  go_upto_region 2 with fail;refine RL hS ?_;clear hS;refine MV ?_;refine Wfo ?_;refine Wf ?_;refine MV ?_;refine Wto ?_;refine Wt ?_;refine MZ fun W hS=> ?_;go_wp2;exact bodyPost_ret (v:=.bool false) (by simp only[results,Tryz.results71];go_simp) rfl (by rw[Q36 (.inr M)];exact⟨(y,θ),rfl,hL,rfl,hS.pick [1,2,3,4,5,6,7,8,9,10,11,12,13,14],(by_oldS.mono (fun x hx=>List.mem_append_left _ hx)),(rw_oldS.mono (fun x hx=>List.mem_append_left _ hx)),hS.sl (i:=0) rfl,(J2d Y J1e)⟩)
 have Ξ:¬(K1 s<0∨16<K1 s):=fun h_=>h_.elim α M;obtain⟨N_,φ⟩:=exn (K1 s).toNat;have Δ:K1 s=(N_:Int):=by omega
 have Ψ:N_≤16:=by omega
 obtain⟨R_,ρ⟩:=exn (X8 s D);have HR:RowKit.Hid (J6c (N_-0) (tkS 8 s) D=R_):=Lib.hid (by rw[ρ,Q3s Ξ,φ];rfl);have τ:=Lib.hid ρ;clear ρ φ;go_upto_region 2 with fail;refine RL hS ?_;clear hS;refine MV ?_;refine Wfo ?_;refine Wf ?_;refine MV ?_;refine Wfo ?_;refine Wf ?_;refine MZ fun W hS=> ?_;rw[Δ];have hS:=hS.pick [0,1,2,3,4,5,6,7,8,9,10,11,12,13,14]
 go_wp2_with fail
 go_loopw [17] (fun jj wr=> ∃(i:Nat)(D5:DD)(y5:LD)(s5:RSt)(v5:Value),(i≤N_)∧(y5.p=y.p)∧(LOk D5 y5)∧(DOk D5)∧(OldF (ldL D y++rdB p v s) w (J3v y5.bs))∧(OldF (ldL D y++rdB p v s) w (J45 y5.pvs))∧(Sub v5 s5.1 (sb v s.1))∧(s5.1.length≤1000000)∧(RowKit.Hid (J6c (N_-i) s5 D5=R_))∧(jj=.int .i64 (i:Int))∧SH (SH.feet (ldL D y++[gx]++rdP p v s)) w wr [.s v5 ((s5).1),.b y5.p (Q6 [.c y5.uid,.a 32 D5.vk,.a 32 D5.bk,.c (.int .i64 (D5.L:Int)),.c (.int .i64 (D5.P:Int)),.c (.int .i64 (D5.E:Int)),.c (.map (some y5.h)),.c y5.wv,.c y5.pv,.c y5.tv,.c y5.lv]) 112,J3b y5.h (J16 y5.acs),acT y5.acs,enT y5.acs,.r 115 2 y5.wv (List.map pvC y5.wps),.r 87 1 y5.pv (List.map J8m y5.pvs),.r 113 1 y5.tv (List.map J48 y5.tus),.r 22 32 y5.lv (List.map J46 D5.links),byT y5.bs,rwT y5.pvs,taT D5.trees y5.tus,gx,.b p #[v5,.int .i64 (s5).2] 154,.s v s.1])
  (fun jj _=>N_-(intOf jj).toNat)
 case atStart=>exact⟨0,D,y,tkS 8 s,θ,Nat.zero_le _,rfl,hL,hK,(by_oldS.mono (fun x hx=>List.mem_append_left _ hx)),(rw_oldS.mono (fun x hx=>List.mem_append_left _ hx)),(J2d Y J1e),Γ,Lib.hid HR.out,rfl,hS⟩
 clear hS
 case round=>
  obtain⟨i,D5,y5,s5,v5,hi,U,σ,Z,S,T,X,ψ,hR,rfl,hS⟩:=hrel
  by_cases χ:i<N_
  ·
   go_upto_region 5 with fail;refine RL hS ?_;clear hS;refine Wto ?_;refine MZ fun W hS=> ?_;go_upto_region 6 with fail;refine RL hS ?_;clear hS;refine MV ?_;refine ME (V:=fun x:Value×{u:Value // Sub u (txS 32 s5).1 (sb v5 (s5).1)}=>x.1) (fun W hS=>Q76 (i:=13) (j:=0) (t:=txV 32 s5) hS rfl rfl (fun hr=>Q78 (s:=s5) 32 hr (by have:=ψ;omega)) (fun _ _=>rfl)) ?_;rintro⟨ε,Θ,μ⟩;dsimp only;refine MD 2 ?_;have κ:(txS 32 s5).1.length≤1000000:=Nat.le_trans (Q0x _ _) ψ;refine MV ?_;refine MZ fun W hS=> ?_;go_upto_region 7 with fail;refine RL hS ?_;clear hS;refine MV ?_;refine ME (V:=fun x:Value×{u:Value // Sub u (txS 64 (txS 32 s5)).1 (sb Θ (txS 32 s5).1)}=>x.1) (fun W hS=>Q76 (i:=14) (j:=1) (t:=txV 64 (txS 32 s5)) hS rfl rfl (fun hr=>Q78 (s:=txS 32 s5) 64 hr (by have:=κ;omega)) (fun _ _=>rfl)) ?_;rintro⟨γ,G,ξ⟩;dsimp only;refine MD 3 ?_;have ω:(txS 64 (txS 32 s5)).1.length≤1000000:=Nat.le_trans (Q0x _ _) κ;refine MV ?_;refine MZ fun W hS=> ?_
   by_cases J:D5.pcode (txV 32 s5) (txV 64 (txS 32 s5))=0
   ·
    have hc:=Lib.hid J;clear J;go_upto_region 8 with fail;refine RL hS ?_;clear hS;(iterate 3 refine MV ?_);refine MT (fun W hS=>hS.pick [3,4,5,6,7,8,9,10,11,12,13,14,2,0,1,15,16]) ?_;refine J0g (fun W hS=>(show SH _ w W (ldL D5 y5++[gx,.o ε (txV 32 s5),.o γ (txV 64 (txS 32 s5)),.s G ((txS 64 (txS 32 s5)).1),.b p #[G,.int .i64 (txS 64 (txS 32 s5)).2] 154,.s v s.1]) from hS).oldm Z3u) ?_;intro ζ;refine ME (V:=fun _:ZD D5 y5 (D5.put (txV 32 s5) (txV 64 (txS 32 s5))) w=> .int .i64 0) (fun W hS=>by have h_:=Z9c (D:=D5) (y:=y5) (l:=(txV 32 s5)) (x:=(txV 64 (txS 32 s5))) (N:=[.o ε (txV 32 s5),.o γ (txV 64 (txS 32 s5))]) (R:=[.s G ((txS 64 (txS 32 s5)).1),.b p #[G,.int .i64 (txS 64 (txS 32 s5)).2] 154,.s v s.1]) hS (hS.osl (i:=12) rfl) (hS.osl (i:=13) rfl) Z9d σ Z rfl;rw[Y63 hc.out,hc.out,show y5.p=y.p from U] at h_;exact h_) ?_;rintro⟨z7,β⟩;dsimp only[ldL,List.cons_append,List.nil_append];refine Wfo ?_;refine MZ fun W hS=> ?_;go_wp2;go_roundw
    case rel=>exact⟨(i+1),(D5.put (txV 32 s5) (txV 64 (txS 32 s5))),z7,txS 64 (txS 32 s5),G,by omega,(β.2.1.trans U),β.1,(Z.put (J8i Z hc.out)),(Q05 ζ S T β.2.2.1),(Q05 ζ S T β.2.2.2),(J2d ξ (J2d μ X)),ω,Lib.hid (by rw[←hR.out,show N_-i=N_-(i+1)+1 by omega];exact(Q1x hc.out).symm),by go_num,(hS.pick [14,0,1,2,3,4,5,6,7,8,9,10,11,15,16])⟩
    case measure=>simp[intOf];omega
   have hc:=Lib.hid J;clear J;have ν:X8 s D=(txS 64 (txS 32 s5),D5,false):=by have h_:=hR.out;rw[show N_-i=N_-(i+1)+1 by omega,Q3t hc.out] at h_;rw[←τ.out,←h_]
   go_upto_region 8 with fail;refine RL hS ?_;clear hS;(iterate 3 refine MV ?_);refine MT (fun W hS=>hS.pick [3,4,5,6,7,8,9,10,11,12,13,14,2,0,1,15,16]) ?_;refine J0g (fun W hS=>(show SH _ w W (ldL D5 y5++[gx,.o ε (txV 32 s5),.o γ (txV 64 (txS 32 s5)),.s G ((txS 64 (txS 32 s5)).1),.b p #[G,.int .i64 (txS 64 (txS 32 s5)).2] 154,.s v s.1]) from hS).oldm Z3u) ?_;intro δ;refine ME (V:=fun _:ZD D5 y5 D5 w=> .int .i64 (D5.pcode (txV 32 s5) (txV 64 (txS 32 s5)):Int)) (fun W hS=>by have h_:=Z9c (D:=D5) (y:=y5) (l:=(txV 32 s5)) (x:=(txV 64 (txS 32 s5))) (N:=[.o ε (txV 32 s5),.o γ (txV 64 (txS 32 s5))]) (R:=[.s G ((txS 64 (txS 32 s5)).1),.b p #[G,.int .i64 (txS 64 (txS 32 s5)).2] 154,.s v s.1]) hS (hS.osl (i:=12) rfl) (hS.osl (i:=13) rfl) Z9d σ Z rfl;rw[Y64 hc.out,show y5.p=y.p from U] at h_;exact h_) ?_;rintro⟨z8,η⟩;dsimp only[ldL,List.cons_append,List.nil_append];refine MW ?_ (v:=.bool true) (hv:=by intro W;have h_:=hc.out;go_simp;first|done|omega|rfl|simp_all);refine MZ fun W hS=> ?_;go_wp2;exact bodyPost_ret (v:=.bool false) (by simp only[results,Tryz.results71];go_simp) rfl (by rw[ν];exact⟨(z8,G),rfl,η.1,(η.2.1.trans U),hS.pick [0,1,2,3,4,5,6,7,8,9,10,11,15,16],(Q05 δ S T η.2.2.1),(Q05 δ S T η.2.2.2),hS.sl (i:=14) rfl,(J2d ξ (J2d μ X))⟩)
  have ν:X8 s D=(s5,D5,true):=by have h_:=hR.out;rw[show N_-i=0 by omega] at h_;rw[←τ.out,←h_];unfold J6c;rfl
  go_upto_region 5 with fail;refine RL hS ?_;clear hS;refine Wfo ?_;refine MZ fun W hS=> ?_;go_wp2;exact bodyPost_ret (v:=.bool true) (by simp only[results,Tryz.results71];go_simp) rfl (by rw[ν];exact⟨(y5,v5),rfl,σ,U,hS.pick [1,2,3,4,5,6,7,8,9,10,11,12,13,14],S,T,hS.sl (i:=0) rfl,X⟩)
end

section
open S8 (Kn GA kP)
theorem Z9i {J:List UInt8}{L P E:Int}(h:(1≤J.length∧J.length≤16)∧(1≤L∧L≤64)∧(1≤P∧P≤16)∧(1≤E∧E≤32)):∃L' P' E' :Nat,NewOk J L' P' E' ∧L=(L' :Int)∧P=(P' :Int)∧E=(E' :Int):=by
 obtain⟨⟨i1,i2⟩,⟨l1,l2⟩,⟨p1,p2⟩,⟨e1,e2⟩⟩:=h;exact⟨L.toNat,P.toNat,E.toNat,⟨i1,i2,by omega,by omega,by omega,by omega,by omega,by omega⟩,by omega,by omega,by omega⟩
end
end Go.Proofs.YtlkbneflnjmgbaaGreatDoor

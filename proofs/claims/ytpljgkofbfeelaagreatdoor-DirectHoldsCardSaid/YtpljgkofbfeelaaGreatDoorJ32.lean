/- Contracts and plain laws for directHolds_holds. Conditions: the tables hold their numbers. -/
import Derived.Test.YtpljgkofbfeelaaGreatDoorDt
open Go renaming undef->AP,World->AA,Value->AB,bodyPost_ret->BC,Calls->Az,IntKind->AG
open Go.IntKind renaming wrap_i64->BD
open _root_.List renaming nil_append->BM,append_assoc->Ak,cons_append->BK
open Go.RowKit
set_option maxRecDepth 100000
set_option linter.unusedSimpArgs false
set_option linter.unusedVariables false
namespace Go.Proofs.YtpljgkofbfeelaaGreatDoor
section
set_option maxHeartbeats 3000000
attribute [local irreducible] wpList Z9 wpX
open S8 (Kn GA kP)
attribute [local irreducible] eI be8 hs4 lb J33 J25 K3 xt hm pbs DD.tree DD.link rs S8.kP S8.kN S8.kD ofT ebs lk0 opn bnd ahd bsd ixN pfN erN J0l

theorem V2s {D:DD}{y:LD}(he:D.E<D.puts.length)(w:AA)(hD:DK D y w)(hL:LOk D y)(hK:DOk D):
  Az Tryz.prog 6 #[.pointer (some ⟨y.p,0,none⟩)] w fun e w' =>V5 (.tuple #[.int .i64 0,.int .i64 6]) w w' e:=by
 have G:=hK.pos;have J:=hK.len;have hS:=SH.nil [] w
 go_enter Tryz.func6,Tryz.ntmps6
 go_upto_region 3 with fail;refine RL hS ?_;clear hS;(iterate 3 refine MV ?_);refine MF (v:=y.lv) (fun W hS=>Q6 rfl rfl (by rw[J3 (J4 hD.d hS.ext)];exact(J5 (off:=72) 10)) (by kernel_rfl)) ?_;refine MF (v:=.int .i64 (D.puts.length:Int)) (fun W hS=>(by rw[show(D.puts.length:Int)=((List.map J0d D.links).length:Int) by rw[List.length_map,DD.links_len]];exact J1b (Row.off hD.lk hS.off0 f0) rfl rfl Tryz.underlying37)) ?_;refine MV ?_;refine MZ fun W hS=> ?_;go_upto_region 4 with fail;refine RL hS ?_;clear hS;(iterate 5 refine MV ?_);refine MF (v:=.int .i64 (D.E:Int)) (fun W hS=>Q6 rfl rfl (by rw[J3 (J4 hD.d hS.ext)];exact(J5 (off:=67) 5)) (by kernel_rfl)) ?_;refine Wto ?_;refine MZ fun W hS=> ?_;go_wp2;exact BC (v:=.tuple #[.int .i64 0,.int .i64 6]) (by simp only[results,Tryz.results6];go_simp) rfl ⟨rfl,hS.ext⟩
theorem V1m {D:DD}{y:LD}{l:List UInt8}{v:AB}{n:Int}(w:AA)(hD:DK D y w)(hL:LOk D y)(hK:DOk D)(hs:Sl w v l)(hla:¬(1≤l.length∧l.length≤32)):
  Az Tryz.prog 7 #[.pointer (some ⟨y.p,0,none⟩),v,.int .i64 n] w fun e w' =>V5 (.tuple #[.agg fdZ,.int .i64 1]) w w' e:=by
 have M:=hK.pos;have J:=hK.len;have G:¬(1≤(l.length:Int)∧(l.length:Int)≤32):=by omega
 have hS:=SH.nil [] w
 go_enter Tryz.func7,Tryz.ntmps7
 go_upto_region 0 with fail;refine RL hS ?_;clear hS;refine MN (z:=fdZ) (t:=44) ?_;intro N;refine W0 ?_;refine MZ fun W hS=> ?_;go_upto_region 1 with fail;refine RL hS ?_;clear hS;refine MV ?_;refine Wf ?_;refine Wf ?_;refine MV ?_;refine MC (v:=.bool false) (fun W hS=>(by have h_:=J3n W (K4 hs hS.ext);rw[show win _ 32=false from decide_eq_false G] at h_;exact h_)) ?_;refine Wt ?_;refine Wto ?_;refine MZ fun W hS=> ?_;go_upto_region 2 with fail;refine RL hS ?_;clear hS;refine MF (v:=.agg fdZ) (fun W hS=>Q7m rfl rfl J0f J0g Y0i) ?_;refine MRa 0 ?_ (h1:=by exact(V6 ⟨rfl,rfl,rfl,rfl,rfl,rfl,rfl,trivial⟩));refine MW ?_ (v:=.int .i64 1);refine MZ fun W hS=> ?_;go_wp2;exact BC (Y7 rfl rfl rfl (hS.blk (i:=0) rfl) (by kernel_rfl) (by rw[J9];kernel_rfl)) rfl ⟨rfl,hS.ext⟩
theorem V1c {D:DD}{y:LD}{l:List UInt8}{v:AB}{n:Int}{ep E:Nat}(hn0:n=(ep:Int)∨n= -1∧(ep:Int)=((D.puts.length-1:Nat):Int))(hlt:ep<D.puts.length)(hE_:E=erN D.vk l)(hE0:E≠0)(hn:l∉D.labs)(w:AA)(hX:GX w)(hD:DK D y w)(hL:LOk D y)(hK:DOk D)(hs:Sl w v l)(hla:1≤l.length∧l.length≤32):
  Az Tryz.prog 7 #[.pointer (some ⟨y.p,0,none⟩),v,.int .i64 n] w fun e w' =>V5 (.tuple #[.agg fdZ,.int .i64 (E:Int)]) w w' e:=by
 have Y:=hK.pos;have X:=hK.len;have U:1≤(l.length:Int)∧(l.length:Int)≤32:=by omega
 have hE:=Lib.hid hE_;clear hE_;have hS:=SH.nil [] w
 go_enter Tryz.func7,Tryz.ntmps7
 go_upto_region 0 with fail;refine RL hS ?_;clear hS;refine MN (z:=fdZ) (t:=44) ?_;intro T;refine W0 ?_;refine MZ fun W hS=> ?_;go_upto_region 1 with fail;refine RL hS ?_;clear hS;refine MV ?_;refine Wf ?_;refine Wf ?_;refine MV ?_;refine MC (v:=.bool true) (fun W hS=>(by have h_:=J3n W (K4 hs hS.ext);rw[show win _ 32=true from decide_eq_true U] at h_;exact h_)) ?_;refine Wf ?_;refine Wfo ?_;refine MZ fun W hS=> ?_;go_upto_region 3 with fail;rename_i K15 hK15 K25 hK25
 have G:∀a_ w_,(∃(M J N R:AB),a_={tmps:= #[.pointer (some ⟨y.p,0,none⟩),v,.int .i64 (ep:Int),AP,AP,AP,.pointer (some ⟨T,0,none⟩),.int .i64 0,AP,AP,AP,AP,AP,AP,AP,AP,AP,.pointer (some ⟨y.p,0,none⟩),.bool false,.bool false,v,.bool true,.bool false,.bool false,AP,M,J,N,R,AP,AP,AP,AP,AP,AP,AP,AP,AP,AP,AP,AP,AP,AP,AP,AP,AP,AP,AP,AP,AP,AP,AP,AP,AP,AP,AP,AP,AP,AP,AP,AP,AP,AP,AP,AP,AP,AP,AP,AP,AP,AP,AP,AP,AP,AP,AP,AP,AP,AP,AP,AP,AP,AP,AP,AP,AP,AP,AP,AP,AP,AP,AP,AP,AP,AP,AP,AP,AP,AP,AP,AP,AP,AP,AP,AP,AP,AP,AP,AP,AP,AP,AP,AP,AP,AP,AP,AP,AP,AP,AP,AP,AP,AP,AP,AP,AP,AP,AP,AP,AP,AP,AP,AP,AP,AP,AP,AP],defers:=[]}∧SH [] w w_ [.b T fdZ 44])→K15 a_ w_:=by
  rintro _ W ⟨M,J,N,R,rfl,hS⟩;apply hK15;go_upto_region 5 with fail;refine RL hS ?_;clear hS;refine MV ?_;refine Wfo ?_;refine Wf ?_;refine MV ?_;refine MV ?_;refine MC (v:=.int .i64 ((D.puts.length-1:Nat):Int)) (fun W hS=>J58 W (hD.ext hS.ext) hL hK) ?_;refine Wfo ?_;refine Wfo ?_;refine MZ fun W hS=> ?_;go_upto_region 7 with fail;refine RL hS ?_;clear hS;refine MV ?_;refine MV ?_;refine MC (v:=.tuple #[.pointer none,.int .i64 (E:Int)]) (fun W hS=>Z46 (E:=E) hE.out hn hE0 W (hX.ext hS.ext) (hD.ext hS.ext) hL (K4 hs hS.ext) (by omega)) ?_;(iterate 5 refine MV ?_);refine MZ fun W hS=> ?_;go_upto_region 8 with fail;refine RL hS ?_;clear hS;refine MV ?_;refine Wto ?_;refine MZ fun W hS=> ?_;go_upto_region 9 with fail;refine RL hS ?_;clear hS;refine MF (v:=.agg fdZ) (fun W hS=>Q7m rfl rfl J0f J0g Y0i) ?_;refine MV ?_;refine MRa 0 ?_ (h1:=by exact(V6 ⟨rfl,rfl,rfl,rfl,rfl,rfl,rfl,trivial⟩));refine MV ?_;refine MZ fun W hS=> ?_;go_wp2;exact BC (Y7 rfl rfl rfl (hS.blk (i:=0) rfl) (by kernel_rfl) (by rw[J9];kernel_rfl)) rfl ⟨rfl,hS.ext⟩
 clear hK15;replace G:=Lib.hid G;rcases hn0 with rfl|⟨rfl,S⟩
 ·
  refine RL hS ?_;clear hS;refine MV ?_;refine Wfo ?_;refine MZ fun W hS=> ?_
  go_wp2_with fail
  exact G.out _ _ ⟨_,_,_,_,rfl,hS⟩
 have V:=Lib.hid S;clear S;refine RL hS ?_;clear hS;refine MW ?_ (v:=.int .i64 (-1));refine Wto ?_;refine MZ fun W hS=> ?_;go_upto_region 4 with fail;refine RL hS ?_;clear hS;refine MV ?_;refine MC (v:=.int .i64 (ep:Int)) (fun W hS=>(by have h_:=J58 W (hD.ext hS.ext) hL hK;rw[←V.out] at h_;exact h_)) ?_;refine MV ?_;refine MZ fun W hS=> ?_
 go_wp2_with fail
 exact G.out _ _ ⟨_,_,_,_,rfl,hS⟩
theorem V2t {id:List UInt8}{vk bk:Nat}{L P E:Int}{v:AB}(hN:¬((1≤id.length∧id.length≤16)∧(1≤L∧L≤64)∧(1≤P∧P≤16)∧(1≤E∧E≤32)))(w:AA)(hs:Sl w v id):
  Az Tryz.prog 35 #[v,.agg (Q2 [.a 32 vk,.a 32 bk]),.agg (Q2 [.c (.int .i64 L),.c (.int .i64 P),.c (.int .i64 E)])] w fun e w' =>V5 (.tuple #[.pointer none,.int .i64 1]) w w' e:=by
 have hS:=SH.nil [] w
 go_enter Tryz.func35,Tryz.ntmps35
 go_upto_region 0 with fail;refine RL hS ?_;clear hS;refine MN (z:=Q2 [.a 32 vk,.a 32 bk]) (t:=25) ?_;intro N;refine MN (z:=Q2 [.c (.int .i64 L),.c (.int .i64 P),.c (.int .i64 E)]) (t:=75) ?_;intro R;refine MV ?_;refine W0 ?_;refine MZ fun W hS=> ?_
 by_cases D:1≤(id.length:Int)∧(id.length:Int)≤16
 ·
  by_cases G:1≤L∧L≤64
  ·
   by_cases J:1≤P∧P≤16
   ·
    have M:¬(1≤E∧E≤32):=fun M=>hN ⟨by omega,G,J,M⟩;go_upto_region 1 with fail;refine RL hS ?_;clear hS;refine MV ?_;refine MF (v:=.int .i64 (id.length:Int)) (fun W hS=>Q8 (K4 hs hS.ext) rfl rfl) ?_;refine MC (v:=.bool true) (fun W hS=>(by have h_:=J10 (id.length:Int) 16 W;rw[show win (id.length:Int) 16=true from decide_eq_true D] at h_;exact h_)) ?_;refine Wf ?_;refine Wf ?_;refine MV ?_;refine MG 0 ?_ (v:=.int .i64 L) (hj:=(J5 (off:=0) 0));refine MC (v:=.bool true) (fun W hS=>(by have h_:=J10 L 64 W;rw[show win L 64=true from decide_eq_true G] at h_;exact h_)) ?_;(iterate 3 refine Wf ?_);refine MV ?_;refine MG 0 ?_ (v:=.int .i64 P) (hj:=(J5 (off:=1) 1));refine MC (v:=.bool true) (fun W hS=>(by have h_:=J10 P 16 W;rw[show win P 16=true from decide_eq_true J] at h_;exact h_)) ?_;(iterate 3 refine Wf ?_);refine MV ?_;refine MG 0 ?_ (v:=.int .i64 E) (hj:=(J5 (off:=2) 2));refine MC (v:=.bool false) (fun W hS=>(by have h_:=J10 E 32 W;rw[show win E 32=false from decide_eq_false M] at h_;exact h_)) ?_;refine Wt ?_;refine Wt ?_;refine MZ fun W hS=> ?_;go_wp2;exact BC (v:=.tuple #[.pointer none,.int .i64 1]) (by simp only[results,Tryz.results35];go_simp) rfl ⟨rfl,hS.ext⟩
   go_upto_region 1 with fail;refine RL hS ?_;clear hS;refine MV ?_;refine MF (v:=.int .i64 (id.length:Int)) (fun W hS=>Q8 (K4 hs hS.ext) rfl rfl) ?_;refine MC (v:=.bool true) (fun W hS=>(by have h_:=J10 (id.length:Int) 16 W;rw[show win (id.length:Int) 16=true from decide_eq_true D] at h_;exact h_)) ?_;refine Wf ?_;refine Wf ?_;refine MV ?_;refine MG 0 ?_ (v:=.int .i64 L) (hj:=(J5 (off:=0) 0));refine MC (v:=.bool true) (fun W hS=>(by have h_:=J10 L 64 W;rw[show win L 64=true from decide_eq_true G] at h_;exact h_)) ?_;(iterate 3 refine Wf ?_);refine MV ?_;refine MG 0 ?_ (v:=.int .i64 P) (hj:=(J5 (off:=1) 1));refine MC (v:=.bool false) (fun W hS=>(by have h_:=J10 P 16 W;rw[show win P 16=false from decide_eq_false J] at h_;exact h_)) ?_;(iterate 3 refine Wt ?_);(iterate 4 refine MS ?_);refine Wt ?_;refine MZ fun W hS=> ?_;go_wp2;exact BC (v:=.tuple #[.pointer none,.int .i64 1]) (by simp only[results,Tryz.results35];go_simp) rfl ⟨rfl,hS.ext⟩
  go_upto_region 1 with fail;refine RL hS ?_;clear hS;refine MV ?_;refine MF (v:=.int .i64 (id.length:Int)) (fun W hS=>Q8 (K4 hs hS.ext) rfl rfl) ?_;refine MC (v:=.bool true) (fun W hS=>(by have h_:=J10 (id.length:Int) 16 W;rw[show win (id.length:Int) 16=true from decide_eq_true D] at h_;exact h_)) ?_;refine Wf ?_;refine Wf ?_;refine MV ?_;refine MG 0 ?_ (v:=.int .i64 L) (hj:=(J5 (off:=0) 0));refine MC (v:=.bool false) (fun W hS=>(by have h_:=J10 L 64 W;rw[show win L 64=false from decide_eq_false G] at h_;exact h_)) ?_;(iterate 3 refine Wt ?_);(iterate 4 refine MS ?_);refine Wt ?_;refine Wt ?_;(iterate 4 refine MS ?_);refine Wt ?_;refine MZ fun W hS=> ?_;go_wp2;exact BC (v:=.tuple #[.pointer none,.int .i64 1]) (by simp only[results,Tryz.results35];go_simp) rfl ⟨rfl,hS.ext⟩
 go_upto_region 1 with fail;refine RL hS ?_;clear hS;refine MV ?_;refine MF (v:=.int .i64 (id.length:Int)) (fun W hS=>Q8 (K4 hs hS.ext) rfl rfl) ?_;refine MC (v:=.bool false) (fun W hS=>(by have h_:=J10 (id.length:Int) 16 W;rw[show win (id.length:Int) 16=false from decide_eq_false D] at h_;exact h_)) ?_;refine Wt ?_;refine Wt ?_;(iterate 4 refine MS ?_);refine Wt ?_;refine Wt ?_;(iterate 4 refine MS ?_);refine Wt ?_;refine Wt ?_;(iterate 4 refine MS ?_);refine Wt ?_;refine MZ fun W hS=> ?_;go_wp2;exact BC (v:=.tuple #[.pointer none,.int .i64 1]) (by simp only[results,Tryz.results35];go_simp) rfl ⟨rfl,hS.ext⟩
end

section
namespace DD
def pcode (D:DD)(l x:List UInt8):Nat:=
  if ¬(1≤l.length∧l.length≤32)∨64<x.length then 1 else if D.P≤D.waits.length then 6 else if l∉D.labs∧D.L≤D.labs.length then 6 else if l∉D.labs then erN D.vk l else 0
def putD (D:DD)(l x:List UInt8):DD:=if D.pcode l x=0 then D.put l x else D
def scode (D:DD):Nat×Nat:=if D.puts.length≤D.E then(D.puts.length,0) else(0,6)
def sealD (D:DD):DD:=if D.puts.length≤D.E then D.nxt else D
end DD
theorem Q4d {D:DD}{l x:List UInt8}(hK:DOk D)(h:D.pcode l x=0):PutOk D l x:=by
  unfold DD.pcode at h
  by_cases h1:¬(1≤l.length∧l.length≤32)∨64<x.length
  · rw[if_pos h1] at h;cases h
  rw[if_neg h1] at h
  by_cases h2:D.P≤D.waits.length
  · rw[if_pos h2] at h;cases h
  rw[if_neg h2] at h
  by_cases h3:l∉D.labs∧D.L≤D.labs.length
  · rw[if_pos h3] at h;cases h
  rw[if_neg h3] at h
  have h4:1≤l.length∧l.length≤32:=by
    rcases Decidable.em (1≤l.length∧l.length≤32) with h4|h4
    · exact h4
    exact absurd (.inl h4) h1
  refine⟨h4.1,h4.2,?_,?_,?_,?_⟩
  · rcases Nat.lt_or_ge 64 x.length with h5|h5
    · exact absurd (.inr h5) h1
    exact h5
  · omega
  · by_cases h5:l∈D.labs
    · exact(hK.lab l h5).2.2
    rw[if_pos h5] at h;exact h
  intro h5;rcases Nat.lt_or_ge D.labs.length D.L with h6|h6
  · exact h6
  exact absurd ⟨h5,h6⟩ h3
theorem DOk.putD {D:DD}(h:DOk D)(l x:List UInt8):DOk (D.putD l x):=by
  unfold DD.putD
  split
  · exact h.put (Q4d h (by assumption))
  exact h
theorem DOk.sealD {D:DD}(h:DOk D):DOk D.sealD:=by
  unfold DD.sealD
  split
  · exact h.nxt (by assumption)
  exact h
theorem LOk.accU {D:DD}{y:LD}(h:LOk D y){l:List UInt8}(hl:l∈D.labs):∃a∈y.acs,a.l=l:=by
  rw[←h.a] at hl;exact List.mem_map.1 hl
def ZOk (D:DD)(y:LD)(D' :DD)(W:AA)(z:LD):Prop:=LOk D' z∧z.p=y.p∧OldF (ldL D y) W (Q1t z.bs)∧OldF (ldL D y) W (Q2y z.pvs)
abbrev ZD (D:DD)(y:LD)(D' :DD)(W:AA):Type:={z:LD // ZOk D y D' W z}
theorem Y5r {D:DD}{y:LD}{w:AA}:OldF (ldL D y) w (Q1t y.bs):=OldF.mem (x:=byT y.bs) (by simp) (fun T K e=>(by cases e)) (fun k hk=>hk)
theorem Y5s {D:DD}{y:LD}{w:AA}:OldF (ldL D y) w (Q2y y.pvs):=OldF.mem (x:=rwT y.pvs) (by simp) (fun T K e=>(by cases e)) (fun k hk=>hk)
theorem ZOk.same {D:DD}{y:LD}{W:AA}(h:LOk D y):ZOk D y D W y:=⟨h,rfl,Y5r,Y5s⟩
theorem OldF.back {L:List As}{w W:AA}{f:List Nat}(h:OldF L W f)(q:w.heap.size≤W.heap.size):OldF L w f:=fun k hk D=>h k hk (Nat.lt_of_lt_of_le D q)
section
variable {P : Program} {g : FuncId} {args : Array AB} {F : List Nat} {w W : AA} {N R : List As} {D D' : DD} {y : LD} {val : AB}
theorem Z1p {f:List Nat}{K:AA→Prop}(hS:SH F w W (ldL D y++[gx]++(N++R)))(hz:(As.p f K).holds W)(hf:InF N f)
    (hc:SH (SH.feet (ldL D y++[gx]++[.p f K])) W W (ldL D y++[gx]++[.p f K])→Az P g args W fun e W' =>Z77 D y val D' [gx,.p f K] (SH.feet (ldL D y++[gx]++[.p f K])) W W' e) (hR:tyD (N++R)=true):
    Az P g args W fun e W' => ∃z:ZD D y D' w,e=.returned val∧SH F w W' (ldL D' z.1++[gx]++(N++R)):=by
  refine(hc (hS.hereP hz hf)).mono fun e W' ⟨z,h1,h2,h3,h4,h5,h6⟩=>⟨⟨z,h2,h3,h5.back hS.off.size,h6.back hS.off.size⟩,h1,?_⟩
  rw[SH.feet_p] at h4
  have h7:SH (SH.feet (ldL D y++[gx])) W W' (ldL D' z++[gx]):=h4.less (by
    show(ldL D' z++[gx]).Sublist (ldL D' z++[gx,.p f K])
    exact(List.Sublist.append_left (List.Sublist.cons_cons _ (List.nil_sublist _)) _))
  exact hS.frameQ h7 (Z4d hR h5 h6)
theorem Y5t (hS:SH F w W (ldL D y++[gx]++R))
    (hc:SH (SH.feet (ldL D y++[gx])) W W (ldL D y++[gx])→Az P g args W fun e W' =>Z77 D y val D' [gx] (SH.feet (ldL D y++[gx])) W W' e) (hR:tyD R=true):
    Az P g args W fun e W' => ∃z:ZD D y D' w,e=.returned val∧SH F w W' (ldL D' z.1++[gx]++R):=
  (hc hS.here).mono fun e W' ⟨z,h1,h2,h3,h4,h5,h6⟩=>⟨⟨z,h2,h3,h5.back hS.off.size,h6.back hS.off.size⟩,h1,hS.frameQ h4 (Z4d hR h5 h6)⟩
end
section
variable {F : List Nat} {w W : AA} {N R : List As} {D : DD} {y : LD} {l x : List UInt8} {vl vx : AB}
theorem Y0j (hS:SH F w W (ldL D y++[gx]++(N++R)))(h1:Sl W vl l)(h2:Sl W vx x)(hf:InF N ((sb vl l).toList++(sb vx x).toList))(hL:LOk D y)(hK:DOk D)(hR:tyD (N++R)=true):
    Az Tryz.prog 11 #[.pointer (some ⟨y.p,0,none⟩),vl,vx] W fun e W' => ∃z:ZD D y (D.putD l x) w,e=.returned (.int .i64 (D.pcode l x:Int))∧SH F w W' (ldL (D.putD l x) z.1++[gx]++(N++R)):=by
  have hD:DK D y W:=DK.of (R:=[gx]++(N++R)) (by rw[Ak] at hS;exact hS);have hX:GX W:=(hS.at_ (i:=11) (x:=gx) rfl).1
  have qt:∀{c:Nat},D.pcode l x=c→c≠0→(Az Tryz.prog 11 #[.pointer (some ⟨y.p,0,none⟩),vl,vx] W fun e W' =>V5 (.int .i64 (c:Int)) W W' e)→Az Tryz.prog 11 #[.pointer (some ⟨y.p,0,none⟩),vl,vx] W fun e W' => ∃z:ZD D y (D.putD l x) w,e=.returned (.int .i64 (D.pcode l x:Int))∧SH F w W' (ldL (D.putD l x) z.1++[gx]++(N++R)):=by
    intro c hc h0 h;have hp:D.putD l x=D:=by unfold DD.putD;rw[if_neg (by rw[hc];exact h0)]
    rw[hp,hc];exact h.mono fun e W' ⟨q1,q2⟩=>⟨⟨y,.same hL⟩,q1,hS.next (J1t q2)⟩
  by_cases g1:1≤l.length∧l.length≤32
  · by_cases g2:64<x.length
    · exact qt (c:=1) (by unfold DD.pcode;rw[if_pos (.inr g2)]) (by decide) (V2e W hX hD hL hK h1 h2 g1 g2)
    have g2' :x.length≤64:=by omega
    have e1:¬(¬(1≤l.length∧l.length≤32)∨64<x.length):=fun h=>h.elim (fun h=>h g1) g2
    by_cases g3:D.P≤D.waits.length
    · exact qt (c:=6) (by unfold DD.pcode;rw[if_neg e1,if_pos g3]) (by decide) (V7b W hX hD hL hK h1 h2 g1 g2' g3)
    have g3' :D.waits.length<D.P:=by omega
    by_cases g4:l∈D.labs
    · obtain⟨a,ha,J⟩:=hL.accU g4
      have hc:D.pcode l x=0:=by unfold DD.pcode;rw[if_neg e1,if_neg g3,if_neg (fun h=>h.1 g4),if_neg (fun h=>h g4)]
      have hp:D.putD l x=D.put l x:=by unfold DD.putD;rw[if_pos hc]
      rw[hp,hc];exact Z1p hS (Q1o h1 h2) hf (fun h_=>V7e ha J (Q4d hK hc) W hL hK h_) hR
    by_cases g5:D.L≤D.labs.length
    · exact qt (c:=6) (by unfold DD.pcode;rw[if_neg e1,if_neg g3,if_pos ⟨g4,g5⟩]) (by decide) (V7c W hX hD hL hK h1 h2 g1 g2' g3' g4 g5)
    have g5' :D.labs.length<D.L:=by omega
    have G:D.pcode l x=erN D.vk l:=by unfold DD.pcode;rw[if_neg e1,if_neg g3,if_neg (fun h=>g5 h.2),if_pos g4]
    by_cases g6:erN D.vk l=0
    · have hc:D.pcode l x=0:=G.trans g6
      have hp:D.putD l x=D.put l x:=by unfold DD.putD;rw[if_pos hc]
      rw[hp,hc];exact Z1p hS (Q1o h1 h2) hf (fun h_=>V7f g4 (Q4d hK hc) W hL hK h_) hR
    exact qt G g6 (V7d W hX hD hL hK h1 h2 g1 g2' g3' g4 g5' rfl g6)
  exact qt (c:=1) (by unfold DD.pcode;rw[if_pos (.inl g1)]) (by decide) (V2d W hX hD hL hK h1 h2 g1)
theorem Z4s (hS:SH F w W (ldL D y++[gx]++R))(hL:LOk D y)(hK:DOk D)(hR:tyD R=true):
    Az Tryz.prog 6 #[.pointer (some ⟨y.p,0,none⟩)] W fun e W' => ∃z:ZD D y D.sealD w,e=.returned (.tuple #[.int .i64 (D.scode.1:Int),.int .i64 (D.scode.2:Int)])∧SH F w W' (ldL D.sealD z.1++[gx]++R):=by
  by_cases g:D.puts.length≤D.E
  · have e1:D.sealD=D.nxt:=by unfold DD.sealD;rw[if_pos g]
    have e2:D.scode=(D.puts.length,0):=by unfold DD.scode;rw[if_pos g]
    rw[e1,e2];exact Y5t hS (fun h_=>V2l g W hL hK h_) hR
  have e1:D.sealD=D:=by unfold DD.sealD;rw[if_neg g]
  have e2:D.scode=(0,6):=by unfold DD.scode;rw[if_neg g]
  rw[e1,e2];have hD:DK D y W:=DK.of (R:=[gx]++R) (by rw[Ak] at hS;exact hS);exact(V2s (by omega) W hD hL hK).mono fun e W' ⟨q1,q2⟩=>⟨⟨y,.same hL⟩,q1,hS.next (J1t q2)⟩
theorem V2v {u v:AB}{l x:List UInt8}:InF [.o u l,.o v x] ((sb u l).toList++(sb v x).toList):=fun k hk=>by
  rcases List.mem_append.1 hk with hk|hk
  · exact⟨.o u l,by simp,fun T K e=>(by cases e),by rw[show(As.o u l).foot=u.ownBlock.toList from rfl,J3d (As.mem_toList hk)];simp⟩
  · exact⟨.o v x,by simp,fun T K e=>(by cases e),by rw[show(As.o v x).foot=v.ownBlock.toList from rfl,J3d (As.mem_toList hk)];simp⟩
end
end

section
set_option maxHeartbeats 3000000
attribute [local irreducible] wpList Z9 wpX
open S8 (Kn GA kP)
def lbn (n:Int):Nat:=(n % 18446744073709551616 % 5).toNat
def alb (n:Int)(raw:List UInt8):List UInt8:=if lbn n<4 then[97,u8 (97+lbn n)] else raw.take 40
def avl (v:List UInt8):List UInt8:=v.take 70
theorem J90 {α:Type}(n:Nat)(l:List α):l.take (min l.length n)=l.take n:=by
 rcases Nat.le_total l.length n with h|h
 ·
  rw[Nat.min_eq_left h,List.take_of_length_le (Nat.le_refl _),List.take_of_length_le h]
 rw[Nat.min_eq_right h]
abbrev Y4v (wt lb f t:Int)(ru vu:AB):Array AB:=Q2 [.c (.int .i64 wt),.c (.int .i64 lb),.c ru,.c vu,.c (.int .i64 f),.c (.int .i64 t)]

theorem Y0k {wt n f_ t_:Int}{ru vu:AB}{raw val:List UInt8}(w:AA)(hr:Sl w ru raw)(hv:Sl w vu val):
  Az Tryz.prog 41 #[.agg (Y4v wt n f_ t_ ru vu)] w fun e w' => ∃u,e=.returned u∧SH [] w w' [.o u (avl val)]:=by
 have J:=J6 hr;have G:=J6 hv;have hS:=SH.nil [] w
 go_enter Tryz.func41,Tryz.ntmps41
 go_upto_region 0 with fail;refine RL hS ?_;clear hS;refine MN (z:=Q2 [.c (.int .i64 wt),.c (.int .i64 n),.c ru,.c vu,.c (.int .i64 f_),.c (.int .i64 t_)]) (t:=63) ?_;intro U0;refine MV ?_;refine MZ fun W hS=> ?_;go_upto_region 1 with fail;refine RL hS ?_;clear hS;refine MO (m:=[]) (n:=0) (z:= #[]) ?_;intro M;refine MV ?_;refine MG 1 ?_ (v:=vu) (hj:=(J5 (off:=3) 3));refine MV ?_;refine MG 1 ?_ (v:=vu) (hj:=(J5 (off:=3) 3));refine MF (v:=.int .i64 (val.length:Int)) (fun W hS=>Q8 (K4 hv hS.ext) rfl rfl) ?_;refine MW ?_ (v:=.int .i64 ((min val.length 70:Nat):Int));refine MT (fun W hS=>hS.ent hv) ?_;refine MH 0 (min val.length 70) (m:=val) (m' :=(List.take 70 val)) (by exact Nat.min_le_left _ _) ?_ (hm:=J90 70 val);intro N;refine MA 2 (xs:=[]) (ys:=(List.take 70 val)) (fun W hS=>(hS.sl (i:=0) rfl)) (by first|omega|(simp only[lA,lM,lT,lD,lC,lN,J7,Y8,Z0,Z5];omega)) ?_;intro D;refine MV ?_;refine MZ fun W hS=> ?_;go_wp2;exact BC (v:=D) (by simp only[results,Tryz.results41];go_simp) rfl ⟨_,rfl,(by have h_:=hS.pick [2];rw[BM] at h_;exact h_)⟩
theorem Q44 {wt n f_ t_:Int}{ru vu:AB}{raw val:List UInt8}(w:AA)(hr:Sl w ru raw)(hv:Sl w vu val):
  Az Tryz.prog 20 #[.agg (Y4v wt n f_ t_ ru vu)] w fun e w' => ∃u,e=.returned u∧SH [] w w' [.o u (alb n raw)]:=by
 have M:=J6 hr;have J:=J6 hv;have R:lbn n<5:=by unfold lbn;omega
 have hS:=SH.nil [] w
 go_enter Tryz.func20,Tryz.ntmps20
 go_upto_region 0 with fail;refine RL hS ?_;clear hS;refine MN (z:=Q2 [.c (.int .i64 wt),.c (.int .i64 n),.c ru,.c vu,.c (.int .i64 f_),.c (.int .i64 t_)]) (t:=63) ?_;intro U0;refine MV ?_;refine MZ fun W hS=> ?_;go_upto_region 1 with fail;refine RL hS ?_;clear hS;refine MV ?_;refine MG 0 ?_ (v:=.int .i64 n) (hj:=(J5 (off:=1) 1));refine MW ?_ (v:=.int .u64 (n % 18446744073709551616)) (hv:=by intro W;first|rfl|(go_simp;done)|(go_simp;rw[Int.tmod_eq_emod_of_nonneg (by omega)])|(go_simp;simp only[AG.wrap_i64];omega)|(go_simp;simp only[AG.wrap_i64];unfold lbn;omega));refine MW ?_ (v:=.int .u64 (n % 18446744073709551616 % 5)) (hv:=by intro W;first|rfl|(go_simp;done)|(go_simp;rw[Int.tmod_eq_emod_of_nonneg (by omega)])|(go_simp;simp only[AG.wrap_i64];omega)|(go_simp;simp only[AG.wrap_i64];unfold lbn;omega));refine MW ?_ (v:=.int .i64 ((lbn n:Nat):Int)) (hv:=by intro W;first|rfl|(go_simp;done)|(go_simp;rw[Int.tmod_eq_emod_of_nonneg (by omega)])|(go_simp;simp only[AG.wrap_i64];omega)|(go_simp;simp only[AG.wrap_i64];unfold lbn;omega));refine MV ?_;refine MZ fun W hS=> ?_
 by_cases h4:lbn n<4
 ·
  go_upto_region 2 with fail;refine RL hS ?_;clear hS;refine MV ?_;refine Wto ?_;refine MZ fun W hS=> ?_;go_upto_region 3 with fail;refine RL hS ?_;clear hS;refine MV ?_;refine MW ?_ (v:=.int .i64 ((97+lbn n:Nat):Int)) (hv:=by intro W;first|rfl|(go_simp;done)|(go_simp;rw[Int.tmod_eq_emod_of_nonneg (by omega)])|(go_simp;simp only[AG.wrap_i64];omega)|(go_simp;simp only[AG.wrap_i64];unfold lbn;omega));refine MW ?_ (v:=.int .u8 ((u8 (97+lbn n)).toNat:Int)) (hv:=by intro W;first|(go_simp;rw[show u8 (97+lbn n)=UInt8.ofNat (97+lbn n) from rfl];simp;simp only[AG.wrap_u8]));refine MO (m:=[97,u8 (97+lbn n)]) (n:=2) (z:= #[.int .u8 97,.int .u8 ((u8 (97+lbn n)).toNat:Int)]) ?_;intro D;refine MV ?_;refine MZ fun W hS=> ?_;go_wp2;exact BC (v:=D) (by simp only[results,Tryz.results20];go_simp) rfl ⟨_,rfl,(by have h_:=hS.pick [0];unfold alb;rw[if_pos h4];exact h_)⟩
 go_upto_region 2 with fail;refine RL hS ?_;clear hS;refine MV ?_;refine Wfo ?_;refine MZ fun W hS=> ?_;go_upto_region 4 with fail;refine RL hS ?_;clear hS;refine MO (m:=[]) (n:=0) (z:= #[]) ?_;intro S;refine MV ?_;refine MG 1 ?_ (v:=ru) (hj:=(J5 (off:=2) 2));refine MV ?_;refine MG 1 ?_ (v:=ru) (hj:=(J5 (off:=2) 2));refine MF (v:=.int .i64 (raw.length:Int)) (fun W hS=>Q8 (K4 hr hS.ext) rfl rfl) ?_;refine MW ?_ (v:=.int .i64 ((min raw.length 40:Nat):Int));refine MT (fun W hS=>hS.ent hr) ?_;refine MH 0 (min raw.length 40) (m:=raw) (m' :=(List.take 40 raw)) (by exact Nat.min_le_left _ _) ?_ (hm:=J90 40 raw);intro N;refine MA 2 (xs:=[]) (ys:=(List.take 40 raw)) (fun W hS=>(hS.sl (i:=0) rfl)) (by first|omega|(simp only[lA,lM,lT,lD,lC,lN,J7,Y8,Z0,Z5];omega)) ?_;intro G;refine MV ?_;refine MZ fun W hS=> ?_;go_wp2;exact BC (v:=G) (by simp only[results,Tryz.results20];go_simp) rfl ⟨_,rfl,(by have h_:=hS.pick [2];rw[BM] at h_;unfold alb;rw[if_neg h4];exact h_)⟩
def DD.play (D:DD)(wt n:Int)(raw val:List UInt8):DD:=if wt.tmod 3=0 then D.sealD else D.putD (alb n raw) (avl val)
theorem Z9g {D:DD}{wt n:Int}{raw val:List UInt8}(h:wt.tmod 3=0):D.play wt n raw val=D.sealD:=if_pos h
theorem Z9h {D:DD}{wt n:Int}{raw val:List UInt8}(h:¬wt.tmod 3=0):D.play wt n raw val=D.putD (alb n raw) (avl val):=if_neg h
theorem DOk.play {D:DD}(h:DOk D)(wt n:Int)(raw val:List UInt8):DOk (D.play wt n raw val):=by
 unfold DD.play;split
 ·
  exact h.sealD
 exact h.putD _ _
attribute [local irreducible] eI be8 hs4 lb J33 J25 K3 xt hm pbs DD.tree DD.link rs S8.kP S8.kN S8.kD ofT ebs lk0 opn bnd ahd bsd ixN pfN erN J0l DD.play DD.putD DD.sealD DD.pcode DD.scode DD.links DD.trees alb avl

theorem V1g {wt n f_ t_:Int}{ru vu:AB}{raw val:List UInt8}{D:DD}{y:LD}(w:AA)(hL:LOk D y)(hK:DOk D)(h_:SH (SH.feet (ldL D y++[gx]++[svT ru raw vu val])) w w (ldL D y++[gx]++[svT ru raw vu val])):
  Az Tryz.prog 19 #[.pointer (some ⟨y.p,0,none⟩),.agg (Y4v wt n f_ t_ ru vu)] w fun e w' =>Z77 D y (.tuple #[]) (D.play wt n raw val) [gx,svT ru raw vu val] (SH.feet (ldL D y++[gx]++[svT ru raw vu val])) w w' e:=by
 have hS:SH (SH.feet (ldL D y++[gx]++[svT ru raw vu val])) w w [.b y.p (Q2 [.c y.uid,.a 32 D.vk,.a 32 D.bk,.c (.int .i64 (D.L:Int)),.c (.int .i64 (D.P:Int)),.c (.int .i64 (D.E:Int)),.c (.map (some y.h)),.c y.wv,.c y.pv,.c y.tv,.c y.lv]) 81,J24 y.h (J0j y.acs),acT y.acs,enT y.acs,.r 84 2 y.wv (List.map pvC y.wps),.r 77 1 y.pv (List.map J5y y.pvs),.r 82 1 y.tv (List.map J28 y.tus),.r 23 32 y.lv (List.map J0d D.links),byT y.bs,rwT y.pvs,taT D.trees y.tus,gx,svT ru raw vu val]:=h_;clear h_;have X:=J6 (hS.pp (i:=12) rfl).1;have U:=J6 (hS.pp (i:=12) rfl).2
 go_enter Tryz.func19,Tryz.ntmps19
 go_upto_region 0 with fail;refine RL hS ?_;clear hS;refine MN (z:=Q2 [.c (.int .i64 wt),.c (.int .i64 n),.c ru,.c vu,.c (.int .i64 f_),.c (.int .i64 t_)]) (t:=63) ?_;intro M;refine MZ fun W hS=> ?_
 by_cases h0:wt.tmod 3=0
 ·
  go_upto_region 1 with fail;refine RL hS ?_;clear hS;refine MV ?_;refine MG 0 ?_ (v:=.int .i64 wt) (hj:=(J5 (off:=0) 0));refine MV ?_;refine MW ?_ (v:=.bool true) (hv:=by intro W;go_simp;first|done|exact h0|simp[h0]);refine MZ fun W hS=> ?_;go_upto_region 2 with fail;refine RL hS ?_;clear hS;refine MV ?_;refine MT (fun W hS=>hS.pick [1,2,3,4,5,6,7,8,9,10,11,12,0,13]) ?_;refine ME (V:=fun _:ZD D y D.sealD w=> .tuple #[.int .i64 (D.scode.1:Int),.int .i64 (D.scode.2:Int)]) (fun W hS=>Z4s (R:=[.b M (Q2 [.c (.int .i64 wt),.c (.int .i64 n),.c ru,.c vu,.c (.int .i64 f_),.c (.int .i64 t_)]) 63,svT ru raw vu val]) hS hL hK rfl) ?_;rintro⟨z2,G⟩;dsimp only[ldL,BK,BM];refine MZ fun W hS=> ?_;go_wp2;rw[Z9g h0];exact bodyPost_end (v:=.tuple #[]) (by simp only[results,Tryz.results19];go_simp) rfl ⟨z2,rfl,G.1,G.2.1,hS.pick [0,1,2,3,4,5,6,7,8,9,10,11,13],G.2.2.1,G.2.2.2⟩
 go_upto_region 1 with fail;refine RL hS ?_;clear hS;refine MV ?_;refine MG 0 ?_ (v:=.int .i64 wt) (hj:=(J5 (off:=0) 0));refine MV ?_;refine MW ?_ (v:=.bool false) (hv:=by intro W;go_simp;first|done|exact h0|simp[h0]);refine MZ fun W hS=> ?_;go_upto_region 3 with fail;refine RTp [0,12,13] (.q 0 (.q 1 (.q 3 (.e 2 (.e 4 (.e 5 .z)))))) hS ?_;clear hS;refine TV ?_;refine TL 0 ?_ (hs:=by rw[J9];kernel_rfl);refine TL 0 ?_ (hs:=by rw[J9];kernel_rfl);refine TE (fun _ h=>h.pick [0,12,13]) ?_;refine ME (V:=fun v=>v) (fun W hS=>J1y hS (Q44 W ((hS.pp (i:=13) rfl).1) ((hS.pp (i:=13) rfl).2)) (fun _=>⟨rfl,rfl⟩)) ?_;intro S;refine Y6 [0,1,13,14] [1,2,3] ?_;refine TE (fun _ h=>h.pick [0,1,13,14]) ?_;refine ME (V:=fun v=>v) (fun W hS=>J1y hS (Y0k W ((hS.pp (i:=14) rfl).1) ((hS.pp (i:=14) rfl).2)) (fun _=>⟨rfl,rfl⟩)) ?_;intro T;refine Y6 [0,1,2,14,15] [1,2,3,4] ?_;refine TE (fun _ h=>h.pick [0,1,2,14,15]) ?_;refine MT (fun W hS=>hS.pick [3,4,5,6,7,8,9,10,11,12,13,14,1,0,2,15]) ?_;refine ME (V:=fun _:ZD D y (D.putD (alb n raw) (avl val)) w=> .int .i64 (D.pcode (alb n raw) (avl val):Int)) (fun W hS=>Y0j (N:=[.o S (alb n raw),.o T (avl val)]) (R:=[.b M (Q2 [.c (.int .i64 wt),.c (.int .i64 n),.c ru,.c vu,.c (.int .i64 f_),.c (.int .i64 t_)]) 63,svT ru raw vu val]) hS (hS.own (i:=12) rfl).sl (hS.own (i:=13) rfl).sl V2v hL hK rfl) ?_;rintro⟨z5,J⟩;dsimp only[ldL,BK,BM];refine Y6 [11,12,13,14,15] [2,1,3,0,4] ?_;refine TZ (fun _ h=>h.pick [11,12,13,14,15]) fun W hS=> ?_;go_wp2;rw[Z9h h0];exact bodyPost_end (v:=.tuple #[]) (by simp only[results,Tryz.results19];go_simp) rfl ⟨z5,rfl,J.1,J.2.1,hS.pick [0,1,2,3,4,5,6,7,8,9,10,11,15],J.2.2.1,J.2.2.2⟩
end

section
set_option maxHeartbeats 3000000
attribute [local irreducible] wpList Z9 wpX
open S8 (Kn GA kP)
attribute [local irreducible] eI be8 hs4 lb J33 J25 K3 xt hm pbs DD.tree DD.link rs S8.kP S8.kN S8.kD ofT ebs lk0 sE sL sN

theorem J2f:zer Tryz.prog 120=some (some (Q2 [.c (V3 []),.c (V3 []),.c (V3 []),.c (.int .i64 0),.c (.int .i64 0),.c (.int .i64 0),.c (.slice none 0 0),.c (.slice none 0 0),.c (.slice none 0 0),.c (.slice none 0 0),.c (.slice none 0 0)])):=by kernel_rfl
theorem J2g:plc Tryz.prog 120=some [(0,1),(1,1),(2,1),(3,3),(6,1),(7,1),(8,1),(9,1),(10,1)]:=by kernel_rfl
theorem V2x {id:List UInt8}{L P E:Int}(hN:(1≤id.length∧id.length≤16)∧(1≤L∧L≤64)∧(1≤P∧P≤16)∧(1≤E∧E≤32))(w:AA):
  Az Tryz.prog 38 #[V3 id,.agg (Q2 [.c (.int .i64 L),.c (.int .i64 P),.c (.int .i64 E)])] w fun e w' =>V5 (.bool true) w w' e:=by
 obtain⟨⟨U,G⟩,⟨M,R⟩,⟨J,T⟩,D,N⟩:=hN;have hS:=SH.nil [] w
 go_enter Tryz.func38,Tryz.ntmps38
 go_upto_region 0 with fail;refine RL hS ?_;clear hS;refine MN (z:=Q2 [.c (.int .i64 L),.c (.int .i64 P),.c (.int .i64 E)]) (t:=27) ?_;intro S;refine Wf ?_;refine MZ fun W hS=> ?_;go_upto_region 1 with fail;refine RL hS ?_;clear hS;refine MV ?_;refine MW ?_ (v:=.int .i64 (id.length:Int)) (hv:=fun _=>J0w (l:=id) rfl rfl);refine Wto ?_;refine Wt ?_;refine MV ?_;refine MW ?_ (v:=.int .i64 (id.length:Int)) (hv:=fun _=>J0w (l:=id) rfl rfl);refine Wto ?_;refine Wt ?_;refine Wt ?_;refine MV ?_;refine MG 0 ?_ (v:=.int .i64 L) (hj:=(J5 (off:=0) 0));refine Wto ?_;refine Wt ?_;refine Wt ?_;refine MV ?_;refine MG 0 ?_ (v:=.int .i64 L) (hj:=(J5 (off:=0) 0));refine Wto ?_;refine Wt ?_;refine Wt ?_;refine MV ?_;refine MG 0 ?_ (v:=.int .i64 P) (hj:=(J5 (off:=1) 1));refine Wto ?_;refine Wt ?_;refine Wt ?_;refine MV ?_;refine MG 0 ?_ (v:=.int .i64 P) (hj:=(J5 (off:=1) 1));refine Wto ?_;refine Wt ?_;refine Wt ?_;refine MV ?_;refine MG 0 ?_ (v:=.int .i64 E) (hj:=(J5 (off:=2) 2));refine Wto ?_;refine Wt ?_;refine Wt ?_;refine MV ?_;refine MG 0 ?_ (v:=.int .i64 E) (hj:=(J5 (off:=2) 2));refine Wto ?_;refine Wt ?_;refine Wt ?_;refine MZ fun W hS=> ?_;go_wp2;exact BC (v:=.bool true) (by simp only[results,Tryz.results38];go_simp) rfl ⟨rfl,hS.ext⟩
theorem V2y {id:List UInt8}{L P E:Int}(hN:¬((1≤id.length∧id.length≤16)∧(1≤L∧L≤64)∧(1≤P∧P≤16)∧(1≤E∧E≤32)))(w:AA):
  Az Tryz.prog 38 #[V3 id,.agg (Q2 [.c (.int .i64 L),.c (.int .i64 P),.c (.int .i64 E)])] w fun e w' =>V5 (.bool false) w w' e:=by
 have hS:=SH.nil [] w
 go_enter Tryz.func38,Tryz.ntmps38
 go_upto_region 0 with fail;refine RL hS ?_;clear hS;refine MN (z:=Q2 [.c (.int .i64 L),.c (.int .i64 P),.c (.int .i64 E)]) (t:=27) ?_;intro U;refine Wf ?_;refine MZ fun W hS=> ?_
 by_cases M:1≤id.length
 ·
  by_cases S:id.length≤16
  ·
   by_cases D:1≤L
   ·
    by_cases J:L≤64
    ·
     by_cases N:1≤P
     ·
      by_cases G:P≤16
      ·
       by_cases R:1≤E
       ·
        have T:¬E≤32:=by omega
        go_upto_region 1 with fail;refine RL hS ?_;clear hS;refine MV ?_;refine MW ?_ (v:=.int .i64 (id.length:Int)) (hv:=fun _=>J0w (l:=id) rfl rfl);refine Wto ?_;refine Wt ?_;refine MV ?_;refine MW ?_ (v:=.int .i64 (id.length:Int)) (hv:=fun _=>J0w (l:=id) rfl rfl);refine Wto ?_;refine Wt ?_;refine Wt ?_;refine MV ?_;refine MG 0 ?_ (v:=.int .i64 L) (hj:=(J5 (off:=0) 0));refine Wto ?_;refine Wt ?_;refine Wt ?_;refine MV ?_;refine MG 0 ?_ (v:=.int .i64 L) (hj:=(J5 (off:=0) 0));refine Wto ?_;refine Wt ?_;refine Wt ?_;refine MV ?_;refine MG 0 ?_ (v:=.int .i64 P) (hj:=(J5 (off:=1) 1));refine Wto ?_;refine Wt ?_;refine Wt ?_;refine MV ?_;refine MG 0 ?_ (v:=.int .i64 P) (hj:=(J5 (off:=1) 1));refine Wto ?_;refine Wt ?_;refine Wt ?_;refine MV ?_;refine MG 0 ?_ (v:=.int .i64 E) (hj:=(J5 (off:=2) 2));refine Wto ?_;refine Wt ?_;refine Wt ?_;refine MV ?_;refine MG 0 ?_ (v:=.int .i64 E) (hj:=(J5 (off:=2) 2));refine Wfo ?_;refine Wf ?_;refine Wf ?_;refine MZ fun W hS=> ?_;go_wp2;exact BC (v:=.bool false) (by simp only[results,Tryz.results38];go_simp) rfl ⟨rfl,hS.ext⟩
       go_upto_region 1 with fail;refine RL hS ?_;clear hS;refine MV ?_;refine MW ?_ (v:=.int .i64 (id.length:Int)) (hv:=fun _=>J0w (l:=id) rfl rfl);refine Wto ?_;refine Wt ?_;refine MV ?_;refine MW ?_ (v:=.int .i64 (id.length:Int)) (hv:=fun _=>J0w (l:=id) rfl rfl);refine Wto ?_;refine Wt ?_;refine Wt ?_;refine MV ?_;refine MG 0 ?_ (v:=.int .i64 L) (hj:=(J5 (off:=0) 0));refine Wto ?_;refine Wt ?_;refine Wt ?_;refine MV ?_;refine MG 0 ?_ (v:=.int .i64 L) (hj:=(J5 (off:=0) 0));refine Wto ?_;refine Wt ?_;refine Wt ?_;refine MV ?_;refine MG 0 ?_ (v:=.int .i64 P) (hj:=(J5 (off:=1) 1));refine Wto ?_;refine Wt ?_;refine Wt ?_;refine MV ?_;refine MG 0 ?_ (v:=.int .i64 P) (hj:=(J5 (off:=1) 1));refine Wto ?_;refine Wt ?_;refine Wt ?_;refine MV ?_;refine MG 0 ?_ (v:=.int .i64 E) (hj:=(J5 (off:=2) 2));refine Wfo ?_;refine Wf ?_;refine Wf ?_;(iterate 3 refine MS ?_);refine Wf ?_;refine Wf ?_;refine MZ fun W hS=> ?_;go_wp2;exact BC (v:=.bool false) (by simp only[results,Tryz.results38];go_simp) rfl ⟨rfl,hS.ext⟩
      go_upto_region 1 with fail;refine RL hS ?_;clear hS;refine MV ?_;refine MW ?_ (v:=.int .i64 (id.length:Int)) (hv:=fun _=>J0w (l:=id) rfl rfl);refine Wto ?_;refine Wt ?_;refine MV ?_;refine MW ?_ (v:=.int .i64 (id.length:Int)) (hv:=fun _=>J0w (l:=id) rfl rfl);refine Wto ?_;refine Wt ?_;refine Wt ?_;refine MV ?_;refine MG 0 ?_ (v:=.int .i64 L) (hj:=(J5 (off:=0) 0));refine Wto ?_;refine Wt ?_;refine Wt ?_;refine MV ?_;refine MG 0 ?_ (v:=.int .i64 L) (hj:=(J5 (off:=0) 0));refine Wto ?_;refine Wt ?_;refine Wt ?_;refine MV ?_;refine MG 0 ?_ (v:=.int .i64 P) (hj:=(J5 (off:=1) 1));refine Wto ?_;refine Wt ?_;refine Wt ?_;refine MV ?_;refine MG 0 ?_ (v:=.int .i64 P) (hj:=(J5 (off:=1) 1));refine Wfo ?_;refine Wf ?_;refine Wf ?_;(iterate 3 refine MS ?_);refine Wf ?_;refine Wf ?_;(iterate 3 refine MS ?_);refine Wf ?_;refine Wf ?_;refine MZ fun W hS=> ?_;go_wp2;exact BC (v:=.bool false) (by simp only[results,Tryz.results38];go_simp) rfl ⟨rfl,hS.ext⟩
     go_upto_region 1 with fail;refine RL hS ?_;clear hS;refine MV ?_;refine MW ?_ (v:=.int .i64 (id.length:Int)) (hv:=fun _=>J0w (l:=id) rfl rfl);refine Wto ?_;refine Wt ?_;refine MV ?_;refine MW ?_ (v:=.int .i64 (id.length:Int)) (hv:=fun _=>J0w (l:=id) rfl rfl);refine Wto ?_;refine Wt ?_;refine Wt ?_;refine MV ?_;refine MG 0 ?_ (v:=.int .i64 L) (hj:=(J5 (off:=0) 0));refine Wto ?_;refine Wt ?_;refine Wt ?_;refine MV ?_;refine MG 0 ?_ (v:=.int .i64 L) (hj:=(J5 (off:=0) 0));refine Wto ?_;refine Wt ?_;refine Wt ?_;refine MV ?_;refine MG 0 ?_ (v:=.int .i64 P) (hj:=(J5 (off:=1) 1));refine Wfo ?_;refine Wf ?_;refine Wf ?_;(iterate 3 refine MS ?_);refine Wf ?_;refine Wf ?_;(iterate 3 refine MS ?_);refine Wf ?_;refine Wf ?_;(iterate 3 refine MS ?_);refine Wf ?_;refine Wf ?_;refine MZ fun W hS=> ?_;go_wp2;exact BC (v:=.bool false) (by simp only[results,Tryz.results38];go_simp) rfl ⟨rfl,hS.ext⟩
    go_upto_region 1 with fail;refine RL hS ?_;clear hS;refine MV ?_;refine MW ?_ (v:=.int .i64 (id.length:Int)) (hv:=fun _=>J0w (l:=id) rfl rfl);refine Wto ?_;refine Wt ?_;refine MV ?_;refine MW ?_ (v:=.int .i64 (id.length:Int)) (hv:=fun _=>J0w (l:=id) rfl rfl);refine Wto ?_;refine Wt ?_;refine Wt ?_;refine MV ?_;refine MG 0 ?_ (v:=.int .i64 L) (hj:=(J5 (off:=0) 0));refine Wto ?_;refine Wt ?_;refine Wt ?_;refine MV ?_;refine MG 0 ?_ (v:=.int .i64 L) (hj:=(J5 (off:=0) 0));refine Wfo ?_;refine Wf ?_;refine Wf ?_;(iterate 3 refine MS ?_);refine Wf ?_;refine Wf ?_;(iterate 3 refine MS ?_);refine Wf ?_;refine Wf ?_;(iterate 3 refine MS ?_);refine Wf ?_;refine Wf ?_;(iterate 3 refine MS ?_);refine Wf ?_;refine Wf ?_;refine MZ fun W hS=> ?_;go_wp2;exact BC (v:=.bool false) (by simp only[results,Tryz.results38];go_simp) rfl ⟨rfl,hS.ext⟩
   go_upto_region 1 with fail;refine RL hS ?_;clear hS;refine MV ?_;refine MW ?_ (v:=.int .i64 (id.length:Int)) (hv:=fun _=>J0w (l:=id) rfl rfl);refine Wto ?_;refine Wt ?_;refine MV ?_;refine MW ?_ (v:=.int .i64 (id.length:Int)) (hv:=fun _=>J0w (l:=id) rfl rfl);refine Wto ?_;refine Wt ?_;refine Wt ?_;refine MV ?_;refine MG 0 ?_ (v:=.int .i64 L) (hj:=(J5 (off:=0) 0));refine Wfo ?_;refine Wf ?_;refine Wf ?_;(iterate 3 refine MS ?_);refine Wf ?_;refine Wf ?_;(iterate 3 refine MS ?_);refine Wf ?_;refine Wf ?_;(iterate 3 refine MS ?_);refine Wf ?_;refine Wf ?_;(iterate 3 refine MS ?_);refine Wf ?_;refine Wf ?_;(iterate 3 refine MS ?_);refine Wf ?_;refine Wf ?_;refine MZ fun W hS=> ?_;go_wp2;exact BC (v:=.bool false) (by simp only[results,Tryz.results38];go_simp) rfl ⟨rfl,hS.ext⟩
  go_upto_region 1 with fail;refine RL hS ?_;clear hS;refine MV ?_;refine MW ?_ (v:=.int .i64 (id.length:Int)) (hv:=fun _=>J0w (l:=id) rfl rfl);refine Wto ?_;refine Wt ?_;refine MV ?_;refine MW ?_ (v:=.int .i64 (id.length:Int)) (hv:=fun _=>J0w (l:=id) rfl rfl);refine Wfo ?_;refine Wf ?_;refine Wf ?_;(iterate 3 refine MS ?_);refine Wf ?_;refine Wf ?_;(iterate 3 refine MS ?_);refine Wf ?_;refine Wf ?_;(iterate 3 refine MS ?_);refine Wf ?_;refine Wf ?_;(iterate 3 refine MS ?_);refine Wf ?_;refine Wf ?_;(iterate 3 refine MS ?_);refine Wf ?_;refine Wf ?_;(iterate 3 refine MS ?_);refine Wf ?_;refine Wf ?_;refine MZ fun W hS=> ?_;go_wp2;exact BC (v:=.bool false) (by simp only[results,Tryz.results38];go_simp) rfl ⟨rfl,hS.ext⟩
 go_upto_region 1 with fail;refine RL hS ?_;clear hS;refine MV ?_;refine MW ?_ (v:=.int .i64 (id.length:Int)) (hv:=fun _=>J0w (l:=id) rfl rfl);refine Wfo ?_;refine Wf ?_;(iterate 3 refine MS ?_);refine Wf ?_;refine Wf ?_;(iterate 3 refine MS ?_);refine Wf ?_;refine Wf ?_;(iterate 3 refine MS ?_);refine Wf ?_;refine Wf ?_;(iterate 3 refine MS ?_);refine Wf ?_;refine Wf ?_;(iterate 3 refine MS ?_);refine Wf ?_;refine Wf ?_;(iterate 3 refine MS ?_);refine Wf ?_;refine Wf ?_;(iterate 3 refine MS ?_);refine Wf ?_;refine Wf ?_;refine MZ fun W hS=> ?_;go_wp2;exact BC (v:=.bool false) (by simp only[results,Tryz.results38];go_simp) rfl ⟨rfl,hS.ext⟩
theorem V2z {id vs bs:List UInt8}{L P E:Int}{q:Prop}(hr:q)(hl:id.length≤100000000)(w:AA)(hG:GT q w):
  Az Tryz.prog 39 #[V3 id,V3 vs,V3 bs,.agg (Q2 [.c (.int .i64 L),.c (.int .i64 P),.c (.int .i64 E)])] w fun e w' => ∃x:Nat×Nat×Nat,e=.returned (.pointer (some ⟨x.1,0,none⟩))∧SH [] w w' [.b x.1 (Q2 [.c (V3 id),.c (V3 vs),.c (V3 bs),.c (.int .i64 L),.c (.int .i64 P),.c (.int .i64 E),.c (.slice none 0 0),.c (.slice none 0 0),.c (.slice (some ⟨x.2.1,0,none⟩) 1 1),.c (.slice (some ⟨x.2.2,0,none⟩) 1 1),.c (.slice none 0 0)]) 120,.b x.2.1 #[V3 (lb 32 sE)] 9,.b x.2.2 #[V3 (lb 32 (lk0 id))] 9]:=by
 obtain⟨D,HF⟩:=exh (lk0 id);have hS:=SH.nil [] w
 go_enter Tryz.func39,Tryz.ntmps39
 go_upto_region 0 with fail;refine RL hS ?_;clear hS;refine MN (z:=Q2 [.c (.int .i64 L),.c (.int .i64 P),.c (.int .i64 E)]) (t:=27) ?_;intro Y;refine MV ?_;refine MZ fun W hS=> ?_;go_upto_region 1 with fail;refine RJ (R:=fun a_ w_=> ∃(J:Nat),∃(M:Nat),∃(G:Nat),a_={tmps:= #[V3 id,V3 vs,V3 bs,.agg (Q2 [.c (.int .i64 L),.c (.int .i64 P),.c (.int .i64 E)]),AP,AP,AP,.pointer (some ⟨Y,0,none⟩),.pointer (some ⟨J,0,none⟩),V3 id,V3 vs,V3 bs,.agg (Q2 [.c (.int .i64 L),.c (.int .i64 P),.c (.int .i64 E)]),V3 (lb 32 sE),.slice (some ⟨M,0,none⟩) 1 1,V3 id,V3 (lb 32 D),.slice (some ⟨G,0,none⟩) 1 1,.agg (Q2 [.c (V3 id),.c (V3 vs),.c (V3 bs),.c (.int .i64 L),.c (.int .i64 P),.c (.int .i64 E),.c (.slice none 0 0),.c (.slice none 0 0),.c (.slice (some ⟨M,0,none⟩) 1 1),.c (.slice (some ⟨G,0,none⟩) 1 1),.c (.slice none 0 0)]),.pointer (some ⟨J,0,none⟩)],defers:=[]}∧SH [] w w_ [.b M #[V3 (lb 32 sE)] 9,.b G #[V3 (lb 32 D)] 9,.b J (Q2 [.c (V3 id),.c (V3 vs),.c (V3 bs),.c (.int .i64 L),.c (.int .i64 P),.c (.int .i64 E),.c (.slice none 0 0),.c (.slice none 0 0),.c (.slice (some ⟨M,0,none⟩) 1 1),.c (.slice (some ⟨G,0,none⟩) 1 1),.c (.slice none 0 0)]) 120,.b Y (Q2 [.c (.int .i64 L),.c (.int .i64 P),.c (.int .i64 E)]) 27]) ?_ ?_
 ·
  refine RTh (.q 0 (.q 1 (.q 2 (.q 3 (.q 6 (.e 4 (.b 5 (.e 7 (.e 8 (.q 9 (.e 10 (.q 11 .z))))) 7 (.b 5 (.e 8 (.q 9 (.e 10 (.q 11 .z)))) 8 (.e 5 (.q 9 (.e 10 (.q 11 .z)))))))))))) hS ?_;clear hS;(iterate 3 refine TV ?_);refine TL 0 ?_ (hs:=by rw[J9];kernel_rfl);refine TV ?_;refine TE (fun _ h=>h) ?_;refine MC (v:=V3 (lb 32 sE)) (fun W hS=>Y0l hr W (X5 hG hS.ext)) ?_;refine TNh (fun W hS=>hS) ?_;refine TB (fun _ h=>h) ?_ ?_
  ·
   refine MB (z:= #[V3 (lb 32 sE)]) (t:=9) (n:=1) (c:=1) ?_ (hr:=fun W hS=>Y0 [V3 (lb 32 sE)] rfl rfl (vsc rfl vs0) Tryz.underlying117 (by kernel_rfl) (by kernel_rfl) rfl (by decide) (by decide));intro V;refine TNh (fun W hS=>hS.pick [1]) ?_;refine TE (fun _ h=>h) ?_;refine MC (v:=V3 (lb 32 D)) (fun W hS=>Q9f hr HF.out (by omega) W (X5 hG hS.ext)) ?_;refine TNh (fun W hS=>hS) ?_;refine TE (fun _ h=>h) ?_;refine MB (z:= #[V3 (lb 32 D)]) (t:=9) (n:=1) (c:=1) ?_ (hr:=fun W hS=>Y0 [V3 (lb 32 D)] rfl rfl (vsc rfl vs0) Tryz.underlying117 (by kernel_rfl) (by kernel_rfl) rfl (by decide) (by decide));intro X;refine TNh (fun W hS=>hS.pick [1,2]) ?_;refine TF (v:=.agg (Q2 [.c (V3 id),.c (V3 vs),.c (V3 bs),.c (.int .i64 L),.c (.int .i64 P),.c (.int .i64 E),.c (.slice none 0 0),.c (.slice none 0 0),.c (.slice (some ⟨V,0,none⟩) 1 1),.c (.slice (some ⟨X,0,none⟩) 1 1),.c (.slice none 0 0)])) rfl (fun W hS=>J21 [(0,[.c (V3 id)]),(1,[.c (V3 vs)]),(2,[.c (V3 bs)]),(3,[.c (.int .i64 L),.c (.int .i64 P),.c (.int .i64 E)]),(8,[.c (.slice (some ⟨V,0,none⟩) 1 1)]),(9,[.c (.slice (some ⟨X,0,none⟩) 1 1)])] rfl rfl J2f J2g (.c rfl (.c rfl (.c rfl (.c rfl (.c rfl (.c rfl .n))))))) ?_;refine TE (fun _ h=>h) ?_;refine MN (z:=Q2 [.c (V3 id),.c (V3 vs),.c (V3 bs),.c (.int .i64 L),.c (.int .i64 P),.c (.int .i64 E),.c (.slice none 0 0),.c (.slice none 0 0),.c (.slice (some ⟨V,0,none⟩) 1 1),.c (.slice (some ⟨X,0,none⟩) 1 1),.c (.slice none 0 0)]) (t:=120) ?_;intro β;refine TNh (fun W hS=>hS.pick [1,2,3]) ?_;refine TV ?_;refine TZ (fun _ h=>h) fun W hS=> ?_;exact⟨β,V,X,rfl,hS.pick [2,1,0,3]⟩
  refine MC (v:=V3 (lb 32 D)) (fun W hS=>Q9f hr HF.out (by omega) W (X5 hG hS.ext)) ?_;refine TNh (fun W hS=>hS) ?_;refine TB (fun _ h=>h) ?_ ?_
  ·
   refine MB (z:= #[V3 (lb 32 sE)]) (t:=9) (n:=1) (c:=1) ?_ (hr:=fun W hS=>Y0 [V3 (lb 32 sE)] rfl rfl (vsc rfl vs0) Tryz.underlying117 (by kernel_rfl) (by kernel_rfl) rfl (by decide) (by decide));intro S;refine TNh (fun W hS=>hS.pick [1]) ?_;refine TE (fun _ h=>h) ?_;refine MB (z:= #[V3 (lb 32 D)]) (t:=9) (n:=1) (c:=1) ?_ (hr:=fun W hS=>Y0 [V3 (lb 32 D)] rfl rfl (vsc rfl vs0) Tryz.underlying117 (by kernel_rfl) (by kernel_rfl) rfl (by decide) (by decide));intro N;refine TNh (fun W hS=>hS.pick [1,2]) ?_;refine TF (v:=.agg (Q2 [.c (V3 id),.c (V3 vs),.c (V3 bs),.c (.int .i64 L),.c (.int .i64 P),.c (.int .i64 E),.c (.slice none 0 0),.c (.slice none 0 0),.c (.slice (some ⟨S,0,none⟩) 1 1),.c (.slice (some ⟨N,0,none⟩) 1 1),.c (.slice none 0 0)])) rfl (fun W hS=>J21 [(0,[.c (V3 id)]),(1,[.c (V3 vs)]),(2,[.c (V3 bs)]),(3,[.c (.int .i64 L),.c (.int .i64 P),.c (.int .i64 E)]),(8,[.c (.slice (some ⟨S,0,none⟩) 1 1)]),(9,[.c (.slice (some ⟨N,0,none⟩) 1 1)])] rfl rfl J2f J2g (.c rfl (.c rfl (.c rfl (.c rfl (.c rfl (.c rfl .n))))))) ?_;refine TE (fun _ h=>h) ?_;refine MN (z:=Q2 [.c (V3 id),.c (V3 vs),.c (V3 bs),.c (.int .i64 L),.c (.int .i64 P),.c (.int .i64 E),.c (.slice none 0 0),.c (.slice none 0 0),.c (.slice (some ⟨S,0,none⟩) 1 1),.c (.slice (some ⟨N,0,none⟩) 1 1),.c (.slice none 0 0)]) (t:=120) ?_;intro Z;refine TNh (fun W hS=>hS.pick [1,2,3]) ?_;refine TV ?_;refine TZ (fun _ h=>h) fun W hS=> ?_;exact⟨Z,S,N,rfl,hS.pick [2,1,0,3]⟩
  refine MB (z:= #[V3 (lb 32 D)]) (t:=9) (n:=1) (c:=1) ?_ (hr:=fun W hS=>Y0 [V3 (lb 32 D)] rfl rfl (vsc rfl vs0) Tryz.underlying117 (by kernel_rfl) (by kernel_rfl) rfl (by decide) (by decide));intro U;refine TNh (fun W hS=>hS.pick [1]) ?_;refine TE (fun _ h=>h) ?_;refine MB (z:= #[V3 (lb 32 sE)]) (t:=9) (n:=1) (c:=1) ?_ (hr:=fun W hS=>Y0 [V3 (lb 32 sE)] rfl rfl (vsc rfl vs0) Tryz.underlying117 (by kernel_rfl) (by kernel_rfl) rfl (by decide) (by decide));intro T;refine TNh (fun W hS=>hS.pick [1,2]) ?_;refine TF (v:=.agg (Q2 [.c (V3 id),.c (V3 vs),.c (V3 bs),.c (.int .i64 L),.c (.int .i64 P),.c (.int .i64 E),.c (.slice none 0 0),.c (.slice none 0 0),.c (.slice (some ⟨T,0,none⟩) 1 1),.c (.slice (some ⟨U,0,none⟩) 1 1),.c (.slice none 0 0)])) rfl (fun W hS=>J21 [(0,[.c (V3 id)]),(1,[.c (V3 vs)]),(2,[.c (V3 bs)]),(3,[.c (.int .i64 L),.c (.int .i64 P),.c (.int .i64 E)]),(8,[.c (.slice (some ⟨T,0,none⟩) 1 1)]),(9,[.c (.slice (some ⟨U,0,none⟩) 1 1)])] rfl rfl J2f J2g (.c rfl (.c rfl (.c rfl (.c rfl (.c rfl (.c rfl .n))))))) ?_;refine TE (fun _ h=>h) ?_;refine MN (z:=Q2 [.c (V3 id),.c (V3 vs),.c (V3 bs),.c (.int .i64 L),.c (.int .i64 P),.c (.int .i64 E),.c (.slice none 0 0),.c (.slice none 0 0),.c (.slice (some ⟨T,0,none⟩) 1 1),.c (.slice (some ⟨U,0,none⟩) 1 1),.c (.slice none 0 0)]) (t:=120) ?_;intro α;refine TNh (fun W hS=>hS.pick [1,2,3]) ?_;refine TV ?_;refine TZ (fun _ h=>h) fun W hS=> ?_;exact⟨α,T,U,rfl,hS.pick [1,2,0,3]⟩
 rintro _ W ⟨J,M,G,rfl,hS⟩;go_wp2;exact BC (v:=.pointer (some ⟨J,0,none⟩)) (by simp only[results,Tryz.results39];go_simp) rfl ⟨(J,M,G),rfl,by rw[←HF.out];exact hS.pick [2,0,1]⟩
end
end Go.Proofs.YtpljgkofbfeelaaGreatDoor

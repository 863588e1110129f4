/- Contracts and plain laws for directHolds_holds. Conditions: the tables hold their numbers. -/
import Derived.Test.YtpljgkofbfeelaaGreatDoorCards
import Derived.Test.YtpljgkofbfeelaaGreatDoorTie
import Derived.Test.YtpljgkofbfeelaaGreatDoorJ17
open Go renaming undef->AP,World->AA,Value->AB,bodyPost_ret->BC,execOp->AQ,Calls->Az,Program->AC,Operand->AS,TypeId->AD,IntKind->AG
open Go.IntKind renaming wrap_i64->BD,wrap_u64->AH
open Go.Sem renaming run_bind->Ad
open _root_.List renaming getElem?_eq_getElem->Af,getElem?_map->BO
open _root_.Nat renaming le_refl->AJ,mod_lt->BH,zero_add->AL
open Go.RowKit
set_option maxRecDepth 100000
set_option linter.unusedSimpArgs false
set_option linter.unusedVariables false
namespace Go.Proofs.YtpljgkofbfeelaaGreatDoor
section
open Go.ChangeShapes Go.WideShapes Go.ChangeAt Go.RowKit Go.Deep
theorem Z2m {P:AC}{x:String×DataW Unit}{r:List (String×DataW Unit)}{W:AA}(h:laidMet P (x::r) W):laidMet P r W:=by
  obtain⟨ps,⟨g,t,cs,G,p,q,_,_,_,_,hv,rfl⟩,hn,hc⟩:=h;exact⟨q,hv,(List.nodup_append.1 hn).2.1,fun b D hb=>hc b D (List.mem_append_right _ hb)⟩
theorem J0r {P:AC}(n:Nat){l:List (String×DataW Unit)}{W:AA}(h:laidMet P l W):laidMet P (l.drop n) W:=by
  induction n generalizing l with
  |zero=>exact h
  |succ n ih=>cases l with
    |nil=>exact h
    |cons x r=>exact ih (Z2m h)
theorem J1r {W:AA}{name:String}{k:AG}{zs:List Int}{g:Nat}(h:Lib.TabIs Tryz.prog W name k zs)(hg:Tryz.prog.globalNamed name=some g)(h0:0<zs.length):Rd W g (zs.map fun z=>AB.int k z).toArray:=by
  refine⟨fun j v hj=> ?_,AA.block_lt_of_cell? W ⟨g,0,none⟩ (h.cell hg 0 h0)⟩;rw[List.getElem?_toArray,BO] at hj;cases hz:zs[j]? with
  |none=>rw[hz] at hj;cases hj
  |some z=>
    rw[hz] at hj;obtain rfl:=Option.some.inj hj
    have hl:j<zs.length:=by
      rcases Nat.lt_or_ge j zs.length with h|h
      · exact h
      · rw[List.getElem?_eq_none h] at hz;cases hz
    have:=h.cell hg j hl
    rwa [List.getD_eq_getElem?_getD,hz] at this
theorem V8u : Tryz.prog.globalNamed "custumal/custumalref01.K" = some 7 := by kernel_rfl
theorem V8v {W : World} {r : List (String × DataW Unit)} (h : laidMet Tryz.prog (("custumal/custumalref01.K", Rows.laid_custumal_custumalref01_K) :: r) W) : Rd W 7 (J0 .i64 64 K6) :=
  have e:(kk4.map fun z=>AB.int .i64 z).toArray=J0 .i64 64 K6:=by kernel_rfl
  have t : Lib.TabIs Tryz.prog W "custumal/custumalref01.K" .i64 kk4 := Lib.tabIs_of_head (rest := r) V8u (by kernel_rfl) Tryz.underlying236 Tryz.underlying3 (by kernel_rfl) (by kernel_rfl) h
  e▸J1r t V8u (by decide)
theorem V8w : Tryz.prog.globalNamed "custumal/custumalref01.H" = some 6 := by kernel_rfl
theorem V8x {W : World} {r : List (String × DataW Unit)} (h : laidMet Tryz.prog (("custumal/custumalref01.H", Rows.laid_custumal_custumalref01_H) :: r) W) : Rd W 6 (J0 .i64 8 hf4) :=
  have e:(hh4.map fun z=>AB.int .i64 z).toArray=J0 .i64 8 hf4:=by kernel_rfl
  have t : Lib.TabIs Tryz.prog W "custumal/custumalref01.H" .i64 hh4 := Lib.tabIs_of_head (rest := r) V8w (by kernel_rfl) Tryz.underlying235 Tryz.underlying3 (by kernel_rfl) (by kernel_rfl) h
  e▸J1r t V8w (by decide)
theorem V8y : Tryz.prog.globalNamed "custumal/sha2.start" = some 11 := by kernel_rfl
theorem Y9g {W : World} {r : List (String × DataW Unit)} (h : laidMet Tryz.prog (("custumal/sha2.start", Rows.laid_custumal_sha2_start) :: r) W) : Rd W 11 (J0 .u32 8 hf4) :=
  have e:(hh4.map fun z=>AB.int .u32 z).toArray=J0 .u32 8 hf4:=by kernel_rfl
  have t : Lib.TabIs Tryz.prog W "custumal/sha2.start" .u32 hh4 := Lib.tabIs_of_head (rest := r) V8y (by kernel_rfl) Tryz.underlying258 Tryz.underlying257 (by kernel_rfl) (by kernel_rfl) h
  e▸J1r t V8y (by decide)
theorem V8z : Tryz.prog.globalNamed "custumal/sha2.rounds" = some 14 := by kernel_rfl
theorem Y9h {W : World} {r : List (String × DataW Unit)} (h : laidMet Tryz.prog (("custumal/sha2.rounds", Rows.laid_custumal_sha2_rounds) :: r) W) : Rd W 14 (J0 .u32 64 K6) :=
  have e:(kk4.map fun z=>AB.int .u32 z).toArray=J0 .u32 64 K6:=by kernel_rfl
  have t : Lib.TabIs Tryz.prog W "custumal/sha2.rounds" .u32 kk4 := Lib.tabIs_of_head (rest := r) V8z (by kernel_rfl) Tryz.underlying282 Tryz.underlying257 (by kernel_rfl) (by kernel_rfl) h
  e▸J1r t V8z (by decide)
theorem V90 : Tryz.prog.globalNamed "custumal/sha5.start" = some 3 := by kernel_rfl
theorem V91 {W : World} {r : List (String × DataW Unit)} (h : laidMet Tryz.prog (("custumal/sha5.start", Rows.laid_custumal_sha5_start) :: r) W) : Rd W 3 (J0 .u64 8 hf) :=
  have e:(hh.map fun z=>AB.int .u64 z).toArray=J0 .u64 8 hf:=by kernel_rfl
  have t : Lib.TabIs Tryz.prog W "custumal/sha5.start" .u64 hh := Lib.tabIs_of_head (rest := r) V90 (by kernel_rfl) Tryz.underlying217 Tryz.underlying121 (by kernel_rfl) (by kernel_rfl) h
  e▸J1r t V90 (by decide)
theorem V92 : Tryz.prog.globalNamed "custumal/sha5.rounds" = some 12 := by kernel_rfl
theorem V93 {W : World} {r : List (String × DataW Unit)} (h : laidMet Tryz.prog (("custumal/sha5.rounds", Rows.laid_custumal_sha5_rounds) :: r) W) : Rd W 12 (J0 .u64 80 kf) :=
  have e:(kk.map fun z=>AB.int .u64 z).toArray=J0 .u64 80 kf:=by kernel_rfl
  have t : Lib.TabIs Tryz.prog W "custumal/sha5.rounds" .u64 kk := Lib.tabIs_of_head (rest := r) V92 (by kernel_rfl) Tryz.underlying221 Tryz.underlying121 (by kernel_rfl) (by kernel_rfl) h
  e▸J1r t V92 (by decide)
theorem Y9i : Tryz.prog.globalNamed "custumal/field.modulus" = some 10 := by kernel_rfl
theorem V3s {W : World} {r : List (String × DataW Unit)} (h : laidMet Tryz.prog (("custumal/field.modulus", Rows.laid_custumal_field_modulus) :: r) W) : Rd W 10 (S8.modC) :=
  have t : Lib.TabIs Tryz.prog W "custumal/field.modulus" .u64 [18446744073709551597, 18446744073709551615, 18446744073709551615, 9223372036854775807] := Lib.tabIs_of_head (rest := r) Y9i (by kernel_rfl) Tryz.underlying138 Tryz.underlying121 (by kernel_rfl) (by kernel_rfl) h
  J1r t Y9i (by decide)
theorem Y9j : Tryz.prog.globalNamed "custumal/field.imaginary" = some 13 := by kernel_rfl
theorem V3t {W : World} {r : List (String × DataW Unit)} (h : laidMet Tryz.prog (("custumal/field.imaginary", Rows.laid_custumal_field_imaginary) :: r) W) : Rd W 13 (S8.imaC) :=
  have t : Lib.TabIs Tryz.prog W "custumal/field.imaginary" .u64 [14190309331451158704, 3405592160176694392, 3120150775007532967, 3135389899092516619] := Lib.tabIs_of_head (rest := r) Y9j (by kernel_rfl) Tryz.underlying138 Tryz.underlying121 (by kernel_rfl) (by kernel_rfl) h
  J1r t Y9j (by decide)
theorem Y9k : Tryz.prog.globalNamed "custumal/edwards.curve" = some 8 := by kernel_rfl
theorem V3u {W : World} {r : List (String × DataW Unit)} (h : laidMet Tryz.prog (("custumal/edwards.curve", Rows.laid_custumal_edwards_curve) :: r) W) : Rd W 8 (c4 S8.DD) :=
  have t : Lib.TabIs Tryz.prog W "custumal/edwards.curve" .u64 [8496970652267935907,31536524315187371,10144147576115030168,5909686906226998899] := Lib.tabIs_of_head (rest := r) Y9k (by kernel_rfl) Tryz.underlying138 Tryz.underlying121 (by kernel_rfl) (by kernel_rfl) h
  J1r t Y9k (by decide)
theorem Y9l : Tryz.prog.globalNamed "custumal/edwards.double" = some 2 := by kernel_rfl
theorem V3v {W : World} {r : List (String × DataW Unit)} (h : laidMet Tryz.prog (("custumal/edwards.double", Rows.laid_custumal_edwards_double) :: r) W) : Rd W 2 (c4 S8.D2) :=
  have t : Lib.TabIs Tryz.prog W "custumal/edwards.double" .u64 [16993941304535871833,63073048630374742,1841551078520508720,2596001775599221991] := Lib.tabIs_of_head (rest := r) Y9l (by kernel_rfl) Tryz.underlying138 Tryz.underlying121 (by kernel_rfl) (by kernel_rfl) h
  J1r t Y9l (by decide)
theorem Y9m : Tryz.prog.globalNamed "custumal/edwards.baseX" = some 0 := by kernel_rfl
theorem V3w {W : World} {r : List (String × DataW Unit)} (h : laidMet Tryz.prog (("custumal/edwards.baseX", Rows.laid_custumal_edwards_baseX) :: r) W) : Rd W 0 (c4 S8.BX) :=
  have t : Lib.TabIs Tryz.prog W "custumal/edwards.baseX" .u64 [14507833142362363162,7578651490590762930,13881468655802702940,2407515759118799870] := Lib.tabIs_of_head (rest := r) Y9m (by kernel_rfl) Tryz.underlying138 Tryz.underlying121 (by kernel_rfl) (by kernel_rfl) h
  J1r t Y9m (by decide)
theorem Y9n : Tryz.prog.globalNamed "custumal/edwards.baseY" = some 1 := by kernel_rfl
theorem V3x {W : World} {r : List (String × DataW Unit)} (h : laidMet Tryz.prog (("custumal/edwards.baseY", Rows.laid_custumal_edwards_baseY) :: r) W) : Rd W 1 (c4 S8.BY) :=
  have t : Lib.TabIs Tryz.prog W "custumal/edwards.baseY" .u64 [7378697629483820632,7378697629483820646,7378697629483820646,7378697629483820646] := Lib.tabIs_of_head (rest := r) Y9n (by kernel_rfl) Tryz.underlying138 Tryz.underlying121 (by kernel_rfl) (by kernel_rfl) h
  J1r t Y9n (by decide)
theorem Y1y : Tryz.prog.globalNamed "custumal/scalar.order" = some 9 := by kernel_rfl
theorem V94 {W : World} {r : List (String × DataW Unit)} (h : laidMet Tryz.prog (("custumal/scalar.order", Rows.laid_custumal_scalar_order) :: r) W) : S8.Sc.GL W :=
  have t : Lib.TabIs Tryz.prog W "custumal/scalar.order" .u64 [6346243789798364141, 1503914060200516822, 0, 1152921504606846976] := Lib.tabIs_of_head (rest := r) Y1y (by kernel_rfl) Tryz.underlying143 Tryz.underlying121 (by kernel_rfl) (by kernel_rfl) h
  have h0:=t.cell Y1y 0 (by decide)
  ⟨h0,t.cell Y1y 1 (by decide),t.cell Y1y 2 (by decide),t.cell Y1y 3 (by decide),AA.block_lt_of_cell? W _ h0⟩
theorem Q4x {W:AA}(h:laidMet Tryz.prog Rows.directHoldsRow.laid W):GT True W:=⟨⟨(Y9h (J0r 10 h)),(Y9g (J0r 9 h))⟩,fun _=>⟨(V8v h),(V8x (J0r 1 h))⟩⟩
theorem Q4z {W:AA}(h:laidMet Tryz.prog Rows.directHoldsRow.laid W):S8.GA ⟨True,True,True,False⟩ W:=⟨⟨⟨(V3s (J0r 2 h)),trivial⟩,fun _=>(V3t (J0r 3 h)),fun _=>(V3u (J0r 4 h)),fun _=>(V3v (J0r 5 h)),fun _=>(V3w (J0r 6 h)),fun _=>(V3x (J0r 7 h))⟩,⟨(V93 (J0r 12 h)),(V91 (J0r 11 h))⟩,(V94 (J0r 8 h)),fun h=>h.elim⟩
theorem Q4y {W:AA}(h:laidMet Tryz.prog Rows.directHoldsRow.laid W):GX W:=⟨⟨(Y9h (J0r 10 h)),(Y9g (J0r 9 h))⟩,Q4z h⟩
def J1h (cs:Array AB):Obj→Obj
  | .cells _ t frozen=> .cells cs t frozen
  |o=>o
noncomputable def laidWorld (os:Os):AA:={AA.holding Tryz.prog os ⟨#[],#[],[]⟩ with heap:=((((((((((((((((AA.holding Tryz.prog os ⟨#[],#[],[]⟩).heap.modify 7 (J1h (J0 .i64 64 K6))).modify 6 (J1h (J0 .i64 8 hf4))).modify 5 (J1h (J0 .u64 80 kf))).modify 4 (J1h (J0 .u64 8 hf))).modify 11 (J1h (J0 .u32 8 hf4))).modify 14 (J1h (J0 .u32 64 K6))).modify 3 (J1h (J0 .u64 8 hf))).modify 12 (J1h (J0 .u64 80 kf))).modify 10 (J1h (S8.modC))).modify 13 (J1h (S8.imaC))).modify 8 (J1h (c4 S8.DD))).modify 2 (J1h (c4 S8.D2))).modify 0 (J1h (c4 S8.BX))).modify 1 (J1h (c4 S8.BY))).modify 9 (J1h (#[.int .u64 6346243789798364141,.int .u64 1503914060200516822,.int .u64 0,.int .u64 1152921504606846976])))}
end

section
open Go.ChangeShapes Go.WideShapes Go.ChangeAt Go.RowKit Go.Deep
section
variable {H : Type} {enc : AD × AB → H} {W : AA} {base : Nat} {sp : Nat → Bool} {held : Bool}
theorem Z7n {W:AA}{a:Addr}{v:AB}(h:W.cell? a=some v):a.spot=none:=by
  unfold AA.cell? at h
  split at h
  · split at h
    · cases h
    rename_i hs;cases hsp:a.spot with
    |none=>rfl
    |some _=>rw[hsp] at hs;exact absurd rfl hs
  cases h
theorem Y1x {t e:AD}{k:Nat}{α:Type}[Inhabited α]{f:α→List AB}{Q:α→Prop}(hu:Tryz.prog.underlying t=some (.slice e))(hk:Tryz.prog.cellsOf e=k)(hk0:0<k)(hf:∀x,(f x).length=k)
    (htr:∀{fuel:Nat} {cs:List AB} {x:DataW H×List MemPlace},DataW.trod enc Tryz.prog W base sp held fuel e cs=some x→∃y,Q y∧cs=f y)
    {r:Reach} {b0:Nat} {v:AB} {d:DataW H} {ps:List MemPlace} (hval:AB.okWide Tryz.prog W r b0 t v) (hd:DataW.Trod enc Tryz.prog W base sp held t v d ps):
    ∃ls:List α,(∀y∈ls,Q y)∧RR k W v (ls.map f):=by
  obtain⟨ao,J,Z,rfl⟩:=okWide_slice hu hval;obtain⟨fuel,U⟩:=hd;rcases open_slice hu U with⟨N,_⟩|⟨a,γ,δ,m,n,D,Pl,N,β,hl,hm,T,η,hi⟩
  · simp[AB.cells] at N
    obtain⟨rfl,rfl,rfl⟩:=N;exact⟨[],fun y hy=>(by cases hy),Z1z k W⟩
  simp[AB.cells] at N;obtain⟨rfl,rfl,rfl⟩:=N;have ζ:J≤m:=by rw[T];split<;>omega
  have X:0<J→a.spot=none:=fun h=>by
    obtain⟨Y,h1,h2⟩:=hi 0 (by omega);rw[hk] at h1;obtain⟨_,R,G⟩:=AA.cells?_some h1;have h0:=G 0 hk0;rw[Af (by rw[R];exact hk0)] at h0;have h4:=Z7n h0
    simpa[Addr.add] using h4
  have S:∀i,i<J→∃x:α,Q x∧a.spot=none∧∀(j:Nat)(u:AB),(f x)[j]?=some u→W.cell? ⟨a.block,a.off+i*k+j,none⟩=some u:=by
    intro i θ;obtain⟨Y,h1,h2⟩:=hi i (by omega);rw[hk] at h1;obtain⟨_,R,G⟩:=AA.cells?_some h1;obtain⟨x,hx,e⟩:=htr h2;rw[e] at R G;have hs:=X (by omega);refine⟨x,hx,hs,fun j u hj=> ?_⟩
    have hj' :j<k:=by
      have:=(List.getElem?_eq_some_iff.1 hj).1;rw[hf] at this;exact this
    have h3:=G j hj';rw[hj] at h3
    have e2:(a.add (i*k)).add j=⟨a.block,a.off+i*k+j,none⟩:=by
      clear R G h1 h3 hi T U hval;obtain⟨ab,ε,V⟩:=a;have hs' :V=none:=hs;subst hs';rw[Addr.add_mid,Addr.add_mid]
    rw[e2] at h3;exact h3
  refine⟨(List.range J).map fun i=>if h:i<J then Classical.choose (S i h) else default,fun y hy=> ?_,some a,Z,by simp,by simpa using hl,fun e=>(by cases e),fun j e hj=> ?_⟩
  · obtain⟨i,hi,rfl⟩:=List.mem_map.1 hy
    have M:=List.mem_range.1 hi;rw[dif_pos M];exact(Classical.choose_spec (S i M)).1
  rw[List.map_map] at hj;have M:j<J:=by have:=(List.getElem?_eq_some_iff.1 hj).1;simpa using this
  rw[BO,List.getElem?_range M] at hj;have hj:=Option.some.inj hj;simp only[Function.comp_apply,dif_pos M] at hj;subst hj;obtain⟨_,h2,h3⟩:=Classical.choose_spec (S j M);refine⟨a.block,a.off,?_,h3⟩;rw[←h2]
end
end

section
set_option maxHeartbeats 1500000
attribute [local irreducible] wpList Z9 wpX
inductive TR where
 |nil:TR
 |leaf:Nat→Nat→TR
 |node:Nat→TR→TR→TR
def rs:TR→Nat
 | .nil=>sE
 | .leaf k v=>sL k v
 | .node d l r=>sN (d:Int) (rs l) (rs r)
def cnt:TR→Nat
 | .nil=>0
 | .leaf _ _=>1
 | .node _ l r=>cnt l+cnt r
def ndc (k v:Nat)(s0 s1:AB)(sp:Bool)(S n:Nat):Array AB:=lf k v++(#[s0,s1,.bool sp]++(J0 .u8 32 (J2 S)++ #[.int .i64 (n:Int)]))
section
variable {k v S n : Nat} {s0 s1 : AB} {sp : Bool}
theorem Y8c:∀i u,(lf k v)[i]?=some u→(ndc k v s0 s1 sp S n)[0+i]?=some u:=fun i u h=>by rw[AL];exact J2p h
theorem J7r:∀i u,(J0 .u8 32 (J2 k))[i]?=some u→(ndc k v s0 s1 sp S n)[0+i]?=some u:=fun i u h=>by have:=Z2j (k:=k) (v:=v) i u h;rw[AL] at this⊢;exact J2p this
theorem V5q:∀i u,(J0 .u8 32 (J2 v))[i]?=some u→(ndc k v s0 s1 sp S n)[32+i]?=some u:=fun i u h=>J2p (V3l i u h)
theorem Y43 {i:Nat}{u:AB}(h:(#[s0,s1,.bool sp]++(J0 .u8 32 (J2 S)++ #[.int .i64 (n:Int)]))[i]?=some u):(ndc k v s0 s1 sp S n)[64+i]?=some u:=J69 J06 h
theorem nd_s0:(ndc k v s0 s1 sp S n)[64]?=some s0:=Y43 (i:=0) (J2p rfl)
theorem nd_s1:(ndc k v s0 s1 sp S n)[65]?=some s1:=Y43 (i:=1) (J2p rfl)
theorem J73:(ndc k v s0 s1 sp S n)[66]?=some (.bool sp):=Y43 (i:=2) (J2p rfl)
theorem V5r:∀i u,(J0 .u8 32 (J2 S))[i]?=some u→(ndc k v s0 s1 sp S n)[67+i]?=some u:=fun i u h=>by
 have h1:(#[s0,s1,AB.bool sp]++(J0 .u8 32 (J2 S)++ #[.int .i64 (n:Int)]))[3+i]?=some u:=J69 rfl (J2p h);have:=Y43 (k:=k) (v:=v) h1;rw[←Nat.add_assoc] at this;exact this
theorem K45:(ndc k v s0 s1 sp S n)[99]?=some (.int .i64 (n:Int)):=by
 have h1:(#[s0,s1,AB.bool sp]++(J0 .u8 32 (J2 S)++ #[.int .i64 (n:Int)]))[3+(32+0)]?=some (.int .i64 (n:Int)):=J69 rfl (J69 (J1 _ _ _) rfl);rw[show(99:Nat)=64+(3+(32+0)) from rfl];exact Y43 h1
theorem Z1e:∀i u,(#[s0,s1]:Array AB)[i]?=some u→(ndc k v s0 s1 sp S n)[64+i]?=some u:=fun i u h=>by
 match i,h with
 |0,h=>exact nd_s0.trans h
 |1,h=>exact nd_s1.trans h
 |i+2,h=>simp at h
end
abbrev ptr (b:Nat):AB:=.pointer (some ⟨b,0,none⟩)
abbrev nlp:AB:=.pointer none
def TA (w:AA):TR→AB→Prop
 | .nil,u=>u=nlp
 | .leaf k v,u=> ∃b,u=ptr b∧Blk w b (ndc k v nlp nlp false (sL k v) 1) 163∧k<2^256∧v<2^256
 | .node d l r,u=> ∃b s0 s1,u=ptr b∧Blk w b (ndc 0 0 s0 s1 true (rs (.node d l r)) (cnt l+cnt r)) 163∧TA w l s0∧TA w r s1
theorem Y44 {w:AA}{b:Nat}{cs:Array AB}{t:AD}(h:Blk w b cs t):J9i w b=some t:=by unfold J9i;rw[show w.heap[b]?=_ from h]
theorem TA.keep {w W:AA}(e:∀k,k<w.heap.size→J9i w k=some 163→W.heap[k]?=w.heap[k]?):∀{T:TR} {u:AB},TA w T u→TA W T u
 | .nil,_,h=>h
 | .leaf k v,_,⟨b,h1,h2,h3⟩=>⟨b,h1,(e b (V8 h2) (Y44 h2)).trans h2,h3⟩
 | .node d l r,_,⟨b,s0,s1,h1,h2,h3,h4⟩=>⟨b,s0,s1,h1,(e b (V8 h2) (Y44 h2)).trans h2,TA.keep e h3,TA.keep e h4⟩
theorem TA.ext {w W:AA}{T:TR}{u:AB}(h:TA w T u)(k:Ext w W):TA W T u:=h.keep fun b hb _=>k.block b hb
theorem TA.holds {w:AA}{T:TR}{u:AB}(h:TA w T u):(As.t 163 fun W=>TA W T u).holds w:=⟨h,fun _ _ e=>h.keep e⟩
theorem TA.one {w:AA}{T:TR}{u:AB}(h:TA w T u):u.cells= #[u]∧u.oneCell' =true:=by
 cases T with
 |nil=>rw[show u=nlp from h];exact⟨rfl,rfl⟩
 |leaf k v=>obtain⟨b,rfl,_⟩:=h;exact⟨rfl,rfl⟩
 |node d l r=>obtain⟨b,s0,s1,rfl,_⟩:=h;exact⟨rfl,rfl⟩
theorem TA.pt {w:AA}{T:TR}{u:AB}(h:TA w T u):∃p,u=.pointer p:=by
 cases T with
 |nil=>exact⟨_,h⟩
 |leaf k v=>obtain⟨b,h,_⟩:=h;exact⟨_,h⟩
 |node d l r=>obtain⟨b,s0,s1,h,_⟩:=h;exact⟨_,h⟩
theorem TA.blk {w:AA}{T:TR}{u:AB}(h:TA w T u):(T=.nil∧u=nlp)∨∃b k v s0 s1 sp,u=ptr b∧Blk w b (ndc k v s0 s1 sp (rs T) (cnt T)) 163:=by
 cases T with
 |nil=>exact .inl ⟨rfl,h⟩
 |leaf k v=>obtain⟨b,h1,h2,_⟩:=h;exact .inr ⟨b,k,v,_,_,_,h1,h2⟩
 |node d l r=>obtain⟨b,s0,s1,h1,h2,_⟩:=h;exact .inr ⟨b,0,0,s0,s1,_,h1,h2⟩
def Q0a (T:TR)(w w' :AA)(e:Ending):Prop:=∃u,e=.returned u∧Ext w w' ∧TA w' T u
theorem J53 {f:FuncId}{args:Array AB}{F:List Nat}{w W:AA}{H:List As}{T:TR}(hS:SH F w W H)(hc:Az Tryz.prog f args W fun e W' =>Q0a T W W' e)(ht:H.all (fun y=>SH.tyOk y (.t 163 fun _=>True))=true):
  Az Tryz.prog f args W fun e W' => ∃u,e=.returned u∧SH F w W' (.t 163 (fun W=>TA W T u)::H):=
 hc.mono fun e W' ⟨u,h1,h2,h3⟩=>⟨u,h1,(hS.grow h2).fact h3.holds ht⟩
attribute [local irreducible] hs4 sE sL sN

theorem Y45 {q:Prop}(w:AA)(hG:GT q w):
  Az Tryz.prog 27 #[nlp] w fun e w' =>V5 (.agg (J0 .u8 32 (J2 sE))) w w' e:=by
 have hS:=SH.nil [] w
 go_enter Tryz.func27,Tryz.ntmps27
 go_upto_region 0 with fail;refine RL hS ?_;clear hS;refine MN (z:=J0 .u8 32 (J2 0)) (t:=23) ?_;intro K9;refine MZ fun W hS=> ?_;go_upto_region 2 with fail;refine RL hS ?_;clear hS;obtain⟨U1,D⟩:=exh (sE);refine MC (v:=.agg (J0 .u8 32 (J2 U1))) (fun W hS=>(by rw[D.out];exact Y8b W (X5 hG hS.ext))) ?_;refine MR 0 ?_;refine MZ fun W hS=> ?_;have e_:=D.out;subst e_;go_wp2;exact BC (Z6 rfl rfl (hS.blk (i:=0) rfl) (by kernel_rfl) (by rw[J1];kernel_rfl)) rfl ⟨rfl,hS.ext⟩
theorem V5s (w:AA){b k v S n:Nat}{s0 s1:AB}{sp:Bool}(hB:Blk w b (ndc k v s0 s1 sp S n) 163):
  Az Tryz.prog 27 #[ptr b] w fun e w' =>V5 (.agg (J0 .u8 32 (J2 S))) w w' e:=by
 have hS:=SH.nil [] w
 go_enter Tryz.func27,Tryz.ntmps27
 go_upto_region 0 with fail;refine RL hS ?_;clear hS;refine MN (z:=J0 .u8 32 (J2 0)) (t:=23) ?_;intro K9;refine MZ fun W hS=> ?_;go_upto_region 3 with fail;refine RL hS ?_;clear hS;(iterate 3 refine MV ?_);refine MF (v:=.agg (J0 .u8 32 (J2 S))) (fun W hS=>J0s (vs:=(J0 .u8 32 (J2 S)).toList) rfl rfl (fun i v hv=>by rw[J3 (J4 hB hS.ext)];exact V5r i v (by simpa using hv)) (by kernel_rfl) (by first|kernel_rfl|(simp only[Array.length_toList];rw[J1];kernel_rfl))) ?_;refine MR 0 ?_;refine MZ fun W hS=> ?_;go_wp2;exact BC (Z6 rfl rfl (hS.blk (i:=0) rfl) (by kernel_rfl) (by rw[J1];kernel_rfl)) rfl ⟨rfl,hS.ext⟩
theorem J5l {q:Prop}{T:TR}{u:AB}(w:AA)(hG:GT q w)(h:TA w T u):Az Tryz.prog 27 #[u] w fun e w' =>V5 (.agg (J0 .u8 32 (J2 (rs T)))) w w' e:=by
 rcases h.blk with⟨rfl,rfl⟩|⟨b,k,v,s0,s1,sp,rfl,hB⟩
 ·
  exact Y45 w hG
 exact V5s w hB
theorem Y8d (w:AA):
  Az Tryz.prog 187 #[nlp] w fun e w' =>V5 (.int .i64 ((0:Nat):Int)) w w' e:=by
 have hS:=SH.nil [] w
 go_enter Tryz.func187,Tryz.ntmps187
 go_wp2;exact BC (v:=.int .i64 0) (by simp only[results,Tryz.results187];go_simp) rfl ⟨rfl,hS.ext⟩
theorem K1m (w:AA){b k v S n:Nat}{s0 s1:AB}{sp:Bool}(hB:Blk w b (ndc k v s0 s1 sp S n) 163):
  Az Tryz.prog 187 #[ptr b] w fun e w' =>V5 (.int .i64 (n:Int)) w w' e:=by
 have hS:=SH.nil [] w
 go_enter Tryz.func187,Tryz.ntmps187
 go_upto_region 3 with fail;refine RL hS ?_;clear hS;(iterate 3 refine MV ?_);refine MF (v:=.int .i64 (n:Int)) (fun W hS=>Q6 rfl rfl (by rw[J3 (J4 hB hS.ext)];exact K45) (by kernel_rfl)) ?_;refine MV ?_;refine MZ fun W hS=> ?_;go_wp2;exact BC (v:=.int .i64 (n:Int)) (by simp only[results,Tryz.results187];go_simp) rfl ⟨rfl,hS.ext⟩
theorem V0n {T:TR}{u:AB}(w:AA)(h:TA w T u):Az Tryz.prog 187 #[u] w fun e w' =>V5 (.int .i64 (cnt T:Int)) w w' e:=by
 rcases h.blk with⟨rfl,rfl⟩|⟨b,k,v,s0,s1,sp,rfl,hB⟩
 ·
  exact Y8d w
 exact K1m w hB
theorem Y46 {q:Prop}{k v:Nat}(hk:k<2^256)(hv:v<2^256)(w:AA)(hG:GT q w):
  Az Tryz.prog 157 #[.agg (lf k v)] w fun e w' =>Q0a (.leaf k v) w w' e:=by
 have hS:=SH.nil [] w
 go_enter Tryz.func157,Tryz.ntmps157
 go_upto_region 0 with fail;refine RL hS ?_;clear hS;refine MN (z:=lf k v) (t:=40) ?_;intro U0;refine MV ?_;refine MZ fun W hS=> ?_;go_upto_region 1 with fail;refine RTh (.q 0 (.q 1 (.e 2 (.q 3 (.e 4 (.q 5 .z)))))) hS ?_;clear hS;refine TL 0 ?_ (hs:=by rw[J06];kernel_rfl);refine TL 0 ?_ (hs:=by rw[J06];kernel_rfl);refine TE (fun _ h=>h) ?_;obtain⟨U1,D⟩:=exh (sL k v);refine MC (v:=.agg (J0 .u8 32 (J2 U1))) (fun W hS=>(by rw[D.out];exact Z8i k v W (X5 hG hS.ext))) ?_;refine TNh (fun W hS=>hS) ?_;refine TW ?_ (v:=.agg (ndc k v nlp nlp false U1 1)) (hv:=by intro W;first|rfl|kernel_rfl);refine TE (fun _ h=>h) ?_;refine MN (z:=ndc k v nlp nlp false U1 1) (t:=163) ?_ (hr:=by intro w;kernel_rfl);intro G;refine TNh (fun W hS=>hS.pick [1]) ?_;refine TV ?_;refine TZ (fun _ h=>h) fun W hS=> ?_;have e_:=D.out;subst e_;go_wp2;exact BC (v:=ptr G) (by simp only[results,Tryz.results157];go_simp) rfl ⟨_,rfl,hS.ext,⟨_,rfl,(hS.blk (i:=0) rfl),hk,hv⟩⟩
theorem V5t {q:Prop}{L R:TR}{pa pb:Option Addr}(d:Nat)(hn:cnt L+cnt R<4611686018427387904)(w:AA)(hG:GT q w)(hl:TA w L (.pointer pa))(hr_:TA w R (.pointer pb)):
  Az Tryz.prog 159 #[.int .i64 (d:Int),.pointer pa,.pointer pb] w fun e w' =>Q0a (.node d L R) w w' e:=by
 have hS:=SH.nil [] w
 go_enter Tryz.func159,Tryz.ntmps159
 go_upto_region 1 with fail;refine RL hS ?_;clear hS;refine MV ?_;refine MV ?_;refine MW ?_ (v:=.agg #[.pointer pa,.pointer pb]) (hv:=by intro W;first|rfl|kernel_rfl);refine MV ?_;refine MV ?_;refine MC (v:=.agg (J0 .u8 32 (J2 (rs L)))) (fun W hS=>J5l W (X5 hG hS.ext) (TA.ext hl hS.ext)) ?_;refine MV ?_;refine MC (v:=.agg (J0 .u8 32 (J2 (rs R)))) (fun W hS=>J5l W (X5 hG hS.ext) (TA.ext hr_ hS.ext)) ?_;obtain⟨U1,D⟩:=exh (sN (d:Int) (rs L) (rs R));refine MC (v:=.agg (J0 .u8 32 (J2 U1))) (fun W hS=>(by rw[D.out];exact Z8j (d:Int) (rs L) (rs R) W (X5 hG hS.ext))) ?_;refine MV ?_;refine MC (v:=.int .i64 (cnt L:Int)) (fun W hS=>V0n W (TA.ext hl hS.ext)) ?_;refine MV ?_;refine MC (v:=.int .i64 (cnt R:Int)) (fun W hS=>V0n W (TA.ext hr_ hS.ext)) ?_;refine MW ?_ (v:=.int .i64 ((cnt L+cnt R:Nat):Int)) (hv:=by intro W;go_simp;(try simp only[AG.wrap_i64]);omega);refine MW ?_ (v:=.agg (ndc 0 0 (.pointer pa) (.pointer pb) true U1 (cnt L+cnt R))) (hv:=by intro W;first|rfl|kernel_rfl);refine MN (z:=ndc 0 0 (.pointer pa) (.pointer pb) true U1 (cnt L+cnt R)) (t:=163) ?_ (hr:=by intro w;kernel_rfl);intro G;refine MV ?_;refine MZ fun W hS=> ?_;have e_:=D.out;subst e_;go_wp2;exact BC (v:=ptr G) (by simp only[results,Tryz.results159];go_simp) rfl ⟨_,rfl,hS.ext,⟨_,_,_,rfl,(hS.blk (i:=0) rfl),hl.ext hS.ext,hr_.ext hS.ext⟩⟩
theorem J8r {q:Prop}{L R:TR}{a b:AB}(d:Nat)(hn:cnt L+cnt R<4611686018427387904)(w:AA)(hG:GT q w)(hl:TA w L a)(hr_:TA w R b):
  Az Tryz.prog 159 #[.int .i64 (d:Int),a,b] w fun e w' =>Q0a (.node d L R) w w' e:=by
 obtain⟨pa,rfl⟩:=hl.pt;obtain⟨pb,rfl⟩:=hr_.pt;exact V5t d hn w hG hl hr_
end

section
set_option maxHeartbeats 1500000
attribute [local irreducible] wpList
def J41 (f:Nat→Int)(i:Nat):Int:=f (i / 8) / 2^(7-i % 8) % 2
theorem Y41 {x:Int}{n:Nat}(h:0≤x∧x<256):0≤x / 2^n∧x / 2^n<256:=by
  obtain⟨a,rfl⟩:=Int.eq_ofNat_of_zero_le h.1;rw[show((a:Int) / 2^n)=((a / 2^n:Nat):Int) by rw[Int.natCast_ediv,Int.natCast_pow];rfl];have h2:=Nat.div_le_self a (2^n);have h3:=h.2;clear h;generalize a / 2^n=q at*;omega
section
variable {w : AA} {o : Oper} {a : Act} {x y : AS} {t t' : AD} {p : Int}
theorem Z8h {P:AC}{k:AG}{n:Nat}(hn:n≤8)(ho:o.op=.binOp .shr t x y t')(hx:a.eval x=.int .u8 p)(hy:a.eval y=.int k (n:Int)):(AQ a.eval o).run P w=.ok (.value (.int .u8 (p / 2^n))) w:=by
  have h:min ((n:Int)).toNat AG.u8.bits=n:=by rw[Int.toNat_natCast];exact Nat.min_eq_left hn
  simp only[AQ,ho,hx,hy,eqGuard,binOp,Ad];simp[Op.shift,h,go_sem,Ad]
theorem Y89 (hp:0≤p∧p<256)(ho:o.op=.convert 5 3 x)(hx:a.eval x=.int .u8 p):(AQ a.eval o).run Tryz.prog w=.ok (.value (.int .i64 p)) w:=by
  have hw:AG.wrap .i64 p=p:=by rw[AG.wrap_i64];omega
  simp[AQ,ho,hx,convert,run_underlying Tryz.underlying5,run_underlying Tryz.underlying3,Ad,Conv.intToInt,hw]
theorem Y8a (h:0≤p∧p<256):bits .and .i64 p 1=p % 2:=bits_mask .i64 63 (by decide) Z1k 1 (by decide) p h.1 (by omega)
end

theorem Y42 (i:Nat)(hi:i<256)(w:AA):
  Az Tryz.prog 155 #[.int .i64 (i:Int)] w fun e w' =>V5 (.bool true) w w' e:=by
 have J:(i:Int)<256:=by omega
 have G:(0:Int)≤(i:Int):=by omega
 have D:Off [] w w:=Off.refl _ _
 go_enter Tryz.func155,Tryz.ntmps155
 go_upto_region 1 with fail;refine wp_region_lit ?_;refine Lv ?_;refine Lw ?_ (v:=.bool true) (hv:=by first|(go_simp;done)|(go_simp;omega));refine Lw ?_ (v:=.bool true);refine Lv ?_;refine Lw ?_ (v:=.bool true) (hv:=by first|(go_simp;done)|(go_simp;omega));refine Lw ?_ (v:=.bool true);refine Lw ?_ (v:=.bool true);refine J0p ?_;go_wp2;exact BC (v:=.bool true) (by simp only[results,Tryz.results155];go_simp) rfl ⟨rfl,D.ext⟩
theorem V5p (f:Nat→Int)(hf:∀j,0≤f j∧f j<256)(i:Nat)(hi:i<256)(w:AA):
  Az Tryz.prog 110 #[.agg (J0 .u8 32 f),.int .i64 (i:Int)] w fun e w' =>V5 (.int .i64 (J41 f i)) w w' e:=by
 have M:(i:Int)<256:=by omega
 have N:(0:Int)≤(i:Int):=by omega
 have hD:=Y41 (n:=7-i % 8) (hf (i / 8));have hA:=Y8a hD;clear hf;have D:Off [] w w:=Off.refl _ _
 go_enter Tryz.func110,Tryz.ntmps110
 go_upto_region 0 with fail;refine wp_region_lit ?_;refine Ln ?_ (z:=J0 .u8 32 f) (t:=38);intro K9 W1 J hO h_;replace D:=D.o hO;have G:=h_;clear hO h_ J;refine Lw ?_ (v:=.int .i64 0);refine J0p ?_;go_upto_region 1 with fail;refine wp_region_lit ?_;refine Lv ?_;refine Lr ?_ (Y42 i hi W1);intro W2 hO;replace G:=G.o hO;replace D:=D.o hO;clear hO;refine Lw ?_ (v:=.bool false);refine J0p ?_;go_upto_region 3 with fail;refine wp_region_lit ?_;refine Lv ?_;refine Lw ?_ (v:=.int .i64 (((i / 8:Nat):Int))) (hv:=by go_simp;(try simp only[AG.wrap_u64,AG.wrap_i64]);(try omega));refine Lw ?_ (v:=.pointer (some ⟨K9,0+(i / 8),none⟩)) (hv:=rxa Tryz.underlying38 (by omega));refine Lg ?_ G (v:=.int .u8 (f (i / 8))) (hj:=ag0 (by omega));refine Lv ?_;refine Lw ?_ (v:=.int .i64 (((i % 8:Nat):Int))) (hv:=by go_simp;(try rw[Int.tmod_eq_emod_of_nonneg (by omega)]);(try omega));refine Lw ?_ (v:=.int .i64 (((7-i % 8:Nat):Int))) (hv:=by go_simp;(try simp only[AG.wrap_u64,AG.wrap_i64]);(try omega));refine Lw ?_ (v:=.int .u8 (f (i / 8) / 2^(7-i % 8))) (hv:=by exact Z8h (n:=7-i % 8) (by omega) rfl rfl rfl);refine Lw ?_ (v:=.int .i64 (f (i / 8) / 2^(7-i % 8))) (hv:=by exact Y89 hD rfl rfl);refine Lw ?_ (v:=.int .i64 (J41 f i)) (hv:=by unfold J41;rw[←hA];exact J4c rfl rfl rfl);refine Lv ?_;refine J0p ?_;go_wp2;exact BC (v:=.int .i64 (J41 f i)) (by simp only[results,Tryz.results110];go_simp) rfl ⟨rfl,D.ext⟩
end

section
set_option maxHeartbeats 1500000
attribute [local irreducible] wpList
def J9q (f g:Nat→Int):Nat→Nat→Nat
  |0,i=>i
  |n+1,i=>if J41 f i=J41 g i then J9q f g n (i+1) else i
def X9 (f g:Nat→Int):Nat:=J9q f g 256 0
theorem J9e {f g:Nat→Int}{i:Nat}(h:i<256):J9q f g (256-i) i=if J41 f i=J41 g i then J9q f g (256-(i+1)) (i+1) else i:=by
  rw[show 256-i=(256-(i+1))+1 by omega];rfl

def V0l (f g:Nat→Int):Bool:=decide (X9 f g<256) && decide (J41 f (X9 f g)=0)
end

section
set_option maxHeartbeats 1500000
attribute [local irreducible] wpList Z9 wpX
theorem Z6q (f:Nat→Int)(i:Nat):0≤J41 f i∧J41 f i<2:=by unfold J41;omega
def kb (k i:Nat):Nat:=if i<256 then(J41 (J2 k) i).toNat else 0
theorem Q1f {k i:Nat}(h:i<256):((kb k i:Nat):Int)=J41 (J2 k) i:=by unfold kb;rw[if_pos h];have:=(Z6q (J2 k) i).1;omega
theorem K1o {k i:Nat}(h:256≤i):kb k i=0:=by unfold kb;rw[if_neg (by omega)]
theorem J9p (k i:Nat):kb k i<2:=by unfold kb;split;have:=Z6q (J2 k) i;omega;decide
theorem K1p (k:Nat):∀j,0≤J2 k j∧J2 k j<256:=fun j=>J4x k j
theorem Z0j {w:AA}{o:Oper}{a:Act}{x y:AS}{l:List UInt8}{i:Nat}{c:UInt8}(h:l[i]?=some c)(ho:o.op=.index 9 x y)(hx:a.eval x=V3 l){k:AG}(hy:a.eval y=.int k (i:Int)):(AQ a.eval o).run Tryz.prog w=.ok (.value (.int .u8 (c.toNat:Int))) w:=by
 have hs:=J7d l;have hi:=(List.getElem?_eq_some_iff.1 h).1;have hg:=(List.getElem?_eq_some_iff.1 h).2
 have D : (⟨l.toArray⟩ : ByteArray)[i]'(by rw [hs]; exact hi) = c := by
  show l.toArray[i]'(by simpa using hi) = c
  simpa using hg
 simp only[AQ,ho,hx,hy,V3,Ad];simp[Instr.index,asIntOf,run_underlying Tryz.underlying9,hs,hi,D,Ad]
def tb8:List UInt8:=[0,1,2,2,3,3,3,3,4,4,4,4,4,4,4,4,5,5,5,5,5,5,5,5,5,5,5,5,5,5,5,5,6,6,6,6,6,6,6,6,6,6,6,6,6,6,6,6,6,6,6,6,6,6,6,6,6,6,6,6,6,6,6,6,7,7,7,7,7,7,7,7,7,7,7,7,7,7,7,7,7,7,7,7,7,7,7,7,7,7,7,7,7,7,7,7,7,7,7,7,7,7,7,7,7,7,7,7,7,7,7,7,7,7,7,7,7,7,7,7,7,7,7,7,7,7,7,7,8,8,8,8,8,8,8,8,8,8,8,8,8,8,8,8,8,8,8,8,8,8,8,8,8,8,8,8,8,8,8,8,8,8,8,8,8,8,8,8,8,8,8,8,8,8,8,8,8,8,8,8,8,8,8,8,8,8,8,8,8,8,8,8,8,8,8,8,8,8,8,8,8,8,8,8,8,8,8,8,8,8,8,8,8,8,8,8,8,8,8,8,8,8,8,8,8,8,8,8,8,8,8,8,8,8,8,8,8,8,8,8,8,8,8,8,8,8,8,8,8,8,8,8,8,8,8,8]
def l8 (z:Nat):Nat:=(tb8.getD z 0).toNat
theorem Y8e {z:Nat}(h:z<256):tb8[z]?=some (tb8.getD z 0):=by rw[List.getD_eq_getElem?_getD,Af (by rw[show tb8.length=256 by decide+kernel];exact h)];rfl
theorem Z3i:∀z:Fin 256,l8 z.val≤8∧(z.val≠0→0<l8 z.val∧z.val / 2^(l8 z.val-1) % 2=1)∧∀i:Fin 8,i.val<8-l8 z.val→z.val / 2^(7-i.val) % 2=0:=by decide+kernel
theorem Y8f (x y n:Nat):(x^^^y) / 2^n % 2=0↔x / 2^n % 2=y / 2^n % 2:=by
 have h:=Nat.testBit_xor x y n;have e:∀z:Nat,z.testBit n=decide (z / 2^n % 2=1):=fun z=>by rw[Nat.testBit_eq_decide_div_mod_eq]
 rw[e,e,e] at h;have h1:(x^^^y) / 2^n % 2<2:=BH _ (by decide);have h2:x / 2^n % 2<2:=BH _ (by decide);have h3:y / 2^n % 2<2:=BH _ (by decide);generalize (x^^^y) / 2^n % 2=a at*;generalize x / 2^n % 2=b at*;generalize y / 2^n % 2=c at*
 match a,b,c,h1,h2,h3 with
 |0,0,0,_,_,_=>simp
 |0,0,1,_,_,_=>simp at h
 |0,1,0,_,_,_=>simp at h
 |0,1,1,_,_,_=>simp
 |1,0,0,_,_,_=>simp at h
 |1,0,1,_,_,_=>simp
 |1,1,0,_,_,_=>simp
 |1,1,1,_,_,_=>simp at h
def kby (k j:Nat):Nat:=k / 2^(8*j) % 256
theorem Q8t (k j:Nat):J2 k j=((kby k j:Nat):Int):=rfl
theorem J8s (k j:Nat):kby k j<256:=BH _ (by decide)
theorem Q1g (k i:Nat):J41 (J2 k) i=((kby k (i / 8) / 2^(7-i % 8) % 2:Nat):Int):=by
 unfold J41;rw[Q8t];rw[Int.natCast_emod,Int.natCast_ediv,Int.natCast_pow];rfl
theorem Z6r {a b i:Nat}:J41 (J2 a) i=J41 (J2 b) i↔(kby a (i / 8)^^^kby b (i / 8)) / 2^(7-i % 8) % 2=0:=by
 rw[Q1g,Q1g,Y8f];omega
theorem Z1f {f g:Nat→Int}{m:Nat}(hm:m≤256)(hlt:∀i,i<m→J41 f i=J41 g i)(he:m<256→J41 f m≠J41 g m):∀n i,n+i=m→J9q f g (256-i) i=m
 |0,i,h=>by
  obtain rfl:i=m:=by omega
  by_cases h2:i<256
  ·
   rw[J9e h2,if_neg (he h2)]
  ·
   obtain rfl:i=256:=by omega
   rfl
 |n+1,i,h=>by
  rw[J9e (by omega),if_pos (hlt i (by omega))];exact Z1f hm hlt he n (i+1) (by omega)
theorem Q8u {f g:Nat→Int}{m:Nat}(hm:m≤256)(hlt:∀i,i<m→J41 f i=J41 g i)(he:m<256→J41 f m≠J41 g m):X9 f g=m:=Z1f hm hlt he m 0 (by omega)
theorem Q6y {a b j:Nat}(hj:j<32)(hlt:∀i,i<j→kby a i=kby b i)(hne:kby a j≠kby b j):X9 (J2 a) (J2 b)=8*j+(8-l8 (kby a j^^^kby b j)):=by
 have hz:kby a j^^^kby b j<256:=Nat.xor_lt_two_pow (n:=8) (J8s a j) (J8s b j);have D:kby a j^^^kby b j≠0:=fun h=>hne (by have e:=congrArg (· ^^^kby b j) h;simpa[Nat.xor_assoc] using e);obtain⟨h1,h2,h3⟩:=Z3i ⟨_,hz⟩;obtain⟨h2,h4⟩:=h2 D;simp only at h1 h2 h3 h4;generalize hl:l8 (kby a j^^^kby b j)=L at*;refine Q8u (by omega) (fun i hi=> ?_) fun _=> ?_
 ·
  rw[Z6r]
  by_cases hq:i / 8<j
  ·
   rw[hlt _ hq,Nat.xor_self,Nat.zero_div]
  have e:i / 8=j:=by omega
  have h5:=h3 ⟨i % 8,BH _ (by decide)⟩ (by simp only;omega);rw[e];exact h5
 rw[Ne,Z6r];have e1:(8*j+(8-L)) / 8=j:=by omega
 have e2:7-(8*j+(8-L)) % 8=L-1:=by omega
 rw[e1,e2,h4];decide
theorem Y47 {a b:Nat}(h:∀i,i<32→kby a i=kby b i):X9 (J2 a) (J2 b)=256:=
 Q8u (AJ _) (fun i hi=>by rw[Q1g,Q1g,h _ (by omega)]) (fun h=>absurd h (by decide))
theorem Q3s (f g:Nat→Int):X9 f g≤256:=by
 have:∀n i,n+i=256→J9q f g (256-i) i≤256:=by
  intro n
  induction n with
  |zero=>
   intro i h;obtain rfl:i=256:=by omega
   exact AJ 256
  |succ n ih=>intro i h;rw[J9e (by omega)];split;exact ih (i+1) (by omega);omega
 exact this 256 0 rfl

theorem Z8k (i:Nat)(hi:256≤i)(hi2:i<4611686018427387904)(w:AA):
  Az Tryz.prog 155 #[.int .i64 (i:Int)] w fun e w' =>V5 (.bool false) w w' e:=by
 have hS:=SH.nil [] w
 go_enter Tryz.func155,Tryz.ntmps155
 go_upto_region 1 with fail;refine RL hS ?_;clear hS;refine MV ?_;refine MW ?_ (v:=.bool true) (hv:=by intro W;first|(go_simp;done)|(go_simp;omega));refine Wt ?_;refine MV ?_;refine MW ?_ (v:=.bool false) (hv:=by intro W;first|(go_simp;done)|(go_simp;omega));refine Wf ?_;refine Wf ?_;refine MZ fun W hS=> ?_;go_wp2;exact BC (v:=.bool false) (by simp only[results,Tryz.results155];go_simp) rfl ⟨rfl,hS.ext⟩
theorem Y8g (k i:Nat)(hi:256≤i)(hi2:i<4611686018427387904)(w:AA):
  Az Tryz.prog 110 #[.agg (J0 .u8 32 (J2 k)),.int .i64 (i:Int)] w fun e w' =>V5 (.int .i64 0) w w' e:=by
 have hS:=SH.nil [] w
 go_enter Tryz.func110,Tryz.ntmps110
 go_upto_region 0 with fail;refine RL hS ?_;clear hS;refine MN (z:=J0 .u8 32 (J2 k)) (t:=38) ?_;intro K9;refine W0 ?_;refine MZ fun W hS=> ?_;go_upto_region 1 with fail;refine RL hS ?_;clear hS;refine MV ?_;refine MC (v:=.bool false) (fun W hS=>Z8k i hi hi2 W) ?_;refine Wt ?_;refine MZ fun W hS=> ?_;go_wp2;exact BC (v:=.int .i64 0) (by simp only[results,Tryz.results110];go_simp) rfl ⟨rfl,hS.ext⟩
theorem J5q (k i:Nat)(hi:i<4611686018427387904)(w:AA):Az Tryz.prog 110 #[.agg (J0 .u8 32 (J2 k)),.int .i64 (i:Int)] w fun e w' =>V5 (.int .i64 (kb k i:Int)) w w' e:=by
 by_cases h:i<256
 ·
  rw[Q1f h];exact V5p _ (K1p k) i h w
 rw[K1o (by omega)];exact Y8g k i (by omega) hi w
theorem V5u (z:Nat)(hz:z<256)(w:AA):
  Az Tryz.prog 181 #[.int .u8 (z:Int)] w fun e w' =>V5 (.int .i64 (l8 z:Int)) w w' e:=by
 have hS:=SH.nil [] w
 go_enter Tryz.func181,Tryz.ntmps181
 go_upto_region 1 with fail;refine RL hS ?_;clear hS;refine MV ?_;refine MW ?_ (v:=.int .u8 ((tb8.getD z 0).toNat:Int)) (hv:=by intro W;exact Z0j (l:=tb8) (i:=z) (Y8e hz) rfl rfl rfl);refine MW ?_ (v:=.int .i64 (l8 z:Int)) (hv:=by intro W;exact Q1e rfl rfl);refine MV ?_;refine MZ fun W hS=> ?_;go_wp2;exact BC (v:=.int .i64 (l8 z:Int)) (by simp only[results,Tryz.results181];go_simp) rfl ⟨rfl,hS.ext⟩
theorem K1q (z:Nat)(hz:z<256)(w:AA):
  Az Tryz.prog 154 #[.int .u8 (z:Int)] w fun e w' =>V5 (.int .i64 ((8-l8 z:Nat):Int)) w w' e:=by
 have hl:=(Z3i ⟨z,hz⟩).1;simp only at hl;have hS:=SH.nil [] w
 go_enter Tryz.func154,Tryz.ntmps154
 go_upto_region 1 with fail;refine RL hS ?_;clear hS;refine MV ?_;refine MC (v:=.int .i64 (l8 z:Int)) (fun W hS=>V5u z hz W) ?_;refine MW ?_ (v:=.int .i64 ((8-l8 z:Nat):Int)) (hv:=by intro W;go_simp;(try simp only[AG.wrap_i64]);omega);refine MV ?_;refine MZ fun W hS=> ?_;go_wp2;exact BC (v:=.int .i64 ((8-l8 z:Nat):Int)) (by simp only[results,Tryz.results154];go_simp) rfl ⟨rfl,hS.ext⟩
theorem V5v {w:AA}:(isAgg 5).run Tryz.prog w=.ok false w:=by
 simp[isAgg,run_underlying Tryz.underlying5,Ad]
theorem Z93 {a b:Nat}(ha:a<256)(hb:b<256):bits .xor .u8 (a:Int) (b:Int)=((a^^^b:Nat):Int):=J2t .u8 8 (by decide) (fun n h0 h1=>by rw[AG.wrap_u8];omega) a b ha hb
theorem Y48 {w:AA}{o:Oper}{a:Act}{x y:AS}{t t' :AD}{p q:Int}(ho:o.op=.binOp .xor t x y t')(hx:a.eval x=.int .u8 p)(hy:a.eval y=.int .u8 q):(AQ a.eval o).run Tryz.prog w=.ok (.value (.int .u8 (bits .xor .u8 p q))) w:=by
 simp only[AQ,ho,hx,hy];rfl
theorem Q6j (a b:Nat)(w:AA):
  Az Tryz.prog 107 #[.agg (J0 .u8 32 (J2 a)),.agg (J0 .u8 32 (J2 b))] w fun e w' =>V5 (.int .i64 (X9 (J2 a) (J2 b):Int)) w w' e:=by
 have hS:=SH.nil [] w
 go_enter Tryz.func107,Tryz.ntmps107
 go_upto_region 0 with fail;refine RL hS ?_;clear hS;refine MN (z:=J0 .u8 32 (J2 a)) (t:=38) ?_;intro K9;refine MN (z:=J0 .u8 32 (J2 b)) (t:=38) ?_;intro J;refine W0 ?_;refine MZ fun W hS=> ?_;go_upto_region 1 with fail;refine RL hS ?_;clear hS;refine ML 1 ?_;refine W0 ?_;refine MZ fun W hS=> ?_
 go_wp2_with fail
 go_loopw [8] (fun ii wr=> ∃(j:Nat),(j≤32)∧(∀i,i<j→kby a i=kby b i)∧(ii=.int .i64 (j:Int))∧SH [] w wr [.b J (J0 .u8 32 (J2 b)) 38,.b K9 (J0 .u8 32 (J2 a)) 38])
  (fun ii _=>32-(intOf ii).toNat)
 case atStart=>exact⟨0,Nat.zero_le _,fun i h=>absurd h (Nat.not_lt_zero _),rfl,hS⟩
 clear hS
 case round=>
  obtain⟨j,hj,M,rfl,hS⟩:=hrel
  by_cases G:j<32
  ·
   go_upto_region 2 with fail;refine RL hS ?_;clear hS;refine Wt ?_;refine MZ fun W hS=> ?_;go_upto_region 3 with fail;refine RL hS ?_;clear hS;refine MV ?_;refine MW ?_ (v:=.int .u8 ((kby a j:Nat):Int)) (hv:=fun _=>Q8o (m:=32) (f:=J2 a) G Tryz.underlying38 (by kernel_rfl) V5v rfl rfl rfl);refine MV ?_;refine MV ?_;refine MZ fun W hS=> ?_
   by_cases D:kby a j=kby b j
   ·
    go_upto_region 4 with fail;refine RL hS ?_;clear hS;refine MV ?_;refine MV ?_;refine MW ?_ (v:=.pointer (some ⟨J,0+j,none⟩)) (hv:=fun _=>rxa Tryz.underlying38 (by omega));refine MG 0 ?_ (j:=0+j) (v:=.int .u8 ((J2 b) j)) (hj:=ag0 (by omega));refine MW ?_ (v:=.bool false) (hv:=by intro W;go_simp;(try simp only[Q8t]);(try simp[D]));refine MZ fun W hS=> ?_;go_wp2;go_roundw
    case rel=>exact⟨j+1,by omega,fun i h=>by rcases Nat.lt_succ_iff_lt_or_eq.1 h with h|rfl;exact M i h;exact D,by go_num,hS⟩
    case measure=>simp[intOf];omega
   have N:=D;go_upto_region 4 with fail;refine RL hS ?_;clear hS;refine MV ?_;refine MV ?_;refine MW ?_ (v:=.pointer (some ⟨J,0+j,none⟩)) (hv:=fun _=>rxa Tryz.underlying38 (by omega));refine MG 0 ?_ (j:=0+j) (v:=.int .u8 ((J2 b) j)) (hj:=ag0 (by omega));refine MW ?_ (v:=.bool true) (hv:=by intro W;go_simp;(try simp only[Q8t]);omega);refine MZ fun W hS=> ?_;go_upto_region 5 with fail;refine RL hS ?_;clear hS;refine MV ?_;refine MW ?_ (v:=.int .i64 ((8*j:Nat):Int)) (hv:=by intro W;go_simp;(try simp only[AG.wrap_i64]);omega);refine MV ?_;refine MV ?_;refine MW ?_ (v:=.pointer (some ⟨J,0+j,none⟩)) (hv:=fun _=>rxa Tryz.underlying38 (by omega));refine MG 0 ?_ (j:=0+j) (v:=.int .u8 ((J2 b) j)) (hj:=ag0 (by omega));refine MW ?_ (v:=.int .u8 ((kby a j^^^kby b j:Nat):Int)) (hv:=by intro W;rw[←Z93 (J8s a j) (J8s b j)];exact Y48 rfl rfl rfl);refine MC (v:=.int .i64 ((8-l8 (kby a j^^^kby b j):Nat):Int)) (fun W hS=>K1q (kby a j^^^kby b j) (Nat.xor_lt_two_pow (n:=8) (J8s a j) (J8s b j)) W) ?_;refine MW ?_ (v:=.int .i64 ((8*j+(8-l8 (kby a j^^^kby b j)):Nat):Int)) (hv:=by intro W;go_simp;(try simp only[AG.wrap_i64]);omega);refine MV ?_;refine MZ fun W hS=> ?_;go_wp2;exact BC (v:=.int .i64 ((8*j+(8-l8 (kby a j^^^kby b j)):Nat):Int)) (by simp only[results,Tryz.results107];go_simp) rfl ⟨by rw[Q6y G M N],hS.ext⟩
  obtain rfl:j=32:=by omega
  go_upto_region 2 with fail;refine RL hS ?_;clear hS;refine Wf ?_;refine MZ fun W hS=> ?_;go_wp2;exact BC (v:=.int .i64 256) (by simp only[results,Tryz.results107];go_simp) rfl ⟨by rw[Y47 M];rfl,hS.ext⟩
end

section
set_option maxHeartbeats 1500000
attribute [local irreducible] wpList Z9 wpX
def tsz:TR→Nat
 | .nil=>0
 | .leaf _ _=>1
 | .node _ l r=>1+tsz l+tsz r
def hd (w:AA):Nat→AB→Nat
 |n+1,.pointer (some a)=>match w.cell? ⟨a.block,66,none⟩ with
  |some (.bool true)=>1+hd w n ((w.cell? ⟨a.block,64,none⟩).getD AP)+hd w n ((w.cell? ⟨a.block,65,none⟩).getD AP)
  |some (.bool false)=>1
  |_=>0
 |_,_=>0
theorem V5w (w:AA)(n:Nat):hd w n nlp=0:=by cases n<;>rfl
theorem J9r {w:AA}:∀{T:TR} {u:AB} {n:Nat},TA w T u→tsz T≤n→hd w n u=tsz T
 | .nil,_,n,h,_=>by rw[show _=nlp from h];exact V5w w n
 | .leaf k v,_,0,_,hn=>absurd hn (by show ¬1≤0;omega)
 | .leaf k v,_,n+1,⟨b,h1,h2,_⟩,_=>by
  subst h1;have e:w.cell? ⟨b,66,none⟩=some (.bool false):=by rw[J3 h2];exact J73
  show(match w.cell? ⟨b,66,none⟩ with
   |some (.bool true)=>_
   |some (.bool false)=>1
   |_=>0)=1
  rw[e]
 | .node d l r,_,0,_,hn=>absurd hn (by show ¬1+tsz l+tsz r≤0;omega)
 | .node d l r,_,n+1,⟨b,s0,s1,h1,h2,h3,h4⟩,hn=>by
  subst h1;have e:w.cell? ⟨b,66,none⟩=some (.bool true):=by rw[J3 h2];exact J73
  have e0:w.cell? ⟨b,64,none⟩=some s0:=by rw[J3 h2];exact nd_s0
  have e1:w.cell? ⟨b,65,none⟩=some s1:=by rw[J3 h2];exact nd_s1
  have hn' :1+tsz l+tsz r≤n+1:=hn
  show(match w.cell? ⟨b,66,none⟩ with
   |some (.bool true)=>1+hd w n ((w.cell? ⟨b,64,none⟩).getD AP)+hd w n ((w.cell? ⟨b,65,none⟩).getD AP)
   |some (.bool false)=>1
   |_=>0)=1+tsz l+tsz r
  rw[e,e0,e1];show 1+hd w n s0+hd w n s1=_;rw[J9r h3 (by omega),J9r h4 (by omega)]
def Q8v:TR→Nat
 | .nil=>0
 | .leaf k _=>k
 | .node _ .nil r=>Q8v r
 | .node _ l _=>Q8v l
def full:TR→Prop
 | .nil=>False
 | .leaf _ _=>True
 | .node _ .nil r=>full r
 | .node _ l _=>full l
theorem Z3j {d:Nat}{l r:TR}(h:l≠ .nil):Q8v (.node d l r)=Q8v l:=by cases l<;>first|exact absurd rfl h|rfl
theorem Z3k {d:Nat}{l r:TR}(h:l≠ .nil):full (.node d l r)=full l:=by cases l<;>first|exact absurd rfl h|rfl
theorem Q3t {T:TR}(h:full T):T≠ .nil:=fun e=>by subst e;exact h
theorem TA.cases {w:AA}{T:TR}{u:AB}(h:TA w T u)(hf:full T):(∃b k v,T=.leaf k v∧u=ptr b∧Blk w b (ndc k v nlp nlp false (sL k v) 1) 163)∨
  ∃b d l r s0 s1,T=.node d l r∧u=ptr b∧Blk w b (ndc 0 0 s0 s1 true (rs (.node d l r)) (cnt l+cnt r)) 163∧TA w l s0∧TA w r s1:=by
 cases T with
 |nil=>exact hf.elim
 |leaf k v=>obtain⟨b,h1,h2,_⟩:=h;exact .inl ⟨b,k,v,rfl,h1,h2⟩
 |node d l r=>obtain⟨b,s0,s1,h1,h2,h3,h4⟩:=h;exact .inr ⟨b,d,l,r,s0,s1,rfl,h1,h2,h3,h4⟩
theorem TA.side {w:AA}{T:TR}{u:AB}(h:TA w T u):(T=.nil∧u=nlp)∨∃b,T≠ .nil∧u=ptr b:=by
 cases T with
 |nil=>exact .inl ⟨rfl,h⟩
 |leaf k v=>obtain⟨b,h1,_⟩:=h;exact .inr ⟨b,fun e=>(by cases e),h1⟩
 |node d l r=>obtain⟨b,s0,s1,h1,_⟩:=h;exact .inr ⟨b,fun e=>(by cases e),h1⟩
attribute [local irreducible] hs4 sE sL sN

theorem Z6s {T:TR}{u:AB}(hf0:full T)(w:AA)(h:TA w T u):
  Az Tryz.prog 185 #[u] w fun e w' =>V5 (.agg (J0 .u8 32 (J2 (Q8v T)))) w w' e:=by
 have hS:=SH.nil [] w
 go_enter Tryz.func185,Tryz.ntmps185
 go_upto_region 0 with fail;refine RL hS ?_;clear hS;refine MN (z:=J0 .u8 32 (J2 0)) (t:=38) ?_;intro K9;refine MZ fun W hS=> ?_
 go_wp2_with fail
 go_loopw [0] (fun u wr=> ∃(T1:TR),(TA w T1 u)∧(full T1)∧(Q8v T1=Q8v T)∧(tsz T1≤tsz T)∧SH [] w wr [.b K9 (J0 .u8 32 (J2 0)) 38])
  (fun u _=>hd w (tsz T) u)
 case atStart=>exact⟨T,h,hf0,rfl,AJ _,hS⟩
 clear hS
 case round=>
  obtain⟨T1,hT,hf,hk,hz,hS⟩:=hrel;rcases hT.cases hf with⟨b,k,v,rfl,rfl,hB⟩|⟨b,d,l,r,s0,s1,rfl,rfl,hB,hl,hr⟩
  ·
   go_upto_region 1 with fail;refine RL hS ?_;clear hS;(iterate 3 refine MV ?_);refine MF (v:=.bool false) (fun W hS=>Q6 rfl rfl (by rw[J3 (J4 hB hS.ext)];exact J73) (by kernel_rfl)) ?_;refine MZ fun W hS=> ?_;go_upto_region 5 with fail;refine RL hS ?_;clear hS;(iterate 4 refine MV ?_);refine MF (v:=.agg (J0 .u8 32 (J2 k))) (fun W hS=>J0s (vs:=(J0 .u8 32 (J2 k)).toList) rfl rfl (fun i v hv=>by rw[J3 (J4 hB hS.ext)];exact J7r i v (by simpa using hv)) (by kernel_rfl) (by first|kernel_rfl|(simp only[Array.length_toList];rw[J1];kernel_rfl))) ?_;refine MR 0 ?_;refine MZ fun W hS=> ?_;go_wp2;exact BC (Z6 rfl rfl (hS.blk (i:=0) rfl) (by kernel_rfl) (by rw[J1];kernel_rfl)) rfl ⟨by rw[←hk];rfl,hS.ext⟩
  have D:TA w (.node d l r) (ptr b):=hT;go_upto_region 1 with fail;refine RL hS ?_;clear hS;(iterate 3 refine MV ?_);refine MF (v:=.bool true) (fun W hS=>Q6 rfl rfl (by rw[J3 (J4 hB hS.ext)];exact J73) (by kernel_rfl)) ?_;refine MZ fun W hS=> ?_;rcases hl.side with⟨rfl,rfl⟩|⟨c,G,rfl⟩
  ·
   go_upto_region 2 with fail;refine RL hS ?_;clear hS;(iterate 3 refine MV ?_);refine MW ?_ (v:=.pointer (some ⟨b,64,none⟩)) (hv:=fun _=>J05 (m:=2) (k:=1) (j:=0) (off:=64) (by decide) Tryz.underlying161 (by kernel_rfl) rfl rfl rfl);refine MF (v:=.pointer none) (fun W hS=>Q6 rfl rfl (by rw[J3 (J4 hB hS.ext)];exact nd_s0) (by kernel_rfl)) ?_;refine Wf ?_;refine MZ fun W hS=> ?_;go_upto_region 4 with fail;refine RL hS ?_;clear hS;(iterate 3 refine MV ?_);refine MW ?_ (v:=.pointer (some ⟨b,65,none⟩)) (hv:=fun _=>J05 (m:=2) (k:=1) (j:=1) (off:=64) (by decide) Tryz.underlying161 (by kernel_rfl) rfl rfl rfl);refine MF (v:=s1) (fun W hS=>Q6 rfl rfl (by rw[J3 (J4 hB hS.ext)];exact nd_s1) (by kernel_rfl)) ?_;refine MV ?_;refine MZ fun W hS=> ?_;go_wp2;go_roundw
   case rel=>exact⟨r,hr,hf,hk,(by have h_:1+tsz .nil+tsz r≤tsz T:=hz;omega),hS⟩
   case measure=>rw[J9r D hz,J9r hr (by have h_:1+tsz .nil+tsz r≤tsz T:=hz;omega)];show _<1+tsz .nil+tsz r;omega
  go_upto_region 2 with fail;refine RL hS ?_;clear hS;(iterate 3 refine MV ?_);refine MW ?_ (v:=.pointer (some ⟨b,64,none⟩)) (hv:=fun _=>J05 (m:=2) (k:=1) (j:=0) (off:=64) (by decide) Tryz.underlying161 (by kernel_rfl) rfl rfl rfl);refine MF (v:=.pointer (some ⟨c,0,none⟩)) (fun W hS=>Q6 rfl rfl (by rw[J3 (J4 hB hS.ext)];exact nd_s0) (by kernel_rfl)) ?_;refine Wt ?_;refine MZ fun W hS=> ?_;go_upto_region 3 with fail;refine RL hS ?_;clear hS;(iterate 3 refine MV ?_);refine MW ?_ (v:=.pointer (some ⟨b,64,none⟩)) (hv:=fun _=>J05 (m:=2) (k:=1) (j:=0) (off:=64) (by decide) Tryz.underlying161 (by kernel_rfl) rfl rfl rfl);refine MF (v:=.pointer (some ⟨c,0,none⟩)) (fun W hS=>Q6 rfl rfl (by rw[J3 (J4 hB hS.ext)];exact nd_s0) (by kernel_rfl)) ?_;refine MV ?_;refine MZ fun W hS=> ?_;go_wp2;go_roundw
  case rel=>exact⟨l,hl,(by rw[Z3k G] at hf;exact hf),(by rw[Z3j G] at hk;exact hk),(by have h_:1+tsz l+tsz r≤tsz T:=hz;omega),hS⟩
  case measure=>rw[J9r D hz,J9r hl (by have h_:1+tsz l+tsz r≤tsz T:=hz;omega)];show _<1+tsz l+tsz r;omega
end
end Go.Proofs.YtpljgkofbfeelaaGreatDoor

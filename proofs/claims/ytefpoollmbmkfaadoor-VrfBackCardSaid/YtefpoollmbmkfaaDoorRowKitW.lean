/- What the rows of layers 8 and 9 share: the cells of the variables out of the rows' lists, bytes out of the arguments, a world for the witness. No conditions. What the rows of layer 9 share: the bytes of a proof out of an argument. No conditions. -/
import Derived.Test.YtefpoollmbmkfaaDoorCards
import Derived.Test.YtefpoollmbmkfaaDoorTie
import Derived.Test.YtefpoollmbmkfaaDoorOpen
import Derived.Test.YtefpoollmbmkfaaDoorSgA
import Derived.WalkKit
import Derived.ProofKit
import Derived.OpenShut
import Derived.Deep.Slices
import Derived.Deep.DeepHandedRow
import Derived.Carry
import Derived.Lib.LaidTab
import Derived.Test.YtefpoollmbmkfaaDoorVa
set_option linter.unusedSimpArgs false
set_option linter.unusedVariables false
namespace Go.Proofs.YtefpoollmbmkfaaDoor
set_option maxRecDepth 100000
open Go.ChangeShapes Go.WideShapes Go.ChangeAt Go.RowKit Go.Deep

theorem own : ownKnob Tryd.prog.godebug = none := by kernel_rfl
theorem Q7f : laidOutB Tryd.prog = true := by kernel_rfl
theorem Z62 : Tryd.prog.cellsOf 5 = 1 := by kernel_rfl
theorem J3a : Tryd.prog.cellsOf 39 = 1 := by kernel_rfl
theorem Z63 : Tryd.prog.cellsOf 118 = 80 := by kernel_rfl
theorem Z9m : Tryd.prog.cellsOf 113 = 8 := by kernel_rfl
theorem J4b : Tryd.prog.cellsOf 58 = 4 := by kernel_rfl
theorem Z2b : Tryd.prog.cellsOf 42 = 4 := by kernel_rfl
theorem Q9 {P : Program} {x : String × DataW Unit} {r : List (String × DataW Unit)} {W : World} (h : laidMet P (x :: r) W) : laidMet P r W := by
  obtain ⟨ps, ⟨g, t, cs, fuel, p, q, _, _, _, _, hv, rfl⟩, hn, hc⟩ := h
  exact ⟨q, hv, (List.nodup_append.1 hn).2.1, fun b off hb => hc b off (List.mem_append_right _ hb)⟩
theorem J2x {W : World} {name : String} {zs : List Int} {g : Nat} (h : Lib.TabIs Tryd.prog W name .u64 zs) (hg : Tryd.prog.globalNamed name = some g) (h0 : 0 < zs.length) : Rd W g (zs.map fun z => Value.int .u64 z).toArray := by
  refine ⟨fun j v hj => ?_, World.block_lt_of_cell? W ⟨g, 0, none⟩ (h.cell hg 0 h0)⟩
  rw [List.getElem?_toArray, List.getElem?_map] at hj
  cases hz : zs[j]? with
  | none => rw [hz] at hj; cases hj
  | some z =>
    rw [hz] at hj
    obtain rfl := Option.some.inj hj
    have hl : j < zs.length := by
      rcases Nat.lt_or_ge j zs.length with h | h
      · exact h
      · rw [List.getElem?_eq_none h] at hz; cases hz
    have := h.cell hg j hl
    rwa [List.getD_eq_getElem?_getD, hz] at this
theorem Z9n : (kk.map fun z => Value.int .u64 z).toArray = J2 .u64 80 kf := by kernel_rfl
theorem Z9o : (hh.map fun z => Value.int .u64 z).toArray = J2 .u64 8 hf := by kernel_rfl
theorem Y2m : Tryd.prog.globalNamed "custumal/field.modulus" = some 9 := by kernel_rfl
theorem Y2n : (Tryd.prog.globals[9]?).map (·.type) = some 58 := by kernel_rfl
theorem Z9p {W : World} {r : List (String × DataW Unit)} (h : laidMet Tryd.prog (("custumal/field.modulus", Rows.laid_custumal_field_modulus) :: r) W) : Lib.TabIs Tryd.prog W "custumal/field.modulus" .u64 [18446744073709551597, 18446744073709551615, 18446744073709551615, 9223372036854775807] :=
  Lib.tabIs_of_head (rest := r) Y2m Y2n Tryd.underlying58 Tryd.underlying39 J3a J4b h
theorem Y2o {W : World} {r : List (String × DataW Unit)} (h : laidMet Tryd.prog (("custumal/field.modulus", Rows.laid_custumal_field_modulus) :: r) W) : Rd W 9 (Q4x) := J2x (Z9p h) Y2m (by decide)
theorem Y2p : Tryd.prog.globalNamed "custumal/field.imaginary" = some 8 := by kernel_rfl
theorem Y2q : (Tryd.prog.globals[8]?).map (·.type) = some 58 := by kernel_rfl
theorem Z9q {W : World} {r : List (String × DataW Unit)} (h : laidMet Tryd.prog (("custumal/field.imaginary", Rows.laid_custumal_field_imaginary) :: r) W) : Lib.TabIs Tryd.prog W "custumal/field.imaginary" .u64 [14190309331451158704, 3405592160176694392, 3120150775007532967, 3135389899092516619] :=
  Lib.tabIs_of_head (rest := r) Y2p Y2q Tryd.underlying58 Tryd.underlying39 J3a J4b h
theorem Y2r {W : World} {r : List (String × DataW Unit)} (h : laidMet Tryd.prog (("custumal/field.imaginary", Rows.laid_custumal_field_imaginary) :: r) W) : Rd W 8 (J45) := J2x (Z9q h) Y2p (by decide)
theorem Y2s : Tryd.prog.globalNamed "custumal/edwards.curve" = some 1 := by kernel_rfl
theorem Y2t : (Tryd.prog.globals[1]?).map (·.type) = some 58 := by kernel_rfl
theorem Z9r {W : World} {r : List (String × DataW Unit)} (h : laidMet Tryd.prog (("custumal/edwards.curve", Rows.laid_custumal_edwards_curve) :: r) W) : Lib.TabIs Tryd.prog W "custumal/edwards.curve" .u64 [8496970652267935907,31536524315187371,10144147576115030168,5909686906226998899] :=
  Lib.tabIs_of_head (rest := r) Y2s Y2t Tryd.underlying58 Tryd.underlying39 J3a J4b h
theorem Y2u {W : World} {r : List (String × DataW Unit)} (h : laidMet Tryd.prog (("custumal/edwards.curve", Rows.laid_custumal_edwards_curve) :: r) W) : Rd W 1 (c4 DD) := J2x (Z9r h) Y2s (by decide)
theorem Y2v : Tryd.prog.globalNamed "custumal/edwards.double" = some 5 := by kernel_rfl
theorem Y2w : (Tryd.prog.globals[5]?).map (·.type) = some 58 := by kernel_rfl
theorem Z9s {W : World} {r : List (String × DataW Unit)} (h : laidMet Tryd.prog (("custumal/edwards.double", Rows.laid_custumal_edwards_double) :: r) W) : Lib.TabIs Tryd.prog W "custumal/edwards.double" .u64 [16993941304535871833,63073048630374742,1841551078520508720,2596001775599221991] :=
  Lib.tabIs_of_head (rest := r) Y2v Y2w Tryd.underlying58 Tryd.underlying39 J3a J4b h
theorem Y2x {W : World} {r : List (String × DataW Unit)} (h : laidMet Tryd.prog (("custumal/edwards.double", Rows.laid_custumal_edwards_double) :: r) W) : Rd W 5 (c4 D2) := J2x (Z9s h) Y2v (by decide)
theorem Y2y : Tryd.prog.globalNamed "custumal/edwards.baseX" = some 3 := by kernel_rfl
theorem Y2z : (Tryd.prog.globals[3]?).map (·.type) = some 58 := by kernel_rfl
theorem Z9t {W : World} {r : List (String × DataW Unit)} (h : laidMet Tryd.prog (("custumal/edwards.baseX", Rows.laid_custumal_edwards_baseX) :: r) W) : Lib.TabIs Tryd.prog W "custumal/edwards.baseX" .u64 [14507833142362363162,7578651490590762930,13881468655802702940,2407515759118799870] :=
  Lib.tabIs_of_head (rest := r) Y2y Y2z Tryd.underlying58 Tryd.underlying39 J3a J4b h
theorem Y30 {W : World} {r : List (String × DataW Unit)} (h : laidMet Tryd.prog (("custumal/edwards.baseX", Rows.laid_custumal_edwards_baseX) :: r) W) : Rd W 3 (c4 BX) := J2x (Z9t h) Y2y (by decide)
theorem Y31 : Tryd.prog.globalNamed "custumal/edwards.baseY" = some 4 := by kernel_rfl
theorem Y32 : (Tryd.prog.globals[4]?).map (·.type) = some 58 := by kernel_rfl
theorem Z9u {W : World} {r : List (String × DataW Unit)} (h : laidMet Tryd.prog (("custumal/edwards.baseY", Rows.laid_custumal_edwards_baseY) :: r) W) : Lib.TabIs Tryd.prog W "custumal/edwards.baseY" .u64 [7378697629483820632,7378697629483820646,7378697629483820646,7378697629483820646] :=
  Lib.tabIs_of_head (rest := r) Y31 Y32 Tryd.underlying58 Tryd.underlying39 J3a J4b h
theorem Y33 {W : World} {r : List (String × DataW Unit)} (h : laidMet Tryd.prog (("custumal/edwards.baseY", Rows.laid_custumal_edwards_baseY) :: r) W) : Rd W 4 (c4 BY) := J2x (Z9u h) Y31 (by decide)
theorem Z2c : Tryd.prog.globalNamed "custumal/scalar.order" = some 0 := by kernel_rfl
theorem Y34 : (Tryd.prog.globals[0]?).map (·.type) = some 42 := by kernel_rfl
theorem Q3e {W : World} {r : List (String × DataW Unit)} (h : laidMet Tryd.prog (("custumal/scalar.order", Rows.laid_custumal_scalar_order) :: r) W) : Lib.TabIs Tryd.prog W "custumal/scalar.order" .u64 [6346243789798364141, 1503914060200516822, 0, 1152921504606846976] :=
  Lib.tabIs_of_head (rest := r) Z2c Y34 Tryd.underlying42 Tryd.underlying39 J3a Z2b h
theorem Y35 {W : World} {r : List (String × DataW Unit)} (h : laidMet Tryd.prog (("custumal/scalar.order", Rows.laid_custumal_scalar_order) :: r) W) : Sc.GL W :=
  have h0 := (Q3e h).cell Z2c 0 (by decide)
  ⟨h0, (Q3e h).cell Z2c 1 (by decide), (Q3e h).cell Z2c 2 (by decide), (Q3e h).cell Z2c 3 (by decide), World.block_lt_of_cell? W _ h0⟩
theorem gSt : Tryd.prog.globalNamed "custumal/sha5.start" = some 2 := by kernel_rfl
theorem Y56 : (Tryd.prog.globals[2]?).map (·.type) = some 113 := by kernel_rfl
theorem Y36 {W : World} {r : List (String × DataW Unit)} (h : laidMet Tryd.prog (("custumal/sha5.start", Rows.laid_custumal_sha5_start) :: r) W) : Lib.TabIs Tryd.prog W "custumal/sha5.start" .u64 hh :=
  Lib.tabIs_of_head (rest := r) gSt Y56 Tryd.underlying113 Tryd.underlying39 J3a Z9m h
theorem Y57 {W : World} {r : List (String × DataW Unit)} (h : laidMet Tryd.prog (("custumal/sha5.start", Rows.laid_custumal_sha5_start) :: r) W) : Rd W 2 (J2 .u64 8 hf) := Z9o ▸ J2x (Y36 h) gSt (by decide)
theorem gRo : Tryd.prog.globalNamed "custumal/sha5.rounds" = some 10 := by kernel_rfl
theorem Y58 : (Tryd.prog.globals[10]?).map (·.type) = some 118 := by kernel_rfl
theorem Y37 {W : World} {r : List (String × DataW Unit)} (h : laidMet Tryd.prog (("custumal/sha5.rounds", Rows.laid_custumal_sha5_rounds) :: r) W) : Lib.TabIs Tryd.prog W "custumal/sha5.rounds" .u64 kk :=
  Lib.tabIs_of_head (rest := r) gRo Y58 Tryd.underlying118 Tryd.underlying39 J3a Z63 h
theorem Y59 {W : World} {r : List (String × DataW Unit)} (h : laidMet Tryd.prog (("custumal/sha5.rounds", Rows.laid_custumal_sha5_rounds) :: r) W) : Rd W 10 (J2 .u64 80 kf) := Z9n ▸ J2x (Y37 h) gRo (by decide)
theorem Z64 {W : World} (h : laidMet Tryd.prog [("custumal/field.modulus", Rows.laid_custumal_field_modulus), ("custumal/field.imaginary", Rows.laid_custumal_field_imaginary), ("custumal/edwards.curve", Rows.laid_custumal_edwards_curve), ("custumal/edwards.double", Rows.laid_custumal_edwards_double), ("custumal/edwards.baseX", Rows.laid_custumal_edwards_baseX), ("custumal/edwards.baseY", Rows.laid_custumal_edwards_baseY), ("custumal/scalar.order", Rows.laid_custumal_scalar_order), ("custumal/sha5.start", Rows.laid_custumal_sha5_start), ("custumal/sha5.rounds", Rows.laid_custumal_sha5_rounds)] W) : GA ⟨True, True, True, False⟩ W :=
  ⟨⟨⟨(Y2o (h)), trivial⟩, fun _ => (Y2r (Q9 (h))), fun _ => (Y2u (Q9 (Q9 (h)))), fun _ => (Y2x (Q9 (Q9 (Q9 (h))))), fun _ => (Y30 (Q9 (Q9 (Q9 (Q9 (h)))))), fun _ => (Y33 (Q9 (Q9 (Q9 (Q9 (Q9 (h)))))))⟩, ⟨(Y59 (Q9 (Q9 (Q9 (Q9 (Q9 (Q9 (Q9 (Q9 (h)))))))))), (Y57 (Q9 (Q9 (Q9 (Q9 (Q9 (Q9 (Q9 (h)))))))))⟩, (Y35 (Q9 (Q9 (Q9 (Q9 (Q9 (Q9 (h)))))))), fun h => h.elim⟩
section
variable {H : Type} {enc : TypeId × Value → H} {W : World} {base : Nat} {sp : Nat → Bool} {held : Bool}
theorem Y38 {t : TypeId} (hr : Tryd.prog.readableRec t = true) (hrow : t < Tryd.prog.types.size) {W W' : World} {sp' : Nat → Bool} {v : Value} {d : DataW H}
    (h : DataW.Trod enc Tryd.prog W 0 (fun _ => true) true t v d []) : DataW.Trod enc Tryd.prog W' 0 sp' true t v d [] :=
  WideElems.Trod_stays Q7f hr hrow h (fun _ hp => by cases hp) (fun _ hp => by cases hp)
theorem Q5e {fuel : Nat} {cs : List Value} {x : DataW H × List MemPlace} (h : DataW.trod enc Tryd.prog W base sp held fuel 23 cs = some x) : ∃ u l, cs = [u] ∧ Sl W u l ∧ l.length ≤ maxLen := by
  rcases open_slice Tryd.underlying23 h with ⟨rfl, _⟩ | ⟨a, len, cap, m, n, D, Pl, rfl, _, hl, hm, hmm, _, hi⟩
  · exact ⟨_, [], rfl, Z98 W, by simp⟩
  · have hlm : len ≤ m := by rw [hmm]; split <;> omega
    have key : ∀ i, i < len → ∃ c : UInt8, W.cell? (a.add i) = some (.int .u8 (c.toNat : Int)) := by
      intro i hi'
      obtain ⟨cs', h1, h2⟩ := hi i (by omega)
      rw [Z62, Nat.mul_one] at h1
      obtain ⟨_, hcl, hcell⟩ := World.cells?_some h1
      obtain ⟨z, hz, _, hw⟩ := DataW.trod_int Tryd.underlying5 h2
      have hb := bounds_u8 hw
      refine ⟨UInt8.ofNat z.toNat, ?_⟩
      have e : ((UInt8.ofNat z.toNat).toNat : Int) = z := by rw [UInt8.toNat_ofNat']; omega
      have := hcell 0 (by omega)
      rw [hz] at this
      rw [e]
      have e0 : ∀ b : Addr, b.add 0 = b := fun b => by unfold Addr.add; simp
      rw [e0] at this
      simpa using this
    refine ⟨_, (List.range len).map fun i => if h : i < len then Classical.choose (key i h) else 0, rfl, ⟨some a, cap, by simp, by simpa using hl, hm, (fun h => by cases h), fun j x hj => ⟨a, rfl, ?_⟩⟩, by simp; omega⟩
    have hjl : j < len := by have := (List.getElem?_eq_some_iff.1 hj).1; simpa using this
    simp [hjl] at hj
    subst hj
    exact Classical.choose_spec (key j hjl)
theorem Z65 {r : Reach} {b0 : Nat} {v : Value} {d : DataW H} {ps : List MemPlace} (hval : Value.okWide Tryd.prog W r b0 23 v) (hd : DataW.Trod enc Tryd.prog W base sp held 23 v d ps) : ∃ l, Sl W v l ∧ l.length ≤ maxLen := by
  obtain ⟨ao, len, cap, rfl⟩ := okWide_slice Tryd.underlying23 hval
  obtain ⟨fuel, hf⟩ := hd
  obtain ⟨u, l, hc, h1, h2⟩ := Q5e hf
  simp [Value.cells] at hc
  subst hc
  exact ⟨l, h1, h2⟩
end
theorem Z66 {n : Nat} {t : TypeId} (hn : Tryd.prog.underlying t = some (.array n 5)) (hc : Tryd.prog.cellsOf t = n) {H : Type} {enc : TypeId × Value → H} {W W' : World} {base b0 : Nat} {sp : Nat → Bool} {held : Bool} {r : Reach} {v : Value} {d : DataW H} {ps : List MemPlace}
    (hval : Value.okWide Tryd.prog W' r b0 t v) (hd : DataW.Trod enc Tryd.prog W base sp held t v d ps) : ∃ N : Nat, N < 2 ^ (8 * n) ∧ v = .agg (J2 .u8 n (Q0 N)) ∧ ps = [] := by
  obtain ⟨f, rfl, hf, hp⟩ := Q8t hn Tryd.underlying5 (by kernel_rfl) hc hval hd
  have hg : ∀ j, J4u (if j < n then f j else 0) := fun j => by
    by_cases h : j < n
    · rw [if_pos h]; have := bounds_u8 (hf j h); unfold J4u; omega
    · rw [if_neg h]; unfold J4u; omega
  exact ⟨J0g (fun j => if j < n then f j else 0) n, J48 _ hg n, congrArg Value.agg (J03 .u8 n f _ fun i hi => ((J6z _ hg n i hi).trans (if_pos hi)).symm), hp⟩
theorem Z2d {H : Type} {enc : TypeId × Value → H} {W W' : World} {base b0 : Nat} {sp : Nat → Bool} {held : Bool} {r : Reach} {v : Value} {d : DataW H} {ps : List MemPlace}
    (hval : Value.okWide Tryd.prog W' r b0 22 v) (hd : DataW.Trod enc Tryd.prog W base sp held 22 v d ps) : ∃ N : Nat, N < 2 ^ 256 ∧ v = .agg (J2 .u8 32 (Q0 N)) ∧ ps = [] :=
  Z66 Tryd.underlying22 (by kernel_rfl) hval hd
theorem Y39 (n : Nat) (L : List UInt8) : (List.take (min L.length n) L).length ≤ n := by rw [List.length_take]; omega
def J25 (cs : Array Value) : Obj → Obj
  | .cells _ t frozen => .cells cs t frozen
  | o => o
noncomputable def laidWorld (os : Os) : World := { World.holding Tryd.prog os ⟨#[], #[], []⟩ with heap := ((((((((((((World.holding Tryd.prog os ⟨#[], #[], []⟩).heap.modify 7 (J25 (J2 .u64 80 kf))).modify 6 (J25 (J2 .u64 8 hf))).modify 9 (J25 (Q4x))).modify 8 (J25 (J45))).modify 1 (J25 (c4 DD))).modify 5 (J25 (c4 D2))).modify 3 (J25 (c4 BX))).modify 4 (J25 (c4 BY))).modify 0 (J25 (#[.int .u64 6346243789798364141, .int .u64 1503914060200516822, .int .u64 0, .int .u64 1152921504606846976]))).modify 2 (J25 (J2 .u64 8 hf))).modify 10 (J25 (J2 .u64 80 kf))) }
end Go.Proofs.YtefpoollmbmkfaaDoor

namespace Go.Proofs.YtefpoollmbmkfaaDoor
set_option maxRecDepth 100000
open Go.ChangeShapes Go.WideShapes Go.ChangeAt Go.RowKit
end Go.Proofs.YtefpoollmbmkfaaDoor

/- What the rows of layers 8 and 9 share: the cells of the variables out of the rows' lists, bytes out of the arguments, a world for the witness. No conditions. What the rows of layer 9 share: the bytes of a proof out of an argument. No conditions. -/
import Derived.Test.YtefpoollmbmkfaaDoorCards
import Derived.Test.YtefpoollmbmkfaaDoorTie
import Derived.Test.YtefpoollmbmkfaaDoorOpen
import Derived.Test.YtefpoollmbmkfaaDoorSgA
import Derived.WalkKit
import Derived.ProofKit
import Derived.OpenShut
import Derived.Deep.Slices
import Derived.Deep.DeepHandedRow
import Derived.Carry
import Derived.Lib.LaidTab
import Derived.Test.YtefpoollmbmkfaaDoorVa
set_option linter.unusedSimpArgs false
set_option linter.unusedVariables false
namespace Go.Proofs.YtefpoollmbmkfaaDoor
set_option maxRecDepth 100000
open Go.ChangeShapes Go.WideShapes Go.ChangeAt Go.RowKit Go.Deep

theorem own : ownKnob Tryd.prog.godebug = none := by kernel_rfl
theorem Q70 : laidOutB Tryd.prog = true := by kernel_rfl
theorem Z5k : Tryd.prog.cellsOf 5 = 1 := by kernel_rfl
theorem J31 : Tryd.prog.cellsOf 39 = 1 := by kernel_rfl
theorem Z5l : Tryd.prog.cellsOf 118 = 80 := by kernel_rfl
theorem Z94 : Tryd.prog.cellsOf 113 = 8 := by kernel_rfl
theorem J46 : Tryd.prog.cellsOf 58 = 4 := by kernel_rfl
theorem Z1t : Tryd.prog.cellsOf 42 = 4 := by kernel_rfl
theorem Q9 {P : Program} {x : String × DataW Unit} {r : List (String × DataW Unit)} {W : World} (h : laidMet P (x :: r) W) : laidMet P r W := by
  obtain ⟨ps, ⟨g, t, cs, fuel, p, q, _, _, _, _, hv, rfl⟩, hn, hc⟩ := h
  exact ⟨q, hv, (List.nodup_append.1 hn).2.1, fun b off hb => hc b off (List.mem_append_right _ hb)⟩
theorem J2q {W : World} {name : String} {zs : List Int} {g : Nat} (h : Lib.TabIs Tryd.prog W name .u64 zs) (hg : Tryd.prog.globalNamed name = some g) (h0 : 0 < zs.length) : Rd W g (zs.map fun z => Value.int .u64 z).toArray := by
  refine ⟨fun j v hj => ?_, World.block_lt_of_cell? W ⟨g, 0, none⟩ (h.cell hg 0 h0)⟩
  rw [List.getElem?_toArray, List.getElem?_map] at hj
  cases hz : zs[j]? with
  | none => rw [hz] at hj; cases hj
  | some z =>
    rw [hz] at hj
    obtain rfl := Option.some.inj hj
    have hl : j < zs.length := by
      rcases Nat.lt_or_ge j zs.length with h | h
      · exact h
      · rw [List.getElem?_eq_none h] at hz; cases hz
    have := h.cell hg j hl
    rwa [List.getD_eq_getElem?_getD, hz] at this
theorem Z95 : (kk.map fun z => Value.int .u64 z).toArray = J2 .u64 80 kf := by kernel_rfl
theorem Z96 : (hh.map fun z => Value.int .u64 z).toArray = J2 .u64 8 hf := by kernel_rfl
theorem Y26 : Tryd.prog.globalNamed "custumal/field.modulus" = some 9 := by kernel_rfl
theorem Y27 : (Tryd.prog.globals[9]?).map (·.type) = some 58 := by kernel_rfl
theorem Z97 {W : World} {r : List (String × DataW Unit)} (h : laidMet Tryd.prog (("custumal/field.modulus", Rows.laid_custumal_field_modulus) :: r) W) : Lib.TabIs Tryd.prog W "custumal/field.modulus" .u64 [18446744073709551597, 18446744073709551615, 18446744073709551615, 9223372036854775807] :=
  Lib.tabIs_of_head (rest := r) Y26 Y27 Tryd.underlying58 Tryd.underlying39 J31 J46 h
theorem Y28 {W : World} {r : List (String × DataW Unit)} (h : laidMet Tryd.prog (("custumal/field.modulus", Rows.laid_custumal_field_modulus) :: r) W) : Rd W 9 (Q4i) := J2q (Z97 h) Y26 (by decide)
theorem Y29 : Tryd.prog.globalNamed "custumal/field.imaginary" = some 8 := by kernel_rfl
theorem Y2a : (Tryd.prog.globals[8]?).map (·.type) = some 58 := by kernel_rfl
theorem Z98 {W : World} {r : List (String × DataW Unit)} (h : laidMet Tryd.prog (("custumal/field.imaginary", Rows.laid_custumal_field_imaginary) :: r) W) : Lib.TabIs Tryd.prog W "custumal/field.imaginary" .u64 [14190309331451158704, 3405592160176694392, 3120150775007532967, 3135389899092516619] :=
  Lib.tabIs_of_head (rest := r) Y29 Y2a Tryd.underlying58 Tryd.underlying39 J31 J46 h
theorem Y2b {W : World} {r : List (String × DataW Unit)} (h : laidMet Tryd.prog (("custumal/field.imaginary", Rows.laid_custumal_field_imaginary) :: r) W) : Rd W 8 (J3y) := J2q (Z98 h) Y29 (by decide)
theorem Y2c : Tryd.prog.globalNamed "custumal/edwards.curve" = some 1 := by kernel_rfl
theorem Y2d : (Tryd.prog.globals[1]?).map (·.type) = some 58 := by kernel_rfl
theorem Z99 {W : World} {r : List (String × DataW Unit)} (h : laidMet Tryd.prog (("custumal/edwards.curve", Rows.laid_custumal_edwards_curve) :: r) W) : Lib.TabIs Tryd.prog W "custumal/edwards.curve" .u64 [8496970652267935907,31536524315187371,10144147576115030168,5909686906226998899] :=
  Lib.tabIs_of_head (rest := r) Y2c Y2d Tryd.underlying58 Tryd.underlying39 J31 J46 h
theorem Y2e {W : World} {r : List (String × DataW Unit)} (h : laidMet Tryd.prog (("custumal/edwards.curve", Rows.laid_custumal_edwards_curve) :: r) W) : Rd W 1 (c4 DD) := J2q (Z99 h) Y2c (by decide)
theorem Y2f : Tryd.prog.globalNamed "custumal/edwards.double" = some 5 := by kernel_rfl
theorem Y2g : (Tryd.prog.globals[5]?).map (·.type) = some 58 := by kernel_rfl
theorem Z9a {W : World} {r : List (String × DataW Unit)} (h : laidMet Tryd.prog (("custumal/edwards.double", Rows.laid_custumal_edwards_double) :: r) W) : Lib.TabIs Tryd.prog W "custumal/edwards.double" .u64 [16993941304535871833,63073048630374742,1841551078520508720,2596001775599221991] :=
  Lib.tabIs_of_head (rest := r) Y2f Y2g Tryd.underlying58 Tryd.underlying39 J31 J46 h
theorem Y2h {W : World} {r : List (String × DataW Unit)} (h : laidMet Tryd.prog (("custumal/edwards.double", Rows.laid_custumal_edwards_double) :: r) W) : Rd W 5 (c4 D2) := J2q (Z9a h) Y2f (by decide)
theorem Y2i : Tryd.prog.globalNamed "custumal/edwards.baseX" = some 3 := by kernel_rfl
theorem Y2j : (Tryd.prog.globals[3]?).map (·.type) = some 58 := by kernel_rfl
theorem Z9b {W : World} {r : List (String × DataW Unit)} (h : laidMet Tryd.prog (("custumal/edwards.baseX", Rows.laid_custumal_edwards_baseX) :: r) W) : Lib.TabIs Tryd.prog W "custumal/edwards.baseX" .u64 [14507833142362363162,7578651490590762930,13881468655802702940,2407515759118799870] :=
  Lib.tabIs_of_head (rest := r) Y2i Y2j Tryd.underlying58 Tryd.underlying39 J31 J46 h
theorem Y2k {W : World} {r : List (String × DataW Unit)} (h : laidMet Tryd.prog (("custumal/edwards.baseX", Rows.laid_custumal_edwards_baseX) :: r) W) : Rd W 3 (c4 BX) := J2q (Z9b h) Y2i (by decide)
theorem Y2l : Tryd.prog.globalNamed "custumal/edwards.baseY" = some 4 := by kernel_rfl
theorem Y2m : (Tryd.prog.globals[4]?).map (·.type) = some 58 := by kernel_rfl
theorem Z9c {W : World} {r : List (String × DataW Unit)} (h : laidMet Tryd.prog (("custumal/edwards.baseY", Rows.laid_custumal_edwards_baseY) :: r) W) : Lib.TabIs Tryd.prog W "custumal/edwards.baseY" .u64 [7378697629483820632,7378697629483820646,7378697629483820646,7378697629483820646] :=
  Lib.tabIs_of_head (rest := r) Y2l Y2m Tryd.underlying58 Tryd.underlying39 J31 J46 h
theorem Y2n {W : World} {r : List (String × DataW Unit)} (h : laidMet Tryd.prog (("custumal/edwards.baseY", Rows.laid_custumal_edwards_baseY) :: r) W) : Rd W 4 (c4 BY) := J2q (Z9c h) Y2l (by decide)
theorem Z1u : Tryd.prog.globalNamed "custumal/scalar.order" = some 0 := by kernel_rfl
theorem Y2o : (Tryd.prog.globals[0]?).map (·.type) = some 42 := by kernel_rfl
theorem Q30 {W : World} {r : List (String × DataW Unit)} (h : laidMet Tryd.prog (("custumal/scalar.order", Rows.laid_custumal_scalar_order) :: r) W) : Lib.TabIs Tryd.prog W "custumal/scalar.order" .u64 [6346243789798364141, 1503914060200516822, 0, 1152921504606846976] :=
  Lib.tabIs_of_head (rest := r) Z1u Y2o Tryd.underlying42 Tryd.underlying39 J31 Z1t h
theorem Y2p {W : World} {r : List (String × DataW Unit)} (h : laidMet Tryd.prog (("custumal/scalar.order", Rows.laid_custumal_scalar_order) :: r) W) : Sc.GL W :=
  have h0 := (Q30 h).cell Z1u 0 (by decide)
  ⟨h0, (Q30 h).cell Z1u 1 (by decide), (Q30 h).cell Z1u 2 (by decide), (Q30 h).cell Z1u 3 (by decide), World.block_lt_of_cell? W _ h0⟩
theorem gSt : Tryd.prog.globalNamed "custumal/sha5.start" = some 2 := by kernel_rfl
theorem Y4j : (Tryd.prog.globals[2]?).map (·.type) = some 113 := by kernel_rfl
theorem Y2q {W : World} {r : List (String × DataW Unit)} (h : laidMet Tryd.prog (("custumal/sha5.start", Rows.laid_custumal_sha5_start) :: r) W) : Lib.TabIs Tryd.prog W "custumal/sha5.start" .u64 hh :=
  Lib.tabIs_of_head (rest := r) gSt Y4j Tryd.underlying113 Tryd.underlying39 J31 Z94 h
theorem Y4k {W : World} {r : List (String × DataW Unit)} (h : laidMet Tryd.prog (("custumal/sha5.start", Rows.laid_custumal_sha5_start) :: r) W) : Rd W 2 (J2 .u64 8 hf) := Z96 ▸ J2q (Y2q h) gSt (by decide)
theorem gRo : Tryd.prog.globalNamed "custumal/sha5.rounds" = some 10 := by kernel_rfl
theorem Y4l : (Tryd.prog.globals[10]?).map (·.type) = some 118 := by kernel_rfl
theorem Y2r {W : World} {r : List (String × DataW Unit)} (h : laidMet Tryd.prog (("custumal/sha5.rounds", Rows.laid_custumal_sha5_rounds) :: r) W) : Lib.TabIs Tryd.prog W "custumal/sha5.rounds" .u64 kk :=
  Lib.tabIs_of_head (rest := r) gRo Y4l Tryd.underlying118 Tryd.underlying39 J31 Z5l h
theorem Y4m {W : World} {r : List (String × DataW Unit)} (h : laidMet Tryd.prog (("custumal/sha5.rounds", Rows.laid_custumal_sha5_rounds) :: r) W) : Rd W 10 (J2 .u64 80 kf) := Z95 ▸ J2q (Y2r h) gRo (by decide)
theorem Z5m {W : World} (h : laidMet Tryd.prog [("custumal/field.modulus", Rows.laid_custumal_field_modulus), ("custumal/field.imaginary", Rows.laid_custumal_field_imaginary), ("custumal/edwards.curve", Rows.laid_custumal_edwards_curve), ("custumal/edwards.double", Rows.laid_custumal_edwards_double), ("custumal/edwards.baseX", Rows.laid_custumal_edwards_baseX), ("custumal/edwards.baseY", Rows.laid_custumal_edwards_baseY), ("custumal/scalar.order", Rows.laid_custumal_scalar_order), ("custumal/sha5.start", Rows.laid_custumal_sha5_start), ("custumal/sha5.rounds", Rows.laid_custumal_sha5_rounds)] W) : GA ⟨True, True, True, False⟩ W :=
  ⟨⟨⟨(Y28 (h)), trivial⟩, fun _ => (Y2b (Q9 (h))), fun _ => (Y2e (Q9 (Q9 (h)))), fun _ => (Y2h (Q9 (Q9 (Q9 (h))))), fun _ => (Y2k (Q9 (Q9 (Q9 (Q9 (h)))))), fun _ => (Y2n (Q9 (Q9 (Q9 (Q9 (Q9 (h)))))))⟩, ⟨(Y4m (Q9 (Q9 (Q9 (Q9 (Q9 (Q9 (Q9 (Q9 (h)))))))))), (Y4k (Q9 (Q9 (Q9 (Q9 (Q9 (Q9 (Q9 (h)))))))))⟩, (Y2p (Q9 (Q9 (Q9 (Q9 (Q9 (Q9 (h)))))))), fun h => h.elim⟩
section
variable {H : Type} {enc : TypeId × Value → H} {W : World} {base : Nat} {sp : Nat → Bool} {held : Bool}
theorem Y2s {t : TypeId} (hr : Tryd.prog.readableRec t = true) (hrow : t < Tryd.prog.types.size) {W W' : World} {sp' : Nat → Bool} {v : Value} {d : DataW H}
    (h : DataW.Trod enc Tryd.prog W 0 (fun _ => true) true t v d []) : DataW.Trod enc Tryd.prog W' 0 sp' true t v d [] :=
  WideElems.Trod_stays Q70 hr hrow h (fun _ hp => by cases hp) (fun _ hp => by cases hp)
theorem Q4z {fuel : Nat} {cs : List Value} {x : DataW H × List MemPlace} (h : DataW.trod enc Tryd.prog W base sp held fuel 23 cs = some x) : ∃ u l, cs = [u] ∧ Sl W u l ∧ l.length ≤ maxLen := by
  rcases open_slice Tryd.underlying23 h with ⟨rfl, _⟩ | ⟨a, len, cap, m, n, D, Pl, rfl, _, hl, hm, hmm, _, hi⟩
  · exact ⟨_, [], rfl, Z8q W, by simp⟩
  · have hlm : len ≤ m := by rw [hmm]; split <;> omega
    have key : ∀ i, i < len → ∃ c : UInt8, W.cell? (a.add i) = some (.int .u8 (c.toNat : Int)) := by
      intro i hi'
      obtain ⟨cs', h1, h2⟩ := hi i (by omega)
      rw [Z5k, Nat.mul_one] at h1
      obtain ⟨_, hcl, hcell⟩ := World.cells?_some h1
      obtain ⟨z, hz, _, hw⟩ := DataW.trod_int Tryd.underlying5 h2
      have hb := bounds_u8 hw
      refine ⟨UInt8.ofNat z.toNat, ?_⟩
      have e : ((UInt8.ofNat z.toNat).toNat : Int) = z := by rw [UInt8.toNat_ofNat']; omega
      have := hcell 0 (by omega)
      rw [hz] at this
      rw [e]
      have e0 : ∀ b : Addr, b.add 0 = b := fun b => by unfold Addr.add; simp
      rw [e0] at this
      simpa using this
    refine ⟨_, (List.range len).map fun i => if h : i < len then Classical.choose (key i h) else 0, rfl, ⟨some a, cap, by simp, by simpa using hl, hm, (fun h => by cases h), fun j x hj => ⟨a, rfl, ?_⟩⟩, by simp; omega⟩
    have hjl : j < len := by have := (List.getElem?_eq_some_iff.1 hj).1; simpa using this
    simp [hjl] at hj
    subst hj
    exact Classical.choose_spec (key j hjl)
theorem Z5n {r : Reach} {b0 : Nat} {v : Value} {d : DataW H} {ps : List MemPlace} (hval : Value.okWide Tryd.prog W r b0 23 v) (hd : DataW.Trod enc Tryd.prog W base sp held 23 v d ps) : ∃ l, Sl W v l ∧ l.length ≤ maxLen := by
  obtain ⟨ao, len, cap, rfl⟩ := okWide_slice Tryd.underlying23 hval
  obtain ⟨fuel, hf⟩ := hd
  obtain ⟨u, l, hc, h1, h2⟩ := Q4z hf
  simp [Value.cells] at hc
  subst hc
  exact ⟨l, h1, h2⟩
end
theorem Z5o {n : Nat} {t : TypeId} (hn : Tryd.prog.underlying t = some (.array n 5)) (hc : Tryd.prog.cellsOf t = n) {H : Type} {enc : TypeId × Value → H} {W W' : World} {base b0 : Nat} {sp : Nat → Bool} {held : Bool} {r : Reach} {v : Value} {d : DataW H} {ps : List MemPlace}
    (hval : Value.okWide Tryd.prog W' r b0 t v) (hd : DataW.Trod enc Tryd.prog W base sp held t v d ps) : ∃ N : Nat, N < 2 ^ (8 * n) ∧ v = .agg (J2 .u8 n (Q0 N)) ∧ ps = [] := by
  obtain ⟨f, rfl, hf, hp⟩ := Q8d hn Tryd.underlying5 (by kernel_rfl) hc hval hd
  have hg : ∀ j, J4o (if j < n then f j else 0) := fun j => by
    by_cases h : j < n
    · rw [if_pos h]; have := bounds_u8 (hf j h); unfold J4o; omega
    · rw [if_neg h]; unfold J4o; omega
  exact ⟨J0c (fun j => if j < n then f j else 0) n, J43 _ hg n, congrArg Value.agg (J00 .u8 n f _ fun i hi => ((Q0j _ hg n i hi).trans (if_pos hi)).symm), hp⟩
theorem Y2t (n : Nat) (L : List UInt8) : (List.take (min L.length n) L).length ≤ n := by rw [List.length_take]; omega
def J1z (cs : Array Value) : Obj → Obj
  | .cells _ t frozen => .cells cs t frozen
  | o => o
noncomputable def laidWorld (os : Os) : World := { World.holding Tryd.prog os ⟨#[], #[], []⟩ with heap := ((((((((((((World.holding Tryd.prog os ⟨#[], #[], []⟩).heap.modify 7 (J1z (J2 .u64 80 kf))).modify 6 (J1z (J2 .u64 8 hf))).modify 9 (J1z (Q4i))).modify 8 (J1z (J3y))).modify 1 (J1z (c4 DD))).modify 5 (J1z (c4 D2))).modify 3 (J1z (c4 BX))).modify 4 (J1z (c4 BY))).modify 0 (J1z (#[.int .u64 6346243789798364141, .int .u64 1503914060200516822, .int .u64 0, .int .u64 1152921504606846976]))).modify 2 (J1z (J2 .u64 8 hf))).modify 10 (J1z (J2 .u64 80 kf))) }
end Go.Proofs.YtefpoollmbmkfaaDoor

namespace Go.Proofs.YtefpoollmbmkfaaDoor
set_option maxRecDepth 100000
open Go.ChangeShapes Go.WideShapes Go.ChangeAt Go.RowKit
theorem Z5p (a c n P : Nat) (hn : n = a + (a + c)) (h : P < 2 ^ n) : P / 2 ^ a / 2 ^ c < 2 ^ a := by
  subst hn
  rw [Nat.pow_add, Nat.pow_add] at h
  rw [Nat.div_lt_iff_lt_mul (Nat.two_pow_pos _), Nat.div_lt_iff_lt_mul (Nat.two_pow_pos _)]
  have e : 2 ^ a * (2 ^ a * 2 ^ c) = 2 ^ a * 2 ^ c * 2 ^ a := by rw [Nat.mul_assoc (2 ^ a) (2 ^ c) (2 ^ a), Nat.mul_comm (2 ^ c) (2 ^ a)]
  rw [← e]
  exact h
theorem Z9d {n P : Nat} (hn : n = 80) (h : P < 2 ^ (8 * n)) : B80 P := by
  have h1 : ∀ a c, a = 256 → c = 128 → P / 2 ^ a / 2 ^ c < 2 ^ a := fun a c ha hc => Z5p a c (8 * n) P (by omega) h
  clear h hn
  unfold B80 pN J1l
  exact h1 256 128 rfl rfl
theorem Z1v {H : Type} {enc : TypeId × Value → H} {W W' : World} {base b0 : Nat} {sp : Nat → Bool} {held : Bool} {r : Reach} {v : Value} {d : DataW H} {ps : List MemPlace}
    (hval : Value.okWide Tryd.prog W' r b0 45 v) (hd : DataW.Trod enc Tryd.prog W base sp held 45 v d ps) : ∃ N : Nat, B80 N ∧ v = .agg (J2 .u8 80 (Q0 N)) ∧ ps = [] := by
  obtain ⟨N, h1, h2, h3⟩ := Z5o Tryd.underlying45 (by kernel_rfl) hval hd
  exact ⟨N, Z9d (n := 80) rfl h1, h2, h3⟩
end Go.Proofs.YtefpoollmbmkfaaDoor

/- What the rows of layers 8 and 9 share: the cells of the variables out of the rows' lists, bytes out of the arguments, a world for the witness. No conditions. -/
import Derived.Test.YtefpoollmbmkfaaDoorCards
import Derived.Test.YtefpoollmbmkfaaDoorTie
import Derived.Test.YtefpoollmbmkfaaDoorOpen
import Derived.Test.YtefpoollmbmkfaaDoorSgA
import Derived.WalkKit
import Derived.ProofKit
import Derived.OpenShut
import Derived.Deep.Slices
import Derived.Deep.DeepHandedRow
import Derived.Carry
import Derived.Lib.LaidTab
set_option linter.unusedSimpArgs false
set_option linter.unusedVariables false
namespace Go.Proofs.YtefpoollmbmkfaaDoor
set_option maxRecDepth 100000
open Go.ChangeShapes Go.WideShapes Go.ChangeAt Go.RowKit Go.Deep

theorem own : ownKnob Tryd.prog.godebug = none := by kernel_rfl
theorem y3u : laidOutB Tryd.prog = true := by kernel_rfl
theorem j5t : Tryd.prog.cellsOf 5 = 1 := by kernel_rfl
theorem K1 : Tryd.prog.cellsOf 39 = 1 := by kernel_rfl
theorem j5u : Tryd.prog.cellsOf 118 = 80 := by kernel_rfl
theorem g0r : Tryd.prog.cellsOf 113 = 8 := by kernel_rfl
theorem M1 : Tryd.prog.cellsOf 58 = 4 := by kernel_rfl
theorem j0o : Tryd.prog.cellsOf 42 = 4 := by kernel_rfl
theorem j8 {P : Program} {x : String × DataW Unit} {r : List (String × DataW Unit)} {W : World} (h : laidMet P (x :: r) W) : laidMet P r W := by
  obtain ⟨ps, ⟨g, t, cs, fuel, p, q, _, _, _, _, hv, rfl⟩, hn, hc⟩ := h
  exact ⟨q, hv, (List.nodup_append.1 hn).2.1, fun b off hb => hc b off (List.mem_append_right _ hb)⟩
theorem G5 {W : World} {name : String} {zs : List Int} {g : Nat} (h : Lib.TabIs Tryd.prog W name .u64 zs) (hg : Tryd.prog.globalNamed name = some g) (h0 : 0 < zs.length) : Rd W g (zs.map fun z => Value.int .u64 z).toArray := by
  refine ⟨fun j v hj => ?_, World.block_lt_of_cell? W ⟨g, 0, none⟩ (h.cell hg 0 h0)⟩
  rw [List.getElem?_toArray, List.getElem?_map] at hj
  cases hz : zs[j]? with
  | none => rw [hz] at hj; cases hj
  | some z =>
    rw [hz] at hj
    obtain rfl := Option.some.inj hj
    have hl : j < zs.length := by
      rcases Nat.lt_or_ge j zs.length with h | h
      · exact h
      · rw [List.getElem?_eq_none h] at hz; cases hz
    have := h.cell hg j hl
    rwa [List.getD_eq_getElem?_getD, hz] at this
theorem g0s : (kk.map fun z => Value.int .u64 z).toArray = q7 .u64 80 kf := by kernel_rfl
theorem g0t : (hh.map fun z => Value.int .u64 z).toArray = q7 .u64 8 hf := by kernel_rfl
theorem g4v : Tryd.prog.globalNamed "custumal/field.modulus" = some 9 := by kernel_rfl
theorem g4w : (Tryd.prog.globals[9]?).map (·.type) = some 58 := by kernel_rfl
theorem g0u {W : World} {r : List (String × DataW Unit)} (h : laidMet Tryd.prog (("custumal/field.modulus", Rows.laid_custumal_field_modulus) :: r) W) : Lib.TabIs Tryd.prog W "custumal/field.modulus" .u64 [18446744073709551597, 18446744073709551615, 18446744073709551615, 9223372036854775807] :=
  Lib.tabIs_of_head (rest := r) g4v g4w Tryd.underlying58 Tryd.underlying39 K1 M1 h
theorem g4x {W : World} {r : List (String × DataW Unit)} (h : laidMet Tryd.prog (("custumal/field.modulus", Rows.laid_custumal_field_modulus) :: r) W) : Rd W 9 (y0i) := G5 (g0u h) g4v (by decide)
theorem g4y : Tryd.prog.globalNamed "custumal/field.imaginary" = some 8 := by kernel_rfl
theorem g4z : (Tryd.prog.globals[8]?).map (·.type) = some 58 := by kernel_rfl
theorem g0v {W : World} {r : List (String × DataW Unit)} (h : laidMet Tryd.prog (("custumal/field.imaginary", Rows.laid_custumal_field_imaginary) :: r) W) : Lib.TabIs Tryd.prog W "custumal/field.imaginary" .u64 [14190309331451158704, 3405592160176694392, 3120150775007532967, 3135389899092516619] :=
  Lib.tabIs_of_head (rest := r) g4y g4z Tryd.underlying58 Tryd.underlying39 K1 M1 h
theorem g5a {W : World} {r : List (String × DataW Unit)} (h : laidMet Tryd.prog (("custumal/field.imaginary", Rows.laid_custumal_field_imaginary) :: r) W) : Rd W 8 (H5) := G5 (g0v h) g4y (by decide)
theorem g5b : Tryd.prog.globalNamed "custumal/edwards.curve" = some 1 := by kernel_rfl
theorem g5c : (Tryd.prog.globals[1]?).map (·.type) = some 58 := by kernel_rfl
theorem g0w {W : World} {r : List (String × DataW Unit)} (h : laidMet Tryd.prog (("custumal/edwards.curve", Rows.laid_custumal_edwards_curve) :: r) W) : Lib.TabIs Tryd.prog W "custumal/edwards.curve" .u64 [8496970652267935907,31536524315187371,10144147576115030168,5909686906226998899] :=
  Lib.tabIs_of_head (rest := r) g5b g5c Tryd.underlying58 Tryd.underlying39 K1 M1 h
theorem g5d {W : World} {r : List (String × DataW Unit)} (h : laidMet Tryd.prog (("custumal/edwards.curve", Rows.laid_custumal_edwards_curve) :: r) W) : Rd W 1 (c4 DD) := G5 (g0w h) g5b (by decide)
theorem g5e : Tryd.prog.globalNamed "custumal/edwards.double" = some 5 := by kernel_rfl
theorem g5f : (Tryd.prog.globals[5]?).map (·.type) = some 58 := by kernel_rfl
theorem g0x {W : World} {r : List (String × DataW Unit)} (h : laidMet Tryd.prog (("custumal/edwards.double", Rows.laid_custumal_edwards_double) :: r) W) : Lib.TabIs Tryd.prog W "custumal/edwards.double" .u64 [16993941304535871833,63073048630374742,1841551078520508720,2596001775599221991] :=
  Lib.tabIs_of_head (rest := r) g5e g5f Tryd.underlying58 Tryd.underlying39 K1 M1 h
theorem g5g {W : World} {r : List (String × DataW Unit)} (h : laidMet Tryd.prog (("custumal/edwards.double", Rows.laid_custumal_edwards_double) :: r) W) : Rd W 5 (c4 D2) := G5 (g0x h) g5e (by decide)
theorem g5h : Tryd.prog.globalNamed "custumal/edwards.baseX" = some 3 := by kernel_rfl
theorem g5i : (Tryd.prog.globals[3]?).map (·.type) = some 58 := by kernel_rfl
theorem g0y {W : World} {r : List (String × DataW Unit)} (h : laidMet Tryd.prog (("custumal/edwards.baseX", Rows.laid_custumal_edwards_baseX) :: r) W) : Lib.TabIs Tryd.prog W "custumal/edwards.baseX" .u64 [14507833142362363162,7578651490590762930,13881468655802702940,2407515759118799870] :=
  Lib.tabIs_of_head (rest := r) g5h g5i Tryd.underlying58 Tryd.underlying39 K1 M1 h
theorem g5j {W : World} {r : List (String × DataW Unit)} (h : laidMet Tryd.prog (("custumal/edwards.baseX", Rows.laid_custumal_edwards_baseX) :: r) W) : Rd W 3 (c4 BX) := G5 (g0y h) g5h (by decide)
theorem g5k : Tryd.prog.globalNamed "custumal/edwards.baseY" = some 4 := by kernel_rfl
theorem g5l : (Tryd.prog.globals[4]?).map (·.type) = some 58 := by kernel_rfl
theorem g0z {W : World} {r : List (String × DataW Unit)} (h : laidMet Tryd.prog (("custumal/edwards.baseY", Rows.laid_custumal_edwards_baseY) :: r) W) : Lib.TabIs Tryd.prog W "custumal/edwards.baseY" .u64 [7378697629483820632,7378697629483820646,7378697629483820646,7378697629483820646] :=
  Lib.tabIs_of_head (rest := r) g5k g5l Tryd.underlying58 Tryd.underlying39 K1 M1 h
theorem g5m {W : World} {r : List (String × DataW Unit)} (h : laidMet Tryd.prog (("custumal/edwards.baseY", Rows.laid_custumal_edwards_baseY) :: r) W) : Rd W 4 (c4 BY) := G5 (g0z h) g5k (by decide)
theorem j0p : Tryd.prog.globalNamed "custumal/scalar.order" = some 0 := by kernel_rfl
theorem g5n : (Tryd.prog.globals[0]?).map (·.type) = some 42 := by kernel_rfl
theorem q8f {W : World} {r : List (String × DataW Unit)} (h : laidMet Tryd.prog (("custumal/scalar.order", Rows.laid_custumal_scalar_order) :: r) W) : Lib.TabIs Tryd.prog W "custumal/scalar.order" .u64 [6346243789798364141, 1503914060200516822, 0, 1152921504606846976] :=
  Lib.tabIs_of_head (rest := r) j0p g5n Tryd.underlying42 Tryd.underlying39 K1 j0o h
theorem g5o {W : World} {r : List (String × DataW Unit)} (h : laidMet Tryd.prog (("custumal/scalar.order", Rows.laid_custumal_scalar_order) :: r) W) : Sc.GL W :=
  have h0 := (q8f h).cell j0p 0 (by decide)
  ⟨h0, (q8f h).cell j0p 1 (by decide), (q8f h).cell j0p 2 (by decide), (q8f h).cell j0p 3 (by decide), World.block_lt_of_cell? W _ h0⟩
theorem gSt : Tryd.prog.globalNamed "custumal/sha5.start" = some 2 := by kernel_rfl
theorem g8j : (Tryd.prog.globals[2]?).map (·.type) = some 113 := by kernel_rfl
theorem g5p {W : World} {r : List (String × DataW Unit)} (h : laidMet Tryd.prog (("custumal/sha5.start", Rows.laid_custumal_sha5_start) :: r) W) : Lib.TabIs Tryd.prog W "custumal/sha5.start" .u64 hh :=
  Lib.tabIs_of_head (rest := r) gSt g8j Tryd.underlying113 Tryd.underlying39 K1 g0r h
theorem g8k {W : World} {r : List (String × DataW Unit)} (h : laidMet Tryd.prog (("custumal/sha5.start", Rows.laid_custumal_sha5_start) :: r) W) : Rd W 2 (q7 .u64 8 hf) := g0t ▸ G5 (g5p h) gSt (by decide)
theorem gRo : Tryd.prog.globalNamed "custumal/sha5.rounds" = some 10 := by kernel_rfl
theorem g8l : (Tryd.prog.globals[10]?).map (·.type) = some 118 := by kernel_rfl
theorem g5q {W : World} {r : List (String × DataW Unit)} (h : laidMet Tryd.prog (("custumal/sha5.rounds", Rows.laid_custumal_sha5_rounds) :: r) W) : Lib.TabIs Tryd.prog W "custumal/sha5.rounds" .u64 kk :=
  Lib.tabIs_of_head (rest := r) gRo g8l Tryd.underlying118 Tryd.underlying39 K1 j5u h
theorem g8m {W : World} {r : List (String × DataW Unit)} (h : laidMet Tryd.prog (("custumal/sha5.rounds", Rows.laid_custumal_sha5_rounds) :: r) W) : Rd W 10 (q7 .u64 80 kf) := g0s ▸ G5 (g5q h) gRo (by decide)
theorem j5v {W : World} (h : laidMet Tryd.prog [("custumal/field.modulus", Rows.laid_custumal_field_modulus), ("custumal/field.imaginary", Rows.laid_custumal_field_imaginary), ("custumal/edwards.curve", Rows.laid_custumal_edwards_curve), ("custumal/edwards.double", Rows.laid_custumal_edwards_double), ("custumal/edwards.baseX", Rows.laid_custumal_edwards_baseX), ("custumal/edwards.baseY", Rows.laid_custumal_edwards_baseY), ("custumal/scalar.order", Rows.laid_custumal_scalar_order), ("custumal/sha5.start", Rows.laid_custumal_sha5_start), ("custumal/sha5.rounds", Rows.laid_custumal_sha5_rounds)] W) : GA ⟨True, True, True, False⟩ W :=
  ⟨⟨⟨(g4x (h)), trivial⟩, fun _ => (g5a (j8 (h))), fun _ => (g5d (j8 (j8 (h)))), fun _ => (g5g (j8 (j8 (j8 (h))))), fun _ => (g5j (j8 (j8 (j8 (j8 (h)))))), fun _ => (g5m (j8 (j8 (j8 (j8 (j8 (h)))))))⟩, ⟨(g8m (j8 (j8 (j8 (j8 (j8 (j8 (j8 (j8 (h)))))))))), (g8k (j8 (j8 (j8 (j8 (j8 (j8 (j8 (h)))))))))⟩, (g5o (j8 (j8 (j8 (j8 (j8 (j8 (h)))))))), fun h => h.elim⟩
section
variable {H : Type} {t6 : TypeId × Value → H} {W : World} {base : Nat} {sp : Nat → Bool} {held : Bool}
theorem g5r {t : TypeId} (hr : Tryd.prog.readableRec t = true) (hrow : t < Tryd.prog.types.size) {W W' : World} {sp' : Nat → Bool} {v : Value} {d : DataW H}
    (h : DataW.Trod t6 Tryd.prog W 0 (fun _ => true) true t v d []) : DataW.Trod t6 Tryd.prog W' 0 sp' true t v d [] :=
  WideElems.Trod_stays y3u hr hrow h (fun _ hp => by cases hp) (fun _ hp => by cases hp)
theorem y0z {fuel : Nat} {cs : List Value} {x : DataW H × List MemPlace} (h : DataW.trod t6 Tryd.prog W base sp held fuel 23 cs = some x) : ∃ u l, cs = [u] ∧ Sl W u l ∧ l.length ≤ maxLen := by
  rcases open_slice Tryd.underlying23 h with ⟨rfl, _⟩ | ⟨a, len, cap, m, n, D, Pl, rfl, _, hl, hm, hmm, _, hi⟩
  · exact ⟨_, [], rfl, g0d W, by simp⟩
  · have hlm : len ≤ m := by rw [hmm]; split <;> omega
    have key : ∀ i, i < len → ∃ c : UInt8, W.cell? (a.add i) = some (.int .u8 (c.toNat : Int)) := by
      intro i hi'
      obtain ⟨cs', h1, h2⟩ := hi i (by omega)
      rw [j5t, Nat.mul_one] at h1
      obtain ⟨_, hcl, hcell⟩ := World.cells?_some h1
      obtain ⟨z, hz, _, hw⟩ := DataW.trod_int Tryd.underlying5 h2
      have hb := bounds_u8 hw
      refine ⟨UInt8.ofNat z.toNat, ?_⟩
      have e : ((UInt8.ofNat z.toNat).toNat : Int) = z := by rw [UInt8.toNat_ofNat']; omega
      have := hcell 0 (by omega)
      rw [hz] at this
      rw [e]
      have e0 : ∀ b : Addr, b.add 0 = b := fun b => by unfold Addr.add; simp
      rw [e0] at this
      simpa using this
    refine ⟨_, (List.range len).map fun i => if h : i < len then Classical.choose (key i h) else 0, rfl, ⟨some a, cap, by simp, by simpa using hl, hm, (fun h => by cases h), fun j x hj => ⟨a, rfl, ?_⟩⟩, by simp; omega⟩
    have hjl : j < len := by have := (List.getElem?_eq_some_iff.1 hj).1; simpa using this
    simp [hjl] at hj
    subst hj
    exact Classical.choose_spec (key j hjl)
theorem j5w {r : Reach} {b0 : Nat} {v : Value} {d : DataW H} {ps : List MemPlace} (hval : Value.okWide Tryd.prog W r b0 23 v) (hd : DataW.Trod t6 Tryd.prog W base sp held 23 v d ps) : ∃ l, Sl W v l ∧ l.length ≤ maxLen := by
  obtain ⟨ao, len, cap, rfl⟩ := okWide_slice Tryd.underlying23 hval
  obtain ⟨fuel, hf⟩ := hd
  obtain ⟨u, l, hc, h1, h2⟩ := y0z hf
  simp [Value.cells] at hc
  subst hc
  exact ⟨l, h1, h2⟩
end
theorem j5x {n : Nat} {t : TypeId} (hn : Tryd.prog.underlying t = some (.array n 5)) (hc : Tryd.prog.cellsOf t = n) {H : Type} {t6 : TypeId × Value → H} {W W' : World} {base b0 : Nat} {sp : Nat → Bool} {held : Bool} {r : Reach} {v : Value} {d : DataW H} {ps : List MemPlace}
    (hval : Value.okWide Tryd.prog W' r b0 t v) (hd : DataW.Trod t6 Tryd.prog W base sp held t v d ps) : ∃ N : Nat, N < 2 ^ (8 * n) ∧ v = .agg (q7 .u8 n (j0 N)) ∧ ps = [] := by
  obtain ⟨f, rfl, hf, hp⟩ := y5s hn Tryd.underlying5 (by kernel_rfl) hc hval hd
  have hg : ∀ j, C3 (if j < n then f j else 0) := fun j => by
    by_cases h : j < n
    · rw [if_pos h]; have := bounds_u8 (hf j h); unfold C3; omega
    · rw [if_neg h]; unfold C3; omega
  exact ⟨c7 (fun j => if j < n then f j else 0) n, H8 _ hg n, congrArg Value.agg (d7 .u8 n f _ fun i hi => ((S5 _ hg n i hi).trans (if_pos hi)).symm), hp⟩
theorem j0q {H : Type} {t6 : TypeId × Value → H} {W W' : World} {base b0 : Nat} {sp : Nat → Bool} {held : Bool} {r : Reach} {v : Value} {d : DataW H} {ps : List MemPlace}
    (hval : Value.okWide Tryd.prog W' r b0 22 v) (hd : DataW.Trod t6 Tryd.prog W base sp held 22 v d ps) : ∃ N : Nat, N < 2 ^ 256 ∧ v = .agg (q7 .u8 32 (j0 N)) ∧ ps = [] :=
  j5x Tryd.underlying22 (by kernel_rfl) hval hd
theorem g5s (n : Nat) (L : List UInt8) : (List.take (min L.length n) L).length ≤ n := by rw [List.length_take]; omega
def Q2 (cs : Array Value) : Obj → Obj
  | .cells _ t frozen => .cells cs t frozen
  | o => o
noncomputable def laidWorld (os : Os) : World := { World.holding Tryd.prog os ⟨#[], #[], []⟩ with heap := ((((((((((((World.holding Tryd.prog os ⟨#[], #[], []⟩).heap.modify 7 (Q2 (q7 .u64 80 kf))).modify 6 (Q2 (q7 .u64 8 hf))).modify 9 (Q2 (y0i))).modify 8 (Q2 (H5))).modify 1 (Q2 (c4 DD))).modify 5 (Q2 (c4 D2))).modify 3 (Q2 (c4 BX))).modify 4 (Q2 (c4 BY))).modify 0 (Q2 (#[.int .u64 6346243789798364141, .int .u64 1503914060200516822, .int .u64 0, .int .u64 1152921504606846976]))).modify 2 (Q2 (q7 .u64 8 hf))).modify 10 (Q2 (q7 .u64 80 kf))) }
end Go.Proofs.YtefpoollmbmkfaaDoor

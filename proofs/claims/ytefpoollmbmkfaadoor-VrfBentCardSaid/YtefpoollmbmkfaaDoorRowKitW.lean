/- What the rows of layers 8 and 9 share: the cells of the variables out of the rows' lists, bytes out of the arguments, a world for the witness. No conditions. What the rows of layer 9 share: the bytes of a proof out of an argument. No conditions. -/
import Derived.Test.YtefpoollmbmkfaaDoorCards
import Derived.Test.YtefpoollmbmkfaaDoorTie
import Derived.Test.YtefpoollmbmkfaaDoorOpen
import Derived.Test.YtefpoollmbmkfaaDoorSgA
import Derived.WalkKit
import Derived.ProofKit
import Derived.OpenShut
import Derived.Deep.Slices
import Derived.Deep.DeepHandedRow
import Derived.Carry
import Derived.Lib.LaidTab
import Derived.Test.YtefpoollmbmkfaaDoorVa
set_option linter.unusedSimpArgs false
set_option linter.unusedVariables false
namespace Go.Proofs.YtefpoollmbmkfaaDoor
set_option maxRecDepth 100000
open Go.ChangeShapes Go.WideShapes Go.ChangeAt Go.RowKit Go.Deep

theorem own : ownKnob Tryd.prog.godebug = none := by kernel_rfl
theorem Z4m : laidOutB Tryd.prog = true := by kernel_rfl
theorem Y54 : Tryd.prog.cellsOf 5 = 1 := by kernel_rfl
theorem J3u : Tryd.prog.cellsOf 39 = 1 := by kernel_rfl
theorem Z4n : Tryd.prog.cellsOf 118 = 80 := by kernel_rfl
theorem Y0j : Tryd.prog.cellsOf 113 = 8 := by kernel_rfl
theorem J6x : Tryd.prog.cellsOf 58 = 4 := by kernel_rfl
theorem Y0k : Tryd.prog.cellsOf 42 = 4 := by kernel_rfl
theorem Z7 {P : Program} {x : String × DataW Unit} {r : List (String × DataW Unit)} {W : World} (h : laidMet P (x :: r) W) : laidMet P r W := by
  obtain ⟨ps, ⟨g, t, cs, fuel, p, q, _, _, _, _, hv, rfl⟩, hn, hc⟩ := h
  exact ⟨q, hv, (List.nodup_append.1 hn).2.1, fun b off hb => hc b off (List.mem_append_right _ hb)⟩
theorem J3j {W : World} {name : String} {zs : List Int} {g : Nat} (h : Lib.TabIs Tryd.prog W name .u64 zs) (hg : Tryd.prog.globalNamed name = some g) (h0 : 0 < zs.length) : Rd W g (zs.map fun z => Value.int .u64 z).toArray := by
  refine ⟨fun j v hj => ?_, World.block_lt_of_cell? W ⟨g, 0, none⟩ (h.cell hg 0 h0)⟩
  rw [List.getElem?_toArray, List.getElem?_map] at hj
  cases hz : zs[j]? with
  | none => rw [hz] at hj; cases hj
  | some z =>
    rw [hz] at hj
    obtain rfl := Option.some.inj hj
    have hl : j < zs.length := by
      rcases Nat.lt_or_ge j zs.length with h | h
      · exact h
      · rw [List.getElem?_eq_none h] at hz; cases hz
    have := h.cell hg j hl
    rwa [List.getD_eq_getElem?_getD, hz] at this
theorem Y0l : (kk.map fun z => Value.int .u64 z).toArray = J1 .u64 80 kf := by kernel_rfl
theorem Y0m : (hh.map fun z => Value.int .u64 z).toArray = J1 .u64 8 hf := by kernel_rfl
theorem gK : Tryd.prog.globalNamed "custumal/custumalref02.K" = some 7 := by kernel_rfl
theorem gKT : (Tryd.prog.globals[7]?).map (·.type) = some 118 := by kernel_rfl
theorem V5e {W : World} {r : List (String × DataW Unit)} (h : laidMet Tryd.prog (("custumal/custumalref02.K", Rows.laid_custumal_custumalref02_K) :: r) W) : Lib.TabIs Tryd.prog W "custumal/custumalref02.K" .u64 kk :=
  Lib.tabIs_of_head (rest := r) gK gKT Tryd.underlying118 Tryd.underlying39 J3u Z4n h
theorem rdK {W : World} {r : List (String × DataW Unit)} (h : laidMet Tryd.prog (("custumal/custumalref02.K", Rows.laid_custumal_custumalref02_K) :: r) W) : Rd W 7 (J1 .u64 80 kf) := Y0l ▸ J3j (V5e h) gK (by decide)
theorem gH : Tryd.prog.globalNamed "custumal/custumalref02.H" = some 6 := by kernel_rfl
theorem gHT : (Tryd.prog.globals[6]?).map (·.type) = some 113 := by kernel_rfl
theorem V5f {W : World} {r : List (String × DataW Unit)} (h : laidMet Tryd.prog (("custumal/custumalref02.H", Rows.laid_custumal_custumalref02_H) :: r) W) : Lib.TabIs Tryd.prog W "custumal/custumalref02.H" .u64 hh :=
  Lib.tabIs_of_head (rest := r) gH gHT Tryd.underlying113 Tryd.underlying39 J3u Y0j h
theorem rdH {W : World} {r : List (String × DataW Unit)} (h : laidMet Tryd.prog (("custumal/custumalref02.H", Rows.laid_custumal_custumalref02_H) :: r) W) : Rd W 6 (J1 .u64 8 hf) := Y0m ▸ J3j (V5f h) gH (by decide)
theorem V2o : Tryd.prog.globalNamed "custumal/field.modulus" = some 9 := by kernel_rfl
theorem V2p : (Tryd.prog.globals[9]?).map (·.type) = some 58 := by kernel_rfl
theorem Y9a {W : World} {r : List (String × DataW Unit)} (h : laidMet Tryd.prog (("custumal/field.modulus", Rows.laid_custumal_field_modulus) :: r) W) : Lib.TabIs Tryd.prog W "custumal/field.modulus" .u64 [18446744073709551597, 18446744073709551615, 18446744073709551615, 9223372036854775807] :=
  Lib.tabIs_of_head (rest := r) V2o V2p Tryd.underlying58 Tryd.underlying39 J3u J6x h
theorem V2q {W : World} {r : List (String × DataW Unit)} (h : laidMet Tryd.prog (("custumal/field.modulus", Rows.laid_custumal_field_modulus) :: r) W) : Rd W 9 (Z15) := J3j (Y9a h) V2o (by decide)
theorem V2r : Tryd.prog.globalNamed "custumal/field.imaginary" = some 8 := by kernel_rfl
theorem V2s : (Tryd.prog.globals[8]?).map (·.type) = some 58 := by kernel_rfl
theorem Y9b {W : World} {r : List (String × DataW Unit)} (h : laidMet Tryd.prog (("custumal/field.imaginary", Rows.laid_custumal_field_imaginary) :: r) W) : Lib.TabIs Tryd.prog W "custumal/field.imaginary" .u64 [14190309331451158704, 3405592160176694392, 3120150775007532967, 3135389899092516619] :=
  Lib.tabIs_of_head (rest := r) V2r V2s Tryd.underlying58 Tryd.underlying39 J3u J6x h
theorem V2t {W : World} {r : List (String × DataW Unit)} (h : laidMet Tryd.prog (("custumal/field.imaginary", Rows.laid_custumal_field_imaginary) :: r) W) : Rd W 8 (J6l) := J3j (Y9b h) V2r (by decide)
theorem V2u : Tryd.prog.globalNamed "custumal/edwards.curve" = some 1 := by kernel_rfl
theorem V2v : (Tryd.prog.globals[1]?).map (·.type) = some 58 := by kernel_rfl
theorem Y9c {W : World} {r : List (String × DataW Unit)} (h : laidMet Tryd.prog (("custumal/edwards.curve", Rows.laid_custumal_edwards_curve) :: r) W) : Lib.TabIs Tryd.prog W "custumal/edwards.curve" .u64 [8496970652267935907,31536524315187371,10144147576115030168,5909686906226998899] :=
  Lib.tabIs_of_head (rest := r) V2u V2v Tryd.underlying58 Tryd.underlying39 J3u J6x h
theorem V2w {W : World} {r : List (String × DataW Unit)} (h : laidMet Tryd.prog (("custumal/edwards.curve", Rows.laid_custumal_edwards_curve) :: r) W) : Rd W 1 (c4 DD) := J3j (Y9c h) V2u (by decide)
theorem V2x : Tryd.prog.globalNamed "custumal/edwards.double" = some 5 := by kernel_rfl
theorem V2y : (Tryd.prog.globals[5]?).map (·.type) = some 58 := by kernel_rfl
theorem Y9d {W : World} {r : List (String × DataW Unit)} (h : laidMet Tryd.prog (("custumal/edwards.double", Rows.laid_custumal_edwards_double) :: r) W) : Lib.TabIs Tryd.prog W "custumal/edwards.double" .u64 [16993941304535871833,63073048630374742,1841551078520508720,2596001775599221991] :=
  Lib.tabIs_of_head (rest := r) V2x V2y Tryd.underlying58 Tryd.underlying39 J3u J6x h
theorem V2z {W : World} {r : List (String × DataW Unit)} (h : laidMet Tryd.prog (("custumal/edwards.double", Rows.laid_custumal_edwards_double) :: r) W) : Rd W 5 (c4 D2) := J3j (Y9d h) V2x (by decide)
theorem V30 : Tryd.prog.globalNamed "custumal/edwards.baseX" = some 3 := by kernel_rfl
theorem V31 : (Tryd.prog.globals[3]?).map (·.type) = some 58 := by kernel_rfl
theorem Y9e {W : World} {r : List (String × DataW Unit)} (h : laidMet Tryd.prog (("custumal/edwards.baseX", Rows.laid_custumal_edwards_baseX) :: r) W) : Lib.TabIs Tryd.prog W "custumal/edwards.baseX" .u64 [14507833142362363162,7578651490590762930,13881468655802702940,2407515759118799870] :=
  Lib.tabIs_of_head (rest := r) V30 V31 Tryd.underlying58 Tryd.underlying39 J3u J6x h
theorem V32 {W : World} {r : List (String × DataW Unit)} (h : laidMet Tryd.prog (("custumal/edwards.baseX", Rows.laid_custumal_edwards_baseX) :: r) W) : Rd W 3 (c4 BX) := J3j (Y9e h) V30 (by decide)
theorem V33 : Tryd.prog.globalNamed "custumal/edwards.baseY" = some 4 := by kernel_rfl
theorem V34 : (Tryd.prog.globals[4]?).map (·.type) = some 58 := by kernel_rfl
theorem Y9f {W : World} {r : List (String × DataW Unit)} (h : laidMet Tryd.prog (("custumal/edwards.baseY", Rows.laid_custumal_edwards_baseY) :: r) W) : Lib.TabIs Tryd.prog W "custumal/edwards.baseY" .u64 [7378697629483820632,7378697629483820646,7378697629483820646,7378697629483820646] :=
  Lib.tabIs_of_head (rest := r) V33 V34 Tryd.underlying58 Tryd.underlying39 J3u J6x h
theorem V35 {W : World} {r : List (String × DataW Unit)} (h : laidMet Tryd.prog (("custumal/edwards.baseY", Rows.laid_custumal_edwards_baseY) :: r) W) : Rd W 4 (c4 BY) := J3j (Y9f h) V33 (by decide)
theorem Y0n : Tryd.prog.globalNamed "custumal/scalar.order" = some 0 := by kernel_rfl
theorem V36 : (Tryd.prog.globals[0]?).map (·.type) = some 42 := by kernel_rfl
theorem Q92 {W : World} {r : List (String × DataW Unit)} (h : laidMet Tryd.prog (("custumal/scalar.order", Rows.laid_custumal_scalar_order) :: r) W) : Lib.TabIs Tryd.prog W "custumal/scalar.order" .u64 [6346243789798364141, 1503914060200516822, 0, 1152921504606846976] :=
  Lib.tabIs_of_head (rest := r) Y0n V36 Tryd.underlying42 Tryd.underlying39 J3u Y0k h
theorem V37 {W : World} {r : List (String × DataW Unit)} (h : laidMet Tryd.prog (("custumal/scalar.order", Rows.laid_custumal_scalar_order) :: r) W) : Sc.GL W :=
  have h0 := (Q92 h).cell Y0n 0 (by decide)
  ⟨h0, (Q92 h).cell Y0n 1 (by decide), (Q92 h).cell Y0n 2 (by decide), (Q92 h).cell Y0n 3 (by decide), World.block_lt_of_cell? W _ h0⟩
theorem gSt : Tryd.prog.globalNamed "custumal/sha5.start" = some 2 := by kernel_rfl
theorem V5g : (Tryd.prog.globals[2]?).map (·.type) = some 113 := by kernel_rfl
theorem V38 {W : World} {r : List (String × DataW Unit)} (h : laidMet Tryd.prog (("custumal/sha5.start", Rows.laid_custumal_sha5_start) :: r) W) : Lib.TabIs Tryd.prog W "custumal/sha5.start" .u64 hh :=
  Lib.tabIs_of_head (rest := r) gSt V5g Tryd.underlying113 Tryd.underlying39 J3u Y0j h
theorem V5h {W : World} {r : List (String × DataW Unit)} (h : laidMet Tryd.prog (("custumal/sha5.start", Rows.laid_custumal_sha5_start) :: r) W) : Rd W 2 (J1 .u64 8 hf) := Y0m ▸ J3j (V38 h) gSt (by decide)
theorem gRo : Tryd.prog.globalNamed "custumal/sha5.rounds" = some 10 := by kernel_rfl
theorem V5i : (Tryd.prog.globals[10]?).map (·.type) = some 118 := by kernel_rfl
theorem V39 {W : World} {r : List (String × DataW Unit)} (h : laidMet Tryd.prog (("custumal/sha5.rounds", Rows.laid_custumal_sha5_rounds) :: r) W) : Lib.TabIs Tryd.prog W "custumal/sha5.rounds" .u64 kk :=
  Lib.tabIs_of_head (rest := r) gRo V5i Tryd.underlying118 Tryd.underlying39 J3u Z4n h
theorem V5j {W : World} {r : List (String × DataW Unit)} (h : laidMet Tryd.prog (("custumal/sha5.rounds", Rows.laid_custumal_sha5_rounds) :: r) W) : Rd W 10 (J1 .u64 80 kf) := Y0l ▸ J3j (V39 h) gRo (by decide)
theorem Y9g {W : World} (h : laidMet Tryd.prog [("custumal/custumalref02.K", Rows.laid_custumal_custumalref02_K), ("custumal/custumalref02.H", Rows.laid_custumal_custumalref02_H), ("custumal/field.modulus", Rows.laid_custumal_field_modulus), ("custumal/field.imaginary", Rows.laid_custumal_field_imaginary), ("custumal/edwards.curve", Rows.laid_custumal_edwards_curve), ("custumal/edwards.double", Rows.laid_custumal_edwards_double), ("custumal/edwards.baseX", Rows.laid_custumal_edwards_baseX), ("custumal/edwards.baseY", Rows.laid_custumal_edwards_baseY), ("custumal/scalar.order", Rows.laid_custumal_scalar_order), ("custumal/sha5.start", Rows.laid_custumal_sha5_start), ("custumal/sha5.rounds", Rows.laid_custumal_sha5_rounds)] W) : GA ⟨True, True, True, True⟩ W :=
  ⟨⟨⟨(V2q (Z7 (Z7 (h)))), trivial⟩, fun _ => (V2t (Z7 (Z7 (Z7 (h))))), fun _ => (V2w (Z7 (Z7 (Z7 (Z7 (h)))))), fun _ => (V2z (Z7 (Z7 (Z7 (Z7 (Z7 (h))))))), fun _ => (V32 (Z7 (Z7 (Z7 (Z7 (Z7 (Z7 (h)))))))), fun _ => (V35 (Z7 (Z7 (Z7 (Z7 (Z7 (Z7 (Z7 (h)))))))))⟩, ⟨(V5j (Z7 (Z7 (Z7 (Z7 (Z7 (Z7 (Z7 (Z7 (Z7 (Z7 (h)))))))))))), (V5h (Z7 (Z7 (Z7 (Z7 (Z7 (Z7 (Z7 (Z7 (Z7 (h)))))))))))⟩, (V37 (Z7 (Z7 (Z7 (Z7 (Z7 (Z7 (Z7 (Z7 (h)))))))))), fun _ => ⟨(rdK (h)), (rdH (Z7 (h)))⟩⟩
section
variable {H : Type} {enc : TypeId × Value → H} {W : World} {base : Nat} {sp : Nat → Bool} {held : Bool}
theorem Y7b {t : TypeId} (hr : Tryd.prog.readableRec t = true) (hrow : t < Tryd.prog.types.size) {W W' : World} {sp' : Nat → Bool} {v : Value} {d : DataW H}
    (h : DataW.Trod enc Tryd.prog W 0 (fun _ => true) true t v d []) : DataW.Trod enc Tryd.prog W' 0 sp' true t v d [] :=
  WideElems.Trod_stays Z4m hr hrow h (fun _ hp => by cases hp) (fun _ hp => by cases hp)
theorem Y9h {r : Reach} {b0 : Nat} {v : Value} {d : DataW H} {ps : List MemPlace} (hval : Value.okWide Tryd.prog W r b0 3 v) (hd : DataW.Trod enc Tryd.prog W base sp held 3 v d ps) : ∃ n : Int, v = .int .i64 n ∧ ps = [] ∧ (Lit.int .i64 n).wf = true := by
  obtain ⟨n, h1, _, hp, hw⟩ := open_int Tryd.underlying3 hval hd
  exact ⟨n, h1, hp, hw⟩
theorem Z1y {fuel : Nat} {cs : List Value} {x : DataW H × List MemPlace} (h : DataW.trod enc Tryd.prog W base sp held fuel 23 cs = some x) : ∃ u l, cs = [u] ∧ Sl W u l ∧ l.length ≤ maxLen := by
  rcases open_slice Tryd.underlying23 h with ⟨rfl, _⟩ | ⟨a, len, cap, m, n, D, Pl, rfl, _, hl, hm, hmm, _, hi⟩
  · exact ⟨_, [], rfl, Y90 W, by simp⟩
  · have hlm : len ≤ m := by rw [hmm]; split <;> omega
    have key : ∀ i, i < len → ∃ c : UInt8, W.cell? (a.add i) = some (.int .u8 (c.toNat : Int)) := by
      intro i hi'
      obtain ⟨cs', h1, h2⟩ := hi i (by omega)
      rw [Y54, Nat.mul_one] at h1
      obtain ⟨_, hcl, hcell⟩ := World.cells?_some h1
      obtain ⟨z, hz, _, hw⟩ := DataW.trod_int Tryd.underlying5 h2
      have hb := bounds_u8 hw
      refine ⟨UInt8.ofNat z.toNat, ?_⟩
      have e : ((UInt8.ofNat z.toNat).toNat : Int) = z := by rw [UInt8.toNat_ofNat']; omega
      have := hcell 0 (by omega)
      rw [hz] at this
      rw [e]
      have e0 : ∀ b : Addr, b.add 0 = b := fun b => by unfold Addr.add; simp
      rw [e0] at this
      simpa using this
    refine ⟨_, (List.range len).map fun i => if h : i < len then Classical.choose (key i h) else 0, rfl, ⟨some a, cap, by simp, by simpa using hl, hm, (fun h => by cases h), fun j x hj => ⟨a, rfl, ?_⟩⟩, by simp; omega⟩
    have hjl : j < len := by have := (List.getElem?_eq_some_iff.1 hj).1; simpa using this
    simp [hjl] at hj
    subst hj
    exact Classical.choose_spec (key j hjl)
theorem Y55 {r : Reach} {b0 : Nat} {v : Value} {d : DataW H} {ps : List MemPlace} (hval : Value.okWide Tryd.prog W r b0 23 v) (hd : DataW.Trod enc Tryd.prog W base sp held 23 v d ps) : ∃ l, Sl W v l ∧ l.length ≤ maxLen := by
  obtain ⟨ao, len, cap, rfl⟩ := okWide_slice Tryd.underlying23 hval
  obtain ⟨fuel, hf⟩ := hd
  obtain ⟨u, l, hc, h1, h2⟩ := Z1y hf
  simp [Value.cells] at hc
  subst hc
  exact ⟨l, h1, h2⟩
end
theorem Y56 {n : Nat} {t : TypeId} (hn : Tryd.prog.underlying t = some (.array n 5)) (hc : Tryd.prog.cellsOf t = n) {H : Type} {enc : TypeId × Value → H} {W W' : World} {base b0 : Nat} {sp : Nat → Bool} {held : Bool} {r : Reach} {v : Value} {d : DataW H} {ps : List MemPlace}
    (hval : Value.okWide Tryd.prog W' r b0 t v) (hd : DataW.Trod enc Tryd.prog W base sp held t v d ps) : ∃ N : Nat, N < 2 ^ (8 * n) ∧ v = .agg (J1 .u8 n (Q6 N)) ∧ ps = [] := by
  obtain ⟨f, rfl, hf, hp⟩ := Z6m hn Tryd.underlying5 (by kernel_rfl) hc hval hd
  have hg : ∀ j, J4m (if j < n then f j else 0) := fun j => by
    by_cases h : j < n
    · rw [if_pos h]; have := bounds_u8 (hf j h); unfold J4m; omega
    · rw [if_neg h]; unfold J4m; omega
  exact ⟨J1f (fun j => if j < n then f j else 0) n, J5v _ hg n, congrArg Value.agg (J0d .u8 n f _ fun i hi => ((Q25 _ hg n i hi).trans (if_pos hi)).symm), hp⟩
theorem Y0o {H : Type} {enc : TypeId × Value → H} {W W' : World} {base b0 : Nat} {sp : Nat → Bool} {held : Bool} {r : Reach} {v : Value} {d : DataW H} {ps : List MemPlace}
    (hval : Value.okWide Tryd.prog W' r b0 22 v) (hd : DataW.Trod enc Tryd.prog W base sp held 22 v d ps) : ∃ N : Nat, N < 2 ^ 256 ∧ v = .agg (J1 .u8 32 (Q6 N)) ∧ ps = [] :=
  Y56 Tryd.underlying22 (by kernel_rfl) hval hd
theorem V3a (n : Nat) (L : List UInt8) : (List.take (min L.length n) L).length ≤ n := by rw [List.length_take]; omega
def J3v (cs : Array Value) : Obj → Obj
  | .cells _ t frozen => .cells cs t frozen
  | o => o
noncomputable def laidWorld (os : Os) : World := { World.holding Tryd.prog os ⟨#[], #[], []⟩ with heap := ((((((((((((World.holding Tryd.prog os ⟨#[], #[], []⟩).heap.modify 7 (J3v (J1 .u64 80 kf))).modify 6 (J3v (J1 .u64 8 hf))).modify 9 (J3v (Z15))).modify 8 (J3v (J6l))).modify 1 (J3v (c4 DD))).modify 5 (J3v (c4 D2))).modify 3 (J3v (c4 BX))).modify 4 (J3v (c4 BY))).modify 0 (J3v (#[.int .u64 6346243789798364141, .int .u64 1503914060200516822, .int .u64 0, .int .u64 1152921504606846976]))).modify 2 (J3v (J1 .u64 8 hf))).modify 10 (J3v (J1 .u64 80 kf))) }
end Go.Proofs.YtefpoollmbmkfaaDoor

namespace Go.Proofs.YtefpoollmbmkfaaDoor
set_option maxRecDepth 100000
open Go.ChangeShapes Go.WideShapes Go.ChangeAt Go.RowKit
theorem Y57 (a c n P : Nat) (hn : n = a + (a + c)) (h : P < 2 ^ n) : P / 2 ^ a / 2 ^ c < 2 ^ a := by
  subst hn
  rw [Nat.pow_add, Nat.pow_add] at h
  rw [Nat.div_lt_iff_lt_mul (Nat.two_pow_pos _), Nat.div_lt_iff_lt_mul (Nat.two_pow_pos _)]
  have e : 2 ^ a * (2 ^ a * 2 ^ c) = 2 ^ a * 2 ^ c * 2 ^ a := by rw [Nat.mul_assoc (2 ^ a) (2 ^ c) (2 ^ a), Nat.mul_comm (2 ^ c) (2 ^ a)]
  rw [← e]
  exact h
theorem Y9i {n P : Nat} (hn : n = 80) (h : P < 2 ^ (8 * n)) : B80 P := by
  have h1 : ∀ a c, a = 256 → c = 128 → P / 2 ^ a / 2 ^ c < 2 ^ a := fun a c ha hc => Y57 a c (8 * n) P (by omega) h
  clear h hn
  unfold B80 pN J28
  exact h1 256 128 rfl rfl
end Go.Proofs.YtefpoollmbmkfaaDoor

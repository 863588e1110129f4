/- What the rows of this seat share: the tables out of the rows' lists, byte slices out of the arguments, a world for the witness. No conditions. -/
import Derived.Test.YtfkhogeaadldnaaDoorCards
import Derived.Test.YtfkhogeaadldnaaDoorTie
import Derived.Test.YtfkhogeaadldnaaDoorShI
import Derived.WalkKit
import Derived.ProofKit
import Derived.OpenShut
import Derived.Deep.Slices
import Derived.Deep.DeepHandedRow
import Derived.Carry
import Derived.Lib.LaidTab
namespace Go.Proofs.YtfkhogeaadldnaaDoor
set_option linter.unusedSimpArgs false
set_option linter.unusedVariables false
open Go.ChangeShapes Go.WideShapes Go.ChangeAt Go.RowKit Go.Deep

theorem own : ownKnob Tryd.prog.godebug = none := by kernel_rfl
theorem laidOut : laidOutB Tryd.prog = true := by kernel_rfl
theorem cellsU8 : Tryd.prog.cellsOf 5 = 1 := by kernel_rfl
theorem cellsSl : Tryd.prog.cellsOf 28 = 1 := by kernel_rfl
theorem cellsU64 : Tryd.prog.cellsOf 31 = 1 := by kernel_rfl
theorem cells80 : Tryd.prog.cellsOf 38 = 80 := by kernel_rfl
theorem cells8 : Tryd.prog.cellsOf 36 = 8 := by kernel_rfl
theorem laidMet_tl {P : Program} {x : String × DataW Unit} {r : List (String × DataW Unit)} {W : World} (h : laidMet P (x :: r) W) : laidMet P r W := by
  obtain ⟨ps, ⟨g, t, cs, fuel, p, q, _, _, _, _, hv, rfl⟩, hn, hc⟩ := h
  exact ⟨q, hv, (List.nodup_append.1 hn).2.1, fun b off hb => hc b off (List.mem_append_right _ hb)⟩
theorem Rd_of_tab {W : World} {name : String} {zs : List Int} {g : Nat} (h : Lib.TabIs Tryd.prog W name .u64 zs) (hg : Tryd.prog.globalNamed name = some g) (h0 : 0 < zs.length) : Rd W g (zs.map fun z => Value.int .u64 z).toArray := by
  refine ⟨fun j v hj => ?_, World.block_lt_of_cell? W ⟨g, 0, none⟩ (h.cell hg 0 h0)⟩
  rw [List.getElem?_toArray, List.getElem?_map] at hj
  cases hz : zs[j]? with
  | none => rw [hz] at hj; cases hj
  | some z =>
    rw [hz] at hj
    obtain rfl := Option.some.inj hj
    have hl : j < zs.length := by
      rcases Nat.lt_or_ge j zs.length with h | h
      · exact h
      · rw [List.getElem?_eq_none h] at hz; cases hz
    have := h.cell hg j hl
    rwa [List.getD_eq_getElem?_getD, hz] at this
theorem gSt : Tryd.prog.globalNamed "custumal/sha5.start" = some 0 := by kernel_rfl
theorem gStT : (Tryd.prog.globals[0]?).map (·.type) = some 36 := by kernel_rfl
theorem gRo : Tryd.prog.globalNamed "custumal/sha5.rounds" = some 3 := by kernel_rfl
theorem gRoT : (Tryd.prog.globals[3]?).map (·.type) = some 38 := by kernel_rfl
theorem gH : Tryd.prog.globalNamed "custumal/custumalref02.H" = some 1 := by kernel_rfl
theorem gHT : (Tryd.prog.globals[1]?).map (·.type) = some 36 := by kernel_rfl
theorem gK : Tryd.prog.globalNamed "custumal/custumalref02.K" = some 2 := by kernel_rfl
theorem gKT : (Tryd.prog.globals[2]?).map (·.type) = some 38 := by kernel_rfl
theorem kk_arr : (kk.map fun z => Value.int .u64 z).toArray = arrK .u64 80 kf := by kernel_rfl
theorem hh_arr : (hh.map fun z => Value.int .u64 z).toArray = arrK .u64 8 hf := by kernel_rfl
theorem GS_of_laid {W : World} {r : List (String × DataW Unit)} (h : laidMet Tryd.prog (("custumal/sha5.start", Rows.laid_custumal_sha5_start) :: ("custumal/sha5.rounds", Rows.laid_custumal_sha5_rounds) :: r) W) : GS W := by
  have hT : Lib.TabIs Tryd.prog W "custumal/sha5.start" .u64 hh := Lib.tabIs_of_head (rest := ("custumal/sha5.rounds", Rows.laid_custumal_sha5_rounds) :: r) gSt gStT Tryd.underlying36 Tryd.underlying31 cellsU64 cells8 h
  have hU : Lib.TabIs Tryd.prog W "custumal/sha5.rounds" .u64 kk := Lib.tabIs_of_head (rest := r) gRo gRoT Tryd.underlying38 Tryd.underlying31 cellsU64 cells80 (laidMet_tl h)
  exact ⟨kk_arr ▸ Rd_of_tab hU gRo (by decide), hh_arr ▸ Rd_of_tab hT gSt (by decide)⟩
theorem GR_of_laid {W : World} {r : List (String × DataW Unit)} (h : laidMet Tryd.prog (("custumal/custumalref02.K", Rows.laid_custumal_custumalref02_K) :: ("custumal/custumalref02.H", Rows.laid_custumal_custumalref02_H) :: r) W) : GR W := by
  have hT : Lib.TabIs Tryd.prog W "custumal/custumalref02.K" .u64 kk := Lib.tabIs_of_head (rest := ("custumal/custumalref02.H", Rows.laid_custumal_custumalref02_H) :: r) gK gKT Tryd.underlying38 Tryd.underlying31 cellsU64 cells80 h
  have hU : Lib.TabIs Tryd.prog W "custumal/custumalref02.H" .u64 hh := Lib.tabIs_of_head (rest := r) gH gHT Tryd.underlying36 Tryd.underlying31 cellsU64 cells8 (laidMet_tl h)
  exact ⟨kk_arr ▸ Rd_of_tab hT gK (by decide), hh_arr ▸ Rd_of_tab hU gH (by decide)⟩
section
variable {H : Type} {enc : TypeId × Value → H} {W : World} {base : Nat} {sp : Nat → Bool} {held : Bool}
/-- an argument without memory reads in any world as before -/
theorem stays {t : TypeId} (hr : Tryd.prog.readableRec t = true) (hrow : t < Tryd.prog.types.size) {W W' : World} {sp' : Nat → Bool} {v : Value} {d : DataW H}
    (h : DataW.Trod enc Tryd.prog W 0 (fun _ => true) true t v d []) : DataW.Trod enc Tryd.prog W' 0 sp' true t v d [] :=
  WideElems.Trod_stays laidOut hr hrow h (fun _ hp => by cases hp) (fun _ hp => by cases hp)
theorem open_i {r : Reach} {b0 : Nat} {v : Value} {d : DataW H} {ps : List MemPlace} (hval : Value.okWide Tryd.prog W r b0 3 v) (hd : DataW.Trod enc Tryd.prog W base sp held 3 v d ps) : ∃ n : Int, v = .int .i64 n ∧ ps = [] ∧ (Lit.int .i64 n).wf = true := by
  obtain ⟨n, h1, _, hp, hw⟩ := open_int Tryd.underlying3 hval hd
  exact ⟨n, h1, hp, hw⟩
theorem sl_of_trod {fuel : Nat} {cs : List Value} {x : DataW H × List MemPlace} (h : DataW.trod enc Tryd.prog W base sp held fuel 28 cs = some x) : ∃ u l, cs = [u] ∧ Sl W u l ∧ l.length ≤ maxLen := by
  rcases open_slice Tryd.underlying28 h with ⟨rfl, _⟩ | ⟨a, len, cap, m, n, D, Pl, rfl, _, hl, hm, hmm, _, hi⟩
  · exact ⟨_, [], rfl, sl_nil W, by simp⟩
  · have hlm : len ≤ m := by rw [hmm]; split <;> omega
    have key : ∀ i, i < len → ∃ c : UInt8, W.cell? (a.add i) = some (.int .u8 (c.toNat : Int)) := by
      intro i hi'
      obtain ⟨cs', h1, h2⟩ := hi i (by omega)
      rw [cellsU8, Nat.mul_one] at h1
      obtain ⟨_, hcl, hcell⟩ := World.cells?_some h1
      obtain ⟨z, hz, _, hw⟩ := DataW.trod_int Tryd.underlying5 h2
      have hb := bounds_u8 hw
      refine ⟨UInt8.ofNat z.toNat, ?_⟩
      have e : ((UInt8.ofNat z.toNat).toNat : Int) = z := by rw [UInt8.toNat_ofNat']; omega
      have := hcell 0 (by omega)
      rw [hz] at this
      rw [e]
      have e0 : ∀ b : Addr, b.add 0 = b := fun b => by unfold Addr.add; simp
      rw [e0] at this
      simpa using this
    refine ⟨_, (List.range len).map fun i => if h : i < len then Classical.choose (key i h) else 0, rfl, ⟨some a, cap, by simp, by simpa using hl, hm, (fun h => by cases h), fun j x hj => ⟨a, rfl, ?_⟩⟩, by simp; omega⟩
    have hjl : j < len := by have := (List.getElem?_eq_some_iff.1 hj).1; simpa using this
    simp [hjl] at hj
    subst hj
    exact Classical.choose_spec (key j hjl)
theorem open_sl {r : Reach} {b0 : Nat} {v : Value} {d : DataW H} {ps : List MemPlace} (hval : Value.okWide Tryd.prog W r b0 28 v) (hd : DataW.Trod enc Tryd.prog W base sp held 28 v d ps) : ∃ l, Sl W v l ∧ l.length ≤ maxLen := by
  obtain ⟨ao, len, cap, rfl⟩ := okWide_slice Tryd.underlying28 hval
  obtain ⟨fuel, hf⟩ := hd
  obtain ⟨u, l, hc, h1, h2⟩ := sl_of_trod hf
  simp [Value.cells] at hc
  subst hc
  exact ⟨l, h1, h2⟩
theorem open_pss {r : Reach} {b0 : Nat} {v : Value} {d : DataW H} {ps : List MemPlace} (hval : Value.okWide Tryd.prog W r b0 22 v) (hd : DataW.Trod enc Tryd.prog W base sp held 22 v d ps) :
    ∃ (qs : List (List UInt8)) (A : Option Addr) (c : Nat), v = .slice A qs.length c ∧ ∀ (i : Nat) (l : List UInt8), qs[i]? = some l → ∃ ad u, A = some ad ∧ W.cell? (ad.add i) = some u ∧ Sl W u l := by
  obtain ⟨ao, len, cap, rfl⟩ := okWide_slice Tryd.underlying22 hval
  obtain ⟨fuel, hf⟩ := hd
  rcases open_slice Tryd.underlying22 hf with ⟨hcs, _⟩ | ⟨a, len', cap', m, n, D, Pl, hcs, _, hl, hm, hmm, _, hi⟩
  · simp [Value.cells] at hcs
    obtain ⟨rfl, rfl, rfl⟩ := hcs
    exact ⟨[], none, 0, rfl, fun i l h => by simp at h⟩
  · simp [Value.cells] at hcs
    obtain ⟨rfl, rfl, rfl⟩ := hcs
    have hlm : len ≤ m := by rw [hmm]; split <;> omega
    have key : ∀ i, i < len → ∃ l : List UInt8, ∃ u, W.cell? (a.add i) = some u ∧ Sl W u l := by
      intro i hi'
      obtain ⟨cs', h1, h2⟩ := hi i (by omega)
      rw [cellsSl, Nat.mul_one] at h1
      obtain ⟨_, hcl, hcell⟩ := World.cells?_some h1
      obtain ⟨u, l, hu, h3, _⟩ := sl_of_trod h2
      have := hcell 0 (by omega)
      rw [hu] at this
      have e0 : ∀ b : Addr, b.add 0 = b := fun b => by unfold Addr.add; simp
      rw [e0] at this
      exact ⟨l, u, by simpa using this, h3⟩
    refine ⟨(List.range len).map fun i => if h : i < len then Classical.choose (key i h) else [], some a, cap, by simp, fun i l hq => ?_⟩
    have hil : i < len := by have := (List.getElem?_eq_some_iff.1 hq).1; simpa using this
    simp [hil] at hq
    subst hq
    obtain ⟨u, h1, h2⟩ := Classical.choose_spec (key i hil)
    exact ⟨a, u, rfl, h1, h2⟩
end
/-- a block's cells put down -/
def putCells (cs : Array Value) : Obj → Obj
  | .cells _ t frozen => .cells cs t frozen
  | o => o
/-- A world for the witness: the settled one, the tables' blocks holding what their initialisers lay. -/
noncomputable def laidWorld (os : Os) : World :=
  { World.holding Tryd.prog os ⟨#[], #[], []⟩ with heap := ((((World.holding Tryd.prog os ⟨#[], #[], []⟩).heap.modify 0 (putCells (arrK .u64 8 hf))).modify 3 (putCells (arrK .u64 80 kf))).modify 1 (putCells (arrK .u64 8 hf))).modify 2 (putCells (arrK .u64 80 kf)) }
end Go.Proofs.YtfkhogeaadldnaaDoor

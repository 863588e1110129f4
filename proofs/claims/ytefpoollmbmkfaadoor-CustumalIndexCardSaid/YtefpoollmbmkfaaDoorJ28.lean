/- What the rows of layers 8 and 9 share: the cells of the variables out of the rows' lists, bytes out of the arguments, a world for the witness. No conditions. What the rows of layer 9 share: the bytes of a proof out of an argument. No conditions. Rows of bytes that began as a text: a mark lies behind their last cell; they may be appended to. No conditions. -/
import Derived.Test.YtefpoollmbmkfaaDoorCards
import Derived.Test.YtefpoollmbmkfaaDoorTie
import Derived.Test.YtefpoollmbmkfaaDoorOpen
import Derived.Test.YtefpoollmbmkfaaDoorJ23
import Derived.WalkKit
import Derived.ProofKit
import Derived.OpenShut
import Derived.Deep.Slices
import Derived.Deep.DeepHandedRow
import Derived.Carry
import Derived.Lib.LaidTab
import Derived.Test.YtefpoollmbmkfaaDoorVa
import Derived.Test.YtefpoollmbmkfaaDoorGc
set_option linter.unusedSimpArgs false
set_option linter.unusedVariables false
namespace Go.Proofs.YtefpoollmbmkfaaDoor
set_option maxRecDepth 100000
open Go.ChangeShapes Go.WideShapes Go.ChangeAt Go.RowKit Go.Deep

theorem own : ownKnob Tryd.prog.godebug = none := by kernel_rfl
theorem laidOut : laidOutB Tryd.prog = true := by kernel_rfl
theorem cellsU8 : Tryd.prog.cellsOf 5 = 1 := by kernel_rfl
theorem cellsU64 : Tryd.prog.cellsOf 39 = 1 := by kernel_rfl
theorem cells80 : Tryd.prog.cellsOf 118 = 80 := by kernel_rfl
theorem cells8 : Tryd.prog.cellsOf 113 = 8 := by kernel_rfl
theorem cellsElem : Tryd.prog.cellsOf 58 = 4 := by kernel_rfl
theorem cellsNum : Tryd.prog.cellsOf 42 = 4 := by kernel_rfl
theorem laidMet_tl {P : Program} {x : String × DataW Unit} {r : List (String × DataW Unit)} {W : World} (h : laidMet P (x :: r) W) : laidMet P r W := by
  obtain ⟨ps, ⟨g, t, cs, fuel, p, q, _, _, _, _, hv, rfl⟩, hn, hc⟩ := h
  exact ⟨q, hv, (List.nodup_append.1 hn).2.1, fun b off hb => hc b off (List.mem_append_right _ hb)⟩
theorem Rd_of_tab {W : World} {name : String} {zs : List Int} {g : Nat} (h : Lib.TabIs Tryd.prog W name .u64 zs) (hg : Tryd.prog.globalNamed name = some g) (h0 : 0 < zs.length) : Rd W g (zs.map fun z => Value.int .u64 z).toArray := by
  refine ⟨fun j v hj => ?_, World.block_lt_of_cell? W ⟨g, 0, none⟩ (h.cell hg 0 h0)⟩
  rw [List.getElem?_toArray, List.getElem?_map] at hj
  cases hz : zs[j]? with
  | none => rw [hz] at hj; cases hj
  | some z =>
    rw [hz] at hj
    obtain rfl := Option.some.inj hj
    have hl : j < zs.length := by
      rcases Nat.lt_or_ge j zs.length with h | h
      · exact h
      · rw [List.getElem?_eq_none h] at hz; cases hz
    have := h.cell hg j hl
    rwa [List.getD_eq_getElem?_getD, hz] at this
theorem kk_arr : (kk.map fun z => Value.int .u64 z).toArray = arrK .u64 80 kf := by kernel_rfl
theorem hh_arr : (hh.map fun z => Value.int .u64 z).toArray = arrK .u64 8 hf := by kernel_rfl
theorem gMod : Tryd.prog.globalNamed "custumal/field.modulus" = some 9 := by kernel_rfl
theorem gModT : (Tryd.prog.globals[9]?).map (·.type) = some 58 := by kernel_rfl
theorem tabMod {W : World} {r : List (String × DataW Unit)} (h : laidMet Tryd.prog (("custumal/field.modulus", Rows.laid_custumal_field_modulus) :: r) W) : Lib.TabIs Tryd.prog W "custumal/field.modulus" .u64 [18446744073709551597, 18446744073709551615, 18446744073709551615, 9223372036854775807] :=
  Lib.tabIs_of_head (rest := r) gMod gModT Tryd.underlying58 Tryd.underlying39 cellsU64 cellsElem h
theorem rdMod {W : World} {r : List (String × DataW Unit)} (h : laidMet Tryd.prog (("custumal/field.modulus", Rows.laid_custumal_field_modulus) :: r) W) : Rd W 9 (modC) := Rd_of_tab (tabMod h) gMod (by decide)
theorem gIma : Tryd.prog.globalNamed "custumal/field.imaginary" = some 8 := by kernel_rfl
theorem gImaT : (Tryd.prog.globals[8]?).map (·.type) = some 58 := by kernel_rfl
theorem tabIma {W : World} {r : List (String × DataW Unit)} (h : laidMet Tryd.prog (("custumal/field.imaginary", Rows.laid_custumal_field_imaginary) :: r) W) : Lib.TabIs Tryd.prog W "custumal/field.imaginary" .u64 [14190309331451158704, 3405592160176694392, 3120150775007532967, 3135389899092516619] :=
  Lib.tabIs_of_head (rest := r) gIma gImaT Tryd.underlying58 Tryd.underlying39 cellsU64 cellsElem h
theorem rdIma {W : World} {r : List (String × DataW Unit)} (h : laidMet Tryd.prog (("custumal/field.imaginary", Rows.laid_custumal_field_imaginary) :: r) W) : Rd W 8 (imaC) := Rd_of_tab (tabIma h) gIma (by decide)
theorem gCur : Tryd.prog.globalNamed "custumal/edwards.curve" = some 1 := by kernel_rfl
theorem gCurT : (Tryd.prog.globals[1]?).map (·.type) = some 58 := by kernel_rfl
theorem tabCur {W : World} {r : List (String × DataW Unit)} (h : laidMet Tryd.prog (("custumal/edwards.curve", Rows.laid_custumal_edwards_curve) :: r) W) : Lib.TabIs Tryd.prog W "custumal/edwards.curve" .u64 [8496970652267935907,31536524315187371,10144147576115030168,5909686906226998899] :=
  Lib.tabIs_of_head (rest := r) gCur gCurT Tryd.underlying58 Tryd.underlying39 cellsU64 cellsElem h
theorem rdCur {W : World} {r : List (String × DataW Unit)} (h : laidMet Tryd.prog (("custumal/edwards.curve", Rows.laid_custumal_edwards_curve) :: r) W) : Rd W 1 (c4 DD) := Rd_of_tab (tabCur h) gCur (by decide)
theorem gDbl : Tryd.prog.globalNamed "custumal/edwards.double" = some 5 := by kernel_rfl
theorem gDblT : (Tryd.prog.globals[5]?).map (·.type) = some 58 := by kernel_rfl
theorem tabDbl {W : World} {r : List (String × DataW Unit)} (h : laidMet Tryd.prog (("custumal/edwards.double", Rows.laid_custumal_edwards_double) :: r) W) : Lib.TabIs Tryd.prog W "custumal/edwards.double" .u64 [16993941304535871833,63073048630374742,1841551078520508720,2596001775599221991] :=
  Lib.tabIs_of_head (rest := r) gDbl gDblT Tryd.underlying58 Tryd.underlying39 cellsU64 cellsElem h
theorem rdDbl {W : World} {r : List (String × DataW Unit)} (h : laidMet Tryd.prog (("custumal/edwards.double", Rows.laid_custumal_edwards_double) :: r) W) : Rd W 5 (c4 D2) := Rd_of_tab (tabDbl h) gDbl (by decide)
theorem gBsX : Tryd.prog.globalNamed "custumal/edwards.baseX" = some 3 := by kernel_rfl
theorem gBsXT : (Tryd.prog.globals[3]?).map (·.type) = some 58 := by kernel_rfl
theorem tabBsX {W : World} {r : List (String × DataW Unit)} (h : laidMet Tryd.prog (("custumal/edwards.baseX", Rows.laid_custumal_edwards_baseX) :: r) W) : Lib.TabIs Tryd.prog W "custumal/edwards.baseX" .u64 [14507833142362363162,7578651490590762930,13881468655802702940,2407515759118799870] :=
  Lib.tabIs_of_head (rest := r) gBsX gBsXT Tryd.underlying58 Tryd.underlying39 cellsU64 cellsElem h
theorem rdBsX {W : World} {r : List (String × DataW Unit)} (h : laidMet Tryd.prog (("custumal/edwards.baseX", Rows.laid_custumal_edwards_baseX) :: r) W) : Rd W 3 (c4 BX) := Rd_of_tab (tabBsX h) gBsX (by decide)
theorem gBsY : Tryd.prog.globalNamed "custumal/edwards.baseY" = some 4 := by kernel_rfl
theorem gBsYT : (Tryd.prog.globals[4]?).map (·.type) = some 58 := by kernel_rfl
theorem tabBsY {W : World} {r : List (String × DataW Unit)} (h : laidMet Tryd.prog (("custumal/edwards.baseY", Rows.laid_custumal_edwards_baseY) :: r) W) : Lib.TabIs Tryd.prog W "custumal/edwards.baseY" .u64 [7378697629483820632,7378697629483820646,7378697629483820646,7378697629483820646] :=
  Lib.tabIs_of_head (rest := r) gBsY gBsYT Tryd.underlying58 Tryd.underlying39 cellsU64 cellsElem h
theorem rdBsY {W : World} {r : List (String × DataW Unit)} (h : laidMet Tryd.prog (("custumal/edwards.baseY", Rows.laid_custumal_edwards_baseY) :: r) W) : Rd W 4 (c4 BY) := Rd_of_tab (tabBsY h) gBsY (by decide)
theorem gOrd : Tryd.prog.globalNamed "custumal/scalar.order" = some 0 := by kernel_rfl
theorem gOrdT : (Tryd.prog.globals[0]?).map (·.type) = some 42 := by kernel_rfl
theorem tabOrd {W : World} {r : List (String × DataW Unit)} (h : laidMet Tryd.prog (("custumal/scalar.order", Rows.laid_custumal_scalar_order) :: r) W) : Lib.TabIs Tryd.prog W "custumal/scalar.order" .u64 [6346243789798364141, 1503914060200516822, 0, 1152921504606846976] :=
  Lib.tabIs_of_head (rest := r) gOrd gOrdT Tryd.underlying42 Tryd.underlying39 cellsU64 cellsNum h
theorem rdOrd {W : World} {r : List (String × DataW Unit)} (h : laidMet Tryd.prog (("custumal/scalar.order", Rows.laid_custumal_scalar_order) :: r) W) : Sc.GL W :=
  have h0 := (tabOrd h).cell gOrd 0 (by decide)
  ⟨h0, (tabOrd h).cell gOrd 1 (by decide), (tabOrd h).cell gOrd 2 (by decide), (tabOrd h).cell gOrd 3 (by decide), World.block_lt_of_cell? W _ h0⟩
theorem gSt : Tryd.prog.globalNamed "custumal/sha5.start" = some 2 := by kernel_rfl
theorem gStT : (Tryd.prog.globals[2]?).map (·.type) = some 113 := by kernel_rfl
theorem tabSt {W : World} {r : List (String × DataW Unit)} (h : laidMet Tryd.prog (("custumal/sha5.start", Rows.laid_custumal_sha5_start) :: r) W) : Lib.TabIs Tryd.prog W "custumal/sha5.start" .u64 hh :=
  Lib.tabIs_of_head (rest := r) gSt gStT Tryd.underlying113 Tryd.underlying39 cellsU64 cells8 h
theorem rdSt {W : World} {r : List (String × DataW Unit)} (h : laidMet Tryd.prog (("custumal/sha5.start", Rows.laid_custumal_sha5_start) :: r) W) : Rd W 2 (arrK .u64 8 hf) := hh_arr ▸ Rd_of_tab (tabSt h) gSt (by decide)
theorem gRo : Tryd.prog.globalNamed "custumal/sha5.rounds" = some 10 := by kernel_rfl
theorem gRoT : (Tryd.prog.globals[10]?).map (·.type) = some 118 := by kernel_rfl
theorem tabRo {W : World} {r : List (String × DataW Unit)} (h : laidMet Tryd.prog (("custumal/sha5.rounds", Rows.laid_custumal_sha5_rounds) :: r) W) : Lib.TabIs Tryd.prog W "custumal/sha5.rounds" .u64 kk :=
  Lib.tabIs_of_head (rest := r) gRo gRoT Tryd.underlying118 Tryd.underlying39 cellsU64 cells80 h
theorem rdRo {W : World} {r : List (String × DataW Unit)} (h : laidMet Tryd.prog (("custumal/sha5.rounds", Rows.laid_custumal_sha5_rounds) :: r) W) : Rd W 10 (arrK .u64 80 kf) := kk_arr ▸ Rd_of_tab (tabRo h) gRo (by decide)
section
variable {H : Type} {enc : TypeId × Value → H} {W : World} {base : Nat} {sp : Nat → Bool} {held : Bool}
/-- an argument without memory reads in any world as before -/
theorem stays {t : TypeId} (hr : Tryd.prog.readableRec t = true) (hrow : t < Tryd.prog.types.size) {W W' : World} {sp' : Nat → Bool} {v : Value} {d : DataW H}
    (h : DataW.Trod enc Tryd.prog W 0 (fun _ => true) true t v d []) : DataW.Trod enc Tryd.prog W' 0 sp' true t v d [] :=
  WideElems.Trod_stays laidOut hr hrow h (fun _ hp => by cases hp) (fun _ hp => by cases hp)
theorem sl_of_trod {fuel : Nat} {cs : List Value} {x : DataW H × List MemPlace} (h : DataW.trod enc Tryd.prog W base sp held fuel 23 cs = some x) : ∃ u l, cs = [u] ∧ Sl W u l ∧ l.length ≤ maxLen := by
  rcases open_slice Tryd.underlying23 h with ⟨rfl, _⟩ | ⟨a, len, cap, m, n, D, Pl, rfl, _, hl, hm, hmm, _, hi⟩
  · exact ⟨_, [], rfl, sl_nil W, by simp⟩
  · have hlm : len ≤ m := by rw [hmm]; split <;> omega
    have key : ∀ i, i < len → ∃ c : UInt8, W.cell? (a.add i) = some (.int .u8 (c.toNat : Int)) := by
      intro i hi'
      obtain ⟨cs', h1, h2⟩ := hi i (by omega)
      rw [cellsU8, Nat.mul_one] at h1
      obtain ⟨_, hcl, hcell⟩ := World.cells?_some h1
      obtain ⟨z, hz, _, hw⟩ := DataW.trod_int Tryd.underlying5 h2
      have hb := bounds_u8 hw
      refine ⟨UInt8.ofNat z.toNat, ?_⟩
      have e : ((UInt8.ofNat z.toNat).toNat : Int) = z := by rw [UInt8.toNat_ofNat']; omega
      have := hcell 0 (by omega)
      rw [hz] at this
      rw [e]
      have e0 : ∀ b : Addr, b.add 0 = b := fun b => by unfold Addr.add; simp
      rw [e0] at this
      simpa using this
    refine ⟨_, (List.range len).map fun i => if h : i < len then Classical.choose (key i h) else 0, rfl, ⟨some a, cap, by simp, by simpa using hl, hm, (fun h => by cases h), fun j x hj => ⟨a, rfl, ?_⟩⟩, by simp; omega⟩
    have hjl : j < len := by have := (List.getElem?_eq_some_iff.1 hj).1; simpa using this
    simp [hjl] at hj
    subst hj
    exact Classical.choose_spec (key j hjl)
theorem open_sl {r : Reach} {b0 : Nat} {v : Value} {d : DataW H} {ps : List MemPlace} (hval : Value.okWide Tryd.prog W r b0 23 v) (hd : DataW.Trod enc Tryd.prog W base sp held 23 v d ps) : ∃ l, Sl W v l ∧ l.length ≤ maxLen := by
  obtain ⟨ao, len, cap, rfl⟩ := okWide_slice Tryd.underlying23 hval
  obtain ⟨fuel, hf⟩ := hd
  obtain ⟨u, l, hc, h1, h2⟩ := sl_of_trod hf
  simp [Value.cells] at hc
  subst hc
  exact ⟨l, h1, h2⟩
end
/-- bytes out of an argument -/
theorem open_bn {n : Nat} {t : TypeId} (hn : Tryd.prog.underlying t = some (.array n 5)) (hc : Tryd.prog.cellsOf t = n) {H : Type} {enc : TypeId × Value → H} {W W' : World} {base b0 : Nat} {sp : Nat → Bool} {held : Bool} {r : Reach} {v : Value} {d : DataW H} {ps : List MemPlace}
    (hval : Value.okWide Tryd.prog W' r b0 t v) (hd : DataW.Trod enc Tryd.prog W base sp held t v d ps) : ∃ N : Nat, N < 2 ^ (8 * n) ∧ v = .agg (arrK .u8 n (byt N)) ∧ ps = [] := by
  obtain ⟨f, rfl, hf, hp⟩ := open_arrK hn Tryd.underlying5 (by kernel_rfl) hc hval hd
  have hg : ∀ j, u8ok (if j < n then f j else 0) := fun j => by
    by_cases h : j < n
    · rw [if_pos h]; have := bounds_u8 (hf j h); unfold u8ok; omega
    · rw [if_neg h]; unfold u8ok; omega
  exact ⟨bval (fun j => if j < n then f j else 0) n, bval_lt _ hg n, congrArg Value.agg (arrK_congr .u8 n f _ fun i hi => ((byt_bval _ hg n i hi).trans (if_pos hi)).symm), hp⟩
theorem open_b32 {H : Type} {enc : TypeId × Value → H} {W W' : World} {base b0 : Nat} {sp : Nat → Bool} {held : Bool} {r : Reach} {v : Value} {d : DataW H} {ps : List MemPlace}
    (hval : Value.okWide Tryd.prog W' r b0 22 v) (hd : DataW.Trod enc Tryd.prog W base sp held 22 v d ps) : ∃ N : Nat, N < 2 ^ 256 ∧ v = .agg (arrK .u8 32 (byt N)) ∧ ps = [] :=
  open_bn Tryd.underlying22 (by kernel_rfl) hval hd
/-- a text that is cut -/
theorem cut_m (n : Nat) (L : List UInt8) : (List.take (min L.length n) L).length ≤ n := by rw [List.length_take]; omega
/-- a block's cells put down -/
def putCells (cs : Array Value) : Obj → Obj
  | .cells _ t frozen => .cells cs t frozen
  | o => o
/-- A world for the witness: the settled one, the variables' blocks holding what their initialisers lay. -/
noncomputable def laidWorld (os : Os) : World := { World.holding Tryd.prog os ⟨#[], #[], []⟩ with heap := ((((((((((((World.holding Tryd.prog os ⟨#[], #[], []⟩).heap.modify 7 (putCells (arrK .u64 80 kf))).modify 6 (putCells (arrK .u64 8 hf))).modify 9 (putCells (modC))).modify 8 (putCells (imaC))).modify 1 (putCells (c4 DD))).modify 5 (putCells (c4 D2))).modify 3 (putCells (c4 BX))).modify 4 (putCells (c4 BY))).modify 0 (putCells (#[.int .u64 6346243789798364141, .int .u64 1503914060200516822, .int .u64 0, .int .u64 1152921504606846976]))).modify 2 (putCells (arrK .u64 8 hf))).modify 10 (putCells (arrK .u64 80 kf))) }
end Go.Proofs.YtefpoollmbmkfaaDoor

namespace Go.Proofs.YtefpoollmbmkfaaDoor
set_option maxRecDepth 100000
open Go.ChangeShapes Go.WideShapes Go.ChangeAt Go.RowKit
end Go.Proofs.YtefpoollmbmkfaaDoor

set_option linter.unusedSimpArgs false
set_option linter.unusedVariables false
namespace Go.Proofs.YtefpoollmbmkfaaDoor.H2
open Go.RowKit
set_option linter.unusedSimpArgs false
def Owz (w : World) (v : Value) (l : List UInt8) : Prop :=
  ∃ (g cap : Nat) (cs : Array Value) (fz : Nat × Nat), v = .slice (some ⟨g, 0, none⟩) l.length cap ∧ w.heap[g]? = some (.cells cs 5 fz) ∧ (fz.1 = fz.2 ∨ cs.size ≤ fz.1) ∧ l.length ≤ cap ∧ cap ≤ maxLen ∧ cs.size = cap ∧ cs.toList.take l.length = bs8 l
theorem Owz.lt {w : World} {v : Value} {l : List UInt8} (h : Owz w v l) : ∀ g, v.ownBlock = some g → g < w.heap.size := by
  intro x hx
  obtain ⟨g, cap, cs, fz, rfl, hh, _⟩ := h
  obtain rfl : g = x := Option.some.inj hx
  exact lt_of_block hh
theorem Owz.off {F : List Nat} {w w' : World} {v : Value} {l : List UInt8} (h : Owz w v l) (k : Off F w w') (hF : ∀ b ∈ F, v.ownBlock ≠ some b) : Owz w' v l := by
  obtain ⟨g, cap, cs, fz, rfl, hh, r⟩ := h
  exact ⟨g, cap, cs, fz, rfl, by rw [k.block g (lt_of_block hh) (fun hx => hF g hx rfl)]; exact hh, r⟩
theorem Owz.cells {w : World} {g cap : Nat} {l : List UInt8} {cs : Array Value} {fz : Nat × Nat} (hh : w.heap[g]? = some (.cells cs 5 fz)) (ht : cs.toList.take l.length = bs8 l) : ∀ j u, (bs8 l)[j]? = some u → w.cell? ((⟨g, 0, none⟩ : Addr).add j) = some u := fun j u hu => by
  rw [Addr.add_mid, cell_of_row w g _ cs _ _ hh, Nat.zero_add]
  rw [← ht, List.getElem?_take] at hu
  split at hu
  · simpa using hu
  · cases hu
theorem Owz.sl {w : World} {v : Value} {l : List UInt8} (h : Owz w v l) : Sl w v l := by
  obtain ⟨g, cap, cs, fz, rfl, hh, hf, hc, hm, hs, ht⟩ := h
  exact ⟨some ⟨g, 0, none⟩, cap, rfl, hc, hm, (fun h => by cases h), fun j x hj => ⟨_, rfl, Owz.cells (cap := cap) hh ht j _ (bs8_get hj)⟩⟩
theorem Owz.len {w : World} {v : Value} {l : List UInt8} (h : Owz w v l) : ∃ A c, v = .slice A l.length c ∧ l.length ≤ c := by
  obtain ⟨g, cap, cs, fz, rfl, _, _, hc, _⟩ := h
  exact ⟨_, _, rfl, hc⟩
end Go.Proofs.YtefpoollmbmkfaaDoor.H2

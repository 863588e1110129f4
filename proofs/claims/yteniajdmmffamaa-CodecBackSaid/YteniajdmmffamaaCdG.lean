/- custumallaw04.CodecWrites. No conditions. -/
import Derived.Test.YteniajdmmffamaaCdF
namespace Go.Proofs.Yteniajdmmffamaa
set_option linter.unusedSimpArgs false
set_option linter.unusedVariables false
open Go.RowKit
attribute [local irreducible] wpList

/-- a part that came in -/
structure Pt where
  K : Int
  N : Int
  S : List UInt8
  T : List UInt8
  hS : S.length = 32
  hN : -9223372036854775808 ≤ N ∧ N ≤ 9223372036854775807
def Pt.kind (q : Pt) : Nat := 1 + (q.K % 18446744073709551616).toNat % 5
def Pt.text (q : Pt) : List UInt8 := q.T.take (min q.T.length 300)
def ptB (q : Pt) : List UInt8 := partB q.kind q.N q.S q.text
def ptOk (q : Pt) : Bool := partOk q.kind q.N
theorem Pt.kind_ok (q : Pt) : 1 ≤ q.kind ∧ q.kind ≤ 5 := by unfold Pt.kind; omega
theorem Pt.text_len (q : Pt) : q.text.length ≤ 300 := by unfold Pt.text; rw [List.length_take]; omega
theorem ptB_len (q : Pt) : (ptB q).length ≤ 302 := by
  have h1 := q.text_len
  have h2 := q.hS
  unfold ptB partB
  repeat' split
  · simp
  · simp
  · simp
  · simp [be8]
  · omega
  · simp only [List.length_append, List.length_cons, List.length_nil]; omega
/-- what the first k parts make -/
def cL (ps : List Pt) (k : Nat) : List UInt8 := (ps.take k).flatMap ptB
def cR (ps : List Pt) (k : Nat) : Bool := (ps.take k).all ptOk
theorem cL_succ {ps : List Pt} {k : Nat} {q : Pt} (h : ps[k]? = some q) : cL ps (k + 1) = cL ps k ++ ptB q := by
  unfold cL; rw [List.take_add_one, h]; simp
theorem cR_succ {ps : List Pt} {k : Nat} {q : Pt} (h : ps[k]? = some q) : cR ps (k + 1) = (cR ps k && ptOk q) := by
  unfold cR; rw [List.take_add_one, h]; simp
theorem cL_len (ps : List Pt) : ∀ k, (cL ps k).length ≤ 302 * k
  | 0 => by simp [cL]
  | k + 1 => by
    have ih := cL_len ps k
    cases h : ps[k]? with
    | none =>
      have : cL ps (k + 1) = cL ps k := by unfold cL; rw [List.take_add_one, h]; simp
      rw [this]; omega
    | some q => rw [cL_succ h, List.length_append]; have := ptB_len q; omega
/-- The value v reads as the parts ps. -/
def Pts (w : World) (v : Value) (ps : List Pt) : Prop :=
  ∃ A c, v = .slice A ps.length c ∧ ∀ i q, ps[i]? = some q → ∃ ad, A = some ad ∧ ∀ j x, (partC q.K q.N q.S q.T)[j]? = some x → w.cell? (ad.add (i * 35 + j)) = some x
theorem addr_add_add (a : Addr) (i j : Nat) : (a.add i).add j = a.add (i + j) := by
  unfold Addr.add
  by_cases hi : i = 0 <;> by_cases hj : j = 0 <;> simp [hi, hj, Nat.add_assoc]
theorem part_size : (Try.prog.info? 34).map (·.size) = some 35 := by kernel_rfl
section
variable {ops : Array Oper} {Q : Exit → Act → World → Prop} {w : World} {r : List Oper} {o : Oper} {a : Act}
theorem wpL_ixp {x y : Operand} {k : IntKind} {ad : Addr} {n c j : Nat} (hj : j < n) (hw : Region.wanted o (yielded ops a.tmps) = true) (ho : o.op = .indexAddr 22 x y) (hx : a.eval x = .slice (some ad) n c) (hy : a.eval y = .int k (j : Int))
    (h : wpList Try.prog ops Q r (a.put o.dst (.pointer (some (ad.add (j * 35))))) w) : wpList Try.prog ops Q (o :: r) a w := by
  refine wpL_val hw ?_ h
  have h1 := part_size
  cases hq : Try.prog.info? 34 with
  | none => simp [hq] at h1
  | some i =>
    have hs : i.size = 35 := by simpa [hq] using h1
    simp [execOp, ho, hx, hy, Instr.indexAt, asIntOf, run_underlying Try.underlying22, Sem.run_bind, sizeOf, typeInfo, hq, hs, hj]
theorem wpL_ldp {x : Operand} {ad : Addr} {q : Pt} (hc : ∀ j x, (partC q.K q.N q.S q.T)[j]? = some x → w.cell? (ad.add j) = some x) (hw : Region.wanted o (yielded ops a.tmps) = true) (ho : o.op = .load 34 x) (hx : a.eval x = .pointer (some ad))
    (h : wpList Try.prog ops Q r (a.put o.dst (.agg (partC q.K q.N q.S q.T))) w) : wpList Try.prog ops Q (o :: r) a w := by
  refine wpL_val hw ?_ h
  have hl := run_loadCells_list (P := Try.prog) w ad (partC q.K q.N q.S q.T).toList (fun j v hv => hc j v (by simpa using hv))
  have hz : (partC q.K q.N q.S q.T).toList.length = 35 := by rw [Array.length_toList, partC_size q.hS]
  have h1 := part_size
  cases hq : Try.prog.info? 34 with
  | none => simp [hq] at h1
  | some i =>
    have hs : i.size = 35 := by simpa [hq] using h1
    have hagg : (isAgg 34).run Try.prog w = .ok true w := by
      unfold isAgg
      rw [Sem.run_bind, run_underlying Try.underlying34 w]
      rfl
    rw [hz] at hl
    simp [execOp, ho, hx, Instr.loadAt, Instr.sureAddr, loadVar, Sem.run_bind, hagg, sizeOf, typeInfo, hq, hs, hl]
end
theorem plen {w : World} {v : Value} {ps : List Pt} (h : Pts w v ps) : ∃ A c, v = .slice A ps.length c := by obtain ⟨A, c, h, _⟩ := h; exact ⟨A, c, h⟩
theorem pts_at {w W : World} {A : Option Addr} {c k : Nat} {ps : List Pt} (h : Pts w (.slice A ps.length c) ps) (hO : Off [] w W) (hk : k < ps.length) : ∃ q ad, ps[k]? = some q ∧ A = some ad ∧ ∀ j x, (partC q.K q.N q.S q.T)[j]? = some x → W.cell? ((ad.add (k * 35)).add j) = some x := by
  obtain ⟨A', c', e, h⟩ := h
  injection e with e1 e2 e3
  subst e1
  have hq := List.getElem?_eq_getElem hk
  obtain ⟨ad, rfl, hc⟩ := h k _ hq
  refine ⟨_, ad, hq, rfl, fun j x hj => ?_⟩
  rw [addr_add_add]
  have h0 := hc j x hj
  rw [World.cell?_of_block (w := w) (hO.block _ (cell_lt h0) (by simp))]
  exact h0

set_option maxRecDepth 100000 in
set_option maxHeartbeats 1500000 in
theorem codecWrites_c (u : Value) (ps : List Pt) (w : World) (hps0 : Pts w u ps) :
    Calls Try.prog 3 #[u] w fun e w' => Ret (.bool true) w w' e := by
  obtain ⟨A, c, rfl⟩ := plen hps0
  have hps := Lib.hid hps0
  clear hps0
  have off0 : Off [] w w := Off.refl _ _
  have sz := off0.size
  go_enter Try.func3, Try.ntmps3
  go_upto_region 2 with fail
  refine wp_region_lit ?_
  (refine wpL_val (v := ?_) (by rfl) ?_ ?_; rotate_left 1; (focus (go_simp; first | done | with_reducible rfl)))
  (try simp only [Act.put, List.setIfInBounds_toArray, List.set_cons_zero, List.set_cons_succ])
  refine wpL_ret (wbyte_nl 1 w) (by rfl) rfl (by kernel_rfl) rfl ?_
  (try simp only [Act.put, List.setIfInBounds_toArray, List.set_cons_zero, List.set_cons_succ])
  intro W1 hO
  replace off0 := off0.step hO i0
  replace sz := off0.size
  clear hO
  refine wpL_nil ?_
  go_upto_region 3 with fail
  refine wp_region_lit ?_
  (refine wpL_val (v := ?_) (by rfl) ?_ ?_; rotate_left 1; (focus (go_simp; first | done | with_reducible rfl)))
  (try simp only [Act.put, List.setIfInBounds_toArray, List.set_cons_zero, List.set_cons_succ])
  refine wpL_ret (wtext_nl _ W1) (by rfl) rfl (by kernel_rfl) rfl ?_
  (try simp only [Act.put, List.setIfInBounds_toArray, List.set_cons_zero, List.set_cons_succ])
  intro W2 hO
  replace off0 := off0.step hO i0
  replace sz := off0.size
  clear hO
  refine wpL_nil ?_
  go_upto_region 4 with fail
  refine wp_region_lit ?_
  (refine wpL_val (v := ?_) (by rfl) ?_ ?_; rotate_left 1; (focus (go_simp; first | done | with_reducible rfl)))
  (try simp only [Act.put, List.setIfInBounds_toArray, List.set_cons_zero, List.set_cons_succ])
  refine wpL_ret (wbytes_nl W2) (by rfl) rfl (by kernel_rfl) rfl ?_
  (try simp only [Act.put, List.setIfInBounds_toArray, List.set_cons_zero, List.set_cons_succ])
  intro W3 hO
  replace off0 := off0.step hO i0
  replace sz := off0.size
  clear hO
  (refine wpL_val (v := ?_) (by rfl) ?_ ?_; rotate_left 1; (focus (go_simp; first | done | with_reducible rfl)))
  (try simp only [Act.put, List.setIfInBounds_toArray, List.set_cons_zero, List.set_cons_succ])
  (refine wpL_val (v := ?_) (by rfl) ?_ ?_; rotate_left 1; (focus (go_simp; first | done | with_reducible rfl)))
  (try simp only [Act.put, List.setIfInBounds_toArray, List.set_cons_zero, List.set_cons_succ])
  refine wpL_val (v := .int .i64 1) (by rfl) (by first | rfl | (go_simp; done) | (go_simp; with_reducible rfl) | (go_simp; omega)) ?_
  (try simp only [Act.put, List.setIfInBounds_toArray, List.set_cons_zero, List.set_cons_succ])
  (refine wpL_val (v := ?_) (by rfl) ?_ ?_; rotate_left 1; (focus (go_simp; first | done | with_reducible rfl)))
  (try simp only [Act.put, List.setIfInBounds_toArray, List.set_cons_zero, List.set_cons_succ])
  refine wpL_val (v := .int .i64 1) (by rfl) (by first | rfl | (go_simp; done) | (go_simp; with_reducible rfl) | (go_simp; omega)) ?_
  (try simp only [Act.put, List.setIfInBounds_toArray, List.set_cons_zero, List.set_cons_succ])
  refine wpL_nil ?_
  go_upto_region 5 with fail
  refine wp_region_lit ?_
  refine wpL_val (v := .agg #[.slice none 0 0, .bool false]) (by rfl) (by first | rfl | (go_simp; done) | (go_simp; with_reducible rfl) | (go_simp; omega)) ?_
  (try simp only [Act.put, List.setIfInBounds_toArray, List.set_cons_zero, List.set_cons_succ])
  refine wpL_new (z := #[.slice none 0 0, .bool false]) (t := 31) (by rfl) (by first | kernel_rfl | (go_simp; done) | (go_simp; rfl)) ?_
  (try simp only [Act.put, List.setIfInBounds_toArray, List.set_cons_zero, List.set_cons_succ])
  intro p25_4 W4 n_t25 hO h_
  have fb_t25 : Fb p25_4 w.heap.size [] := fb_new (Nat.le_trans sz n_t25)
  replace off0 := off0.step hO i0
  replace sz := off0.size
  have k_t25 := h_
  clear hO h_ n_t25
  have ow_nw := own_nil W4
  have fr_nw : Fr (Value.ownBlock (.slice none 0 0)) w.heap.size [] := fr_none
  have ne_nw_t25 : Value.ownBlock (.slice none 0 0) ≠ some p25_4 := fun e_ => by cases e_
  (refine wpL_val (v := ?_) (by rfl) ?_ ?_; rotate_left 1; (focus (go_simp; first | done | with_reducible rfl)))
  (try simp only [Act.put, List.setIfInBounds_toArray, List.set_cons_zero, List.set_cons_succ])
  refine wpL_nil ?_
  go_wp2_with fail
  have ow_b := ow_nw
  clear ow_nw
  have fr_b := fr_nw
  have ne_b_t25 := ne_nw_t25
  go_loopw [7, 8, 9] (fun sa sb si wr => ∃ (k : Nat) (R : Bool) (v : Value), (k ≤ ps.length ∧ k ≤ 20) ∧ (R = cR ps k) ∧ (sa = str (cL ps k)) ∧ (sb = .bool R) ∧ (si = .int .i64 (k : Int)) ∧ Off [] w wr ∧ Blk wr p25_4 #[v, .bool (!R)] 31 ∧ Own wr v (cL ps k) ∧ Fr (Value.ownBlock v) w.heap.size [] ∧ (Value.ownBlock v) ≠ some p25_4)
    (fun sa sb si _ => 20 - (intOf si).toNat)
  case atStart => exact ⟨0, true, _, ⟨Nat.zero_le _, by omega⟩, rfl, rfl, rfl, rfl, off0, k_t25, ow_b, fr_b, ne_b_t25⟩
  case round =>
    obtain ⟨k, R, v, ⟨hk, hk2⟩, hR, rfl, rfl, rfl, off0, k_t25, ow_b, fr_b, ne_b_t25⟩ := hrel
    obtain ⟨W5, eW_⟩ := wname off0
    subst eW_
    have sz := off0.size
    have hlen := cL_len ps k
    rcases R with _ | _
    · have _f := True.intro
      have HR := Lib.hid hR
      clear hR
      by_cases hlt : k < ps.length
      · have _f := hlt
        by_cases h20 : k < 20
        · have _f := h20
          go_upto_region 8 with fail
          refine wp_region_lit ?_
          (refine wpL_val (v := ?_) (by rfl) ?_ ?_; rotate_left 1; (focus (go_simp; first | done | with_reducible rfl)))
          (try simp only [Act.put, List.setIfInBounds_toArray, List.set_cons_zero, List.set_cons_succ])
          (refine wpL_val (v := ?_) (by rfl) ?_ ?_; rotate_left 1; (focus (go_simp; first | done | with_reducible rfl)))
          (try simp only [Act.put, List.setIfInBounds_toArray, List.set_cons_zero, List.set_cons_succ])
          (refine wpL_val (v := ?_) (by rfl) ?_ ?_; rotate_left 1; (focus (go_simp; first | done | with_reducible rfl)))
          (try simp only [Act.put, List.setIfInBounds_toArray, List.set_cons_zero, List.set_cons_succ])
          refine wpL_val (v := .bool true) (by rfl) (by first | rfl | (go_simp; done) | (go_simp; with_reducible rfl) | (go_simp; omega)) ?_
          (try simp only [Act.put, List.setIfInBounds_toArray, List.set_cons_zero, List.set_cons_succ])
          refine wpL_val (v := .bool true) (by rfl) (by first | rfl | (go_simp; done) | (go_simp; with_reducible rfl) | (go_simp; omega)) ?_
          (try simp only [Act.put, List.setIfInBounds_toArray, List.set_cons_zero, List.set_cons_succ])
          (refine wpL_val (v := ?_) (by rfl) ?_ ?_; rotate_left 1; (focus (go_simp; first | done | with_reducible rfl)))
          (try simp only [Act.put, List.setIfInBounds_toArray, List.set_cons_zero, List.set_cons_succ])
          refine wpL_val (v := .bool true) (by rfl) (by first | rfl | (go_simp; done) | (go_simp; with_reducible rfl) | (go_simp; omega)) ?_
          (try simp only [Act.put, List.setIfInBounds_toArray, List.set_cons_zero, List.set_cons_succ])
          refine wpL_val (v := .bool true) (by rfl) (by first | rfl | (go_simp; done) | (go_simp; with_reducible rfl) | (go_simp; omega)) ?_
          (try simp only [Act.put, List.setIfInBounds_toArray, List.set_cons_zero, List.set_cons_succ])
          refine wpL_nil ?_
          go_upto_region 10 with fail
          refine wp_region_lit ?_
          (refine wpL_val (v := ?_) (by rfl) ?_ ?_; rotate_left 1; (focus (go_simp; first | done | with_reducible rfl)))
          (try simp only [Act.put, List.setIfInBounds_toArray, List.set_cons_zero, List.set_cons_succ])
          (refine wpL_val (v := ?_) (by rfl) ?_ ?_; rotate_left 1; (focus (go_simp; first | done | with_reducible rfl)))
          (try simp only [Act.put, List.setIfInBounds_toArray, List.set_cons_zero, List.set_cons_succ])
          obtain ⟨q, ad, hq, rfl, hcell⟩ := pts_at hps.out off0 hlt
          have hpl : (partB q.kind q.N q.S q.text).length ≤ 302 := ptB_len q
          refine wpL_ixp (j := k) hlt (by rfl) rfl rfl rfl ?_
          (try simp only [Act.put, List.setIfInBounds_toArray, List.set_cons_zero, List.set_cons_succ])
          refine wpL_ldp (q := q) hcell (by rfl) rfl rfl ?_
          (try simp only [Act.put, List.setIfInBounds_toArray, List.set_cons_zero, List.set_cons_succ])
          clear hcell
          refine wpL_ret (tame_c q.K q.N (q.K % 18446744073709551616).toNat (by omega) q.S q.T q.hS W5) (by rfl) rfl (by kernel_rfl) rfl ?_
          (try simp only [Act.put, List.setIfInBounds_toArray, List.set_cons_zero, List.set_cons_succ])
          intro W6 hO
          replace k_t25 := blk_off k_t25 hO nm0
          replace ow_b := Own.off ow_b hO f0
          replace off0 := off0.step hO i0
          replace sz := off0.size
          clear hO
          refine wpL_new (z := partC 0 0 (List.replicate 32 0) []) (t := 34) (by rfl) (by first | kernel_rfl | (go_simp; done) | (go_simp; rfl)) ?_
          (try simp only [Act.put, List.setIfInBounds_toArray, List.set_cons_zero, List.set_cons_succ])
          intro p10_7 W7 n_t10 hO h_
          have nq_t25_t10 : p25_4 ≠ p10_7 := Nat.ne_of_lt (Nat.lt_of_lt_of_le (blk_lt k_t25) n_t10)
          have ne_b_t10 := ne_new (Own.lt ow_b) n_t10
          have fb_t10 : Fb p10_7 w.heap.size [] := fb_new (Nat.le_trans sz n_t10)
          replace k_t25 := blk_off k_t25 hO nm0
          replace ow_b := Own.off ow_b hO f0
          replace off0 := off0.step hO i0
          replace sz := off0.size
          have k_t10 := h_
          clear hO h_ n_t10
          refine wpL_putrow (cells := partC ((1 + (q.K % 18446744073709551616).toNat % 5 : Nat) : Int) q.N q.S (q.T.take (min q.T.length 300))) (by rfl) rfl rfl rfl k_t10 (by rw [partC_size q.hS]; kernel_rfl) (by rw [partC_size (List.length_replicate), partC_size q.hS]) (by exact partC_one _ _ _ _) ?_
          (try simp only [Act.put, List.setIfInBounds_toArray, List.set_cons_zero, List.set_cons_succ])
          intro W8 hO h_
          replace k_t10 : Blk W8 p10_7 (partC ((1 + (q.K % 18446744073709551616).toNat % 5 : Nat) : Int) q.N q.S (q.T.take (min q.T.length 300))) 34 := h_
          clear h_
          replace k_t25 := blk_off k_t25 hO (nm1 nq_t25_t10)
          replace ow_b := Own.off ow_b hO (f1 ne_b_t10)
          replace off0 := off0.step hO (i1 fb_t10)
          replace sz := off0.size
          clear hO
          refine wpL_nil ?_
          go_upto_region 11 with fail
          refine wp_region_lit ?_
          (refine wpL_val (v := ?_) (by rfl) ?_ ?_; rotate_left 1; (focus (go_simp; first | done | with_reducible rfl)))
          (try simp only [Act.put, List.setIfInBounds_toArray, List.set_cons_zero, List.set_cons_succ])
          refine wpL_load0 (by rfl) rfl rfl k_t10 (by kernel_rfl) (by rw [partC_size q.hS]; kernel_rfl) ?_
          (try simp only [Act.put, List.setIfInBounds_toArray, List.set_cons_zero, List.set_cons_succ])
          refine wpL_callv (write_c q.kind q.N q.S q.text q.hS q.kind_ok (by have := q.text_len; omega) p25_4 _ _ _ _ ⟨k_t25, ow_b⟩ (by omega)) (by rfl) rfl (by kernel_rfl) rfl ?_
          (try simp only [Act.put, List.setIfInBounds_toArray, List.set_cons_zero, List.set_cons_succ])
          rintro W9 ⟨v_b1, hto⟩
          have at_b1 := hto.fr
          have hO := hto.off
          have kk := hto.wr.1
          have ow_b1 := hto.wr.2
          clear hto
          have ne_b1_t25 := own_ne at_b1 ne_b_t25 (blk_lt k_t25)
          have ne_b1_t10 := own_ne at_b1 ne_b_t10 (blk_lt k_t10)
          have fr_b1 := own_fr at_b1 fr_b sz
          replace k_t10 := blk_off k_t10 hO (nmc nq_t25_t10.symm (nmo ne_b_t10))
          replace off0 := off0.step hO (ic fb_t25 (io fr_b))
          replace sz := off0.size
          replace k_t25 := kk
          have ne_b1_t25 := Own.ne_blk ow_b1 k_t25 (by decide)
          clear hO at_b1 kk
          refine wpL_nil ?_
          go_upto_region 12 with fail
          refine wp_region_lit ?_
          refine wpL_load0 (by rfl) rfl rfl k_t10 (by kernel_rfl) (by rw [partC_size q.hS]; kernel_rfl) ?_
          (try simp only [Act.put, List.setIfInBounds_toArray, List.set_cons_zero, List.set_cons_succ])
          refine wpL_ret (rwrite_c q.kind q.N q.S q.text q.hS q.kind_ok (by have := q.text_len; omega) W9) (by rfl) rfl (by kernel_rfl) rfl ?_
          (try simp only [Act.put, List.setIfInBounds_toArray, List.set_cons_zero, List.set_cons_succ])
          intro W10 hO
          replace k_t25 := blk_off k_t25 hO nm0
          replace k_t10 := blk_off k_t10 hO nm0
          replace ow_b1 := Own.off ow_b1 hO f0
          replace off0 := off0.step hO i0
          replace sz := off0.size
          clear hO
          (refine wpL_val (v := ?_) (by rfl) ?_ ?_; rotate_left 1; (focus (go_simp; first | done | with_reducible rfl)))
          (try simp only [Act.put, List.setIfInBounds_toArray, List.set_cons_zero, List.set_cons_succ])
          (refine wpL_val (v := ?_) (by rfl) ?_ ?_; rotate_left 1; (focus (go_simp; first | done | with_reducible rfl)))
          (try simp only [Act.put, List.setIfInBounds_toArray, List.set_cons_zero, List.set_cons_succ])
          refine wpL_val (v := .bool (partOk q.kind q.N)) (by rfl) (by first | rfl | (go_simp; done) | (go_simp; with_reducible rfl) | (go_simp; omega)) ?_
          (try simp only [Act.put, List.setIfInBounds_toArray, List.set_cons_zero, List.set_cons_succ])
          (refine wpL_val (v := ?_) (by rfl) ?_ ?_; rotate_left 1; (focus (go_simp; first | done | with_reducible rfl)))
          (try simp only [Act.put, List.setIfInBounds_toArray, List.set_cons_zero, List.set_cons_succ])
          refine wpL_val (v := .bool (partOk q.kind q.N)) (by rfl) (by first | rfl | (go_simp; done) | (go_simp; with_reducible rfl) | (go_simp; omega)) ?_
          (try simp only [Act.put, List.setIfInBounds_toArray, List.set_cons_zero, List.set_cons_succ])
          refine wpL_nil ?_
          go_upto_region 13 with fail
          refine wp_region_lit ?_
          (refine wpL_val (v := ?_) (by rfl) ?_ ?_; rotate_left 1; (focus (go_simp; first | done | with_reducible rfl)))
          (try simp only [Act.put, List.setIfInBounds_toArray, List.set_cons_zero, List.set_cons_succ])
          (refine wpL_val (v := ?_) (by rfl) ?_ ?_; rotate_left 1; (focus (go_simp; first | done | with_reducible rfl)))
          (try simp only [Act.put, List.setIfInBounds_toArray, List.set_cons_zero, List.set_cons_succ])
          refine wpL_cat (l := (cL ps k)) (m := (partB q.kind q.N q.S q.text)) (by first | omega | (simp only [List.length_append, List.length_cons, List.length_nil]; omega)) (by rfl) rfl rfl rfl ?_
          (try simp only [Act.put, List.setIfInBounds_toArray, List.set_cons_zero, List.set_cons_succ])
          refine wpL_val (v := .bool false) (by rfl) (by first | rfl | (go_simp; done) | (go_simp; with_reducible rfl) | (go_simp; omega)) ?_
          (try simp only [Act.put, List.setIfInBounds_toArray, List.set_cons_zero, List.set_cons_succ])
          refine wpL_val (v := .bool false) (by rfl) (by first | rfl | (go_simp; done) | (go_simp; with_reducible rfl) | (go_simp; omega)) ?_
          (try simp only [Act.put, List.setIfInBounds_toArray, List.set_cons_zero, List.set_cons_succ])
          refine wpL_skip (by rfl) ?_
          (try simp only [Act.put, List.setIfInBounds_toArray, List.set_cons_zero, List.set_cons_succ])
          refine wpL_val (v := .bool false) (by rfl) (by first | rfl | (go_simp; done) | (go_simp; with_reducible rfl) | (go_simp; omega)) ?_
          (try simp only [Act.put, List.setIfInBounds_toArray, List.set_cons_zero, List.set_cons_succ])
          (refine wpL_val (v := ?_) (by rfl) ?_ ?_; rotate_left 1; (focus (go_simp; first | done | with_reducible rfl)))
          (try simp only [Act.put, List.setIfInBounds_toArray, List.set_cons_zero, List.set_cons_succ])
          refine wpL_val (v := .bool false) (by rfl) (by first | rfl | (go_simp; done) | (go_simp; with_reducible rfl) | (go_simp; omega)) ?_
          (try simp only [Act.put, List.setIfInBounds_toArray, List.set_cons_zero, List.set_cons_succ])
          refine wpL_nil ?_
          have ow_b := ow_b1
          clear ow_b1
          have fr_b := fr_b1
          have ne_b_t25 := ne_b1_t25
          have ne_b_t10 := ne_b1_t10
          have hL1 : cL ps (k + 1) = cL ps k ++ partB q.kind q.N q.S q.text := cL_succ hq
          go_wp2
          go_roundw
          case rel => exact ⟨k + 1, (false && partOk q.kind q.N), _, ⟨by omega, by omega⟩, by rw [cR_succ hq, ← HR.out]; rfl, by rw [hL1], rfl, by go_num, off0, (by rw [show (!(false && partOk q.kind q.N)) = (!false || !partOk q.kind q.N) by simp]; exact k_t25), (by rw [hL1]; exact ow_b), fr_b, ne_b_t25⟩
          case measure => simp [intOf]; omega
        · have _f := h20
          go_upto_region 8 with fail
          refine wp_region_lit ?_
          (refine wpL_val (v := ?_) (by rfl) ?_ ?_; rotate_left 1; (focus (go_simp; first | done | with_reducible rfl)))
          (try simp only [Act.put, List.setIfInBounds_toArray, List.set_cons_zero, List.set_cons_succ])
          (refine wpL_val (v := ?_) (by rfl) ?_ ?_; rotate_left 1; (focus (go_simp; first | done | with_reducible rfl)))
          (try simp only [Act.put, List.setIfInBounds_toArray, List.set_cons_zero, List.set_cons_succ])
          (refine wpL_val (v := ?_) (by rfl) ?_ ?_; rotate_left 1; (focus (go_simp; first | done | with_reducible rfl)))
          (try simp only [Act.put, List.setIfInBounds_toArray, List.set_cons_zero, List.set_cons_succ])
          refine wpL_val (v := .bool true) (by rfl) (by first | rfl | (go_simp; done) | (go_simp; with_reducible rfl) | (go_simp; omega)) ?_
          (try simp only [Act.put, List.setIfInBounds_toArray, List.set_cons_zero, List.set_cons_succ])
          refine wpL_val (v := .bool true) (by rfl) (by first | rfl | (go_simp; done) | (go_simp; with_reducible rfl) | (go_simp; omega)) ?_
          (try simp only [Act.put, List.setIfInBounds_toArray, List.set_cons_zero, List.set_cons_succ])
          (refine wpL_val (v := ?_) (by rfl) ?_ ?_; rotate_left 1; (focus (go_simp; first | done | with_reducible rfl)))
          (try simp only [Act.put, List.setIfInBounds_toArray, List.set_cons_zero, List.set_cons_succ])
          refine wpL_val (v := .bool false) (by rfl) (by first | rfl | (go_simp; done) | (go_simp; with_reducible rfl) | (go_simp; omega)) ?_
          (try simp only [Act.put, List.setIfInBounds_toArray, List.set_cons_zero, List.set_cons_succ])
          refine wpL_val (v := .bool false) (by rfl) (by first | rfl | (go_simp; done) | (go_simp; with_reducible rfl) | (go_simp; omega)) ?_
          (try simp only [Act.put, List.setIfInBounds_toArray, List.set_cons_zero, List.set_cons_succ])
          refine wpL_nil ?_
          go_upto_region 14 with fail
          refine wp_region_lit ?_
          (refine wpL_val (v := ?_) (by rfl) ?_ ?_; rotate_left 1; (focus (go_simp; first | done | with_reducible rfl)))
          (try simp only [Act.put, List.setIfInBounds_toArray, List.set_cons_zero, List.set_cons_succ])
          refine wpL_call (R := fun r W => ∃ u, r = .tuple #[u, .int .i64 5] ∧ NewB W5 (cL ps k) u W) ((wbytes_true p25_4 _ (cL ps k) _ ⟨k_t25, ow_b⟩ (by first | omega | (simp only [List.length_append, List.length_cons, List.length_nil]; omega))).mono fun _ _ ⟨u, h1, h2⟩ => ⟨_, h1, u, rfl, h2⟩) (by rfl) rfl (by kernel_rfl) rfl ?_
          (try simp only [Act.put, List.setIfInBounds_toArray, List.set_cons_zero, List.set_cons_succ])
          rintro _ W6 ⟨v_c1, rfl, hnb⟩
          (try simp only [Act.put, List.setIfInBounds_toArray, List.set_cons_zero, List.set_cons_succ])
          have hO := hnb.off
          have ow_c1 := hnb.own
          have at_c1 : Of (Value.ownBlock v_c1) none W5.heap.size := hnb.fr
          clear hnb
          have ne_c1_t25 := own_ne at_c1 (fun h => by cases h) (blk_lt k_t25)
          have dj_c1_b := own_dj at_c1 (fun x h => by cases h) (Own.lt ow_b)
          have fr_c1 : Fr (Value.ownBlock v_c1) w.heap.size [] := own_fr at_c1 fr_none sz
          replace k_t25 := blk_off k_t25 hO nm0
          replace ow_b := Own.off ow_b hO f0
          replace off0 := off0.step hO i0
          replace sz := off0.size
          clear hO at_c1
          (refine wpL_val (v := ?_) (by rfl) ?_ ?_; rotate_left 1; (focus (go_simp; first | done | with_reducible rfl)))
          (try simp only [Act.put, List.setIfInBounds_toArray, List.set_cons_zero, List.set_cons_succ])
          (refine wpL_val (v := ?_) (by rfl) ?_ ?_; rotate_left 1; (focus (go_simp; first | done | with_reducible rfl)))
          (try simp only [Act.put, List.setIfInBounds_toArray, List.set_cons_zero, List.set_cons_succ])
          refine wpL_val (v := .int .i64 5) (by rfl) (by first | rfl | (go_simp; done) | (go_simp; with_reducible rfl) | (go_simp; omega)) ?_
          (try simp only [Act.put, List.setIfInBounds_toArray, List.set_cons_zero, List.set_cons_succ])
          (refine wpL_val (v := ?_) (by rfl) ?_ ?_; rotate_left 1; (focus (go_simp; first | done | with_reducible rfl)))
          (try simp only [Act.put, List.setIfInBounds_toArray, List.set_cons_zero, List.set_cons_succ])
          refine wpL_val (v := .int .i64 5) (by rfl) (by first | rfl | (go_simp; done) | (go_simp; with_reducible rfl) | (go_simp; omega)) ?_
          (try simp only [Act.put, List.setIfInBounds_toArray, List.set_cons_zero, List.set_cons_succ])
          refine wpL_nil ?_
          go_upto_region 15 with fail
          refine wp_region_lit ?_
          refine wpL_ret (codes_c W6) (by rfl) rfl (by kernel_rfl) rfl ?_
          (try simp only [Act.put, List.setIfInBounds_toArray, List.set_cons_zero, List.set_cons_succ])
          intro W7 hO
          replace k_t25 := blk_off k_t25 hO nm0
          replace ow_b := Own.off ow_b hO f0
          replace ow_c1 := Own.off ow_c1 hO f0
          replace off0 := off0.step hO i0
          replace sz := off0.size
          clear hO
          refine wpL_val (v := .bool false) (by rfl) (by first | rfl | (go_simp; done) | (go_simp; with_reducible rfl) | (go_simp; omega)) ?_
          (try simp only [Act.put, List.setIfInBounds_toArray, List.set_cons_zero, List.set_cons_succ])
          refine wpL_val (v := .bool false) (by rfl) (by first | rfl | (go_simp; done) | (go_simp; with_reducible rfl) | (go_simp; omega)) ?_
          (try simp only [Act.put, List.setIfInBounds_toArray, List.set_cons_zero, List.set_cons_succ])
          refine wpL_val (v := .int .i64 1) (by rfl) (by first | rfl | (go_simp; done) | (go_simp; with_reducible rfl) | (go_simp; omega)) ?_
          (try simp only [Act.put, List.setIfInBounds_toArray, List.set_cons_zero, List.set_cons_succ])
          refine wpL_val (v := .bool false) (by rfl) (by first | rfl | (go_simp; done) | (go_simp; with_reducible rfl) | (go_simp; omega)) ?_
          (try simp only [Act.put, List.setIfInBounds_toArray, List.set_cons_zero, List.set_cons_succ])
          refine wpL_val (v := .bool false) (by rfl) (by first | rfl | (go_simp; done) | (go_simp; with_reducible rfl) | (go_simp; omega)) ?_
          (try simp only [Act.put, List.setIfInBounds_toArray, List.set_cons_zero, List.set_cons_succ])
          refine wpL_nil ?_
          go_upto_region 17 with fail
          refine wp_region_lit ?_
          (refine wpL_val (v := ?_) (by rfl) ?_ ?_; rotate_left 1; (focus (go_simp; first | done | with_reducible rfl)))
          (try simp only [Act.put, List.setIfInBounds_toArray, List.set_cons_zero, List.set_cons_succ])
          refine wpL_str (l := (cL ps k)) (ow_c1.sl) (by rfl) rfl rfl ?_
          (try simp only [Act.put, List.setIfInBounds_toArray, List.set_cons_zero, List.set_cons_succ])
          (refine wpL_val (v := ?_) (by rfl) ?_ ?_; rotate_left 1; (focus (go_simp; first | done | with_reducible rfl)))
          (try simp only [Act.put, List.setIfInBounds_toArray, List.set_cons_zero, List.set_cons_succ])
          refine wpL_streq (l := (cL ps k)) (m := (cL ps k)) (b := true) (decide_eq_true rfl) (by rfl) rfl rfl rfl ?_
          (try simp only [Act.put, List.setIfInBounds_toArray, List.set_cons_zero, List.set_cons_succ])
          refine wpL_val (v := .bool true) (by rfl) (by first | rfl | (go_simp; done) | (go_simp; with_reducible rfl) | (go_simp; omega)) ?_
          (try simp only [Act.put, List.setIfInBounds_toArray, List.set_cons_zero, List.set_cons_succ])
          refine wpL_val (v := .int .i64 5) (by rfl) (by first | rfl | (go_simp; done) | (go_simp; with_reducible rfl) | (go_simp; omega)) ?_
          (try simp only [Act.put, List.setIfInBounds_toArray, List.set_cons_zero, List.set_cons_succ])
          refine wpL_val (v := .bool false) (by rfl) (by first | rfl | (go_simp; done) | (go_simp; with_reducible rfl) | (go_simp; omega)) ?_
          (try simp only [Act.put, List.setIfInBounds_toArray, List.set_cons_zero, List.set_cons_succ])
          refine wpL_val (v := .bool false) (by rfl) (by first | rfl | (go_simp; done) | (go_simp; with_reducible rfl) | (go_simp; omega)) ?_
          (try simp only [Act.put, List.setIfInBounds_toArray, List.set_cons_zero, List.set_cons_succ])
          refine wpL_val (v := .bool true) (by rfl) (by first | rfl | (go_simp; done) | (go_simp; with_reducible rfl) | (go_simp; omega)) ?_
          (try simp only [Act.put, List.setIfInBounds_toArray, List.set_cons_zero, List.set_cons_succ])
          refine wpL_val (v := .bool true) (by rfl) (by first | rfl | (go_simp; done) | (go_simp; with_reducible rfl) | (go_simp; omega)) ?_
          (try simp only [Act.put, List.setIfInBounds_toArray, List.set_cons_zero, List.set_cons_succ])
          refine wpL_val (v := .bool true) (by rfl) (by first | rfl | (go_simp; done) | (go_simp; with_reducible rfl) | (go_simp; omega)) ?_
          (try simp only [Act.put, List.setIfInBounds_toArray, List.set_cons_zero, List.set_cons_succ])
          refine wpL_val (v := .int .i64 5) (by rfl) (by first | rfl | (go_simp; done) | (go_simp; with_reducible rfl) | (go_simp; omega)) ?_
          (try simp only [Act.put, List.setIfInBounds_toArray, List.set_cons_zero, List.set_cons_succ])
          refine wpL_val (v := .bool false) (by rfl) (by first | rfl | (go_simp; done) | (go_simp; with_reducible rfl) | (go_simp; omega)) ?_
          (try simp only [Act.put, List.setIfInBounds_toArray, List.set_cons_zero, List.set_cons_succ])
          refine wpL_val (v := .bool false) (by rfl) (by first | rfl | (go_simp; done) | (go_simp; with_reducible rfl) | (go_simp; omega)) ?_
          (try simp only [Act.put, List.setIfInBounds_toArray, List.set_cons_zero, List.set_cons_succ])
          refine wpL_val (v := .int .i64 5) (by rfl) (by first | rfl | (go_simp; done) | (go_simp; with_reducible rfl) | (go_simp; omega)) ?_
          (try simp only [Act.put, List.setIfInBounds_toArray, List.set_cons_zero, List.set_cons_succ])
          refine wpL_val (v := .bool true) (by rfl) (by first | rfl | (go_simp; done) | (go_simp; with_reducible rfl) | (go_simp; omega)) ?_
          (try simp only [Act.put, List.setIfInBounds_toArray, List.set_cons_zero, List.set_cons_succ])
          refine wpL_val (v := .bool true) (by rfl) (by first | rfl | (go_simp; done) | (go_simp; with_reducible rfl) | (go_simp; omega)) ?_
          (try simp only [Act.put, List.setIfInBounds_toArray, List.set_cons_zero, List.set_cons_succ])
          refine wpL_val (v := .bool true) (by rfl) (by first | rfl | (go_simp; done) | (go_simp; with_reducible rfl) | (go_simp; omega)) ?_
          (try simp only [Act.put, List.setIfInBounds_toArray, List.set_cons_zero, List.set_cons_succ])
          refine wpL_val (v := .bool true) (by rfl) (by first | rfl | (go_simp; done) | (go_simp; with_reducible rfl) | (go_simp; omega)) ?_
          (try simp only [Act.put, List.setIfInBounds_toArray, List.set_cons_zero, List.set_cons_succ])
          refine wpL_nil ?_
          go_wp2
          exact bodyPost_ret (v := .bool true) (by simp only [results, Try.results3]; go_simp) rfl ⟨rfl, off0.ext⟩
      · have _f := hlt
        go_upto_region 8 with fail
        refine wp_region_lit ?_
        (refine wpL_val (v := ?_) (by rfl) ?_ ?_; rotate_left 1; (focus (go_simp; first | done | with_reducible rfl)))
        (try simp only [Act.put, List.setIfInBounds_toArray, List.set_cons_zero, List.set_cons_succ])
        (refine wpL_val (v := ?_) (by rfl) ?_ ?_; rotate_left 1; (focus (go_simp; first | done | with_reducible rfl)))
        (try simp only [Act.put, List.setIfInBounds_toArray, List.set_cons_zero, List.set_cons_succ])
        (refine wpL_val (v := ?_) (by rfl) ?_ ?_; rotate_left 1; (focus (go_simp; first | done | with_reducible rfl)))
        (try simp only [Act.put, List.setIfInBounds_toArray, List.set_cons_zero, List.set_cons_succ])
        refine wpL_val (v := .bool false) (by rfl) (by first | rfl | (go_simp; done) | (go_simp; with_reducible rfl) | (go_simp; omega)) ?_
        (try simp only [Act.put, List.setIfInBounds_toArray, List.set_cons_zero, List.set_cons_succ])
        refine wpL_val (v := .bool false) (by rfl) (by first | rfl | (go_simp; done) | (go_simp; with_reducible rfl) | (go_simp; omega)) ?_
        (try simp only [Act.put, List.setIfInBounds_toArray, List.set_cons_zero, List.set_cons_succ])
        refine wpL_skip (by rfl) ?_
        (try simp only [Act.put, List.setIfInBounds_toArray, List.set_cons_zero, List.set_cons_succ])
        refine wpL_skip (by rfl) ?_
        (try simp only [Act.put, List.setIfInBounds_toArray, List.set_cons_zero, List.set_cons_succ])
        refine wpL_val (v := .bool false) (by rfl) (by first | rfl | (go_simp; done) | (go_simp; with_reducible rfl) | (go_simp; omega)) ?_
        (try simp only [Act.put, List.setIfInBounds_toArray, List.set_cons_zero, List.set_cons_succ])
        refine wpL_nil ?_
        go_upto_region 14 with fail
        refine wp_region_lit ?_
        (refine wpL_val (v := ?_) (by rfl) ?_ ?_; rotate_left 1; (focus (go_simp; first | done | with_reducible rfl)))
        (try simp only [Act.put, List.setIfInBounds_toArray, List.set_cons_zero, List.set_cons_succ])
        refine wpL_call (R := fun r W => ∃ u, r = .tuple #[u, .int .i64 5] ∧ NewB W5 (cL ps k) u W) ((wbytes_true p25_4 _ (cL ps k) _ ⟨k_t25, ow_b⟩ (by first | omega | (simp only [List.length_append, List.length_cons, List.length_nil]; omega))).mono fun _ _ ⟨u, h1, h2⟩ => ⟨_, h1, u, rfl, h2⟩) (by rfl) rfl (by kernel_rfl) rfl ?_
        (try simp only [Act.put, List.setIfInBounds_toArray, List.set_cons_zero, List.set_cons_succ])
        rintro _ W6 ⟨v_c1, rfl, hnb⟩
        (try simp only [Act.put, List.setIfInBounds_toArray, List.set_cons_zero, List.set_cons_succ])
        have hO := hnb.off
        have ow_c1 := hnb.own
        have at_c1 : Of (Value.ownBlock v_c1) none W5.heap.size := hnb.fr
        clear hnb
        have ne_c1_t25 := own_ne at_c1 (fun h => by cases h) (blk_lt k_t25)
        have dj_c1_b := own_dj at_c1 (fun x h => by cases h) (Own.lt ow_b)
        have fr_c1 : Fr (Value.ownBlock v_c1) w.heap.size [] := own_fr at_c1 fr_none sz
        replace k_t25 := blk_off k_t25 hO nm0
        replace ow_b := Own.off ow_b hO f0
        replace off0 := off0.step hO i0
        replace sz := off0.size
        clear hO at_c1
        (refine wpL_val (v := ?_) (by rfl) ?_ ?_; rotate_left 1; (focus (go_simp; first | done | with_reducible rfl)))
        (try simp only [Act.put, List.setIfInBounds_toArray, List.set_cons_zero, List.set_cons_succ])
        (refine wpL_val (v := ?_) (by rfl) ?_ ?_; rotate_left 1; (focus (go_simp; first | done | with_reducible rfl)))
        (try simp only [Act.put, List.setIfInBounds_toArray, List.set_cons_zero, List.set_cons_succ])
        refine wpL_val (v := .int .i64 5) (by rfl) (by first | rfl | (go_simp; done) | (go_simp; with_reducible rfl) | (go_simp; omega)) ?_
        (try simp only [Act.put, List.setIfInBounds_toArray, List.set_cons_zero, List.set_cons_succ])
        (refine wpL_val (v := ?_) (by rfl) ?_ ?_; rotate_left 1; (focus (go_simp; first | done | with_reducible rfl)))
        (try simp only [Act.put, List.setIfInBounds_toArray, List.set_cons_zero, List.set_cons_succ])
        refine wpL_val (v := .int .i64 5) (by rfl) (by first | rfl | (go_simp; done) | (go_simp; with_reducible rfl) | (go_simp; omega)) ?_
        (try simp only [Act.put, List.setIfInBounds_toArray, List.set_cons_zero, List.set_cons_succ])
        refine wpL_nil ?_
        go_upto_region 15 with fail
        refine wp_region_lit ?_
        refine wpL_ret (codes_c W6) (by rfl) rfl (by kernel_rfl) rfl ?_
        (try simp only [Act.put, List.setIfInBounds_toArray, List.set_cons_zero, List.set_cons_succ])
        intro W7 hO
        replace k_t25 := blk_off k_t25 hO nm0
        replace ow_b := Own.off ow_b hO f0
        replace ow_c1 := Own.off ow_c1 hO f0
        replace off0 := off0.step hO i0
        replace sz := off0.size
        clear hO
        refine wpL_val (v := .bool false) (by rfl) (by first | rfl | (go_simp; done) | (go_simp; with_reducible rfl) | (go_simp; omega)) ?_
        (try simp only [Act.put, List.setIfInBounds_toArray, List.set_cons_zero, List.set_cons_succ])
        refine wpL_val (v := .bool false) (by rfl) (by first | rfl | (go_simp; done) | (go_simp; with_reducible rfl) | (go_simp; omega)) ?_
        (try simp only [Act.put, List.setIfInBounds_toArray, List.set_cons_zero, List.set_cons_succ])
        refine wpL_val (v := .int .i64 1) (by rfl) (by first | rfl | (go_simp; done) | (go_simp; with_reducible rfl) | (go_simp; omega)) ?_
        (try simp only [Act.put, List.setIfInBounds_toArray, List.set_cons_zero, List.set_cons_succ])
        refine wpL_val (v := .bool false) (by rfl) (by first | rfl | (go_simp; done) | (go_simp; with_reducible rfl) | (go_simp; omega)) ?_
        (try simp only [Act.put, List.setIfInBounds_toArray, List.set_cons_zero, List.set_cons_succ])
        refine wpL_val (v := .bool false) (by rfl) (by first | rfl | (go_simp; done) | (go_simp; with_reducible rfl) | (go_simp; omega)) ?_
        (try simp only [Act.put, List.setIfInBounds_toArray, List.set_cons_zero, List.set_cons_succ])
        refine wpL_nil ?_
        go_upto_region 17 with fail
        refine wp_region_lit ?_
        (refine wpL_val (v := ?_) (by rfl) ?_ ?_; rotate_left 1; (focus (go_simp; first | done | with_reducible rfl)))
        (try simp only [Act.put, List.setIfInBounds_toArray, List.set_cons_zero, List.set_cons_succ])
        refine wpL_str (l := (cL ps k)) (ow_c1.sl) (by rfl) rfl rfl ?_
        (try simp only [Act.put, List.setIfInBounds_toArray, List.set_cons_zero, List.set_cons_succ])
        (refine wpL_val (v := ?_) (by rfl) ?_ ?_; rotate_left 1; (focus (go_simp; first | done | with_reducible rfl)))
        (try simp only [Act.put, List.setIfInBounds_toArray, List.set_cons_zero, List.set_cons_succ])
        refine wpL_streq (l := (cL ps k)) (m := (cL ps k)) (b := true) (decide_eq_true rfl) (by rfl) rfl rfl rfl ?_
        (try simp only [Act.put, List.setIfInBounds_toArray, List.set_cons_zero, List.set_cons_succ])
        refine wpL_val (v := .bool true) (by rfl) (by first | rfl | (go_simp; done) | (go_simp; with_reducible rfl) | (go_simp; omega)) ?_
        (try simp only [Act.put, List.setIfInBounds_toArray, List.set_cons_zero, List.set_cons_succ])
        refine wpL_val (v := .int .i64 5) (by rfl) (by first | rfl | (go_simp; done) | (go_simp; with_reducible rfl) | (go_simp; omega)) ?_
        (try simp only [Act.put, List.setIfInBounds_toArray, List.set_cons_zero, List.set_cons_succ])
        refine wpL_val (v := .bool false) (by rfl) (by first | rfl | (go_simp; done) | (go_simp; with_reducible rfl) | (go_simp; omega)) ?_
        (try simp only [Act.put, List.setIfInBounds_toArray, List.set_cons_zero, List.set_cons_succ])
        refine wpL_val (v := .bool false) (by rfl) (by first | rfl | (go_simp; done) | (go_simp; with_reducible rfl) | (go_simp; omega)) ?_
        (try simp only [Act.put, List.setIfInBounds_toArray, List.set_cons_zero, List.set_cons_succ])
        refine wpL_val (v := .bool true) (by rfl) (by first | rfl | (go_simp; done) | (go_simp; with_reducible rfl) | (go_simp; omega)) ?_
        (try simp only [Act.put, List.setIfInBounds_toArray, List.set_cons_zero, List.set_cons_succ])
        refine wpL_val (v := .bool true) (by rfl) (by first | rfl | (go_simp; done) | (go_simp; with_reducible rfl) | (go_simp; omega)) ?_
        (try simp only [Act.put, List.setIfInBounds_toArray, List.set_cons_zero, List.set_cons_succ])
        refine wpL_val (v := .bool true) (by rfl) (by first | rfl | (go_simp; done) | (go_simp; with_reducible rfl) | (go_simp; omega)) ?_
        (try simp only [Act.put, List.setIfInBounds_toArray, List.set_cons_zero, List.set_cons_succ])
        refine wpL_val (v := .int .i64 5) (by rfl) (by first | rfl | (go_simp; done) | (go_simp; with_reducible rfl) | (go_simp; omega)) ?_
        (try simp only [Act.put, List.setIfInBounds_toArray, List.set_cons_zero, List.set_cons_succ])
        refine wpL_val (v := .bool false) (by rfl) (by first | rfl | (go_simp; done) | (go_simp; with_reducible rfl) | (go_simp; omega)) ?_
        (try simp only [Act.put, List.setIfInBounds_toArray, List.set_cons_zero, List.set_cons_succ])
        refine wpL_val (v := .bool false) (by rfl) (by first | rfl | (go_simp; done) | (go_simp; with_reducible rfl) | (go_simp; omega)) ?_
        (try simp only [Act.put, List.setIfInBounds_toArray, List.set_cons_zero, List.set_cons_succ])
        refine wpL_val (v := .int .i64 5) (by rfl) (by first | rfl | (go_simp; done) | (go_simp; with_reducible rfl) | (go_simp; omega)) ?_
        (try simp only [Act.put, List.setIfInBounds_toArray, List.set_cons_zero, List.set_cons_succ])
        refine wpL_val (v := .bool true) (by rfl) (by first | rfl | (go_simp; done) | (go_simp; with_reducible rfl) | (go_simp; omega)) ?_
        (try simp only [Act.put, List.setIfInBounds_toArray, List.set_cons_zero, List.set_cons_succ])
        refine wpL_val (v := .bool true) (by rfl) (by first | rfl | (go_simp; done) | (go_simp; with_reducible rfl) | (go_simp; omega)) ?_
        (try simp only [Act.put, List.setIfInBounds_toArray, List.set_cons_zero, List.set_cons_succ])
        refine wpL_val (v := .bool true) (by rfl) (by first | rfl | (go_simp; done) | (go_simp; with_reducible rfl) | (go_simp; omega)) ?_
        (try simp only [Act.put, List.setIfInBounds_toArray, List.set_cons_zero, List.set_cons_succ])
        refine wpL_val (v := .bool true) (by rfl) (by first | rfl | (go_simp; done) | (go_simp; with_reducible rfl) | (go_simp; omega)) ?_
        (try simp only [Act.put, List.setIfInBounds_toArray, List.set_cons_zero, List.set_cons_succ])
        refine wpL_nil ?_
        go_wp2
        exact bodyPost_ret (v := .bool true) (by simp only [results, Try.results3]; go_simp) rfl ⟨rfl, off0.ext⟩
    · have _f := True.intro
      have HR := Lib.hid hR
      clear hR
      by_cases hlt : k < ps.length
      · have _f := hlt
        by_cases h20 : k < 20
        · have _f := h20
          go_upto_region 8 with fail
          refine wp_region_lit ?_
          (refine wpL_val (v := ?_) (by rfl) ?_ ?_; rotate_left 1; (focus (go_simp; first | done | with_reducible rfl)))
          (try simp only [Act.put, List.setIfInBounds_toArray, List.set_cons_zero, List.set_cons_succ])
          (refine wpL_val (v := ?_) (by rfl) ?_ ?_; rotate_left 1; (focus (go_simp; first | done | with_reducible rfl)))
          (try simp only [Act.put, List.setIfInBounds_toArray, List.set_cons_zero, List.set_cons_succ])
          (refine wpL_val (v := ?_) (by rfl) ?_ ?_; rotate_left 1; (focus (go_simp; first | done | with_reducible rfl)))
          (try simp only [Act.put, List.setIfInBounds_toArray, List.set_cons_zero, List.set_cons_succ])
          refine wpL_val (v := .bool true) (by rfl) (by first | rfl | (go_simp; done) | (go_simp; with_reducible rfl) | (go_simp; omega)) ?_
          (try simp only [Act.put, List.setIfInBounds_toArray, List.set_cons_zero, List.set_cons_succ])
          refine wpL_val (v := .bool true) (by rfl) (by first | rfl | (go_simp; done) | (go_simp; with_reducible rfl) | (go_simp; omega)) ?_
          (try simp only [Act.put, List.setIfInBounds_toArray, List.set_cons_zero, List.set_cons_succ])
          (refine wpL_val (v := ?_) (by rfl) ?_ ?_; rotate_left 1; (focus (go_simp; first | done | with_reducible rfl)))
          (try simp only [Act.put, List.setIfInBounds_toArray, List.set_cons_zero, List.set_cons_succ])
          refine wpL_val (v := .bool true) (by rfl) (by first | rfl | (go_simp; done) | (go_simp; with_reducible rfl) | (go_simp; omega)) ?_
          (try simp only [Act.put, List.setIfInBounds_toArray, List.set_cons_zero, List.set_cons_succ])
          refine wpL_val (v := .bool true) (by rfl) (by first | rfl | (go_simp; done) | (go_simp; with_reducible rfl) | (go_simp; omega)) ?_
          (try simp only [Act.put, List.setIfInBounds_toArray, List.set_cons_zero, List.set_cons_succ])
          refine wpL_nil ?_
          go_upto_region 10 with fail
          refine wp_region_lit ?_
          (refine wpL_val (v := ?_) (by rfl) ?_ ?_; rotate_left 1; (focus (go_simp; first | done | with_reducible rfl)))
          (try simp only [Act.put, List.setIfInBounds_toArray, List.set_cons_zero, List.set_cons_succ])
          (refine wpL_val (v := ?_) (by rfl) ?_ ?_; rotate_left 1; (focus (go_simp; first | done | with_reducible rfl)))
          (try simp only [Act.put, List.setIfInBounds_toArray, List.set_cons_zero, List.set_cons_succ])
          obtain ⟨q, ad, hq, rfl, hcell⟩ := pts_at hps.out off0 hlt
          have hpl : (partB q.kind q.N q.S q.text).length ≤ 302 := ptB_len q
          refine wpL_ixp (j := k) hlt (by rfl) rfl rfl rfl ?_
          (try simp only [Act.put, List.setIfInBounds_toArray, List.set_cons_zero, List.set_cons_succ])
          refine wpL_ldp (q := q) hcell (by rfl) rfl rfl ?_
          (try simp only [Act.put, List.setIfInBounds_toArray, List.set_cons_zero, List.set_cons_succ])
          clear hcell
          refine wpL_ret (tame_c q.K q.N (q.K % 18446744073709551616).toNat (by omega) q.S q.T q.hS W5) (by rfl) rfl (by kernel_rfl) rfl ?_
          (try simp only [Act.put, List.setIfInBounds_toArray, List.set_cons_zero, List.set_cons_succ])
          intro W6 hO
          replace k_t25 := blk_off k_t25 hO nm0
          replace ow_b := Own.off ow_b hO f0
          replace off0 := off0.step hO i0
          replace sz := off0.size
          clear hO
          refine wpL_new (z := partC 0 0 (List.replicate 32 0) []) (t := 34) (by rfl) (by first | kernel_rfl | (go_simp; done) | (go_simp; rfl)) ?_
          (try simp only [Act.put, List.setIfInBounds_toArray, List.set_cons_zero, List.set_cons_succ])
          intro p10_7 W7 n_t10 hO h_
          have nq_t25_t10 : p25_4 ≠ p10_7 := Nat.ne_of_lt (Nat.lt_of_lt_of_le (blk_lt k_t25) n_t10)
          have ne_b_t10 := ne_new (Own.lt ow_b) n_t10
          have fb_t10 : Fb p10_7 w.heap.size [] := fb_new (Nat.le_trans sz n_t10)
          replace k_t25 := blk_off k_t25 hO nm0
          replace ow_b := Own.off ow_b hO f0
          replace off0 := off0.step hO i0
          replace sz := off0.size
          have k_t10 := h_
          clear hO h_ n_t10
          refine wpL_putrow (cells := partC ((1 + (q.K % 18446744073709551616).toNat % 5 : Nat) : Int) q.N q.S (q.T.take (min q.T.length 300))) (by rfl) rfl rfl rfl k_t10 (by rw [partC_size q.hS]; kernel_rfl) (by rw [partC_size (List.length_replicate), partC_size q.hS]) (by exact partC_one _ _ _ _) ?_
          (try simp only [Act.put, List.setIfInBounds_toArray, List.set_cons_zero, List.set_cons_succ])
          intro W8 hO h_
          replace k_t10 : Blk W8 p10_7 (partC ((1 + (q.K % 18446744073709551616).toNat % 5 : Nat) : Int) q.N q.S (q.T.take (min q.T.length 300))) 34 := h_
          clear h_
          replace k_t25 := blk_off k_t25 hO (nm1 nq_t25_t10)
          replace ow_b := Own.off ow_b hO (f1 ne_b_t10)
          replace off0 := off0.step hO (i1 fb_t10)
          replace sz := off0.size
          clear hO
          refine wpL_nil ?_
          go_upto_region 11 with fail
          refine wp_region_lit ?_
          (refine wpL_val (v := ?_) (by rfl) ?_ ?_; rotate_left 1; (focus (go_simp; first | done | with_reducible rfl)))
          (try simp only [Act.put, List.setIfInBounds_toArray, List.set_cons_zero, List.set_cons_succ])
          refine wpL_load0 (by rfl) rfl rfl k_t10 (by kernel_rfl) (by rw [partC_size q.hS]; kernel_rfl) ?_
          (try simp only [Act.put, List.setIfInBounds_toArray, List.set_cons_zero, List.set_cons_succ])
          refine wpL_callv (write_c q.kind q.N q.S q.text q.hS q.kind_ok (by have := q.text_len; omega) p25_4 _ _ _ _ ⟨k_t25, ow_b⟩ (by omega)) (by rfl) rfl (by kernel_rfl) rfl ?_
          (try simp only [Act.put, List.setIfInBounds_toArray, List.set_cons_zero, List.set_cons_succ])
          rintro W9 ⟨v_b1, hto⟩
          have at_b1 := hto.fr
          have hO := hto.off
          have kk := hto.wr.1
          have ow_b1 := hto.wr.2
          clear hto
          have ne_b1_t25 := own_ne at_b1 ne_b_t25 (blk_lt k_t25)
          have ne_b1_t10 := own_ne at_b1 ne_b_t10 (blk_lt k_t10)
          have fr_b1 := own_fr at_b1 fr_b sz
          replace k_t10 := blk_off k_t10 hO (nmc nq_t25_t10.symm (nmo ne_b_t10))
          replace off0 := off0.step hO (ic fb_t25 (io fr_b))
          replace sz := off0.size
          replace k_t25 := kk
          have ne_b1_t25 := Own.ne_blk ow_b1 k_t25 (by decide)
          clear hO at_b1 kk
          refine wpL_nil ?_
          go_upto_region 12 with fail
          refine wp_region_lit ?_
          refine wpL_load0 (by rfl) rfl rfl k_t10 (by kernel_rfl) (by rw [partC_size q.hS]; kernel_rfl) ?_
          (try simp only [Act.put, List.setIfInBounds_toArray, List.set_cons_zero, List.set_cons_succ])
          refine wpL_ret (rwrite_c q.kind q.N q.S q.text q.hS q.kind_ok (by have := q.text_len; omega) W9) (by rfl) rfl (by kernel_rfl) rfl ?_
          (try simp only [Act.put, List.setIfInBounds_toArray, List.set_cons_zero, List.set_cons_succ])
          intro W10 hO
          replace k_t25 := blk_off k_t25 hO nm0
          replace k_t10 := blk_off k_t10 hO nm0
          replace ow_b1 := Own.off ow_b1 hO f0
          replace off0 := off0.step hO i0
          replace sz := off0.size
          clear hO
          (refine wpL_val (v := ?_) (by rfl) ?_ ?_; rotate_left 1; (focus (go_simp; first | done | with_reducible rfl)))
          (try simp only [Act.put, List.setIfInBounds_toArray, List.set_cons_zero, List.set_cons_succ])
          (refine wpL_val (v := ?_) (by rfl) ?_ ?_; rotate_left 1; (focus (go_simp; first | done | with_reducible rfl)))
          (try simp only [Act.put, List.setIfInBounds_toArray, List.set_cons_zero, List.set_cons_succ])
          refine wpL_val (v := .bool (partOk q.kind q.N)) (by rfl) (by first | rfl | (go_simp; done) | (go_simp; with_reducible rfl) | (go_simp; omega)) ?_
          (try simp only [Act.put, List.setIfInBounds_toArray, List.set_cons_zero, List.set_cons_succ])
          (refine wpL_val (v := ?_) (by rfl) ?_ ?_; rotate_left 1; (focus (go_simp; first | done | with_reducible rfl)))
          (try simp only [Act.put, List.setIfInBounds_toArray, List.set_cons_zero, List.set_cons_succ])
          refine wpL_val (v := .bool (partOk q.kind q.N)) (by rfl) (by first | rfl | (go_simp; done) | (go_simp; with_reducible rfl) | (go_simp; omega)) ?_
          (try simp only [Act.put, List.setIfInBounds_toArray, List.set_cons_zero, List.set_cons_succ])
          refine wpL_nil ?_
          go_upto_region 13 with fail
          refine wp_region_lit ?_
          (refine wpL_val (v := ?_) (by rfl) ?_ ?_; rotate_left 1; (focus (go_simp; first | done | with_reducible rfl)))
          (try simp only [Act.put, List.setIfInBounds_toArray, List.set_cons_zero, List.set_cons_succ])
          (refine wpL_val (v := ?_) (by rfl) ?_ ?_; rotate_left 1; (focus (go_simp; first | done | with_reducible rfl)))
          (try simp only [Act.put, List.setIfInBounds_toArray, List.set_cons_zero, List.set_cons_succ])
          refine wpL_cat (l := (cL ps k)) (m := (partB q.kind q.N q.S q.text)) (by first | omega | (simp only [List.length_append, List.length_cons, List.length_nil]; omega)) (by rfl) rfl rfl rfl ?_
          (try simp only [Act.put, List.setIfInBounds_toArray, List.set_cons_zero, List.set_cons_succ])
          refine wpL_val (v := .bool true) (by rfl) (by first | rfl | (go_simp; done) | (go_simp; with_reducible rfl) | (go_simp; omega)) ?_
          (try simp only [Act.put, List.setIfInBounds_toArray, List.set_cons_zero, List.set_cons_succ])
          refine wpL_val (v := .bool true) (by rfl) (by first | rfl | (go_simp; done) | (go_simp; with_reducible rfl) | (go_simp; omega)) ?_
          (try simp only [Act.put, List.setIfInBounds_toArray, List.set_cons_zero, List.set_cons_succ])
          refine wpL_val (v := .bool (partOk q.kind q.N)) (by rfl) (by first | rfl | (go_simp; done) | (go_simp; with_reducible rfl) | (go_simp; omega)) ?_
          (try simp only [Act.put, List.setIfInBounds_toArray, List.set_cons_zero, List.set_cons_succ])
          refine wpL_val (v := .bool (partOk q.kind q.N)) (by rfl) (by first | rfl | (go_simp; done) | (go_simp; with_reducible rfl) | (go_simp; omega)) ?_
          (try simp only [Act.put, List.setIfInBounds_toArray, List.set_cons_zero, List.set_cons_succ])
          (refine wpL_val (v := ?_) (by rfl) ?_ ?_; rotate_left 1; (focus (go_simp; first | done | with_reducible rfl)))
          (try simp only [Act.put, List.setIfInBounds_toArray, List.set_cons_zero, List.set_cons_succ])
          refine wpL_val (v := .bool (partOk q.kind q.N)) (by rfl) (by first | rfl | (go_simp; done) | (go_simp; with_reducible rfl) | (go_simp; omega)) ?_
          (try simp only [Act.put, List.setIfInBounds_toArray, List.set_cons_zero, List.set_cons_succ])
          refine wpL_nil ?_
          have ow_b := ow_b1
          clear ow_b1
          have fr_b := fr_b1
          have ne_b_t25 := ne_b1_t25
          have ne_b_t10 := ne_b1_t10
          have hL1 : cL ps (k + 1) = cL ps k ++ partB q.kind q.N q.S q.text := cL_succ hq
          go_wp2
          go_roundw
          case rel => exact ⟨k + 1, (true && partOk q.kind q.N), _, ⟨by omega, by omega⟩, by rw [cR_succ hq, ← HR.out]; rfl, by rw [hL1], rfl, by go_num, off0, (by rw [show (!(true && partOk q.kind q.N)) = (!true || !partOk q.kind q.N) by simp]; exact k_t25), (by rw [hL1]; exact ow_b), fr_b, ne_b_t25⟩
          case measure => simp [intOf]; omega
        · have _f := h20
          go_upto_region 8 with fail
          refine wp_region_lit ?_
          (refine wpL_val (v := ?_) (by rfl) ?_ ?_; rotate_left 1; (focus (go_simp; first | done | with_reducible rfl)))
          (try simp only [Act.put, List.setIfInBounds_toArray, List.set_cons_zero, List.set_cons_succ])
          (refine wpL_val (v := ?_) (by rfl) ?_ ?_; rotate_left 1; (focus (go_simp; first | done | with_reducible rfl)))
          (try simp only [Act.put, List.setIfInBounds_toArray, List.set_cons_zero, List.set_cons_succ])
          (refine wpL_val (v := ?_) (by rfl) ?_ ?_; rotate_left 1; (focus (go_simp; first | done | with_reducible rfl)))
          (try simp only [Act.put, List.setIfInBounds_toArray, List.set_cons_zero, List.set_cons_succ])
          refine wpL_val (v := .bool true) (by rfl) (by first | rfl | (go_simp; done) | (go_simp; with_reducible rfl) | (go_simp; omega)) ?_
          (try simp only [Act.put, List.setIfInBounds_toArray, List.set_cons_zero, List.set_cons_succ])
          refine wpL_val (v := .bool true) (by rfl) (by first | rfl | (go_simp; done) | (go_simp; with_reducible rfl) | (go_simp; omega)) ?_
          (try simp only [Act.put, List.setIfInBounds_toArray, List.set_cons_zero, List.set_cons_succ])
          (refine wpL_val (v := ?_) (by rfl) ?_ ?_; rotate_left 1; (focus (go_simp; first | done | with_reducible rfl)))
          (try simp only [Act.put, List.setIfInBounds_toArray, List.set_cons_zero, List.set_cons_succ])
          refine wpL_val (v := .bool false) (by rfl) (by first | rfl | (go_simp; done) | (go_simp; with_reducible rfl) | (go_simp; omega)) ?_
          (try simp only [Act.put, List.setIfInBounds_toArray, List.set_cons_zero, List.set_cons_succ])
          refine wpL_val (v := .bool false) (by rfl) (by first | rfl | (go_simp; done) | (go_simp; with_reducible rfl) | (go_simp; omega)) ?_
          (try simp only [Act.put, List.setIfInBounds_toArray, List.set_cons_zero, List.set_cons_succ])
          refine wpL_nil ?_
          go_upto_region 14 with fail
          refine wp_region_lit ?_
          (refine wpL_val (v := ?_) (by rfl) ?_ ?_; rotate_left 1; (focus (go_simp; first | done | with_reducible rfl)))
          (try simp only [Act.put, List.setIfInBounds_toArray, List.set_cons_zero, List.set_cons_succ])
          refine wpL_call (R := fun r W => ∃ u, r = .tuple #[u, .int .i64 0] ∧ NewB W5 (cL ps k) u W) ((wbytes_false p25_4 _ (cL ps k) _ ⟨k_t25, ow_b⟩ (by first | omega | (simp only [List.length_append, List.length_cons, List.length_nil]; omega))).mono fun _ _ ⟨u, h1, h2⟩ => ⟨_, h1, u, rfl, h2⟩) (by rfl) rfl (by kernel_rfl) rfl ?_
          (try simp only [Act.put, List.setIfInBounds_toArray, List.set_cons_zero, List.set_cons_succ])
          rintro _ W6 ⟨v_c1, rfl, hnb⟩
          (try simp only [Act.put, List.setIfInBounds_toArray, List.set_cons_zero, List.set_cons_succ])
          have hO := hnb.off
          have ow_c1 := hnb.own
          have at_c1 : Of (Value.ownBlock v_c1) none W5.heap.size := hnb.fr
          clear hnb
          have ne_c1_t25 := own_ne at_c1 (fun h => by cases h) (blk_lt k_t25)
          have dj_c1_b := own_dj at_c1 (fun x h => by cases h) (Own.lt ow_b)
          have fr_c1 : Fr (Value.ownBlock v_c1) w.heap.size [] := own_fr at_c1 fr_none sz
          replace k_t25 := blk_off k_t25 hO nm0
          replace ow_b := Own.off ow_b hO f0
          replace off0 := off0.step hO i0
          replace sz := off0.size
          clear hO at_c1
          (refine wpL_val (v := ?_) (by rfl) ?_ ?_; rotate_left 1; (focus (go_simp; first | done | with_reducible rfl)))
          (try simp only [Act.put, List.setIfInBounds_toArray, List.set_cons_zero, List.set_cons_succ])
          (refine wpL_val (v := ?_) (by rfl) ?_ ?_; rotate_left 1; (focus (go_simp; first | done | with_reducible rfl)))
          (try simp only [Act.put, List.setIfInBounds_toArray, List.set_cons_zero, List.set_cons_succ])
          refine wpL_val (v := .int .i64 0) (by rfl) (by first | rfl | (go_simp; done) | (go_simp; with_reducible rfl) | (go_simp; omega)) ?_
          (try simp only [Act.put, List.setIfInBounds_toArray, List.set_cons_zero, List.set_cons_succ])
          (refine wpL_val (v := ?_) (by rfl) ?_ ?_; rotate_left 1; (focus (go_simp; first | done | with_reducible rfl)))
          (try simp only [Act.put, List.setIfInBounds_toArray, List.set_cons_zero, List.set_cons_succ])
          refine wpL_val (v := .int .i64 0) (by rfl) (by first | rfl | (go_simp; done) | (go_simp; with_reducible rfl) | (go_simp; omega)) ?_
          (try simp only [Act.put, List.setIfInBounds_toArray, List.set_cons_zero, List.set_cons_succ])
          refine wpL_nil ?_
          go_upto_region 15 with fail
          refine wp_region_lit ?_
          refine wpL_ret (codes_c W6) (by rfl) rfl (by kernel_rfl) rfl ?_
          (try simp only [Act.put, List.setIfInBounds_toArray, List.set_cons_zero, List.set_cons_succ])
          intro W7 hO
          replace k_t25 := blk_off k_t25 hO nm0
          replace ow_b := Own.off ow_b hO f0
          replace ow_c1 := Own.off ow_c1 hO f0
          replace off0 := off0.step hO i0
          replace sz := off0.size
          clear hO
          refine wpL_val (v := .bool false) (by rfl) (by first | rfl | (go_simp; done) | (go_simp; with_reducible rfl) | (go_simp; omega)) ?_
          (try simp only [Act.put, List.setIfInBounds_toArray, List.set_cons_zero, List.set_cons_succ])
          refine wpL_val (v := .bool false) (by rfl) (by first | rfl | (go_simp; done) | (go_simp; with_reducible rfl) | (go_simp; omega)) ?_
          (try simp only [Act.put, List.setIfInBounds_toArray, List.set_cons_zero, List.set_cons_succ])
          refine wpL_val (v := .int .i64 1) (by rfl) (by first | rfl | (go_simp; done) | (go_simp; with_reducible rfl) | (go_simp; omega)) ?_
          (try simp only [Act.put, List.setIfInBounds_toArray, List.set_cons_zero, List.set_cons_succ])
          refine wpL_val (v := .bool false) (by rfl) (by first | rfl | (go_simp; done) | (go_simp; with_reducible rfl) | (go_simp; omega)) ?_
          (try simp only [Act.put, List.setIfInBounds_toArray, List.set_cons_zero, List.set_cons_succ])
          refine wpL_val (v := .bool false) (by rfl) (by first | rfl | (go_simp; done) | (go_simp; with_reducible rfl) | (go_simp; omega)) ?_
          (try simp only [Act.put, List.setIfInBounds_toArray, List.set_cons_zero, List.set_cons_succ])
          refine wpL_nil ?_
          go_upto_region 17 with fail
          refine wp_region_lit ?_
          (refine wpL_val (v := ?_) (by rfl) ?_ ?_; rotate_left 1; (focus (go_simp; first | done | with_reducible rfl)))
          (try simp only [Act.put, List.setIfInBounds_toArray, List.set_cons_zero, List.set_cons_succ])
          refine wpL_str (l := (cL ps k)) (ow_c1.sl) (by rfl) rfl rfl ?_
          (try simp only [Act.put, List.setIfInBounds_toArray, List.set_cons_zero, List.set_cons_succ])
          (refine wpL_val (v := ?_) (by rfl) ?_ ?_; rotate_left 1; (focus (go_simp; first | done | with_reducible rfl)))
          (try simp only [Act.put, List.setIfInBounds_toArray, List.set_cons_zero, List.set_cons_succ])
          refine wpL_streq (l := (cL ps k)) (m := (cL ps k)) (b := true) (decide_eq_true rfl) (by rfl) rfl rfl rfl ?_
          (try simp only [Act.put, List.setIfInBounds_toArray, List.set_cons_zero, List.set_cons_succ])
          refine wpL_val (v := .bool true) (by rfl) (by first | rfl | (go_simp; done) | (go_simp; with_reducible rfl) | (go_simp; omega)) ?_
          (try simp only [Act.put, List.setIfInBounds_toArray, List.set_cons_zero, List.set_cons_succ])
          refine wpL_val (v := .int .i64 0) (by rfl) (by first | rfl | (go_simp; done) | (go_simp; with_reducible rfl) | (go_simp; omega)) ?_
          (try simp only [Act.put, List.setIfInBounds_toArray, List.set_cons_zero, List.set_cons_succ])
          refine wpL_val (v := .bool true) (by rfl) (by first | rfl | (go_simp; done) | (go_simp; with_reducible rfl) | (go_simp; omega)) ?_
          (try simp only [Act.put, List.setIfInBounds_toArray, List.set_cons_zero, List.set_cons_succ])
          refine wpL_val (v := .bool true) (by rfl) (by first | rfl | (go_simp; done) | (go_simp; with_reducible rfl) | (go_simp; omega)) ?_
          (try simp only [Act.put, List.setIfInBounds_toArray, List.set_cons_zero, List.set_cons_succ])
          refine wpL_val (v := .bool true) (by rfl) (by first | rfl | (go_simp; done) | (go_simp; with_reducible rfl) | (go_simp; omega)) ?_
          (try simp only [Act.put, List.setIfInBounds_toArray, List.set_cons_zero, List.set_cons_succ])
          refine wpL_val (v := .bool true) (by rfl) (by first | rfl | (go_simp; done) | (go_simp; with_reducible rfl) | (go_simp; omega)) ?_
          (try simp only [Act.put, List.setIfInBounds_toArray, List.set_cons_zero, List.set_cons_succ])
          refine wpL_val (v := .bool true) (by rfl) (by first | rfl | (go_simp; done) | (go_simp; with_reducible rfl) | (go_simp; omega)) ?_
          (try simp only [Act.put, List.setIfInBounds_toArray, List.set_cons_zero, List.set_cons_succ])
          refine wpL_val (v := .int .i64 0) (by rfl) (by first | rfl | (go_simp; done) | (go_simp; with_reducible rfl) | (go_simp; omega)) ?_
          (try simp only [Act.put, List.setIfInBounds_toArray, List.set_cons_zero, List.set_cons_succ])
          refine wpL_val (v := .bool true) (by rfl) (by first | rfl | (go_simp; done) | (go_simp; with_reducible rfl) | (go_simp; omega)) ?_
          (try simp only [Act.put, List.setIfInBounds_toArray, List.set_cons_zero, List.set_cons_succ])
          refine wpL_val (v := .bool true) (by rfl) (by first | rfl | (go_simp; done) | (go_simp; with_reducible rfl) | (go_simp; omega)) ?_
          (try simp only [Act.put, List.setIfInBounds_toArray, List.set_cons_zero, List.set_cons_succ])
          refine wpL_skip (by rfl) ?_
          (try simp only [Act.put, List.setIfInBounds_toArray, List.set_cons_zero, List.set_cons_succ])
          refine wpL_skip (by rfl) ?_
          (try simp only [Act.put, List.setIfInBounds_toArray, List.set_cons_zero, List.set_cons_succ])
          refine wpL_val (v := .bool true) (by rfl) (by first | rfl | (go_simp; done) | (go_simp; with_reducible rfl) | (go_simp; omega)) ?_
          (try simp only [Act.put, List.setIfInBounds_toArray, List.set_cons_zero, List.set_cons_succ])
          refine wpL_val (v := .bool true) (by rfl) (by first | rfl | (go_simp; done) | (go_simp; with_reducible rfl) | (go_simp; omega)) ?_
          (try simp only [Act.put, List.setIfInBounds_toArray, List.set_cons_zero, List.set_cons_succ])
          refine wpL_val (v := .bool true) (by rfl) (by first | rfl | (go_simp; done) | (go_simp; with_reducible rfl) | (go_simp; omega)) ?_
          (try simp only [Act.put, List.setIfInBounds_toArray, List.set_cons_zero, List.set_cons_succ])
          refine wpL_nil ?_
          go_wp2
          exact bodyPost_ret (v := .bool true) (by simp only [results, Try.results3]; go_simp) rfl ⟨rfl, off0.ext⟩
      · have _f := hlt
        go_upto_region 8 with fail
        refine wp_region_lit ?_
        (refine wpL_val (v := ?_) (by rfl) ?_ ?_; rotate_left 1; (focus (go_simp; first | done | with_reducible rfl)))
        (try simp only [Act.put, List.setIfInBounds_toArray, List.set_cons_zero, List.set_cons_succ])
        (refine wpL_val (v := ?_) (by rfl) ?_ ?_; rotate_left 1; (focus (go_simp; first | done | with_reducible rfl)))
        (try simp only [Act.put, List.setIfInBounds_toArray, List.set_cons_zero, List.set_cons_succ])
        (refine wpL_val (v := ?_) (by rfl) ?_ ?_; rotate_left 1; (focus (go_simp; first | done | with_reducible rfl)))
        (try simp only [Act.put, List.setIfInBounds_toArray, List.set_cons_zero, List.set_cons_succ])
        refine wpL_val (v := .bool false) (by rfl) (by first | rfl | (go_simp; done) | (go_simp; with_reducible rfl) | (go_simp; omega)) ?_
        (try simp only [Act.put, List.setIfInBounds_toArray, List.set_cons_zero, List.set_cons_succ])
        refine wpL_val (v := .bool false) (by rfl) (by first | rfl | (go_simp; done) | (go_simp; with_reducible rfl) | (go_simp; omega)) ?_
        (try simp only [Act.put, List.setIfInBounds_toArray, List.set_cons_zero, List.set_cons_succ])
        refine wpL_skip (by rfl) ?_
        (try simp only [Act.put, List.setIfInBounds_toArray, List.set_cons_zero, List.set_cons_succ])
        refine wpL_skip (by rfl) ?_
        (try simp only [Act.put, List.setIfInBounds_toArray, List.set_cons_zero, List.set_cons_succ])
        refine wpL_val (v := .bool false) (by rfl) (by first | rfl | (go_simp; done) | (go_simp; with_reducible rfl) | (go_simp; omega)) ?_
        (try simp only [Act.put, List.setIfInBounds_toArray, List.set_cons_zero, List.set_cons_succ])
        refine wpL_nil ?_
        go_upto_region 14 with fail
        refine wp_region_lit ?_
        (refine wpL_val (v := ?_) (by rfl) ?_ ?_; rotate_left 1; (focus (go_simp; first | done | with_reducible rfl)))
        (try simp only [Act.put, List.setIfInBounds_toArray, List.set_cons_zero, List.set_cons_succ])
        refine wpL_call (R := fun r W => ∃ u, r = .tuple #[u, .int .i64 0] ∧ NewB W5 (cL ps k) u W) ((wbytes_false p25_4 _ (cL ps k) _ ⟨k_t25, ow_b⟩ (by first | omega | (simp only [List.length_append, List.length_cons, List.length_nil]; omega))).mono fun _ _ ⟨u, h1, h2⟩ => ⟨_, h1, u, rfl, h2⟩) (by rfl) rfl (by kernel_rfl) rfl ?_
        (try simp only [Act.put, List.setIfInBounds_toArray, List.set_cons_zero, List.set_cons_succ])
        rintro _ W6 ⟨v_c1, rfl, hnb⟩
        (try simp only [Act.put, List.setIfInBounds_toArray, List.set_cons_zero, List.set_cons_succ])
        have hO := hnb.off
        have ow_c1 := hnb.own
        have at_c1 : Of (Value.ownBlock v_c1) none W5.heap.size := hnb.fr
        clear hnb
        have ne_c1_t25 := own_ne at_c1 (fun h => by cases h) (blk_lt k_t25)
        have dj_c1_b := own_dj at_c1 (fun x h => by cases h) (Own.lt ow_b)
        have fr_c1 : Fr (Value.ownBlock v_c1) w.heap.size [] := own_fr at_c1 fr_none sz
        replace k_t25 := blk_off k_t25 hO nm0
        replace ow_b := Own.off ow_b hO f0
        replace off0 := off0.step hO i0
        replace sz := off0.size
        clear hO at_c1
        (refine wpL_val (v := ?_) (by rfl) ?_ ?_; rotate_left 1; (focus (go_simp; first | done | with_reducible rfl)))
        (try simp only [Act.put, List.setIfInBounds_toArray, List.set_cons_zero, List.set_cons_succ])
        (refine wpL_val (v := ?_) (by rfl) ?_ ?_; rotate_left 1; (focus (go_simp; first | done | with_reducible rfl)))
        (try simp only [Act.put, List.setIfInBounds_toArray, List.set_cons_zero, List.set_cons_succ])
        refine wpL_val (v := .int .i64 0) (by rfl) (by first | rfl | (go_simp; done) | (go_simp; with_reducible rfl) | (go_simp; omega)) ?_
        (try simp only [Act.put, List.setIfInBounds_toArray, List.set_cons_zero, List.set_cons_succ])
        (refine wpL_val (v := ?_) (by rfl) ?_ ?_; rotate_left 1; (focus (go_simp; first | done | with_reducible rfl)))
        (try simp only [Act.put, List.setIfInBounds_toArray, List.set_cons_zero, List.set_cons_succ])
        refine wpL_val (v := .int .i64 0) (by rfl) (by first | rfl | (go_simp; done) | (go_simp; with_reducible rfl) | (go_simp; omega)) ?_
        (try simp only [Act.put, List.setIfInBounds_toArray, List.set_cons_zero, List.set_cons_succ])
        refine wpL_nil ?_
        go_upto_region 15 with fail
        refine wp_region_lit ?_
        refine wpL_ret (codes_c W6) (by rfl) rfl (by kernel_rfl) rfl ?_
        (try simp only [Act.put, List.setIfInBounds_toArray, List.set_cons_zero, List.set_cons_succ])
        intro W7 hO
        replace k_t25 := blk_off k_t25 hO nm0
        replace ow_b := Own.off ow_b hO f0
        replace ow_c1 := Own.off ow_c1 hO f0
        replace off0 := off0.step hO i0
        replace sz := off0.size
        clear hO
        refine wpL_val (v := .bool false) (by rfl) (by first | rfl | (go_simp; done) | (go_simp; with_reducible rfl) | (go_simp; omega)) ?_
        (try simp only [Act.put, List.setIfInBounds_toArray, List.set_cons_zero, List.set_cons_succ])
        refine wpL_val (v := .bool false) (by rfl) (by first | rfl | (go_simp; done) | (go_simp; with_reducible rfl) | (go_simp; omega)) ?_
        (try simp only [Act.put, List.setIfInBounds_toArray, List.set_cons_zero, List.set_cons_succ])
        refine wpL_val (v := .int .i64 1) (by rfl) (by first | rfl | (go_simp; done) | (go_simp; with_reducible rfl) | (go_simp; omega)) ?_
        (try simp only [Act.put, List.setIfInBounds_toArray, List.set_cons_zero, List.set_cons_succ])
        refine wpL_val (v := .bool false) (by rfl) (by first | rfl | (go_simp; done) | (go_simp; with_reducible rfl) | (go_simp; omega)) ?_
        (try simp only [Act.put, List.setIfInBounds_toArray, List.set_cons_zero, List.set_cons_succ])
        refine wpL_val (v := .bool false) (by rfl) (by first | rfl | (go_simp; done) | (go_simp; with_reducible rfl) | (go_simp; omega)) ?_
        (try simp only [Act.put, List.setIfInBounds_toArray, List.set_cons_zero, List.set_cons_succ])
        refine wpL_nil ?_
        go_upto_region 17 with fail
        refine wp_region_lit ?_
        (refine wpL_val (v := ?_) (by rfl) ?_ ?_; rotate_left 1; (focus (go_simp; first | done | with_reducible rfl)))
        (try simp only [Act.put, List.setIfInBounds_toArray, List.set_cons_zero, List.set_cons_succ])
        refine wpL_str (l := (cL ps k)) (ow_c1.sl) (by rfl) rfl rfl ?_
        (try simp only [Act.put, List.setIfInBounds_toArray, List.set_cons_zero, List.set_cons_succ])
        (refine wpL_val (v := ?_) (by rfl) ?_ ?_; rotate_left 1; (focus (go_simp; first | done | with_reducible rfl)))
        (try simp only [Act.put, List.setIfInBounds_toArray, List.set_cons_zero, List.set_cons_succ])
        refine wpL_streq (l := (cL ps k)) (m := (cL ps k)) (b := true) (decide_eq_true rfl) (by rfl) rfl rfl rfl ?_
        (try simp only [Act.put, List.setIfInBounds_toArray, List.set_cons_zero, List.set_cons_succ])
        refine wpL_val (v := .bool true) (by rfl) (by first | rfl | (go_simp; done) | (go_simp; with_reducible rfl) | (go_simp; omega)) ?_
        (try simp only [Act.put, List.setIfInBounds_toArray, List.set_cons_zero, List.set_cons_succ])
        refine wpL_val (v := .int .i64 0) (by rfl) (by first | rfl | (go_simp; done) | (go_simp; with_reducible rfl) | (go_simp; omega)) ?_
        (try simp only [Act.put, List.setIfInBounds_toArray, List.set_cons_zero, List.set_cons_succ])
        refine wpL_val (v := .bool true) (by rfl) (by first | rfl | (go_simp; done) | (go_simp; with_reducible rfl) | (go_simp; omega)) ?_
        (try simp only [Act.put, List.setIfInBounds_toArray, List.set_cons_zero, List.set_cons_succ])
        refine wpL_val (v := .bool true) (by rfl) (by first | rfl | (go_simp; done) | (go_simp; with_reducible rfl) | (go_simp; omega)) ?_
        (try simp only [Act.put, List.setIfInBounds_toArray, List.set_cons_zero, List.set_cons_succ])
        refine wpL_val (v := .bool true) (by rfl) (by first | rfl | (go_simp; done) | (go_simp; with_reducible rfl) | (go_simp; omega)) ?_
        (try simp only [Act.put, List.setIfInBounds_toArray, List.set_cons_zero, List.set_cons_succ])
        refine wpL_val (v := .bool true) (by rfl) (by first | rfl | (go_simp; done) | (go_simp; with_reducible rfl) | (go_simp; omega)) ?_
        (try simp only [Act.put, List.setIfInBounds_toArray, List.set_cons_zero, List.set_cons_succ])
        refine wpL_val (v := .bool true) (by rfl) (by first | rfl | (go_simp; done) | (go_simp; with_reducible rfl) | (go_simp; omega)) ?_
        (try simp only [Act.put, List.setIfInBounds_toArray, List.set_cons_zero, List.set_cons_succ])
        refine wpL_val (v := .int .i64 0) (by rfl) (by first | rfl | (go_simp; done) | (go_simp; with_reducible rfl) | (go_simp; omega)) ?_
        (try simp only [Act.put, List.setIfInBounds_toArray, List.set_cons_zero, List.set_cons_succ])
        refine wpL_val (v := .bool true) (by rfl) (by first | rfl | (go_simp; done) | (go_simp; with_reducible rfl) | (go_simp; omega)) ?_
        (try simp only [Act.put, List.setIfInBounds_toArray, List.set_cons_zero, List.set_cons_succ])
        refine wpL_val (v := .bool true) (by rfl) (by first | rfl | (go_simp; done) | (go_simp; with_reducible rfl) | (go_simp; omega)) ?_
        (try simp only [Act.put, List.setIfInBounds_toArray, List.set_cons_zero, List.set_cons_succ])
        refine wpL_skip (by rfl) ?_
        (try simp only [Act.put, List.setIfInBounds_toArray, List.set_cons_zero, List.set_cons_succ])
        refine wpL_skip (by rfl) ?_
        (try simp only [Act.put, List.setIfInBounds_toArray, List.set_cons_zero, List.set_cons_succ])
        refine wpL_val (v := .bool true) (by rfl) (by first | rfl | (go_simp; done) | (go_simp; with_reducible rfl) | (go_simp; omega)) ?_
        (try simp only [Act.put, List.setIfInBounds_toArray, List.set_cons_zero, List.set_cons_succ])
        refine wpL_val (v := .bool true) (by rfl) (by first | rfl | (go_simp; done) | (go_simp; with_reducible rfl) | (go_simp; omega)) ?_
        (try simp only [Act.put, List.setIfInBounds_toArray, List.set_cons_zero, List.set_cons_succ])
        refine wpL_val (v := .bool true) (by rfl) (by first | rfl | (go_simp; done) | (go_simp; with_reducible rfl) | (go_simp; omega)) ?_
        (try simp only [Act.put, List.setIfInBounds_toArray, List.set_cons_zero, List.set_cons_succ])
        refine wpL_nil ?_
        go_wp2
        exact bodyPost_ret (v := .bool true) (by simp only [results, Try.results3]; go_simp) rfl ⟨rfl, off0.ext⟩
end Go.Proofs.Yteniajdmmffamaa

/- sha5.spread: a block as 80 words. Conditions: the slice has 128 bytes. -/
import Derived.Test.YtfkhogeaadldnaaDoorShA
import Derived.Test.YtfkhogeaadldnaaDoorGc
namespace Go.Proofs.YtfkhogeaadldnaaDoor
set_option linter.unusedSimpArgs false
set_option linter.unusedVariables false
open Go.RowKit
attribute [local irreducible] wpList

theorem run_cv {w : World} {o : Oper} {a : Act} {x : Operand} {c : UInt8} (ho : o.op = .convert 5 31 x) (hx : a.eval x = .int .u8 (c.toNat : Int)) : (execOp a.eval o).run Tryd.prog w = .ok (.value (.int .u64 (c.toNat : Int))) w := by
  have hc := c.toNat_lt
  have hw : IntKind.wrap .u64 (c.toNat : Int) = (c.toNat : Int) := by rw [IntKind.wrap_u64]; omega
  simp [execOp, ho, hx, convert, run_underlying Tryd.underlying5, run_underlying Tryd.underlying31, Sem.run_bind, Conv.intToInt, hw]
/-- the first k bytes of word i -/
def wrd (b : Nat → Int) (i : Nat) : Nat → Int
  | 0 => 0
  | k + 1 => oo (sl (wrd b i k) 8) (b (8 * i + k))
def sg (f : Nat → Int) (i : Nat) : Int := ad (ad (ad (f (i - 16)) (xo (xo (rt (f (i - 15)) 1) (rt (f (i - 15)) 8)) (sr (f (i - 15)) 7))) (f (i - 7))) (xo (xo (rt (f (i - 2)) 19) (rt (f (i - 2)) 61)) (sr (f (i - 2)) 6))
/-- the words of a block, as far as i -/
def sch (b : Nat → Int) : Nat → Nat → Int
  | 0 => fun _ => 0
  | i + 1 => upd (sch b i) i (if i < 16 then wrd b i 8 else sg (sch b i) i)
theorem sch_hi {b : Nat → Int} {i : Nat} (h : 16 ≤ i) : upd (sch b i) i (sg (sch b i) i) = sch b (i + 1) := by
  show _ = upd (sch b i) i (if i < 16 then wrd b i 8 else sg (sch b i) i)
  rw [if_neg (by omega)]
theorem sch_lo (b : Nat → Int) : ∀ i, i ≤ 16 → ∀ j, sch b i j = if j < i then wrd b j 8 else 0
  | 0, _, j => by simp [sch]
  | i + 1, h, j => by
    show upd (sch b i) i (if i < 16 then wrd b i 8 else sg (sch b i) i) j = _
    rw [if_pos (by omega)]
    unfold upd
    by_cases hj : j = i
    · rw [if_pos hj, if_pos (by omega), hj]
    · rw [if_neg hj, sch_lo b i (by omega) j]
      by_cases hl : j < i
      · rw [if_pos hl, if_pos (by omega)]
      · rw [if_neg hl, if_neg (by omega)]
/-- the words behind n bytes -/
def fst (b : Nat → Int) (n j : Nat) : Int := if j < n / 8 then wrd b j 8 else if j = n / 8 then wrd b j (n % 8) else 0
theorem fst_step (b : Nat → Int) (n : Nat) : upd (fst b n) (n / 8) (oo (sl (fst b n (n / 8)) 8) (b n)) = fst b (n + 1) := by
  funext j
  have e : fst b n (n / 8) = wrd b (n / 8) (n % 8) := by unfold fst; rw [if_neg (by omega), if_pos rfl]
  have hb : b n = b (8 * (n / 8) + n % 8) := by rw [Nat.div_add_mod]
  rw [e, hb]
  show (if j = n / 8 then wrd b (n / 8) (n % 8 + 1) else fst b n j) = fst b (n + 1) j
  unfold fst
  by_cases hm : n % 8 = 7
  · have h1 : (n + 1) / 8 = n / 8 + 1 := by omega
    have h2 : (n + 1) % 8 = 0 := by omega
    rw [h1, h2, hm]
    by_cases hj : j = n / 8
    · rw [if_pos hj, if_pos (by omega), hj]
    · rw [if_neg hj]
      by_cases hl : j < n / 8
      · rw [if_pos hl, if_pos (by omega)]
      · rw [if_neg hl, if_neg hj, if_neg (by omega)]
        split
        · rfl
        · rfl
  · have h1 : (n + 1) / 8 = n / 8 := by omega
    have h2 : (n + 1) % 8 = n % 8 + 1 := by omega
    rw [h1, h2]
    by_cases hj : j = n / 8
    · rw [if_pos hj, if_neg (by omega), if_pos hj, hj]
    · rw [if_neg hj]
      by_cases hl : j < n / 8
      · rw [if_pos hl, if_pos hl]
      · rw [if_neg hl, if_neg hj, if_neg hl, if_neg hj]
theorem fst_end (b : Nat → Int) : fst b 128 = sch b 16 := by
  funext j
  rw [sch_lo b 16 (Nat.le_refl _) j]
  unfold fst
  by_cases h : j < 16
  · rw [if_pos (by omega), if_pos h]
  · rw [if_neg (by omega), if_neg h]
    split
    · rename_i h2; rw [show 128 % 8 = 0 by rfl]; rfl
    · rfl
theorem fst_zero (b : Nat → Int) : fst b 0 = fun _ => 0 := by
  funext j
  unfold fst
  rw [if_neg (by omega)]
  split <;> rfl

set_option maxRecDepth 100000 in
set_option maxHeartbeats 4000000 in
theorem spread_c (l : List UInt8) (adr : Addr) (c : Nat) (hl : 128 ≤ l.length) (w : World) (hs : Sl w (.slice (some adr) l.length c) l) :
    Calls Tryd.prog 18 #[.slice (some adr) l.length c] w fun e w' => Ret (.agg (arrK .u64 80 (sch (bt l) 80))) w w' e := by
  have off0 : Off [] w w := Off.refl _ _
  have sz := off0.size
  have ow_a := hs
  go_enter Tryd.func18, Tryd.ntmps18
  go_upto_region 0 with fail
  refine wp_region_lit ?_
  refine wpL_new (z := arrK .u64 80 (fun _ => 0)) (t := 38) (by rfl) (by first | kernel_rfl | (go_simp; done) | (go_simp; rfl)) ?_
  (try simp only [Act.put, List.setIfInBounds_toArray, List.set_cons_zero, List.set_cons_succ])
  intro p2_1 W1 n_t2 hO h_
  have ne_a_t2 := ne_new (Sl.lt ow_a) n_t2
  have fb_t2 : Fb p2_1 w.heap.size [] := fb_new (Nat.le_trans sz n_t2)
  replace ow_a := Sl.off ow_a hO f0
  replace off0 := off0.step hO i0
  replace sz := off0.size
  have k_t2 := h_
  clear hO h_ n_t2
  refine wpL_nil ?_
  go_upto_region 1 with fail
  refine wp_region_lit ?_
  refine wpL_new (z := arrK .u64 80 (fun _ => 0)) (t := 38) (by rfl) (by first | kernel_rfl | (go_simp; done) | (go_simp; rfl)) ?_
  (try simp only [Act.put, List.setIfInBounds_toArray, List.set_cons_zero, List.set_cons_succ])
  intro p3_2 W2 n_t3 hO h_
  have nq_t2_t3 : p2_1 ≠ p3_2 := Nat.ne_of_lt (Nat.lt_of_lt_of_le (blk_lt k_t2) n_t3)
  have ne_a_t3 := ne_new (Sl.lt ow_a) n_t3
  have fb_t3 : Fb p3_2 w.heap.size [] := fb_new (Nat.le_trans sz n_t3)
  replace k_t2 := blk_off k_t2 hO nm0
  replace ow_a := Sl.off ow_a hO f0
  replace off0 := off0.step hO i0
  replace sz := off0.size
  have k_t3 := h_
  clear hO h_ n_t3
  refine wpL_nil ?_
  go_wp2_with fail
  go_loopw [8] (fun ii wr => ∃ (n : Nat), (n ≤ 128) ∧ (ii = .int .i64 (n : Int)) ∧ Off [] w wr ∧ Blk wr p2_1 (arrK .u64 80 (fun _ => 0)) 38 ∧ Blk wr p3_2 (arrK .u64 80 (fst (bt l) n)) 38 ∧ Sl wr (.slice (some adr) l.length c) l)
    (fun ii _ => 128 - (intOf ii).toNat)
  case atStart => exact ⟨0, Nat.zero_le _, rfl, off0, k_t2, (by rw [fst_zero]; exact k_t3), ow_a⟩
  case round =>
    obtain ⟨n, hn, rfl, off0, k_t2, k_t3, ow_a⟩ := hrel
    obtain ⟨W3, eW_⟩ := wname off0
    subst eW_
    have sz := off0.size
    by_cases h128 : n < 128
    · have _f := h128
      go_upto_region 3 with fail
      refine wp_region_lit ?_
      refine wpL_val (v := .bool true) (by rfl) (by first | rfl | (go_simp; done) | (go_simp; with_reducible rfl) | (go_simp; omega)) ?_
      (try simp only [Act.put, List.setIfInBounds_toArray, List.set_cons_zero, List.set_cons_succ])
      refine wpL_nil ?_
      go_upto_region 5 with fail
      refine wp_region_xn 14 [] (by kernel_rfl) (fun x hx => by cases hx) (by kernel_rfl) ?_
      simp only [List.take_succ_cons, List.take_zero, List.take_nil]
      (try simp only [Act.put, List.setIfInBounds_toArray, List.set_cons_zero, List.set_cons_succ])
      (refine wpX_val (v := ?_) (by rfl) (fun W hW => ?_) ?_; rotate_left 1; (focus (go_simp; first | done | with_reducible rfl)); (try simp only [Act.put, List.setIfInBounds_toArray, List.set_cons_zero, List.set_cons_succ]))
      refine wpX_val (v := .int .i64 (((n / 8 : Nat) : Int))) (by rfl) (fun _ _ => by go_simp; (try simp only [IntKind.wrap_u64, IntKind.wrap_i64]); (try omega)) ?_
      (try simp only [Act.put, List.setIfInBounds_toArray, List.set_cons_zero, List.set_cons_succ])
      (refine wpX_val (v := ?_) (by rfl) (fun W hW => ?_) ?_; rotate_left 1; (focus (go_simp; first | done | with_reducible rfl)); (try simp only [Act.put, List.setIfInBounds_toArray, List.set_cons_zero, List.set_cons_succ]))
      refine wpX_val (v := .int .i64 (((n / 8 : Nat) : Int))) (by rfl) (fun _ _ => by go_simp; (try simp only [IntKind.wrap_u64, IntKind.wrap_i64]); (try omega)) ?_
      (try simp only [Act.put, List.setIfInBounds_toArray, List.set_cons_zero, List.set_cons_succ])
      refine wpX_val (v := .pointer (some ⟨p3_2, 0 + (n / 8), none⟩)) (by rfl) (fun _ _ => run_ixarr (m := 80) (by decide) (by omega) Tryd.underlying38 (by kernel_rfl) rfl rfl rfl) ?_
      (try simp only [Act.put, List.setIfInBounds_toArray, List.set_cons_zero, List.set_cons_succ])
      refine wpX_cell (v := .int .u64 ((fst (bt l) n) (n / 8))) (blk_rd k_t3) (by rw [Nat.zero_add]; exact arrK_get _ _ _ _ (by omega)) (by rfl) rfl rfl (by kernel_rfl) ?_
      (try simp only [Act.put, List.setIfInBounds_toArray, List.set_cons_zero, List.set_cons_succ])
      refine wpX_val (v := .int .u64 (sl ((fst (bt l) n) (n / 8)) 8)) (by rfl) (fun _ _ => run_shl (n := 8) (by decide) rfl rfl rfl) ?_
      (try simp only [Act.put, List.setIfInBounds_toArray, List.set_cons_zero, List.set_cons_succ])
      (refine wpX_val (v := ?_) (by rfl) (fun W hW => ?_) ?_; rotate_left 1; (focus (go_simp; first | done | with_reducible rfl)); (try simp only [Act.put, List.setIfInBounds_toArray, List.set_cons_zero, List.set_cons_succ]))
      (refine wpX_val (v := ?_) (by rfl) (fun W hW => ?_) ?_; rotate_left 1; (focus (go_simp; first | done | with_reducible rfl)); (try simp only [Act.put, List.setIfInBounds_toArray, List.set_cons_zero, List.set_cons_succ]))
      refine wpX_val (v := .pointer (some (adr.add n))) (by rfl) (fun W hW => run_ixa (j := n) (by omega) rfl rfl rfl) ?_
      (try simp only [Act.put, List.setIfInBounds_toArray, List.set_cons_zero, List.set_cons_succ])
      refine wpX_at (by rfl) rfl rfl (fun W hW => cell_ext (sl_at ow_a (getD_some (by omega))) hW) (by kernel_rfl) ?_
      (try simp only [Act.put, List.setIfInBounds_toArray, List.set_cons_zero, List.set_cons_succ])
      refine wpX_val (v := .int .u64 (bt l n)) (by rfl) (fun _ _ => by exact run_cv rfl rfl) ?_
      (try simp only [Act.put, List.setIfInBounds_toArray, List.set_cons_zero, List.set_cons_succ])
      refine wpX_val (v := .int .u64 (oo (sl ((fst (bt l) n) (n / 8)) 8) (bt l n))) (by rfl) (fun _ _ => run_or rfl rfl rfl) ?_
      (try simp only [Act.put, List.setIfInBounds_toArray, List.set_cons_zero, List.set_cons_succ])
      refine wpX_val (v := .pointer (some ⟨p3_2, 0 + (n / 8), none⟩)) (by rfl) (fun _ _ => run_ixarr (m := 80) (by decide) (by omega) Tryd.underlying38 (by kernel_rfl) rfl rfl rfl) ?_
      (try simp only [Act.put, List.setIfInBounds_toArray, List.set_cons_zero, List.set_cons_succ])
      refine wpX_nil ?_
      intro β W4 hE hN hD
      clear hN hD
      simp only [putAll, Act.put, List.setIfInBounds_toArray, List.set_cons_zero, List.set_cons_succ, List.drop_succ_cons, List.drop_zero, List.drop_nil, List.length_nil, Nat.add_zero]
      have hO := off_ext hE
      replace k_t2 := blk_off k_t2 hO nm0
      replace k_t3 := blk_off k_t3 hO nm0
      replace ow_a := Sl.off ow_a hO f0
      replace off0 := off0.step hO i0
      replace sz := off0.size
      clear hO hE β
      refine wpL_put1 (v := .int .u64 (oo (sl ((fst (bt l) n) (n / 8)) 8) (bt l n))) ⟨rfl, rfl⟩ (by rfl) rfl rfl rfl k_t3 (by rw [arrK_size, Nat.zero_add]; omega) (by kernel_rfl) ?_
      (try simp only [Act.put, List.setIfInBounds_toArray, List.set_cons_zero, List.set_cons_succ])
      intro W5 hO h_
      rw [Nat.zero_add, arrK_set] at h_
      replace k_t3 : Blk W5 p3_2 (arrK .u64 80 (upd (fst (bt l) n) (n / 8) (oo (sl ((fst (bt l) n) (n / 8)) 8) (bt l n)))) 38 := h_
      clear h_
      replace k_t2 := blk_off k_t2 hO (nm1 nq_t2_t3)
      replace ow_a := Sl.off ow_a hO (f1 ne_a_t3)
      replace off0 := off0.step hO (i1 fb_t3)
      replace sz := off0.size
      clear hO
      refine wpL_nil ?_
      first | refine NoPanic.normal (Q := Exit.then _ _) ?_ | refine NoPanic.normal ?_
      go_wp2
      go_roundw
      case rel => exact ⟨n + 1, by omega, by go_num, off0, k_t2, (by rw [← fst_step]; exact k_t3), ow_a⟩
      case measure => simp [intOf]; omega
    · have _f := h128
      obtain rfl : n = 128 := by omega
      rw [fst_end] at k_t3
      go_upto_region 3 with fail
      refine wp_region_lit ?_
      refine wpL_val (v := .bool false) (by rfl) (by first | rfl | (go_simp; done) | (go_simp; with_reducible rfl) | (go_simp; omega)) ?_
      (try simp only [Act.put, List.setIfInBounds_toArray, List.set_cons_zero, List.set_cons_succ])
      refine wpL_nil ?_
      go_wp2_with fail
      go_loopw [5] (fun ii wr => ∃ (i : Nat), (16 ≤ i ∧ i ≤ 80) ∧ (ii = .int .i64 (i : Int)) ∧ Off [] w wr ∧ Blk wr p2_1 (arrK .u64 80 (fun _ => 0)) 38 ∧ Blk wr p3_2 (arrK .u64 80 (sch (bt l) i)) 38 ∧ Sl wr (.slice (some adr) l.length c) l)
        (fun ii _ => 80 - (intOf ii).toNat)
      case atStart => exact ⟨16, ⟨Nat.le_refl _, by decide⟩, rfl, off0, k_t2, k_t3, ow_a⟩
      case round =>
        obtain ⟨i, ⟨hi, hi2⟩, rfl, off0, k_t2, k_t3, ow_a⟩ := hrel
        obtain ⟨W4, eW_⟩ := wname off0
        subst eW_
        have sz := off0.size
        by_cases h80 : i < 80
        · have _f := h80
          go_upto_region 8 with fail
          refine wp_region_lit ?_
          (refine wpL_val (v := ?_) (by rfl) ?_ ?_; rotate_left 1; (focus (go_simp; first | done | with_reducible rfl)))
          (try simp only [Act.put, List.setIfInBounds_toArray, List.set_cons_zero, List.set_cons_succ])
          refine wpL_val (v := .bool true) (by rfl) (by first | rfl | (go_simp; done) | (go_simp; with_reducible rfl) | (go_simp; omega)) ?_
          (try simp only [Act.put, List.setIfInBounds_toArray, List.set_cons_zero, List.set_cons_succ])
          refine wpL_nil ?_
          go_upto_region 10 with fail
          refine wp_region_xn 10 [] (by kernel_rfl) (fun x hx => by cases hx) (by kernel_rfl) ?_
          simp only [List.take_succ_cons, List.take_zero, List.take_nil]
          (try simp only [Act.put, List.setIfInBounds_toArray, List.set_cons_zero, List.set_cons_succ])
          (refine wpX_val (v := ?_) (by rfl) (fun W hW => ?_) ?_; rotate_left 1; (focus (go_simp; first | done | with_reducible rfl)); (try simp only [Act.put, List.setIfInBounds_toArray, List.set_cons_zero, List.set_cons_succ]))
          refine wpX_val (v := .int .i64 (((i - 15 : Nat) : Int))) (by rfl) (fun _ _ => by go_simp; (try simp only [IntKind.wrap_u64, IntKind.wrap_i64]); (try omega)) ?_
          (try simp only [Act.put, List.setIfInBounds_toArray, List.set_cons_zero, List.set_cons_succ])
          refine wpX_val (v := .pointer (some ⟨p3_2, 0 + (i - 15), none⟩)) (by rfl) (fun _ _ => run_ixarr (m := 80) (by decide) (by omega) Tryd.underlying38 (by kernel_rfl) rfl rfl rfl) ?_
          (try simp only [Act.put, List.setIfInBounds_toArray, List.set_cons_zero, List.set_cons_succ])
          refine wpX_cell (v := .int .u64 ((sch (bt l) i) (i - 15))) (blk_rd k_t3) (by rw [Nat.zero_add]; exact arrK_get _ _ _ _ (by omega)) (by rfl) rfl rfl (by kernel_rfl) ?_
          (try simp only [Act.put, List.setIfInBounds_toArray, List.set_cons_zero, List.set_cons_succ])
          (refine wpX_val (v := ?_) (by rfl) (fun W hW => ?_) ?_; rotate_left 1; (focus (go_simp; first | done | with_reducible rfl)); (try simp only [Act.put, List.setIfInBounds_toArray, List.set_cons_zero, List.set_cons_succ]))
          refine wpX_val (v := .int .i64 (((i - 2 : Nat) : Int))) (by rfl) (fun _ _ => by go_simp; (try simp only [IntKind.wrap_u64, IntKind.wrap_i64]); (try omega)) ?_
          (try simp only [Act.put, List.setIfInBounds_toArray, List.set_cons_zero, List.set_cons_succ])
          refine wpX_val (v := .pointer (some ⟨p3_2, 0 + (i - 2), none⟩)) (by rfl) (fun _ _ => run_ixarr (m := 80) (by decide) (by omega) Tryd.underlying38 (by kernel_rfl) rfl rfl rfl) ?_
          (try simp only [Act.put, List.setIfInBounds_toArray, List.set_cons_zero, List.set_cons_succ])
          refine wpX_cell (v := .int .u64 ((sch (bt l) i) (i - 2))) (blk_rd k_t3) (by rw [Nat.zero_add]; exact arrK_get _ _ _ _ (by omega)) (by rfl) rfl rfl (by kernel_rfl) ?_
          (try simp only [Act.put, List.setIfInBounds_toArray, List.set_cons_zero, List.set_cons_succ])
          (refine wpX_val (v := ?_) (by rfl) (fun W hW => ?_) ?_; rotate_left 1; (focus (go_simp; first | done | with_reducible rfl)); (try simp only [Act.put, List.setIfInBounds_toArray, List.set_cons_zero, List.set_cons_succ]))
          (refine wpX_val (v := ?_) (by rfl) (fun W hW => ?_) ?_; rotate_left 1; (focus (go_simp; first | done | with_reducible rfl)); (try simp only [Act.put, List.setIfInBounds_toArray, List.set_cons_zero, List.set_cons_succ]))
          refine wpX_nil ?_
          intro β W5 hE hN hD
          clear hN hD
          simp only [putAll, Act.put, List.setIfInBounds_toArray, List.set_cons_zero, List.set_cons_succ, List.drop_succ_cons, List.drop_zero, List.drop_nil, List.length_nil, Nat.add_zero]
          have hO := off_ext hE
          replace k_t2 := blk_off k_t2 hO nm0
          replace k_t3 := blk_off k_t3 hO nm0
          replace ow_a := Sl.off ow_a hO f0
          replace off0 := off0.step hO i0
          replace sz := off0.size
          clear hO hE β
          refine wpL_nil ?_
          first | refine NoPanic.normal (Q := Exit.then _ _) ?_ | refine NoPanic.normal ?_
          go_upto_region 11 with fail
          refine wp_region_xn 29 [] (by kernel_rfl) (fun x hx => by cases hx) (by kernel_rfl) ?_
          simp only [List.take_succ_cons, List.take_zero, List.take_nil]
          (try simp only [Act.put, List.setIfInBounds_toArray, List.set_cons_zero, List.set_cons_succ])
          (refine wpX_val (v := ?_) (by rfl) (fun W hW => ?_) ?_; rotate_left 1; (focus (go_simp; first | done | with_reducible rfl)); (try simp only [Act.put, List.setIfInBounds_toArray, List.set_cons_zero, List.set_cons_succ]))
          (refine wpX_val (v := ?_) (by rfl) (fun W hW => ?_) ?_; rotate_left 1; (focus (go_simp; first | done | with_reducible rfl)); (try simp only [Act.put, List.setIfInBounds_toArray, List.set_cons_zero, List.set_cons_succ]))
          refine wpX_val (v := .int .i64 (((i - 16 : Nat) : Int))) (by rfl) (fun _ _ => by go_simp; (try simp only [IntKind.wrap_u64, IntKind.wrap_i64]); (try omega)) ?_
          (try simp only [Act.put, List.setIfInBounds_toArray, List.set_cons_zero, List.set_cons_succ])
          refine wpX_val (v := .pointer (some ⟨p3_2, 0 + (i - 16), none⟩)) (by rfl) (fun _ _ => run_ixarr (m := 80) (by decide) (by omega) Tryd.underlying38 (by kernel_rfl) rfl rfl rfl) ?_
          (try simp only [Act.put, List.setIfInBounds_toArray, List.set_cons_zero, List.set_cons_succ])
          refine wpX_cell (v := .int .u64 ((sch (bt l) i) (i - 16))) (blk_rd k_t3) (by rw [Nat.zero_add]; exact arrK_get _ _ _ _ (by omega)) (by rfl) rfl rfl (by kernel_rfl) ?_
          (try simp only [Act.put, List.setIfInBounds_toArray, List.set_cons_zero, List.set_cons_succ])
          (refine wpX_val (v := ?_) (by rfl) (fun W hW => ?_) ?_; rotate_left 1; (focus (go_simp; first | done | with_reducible rfl)); (try simp only [Act.put, List.setIfInBounds_toArray, List.set_cons_zero, List.set_cons_succ]))
          ((with_reducible refine wpX_fn (fun W hW => turn_c ((sch (bt l) i) (i - 15)) 1 (by decide) (by decide) W) ?_ rfl ?_ ?_ ?_); (focus rfl); (focus kernel_rfl); (focus rfl); (try simp only [Act.put, List.setIfInBounds_toArray, List.set_cons_zero, List.set_cons_succ]))
          (refine wpX_val (v := ?_) (by rfl) (fun W hW => ?_) ?_; rotate_left 1; (focus (go_simp; first | done | with_reducible rfl)); (try simp only [Act.put, List.setIfInBounds_toArray, List.set_cons_zero, List.set_cons_succ]))
          ((with_reducible refine wpX_fn (fun W hW => turn_c ((sch (bt l) i) (i - 15)) 8 (by decide) (by decide) W) ?_ rfl ?_ ?_ ?_); (focus rfl); (focus kernel_rfl); (focus rfl); (try simp only [Act.put, List.setIfInBounds_toArray, List.set_cons_zero, List.set_cons_succ]))
          refine wpX_val (v := .int .u64 (xo (rt ((sch (bt l) i) (i - 15)) 1) (rt ((sch (bt l) i) (i - 15)) 8))) (by rfl) (fun _ _ => run_xor rfl rfl rfl) ?_
          (try simp only [Act.put, List.setIfInBounds_toArray, List.set_cons_zero, List.set_cons_succ])
          (refine wpX_val (v := ?_) (by rfl) (fun W hW => ?_) ?_; rotate_left 1; (focus (go_simp; first | done | with_reducible rfl)); (try simp only [Act.put, List.setIfInBounds_toArray, List.set_cons_zero, List.set_cons_succ]))
          refine wpX_val (v := .int .u64 (sr ((sch (bt l) i) (i - 15)) 7)) (by rfl) (fun _ _ => run_shr (n := 7) (by decide) rfl rfl rfl) ?_
          (try simp only [Act.put, List.setIfInBounds_toArray, List.set_cons_zero, List.set_cons_succ])
          refine wpX_val (v := .int .u64 (xo (xo (rt ((sch (bt l) i) (i - 15)) 1) (rt ((sch (bt l) i) (i - 15)) 8)) (sr ((sch (bt l) i) (i - 15)) 7))) (by rfl) (fun _ _ => run_xor rfl rfl rfl) ?_
          (try simp only [Act.put, List.setIfInBounds_toArray, List.set_cons_zero, List.set_cons_succ])
          refine wpX_val (v := .int .u64 (ad ((sch (bt l) i) (i - 16)) (xo (xo (rt ((sch (bt l) i) (i - 15)) 1) (rt ((sch (bt l) i) (i - 15)) 8)) (sr ((sch (bt l) i) (i - 15)) 7)))) (by rfl) (fun _ _ => run_add rfl rfl rfl) ?_
          (try simp only [Act.put, List.setIfInBounds_toArray, List.set_cons_zero, List.set_cons_succ])
          (refine wpX_val (v := ?_) (by rfl) (fun W hW => ?_) ?_; rotate_left 1; (focus (go_simp; first | done | with_reducible rfl)); (try simp only [Act.put, List.setIfInBounds_toArray, List.set_cons_zero, List.set_cons_succ]))
          refine wpX_val (v := .int .i64 (((i - 7 : Nat) : Int))) (by rfl) (fun _ _ => by go_simp; (try simp only [IntKind.wrap_u64, IntKind.wrap_i64]); (try omega)) ?_
          (try simp only [Act.put, List.setIfInBounds_toArray, List.set_cons_zero, List.set_cons_succ])
          refine wpX_val (v := .pointer (some ⟨p3_2, 0 + (i - 7), none⟩)) (by rfl) (fun _ _ => run_ixarr (m := 80) (by decide) (by omega) Tryd.underlying38 (by kernel_rfl) rfl rfl rfl) ?_
          (try simp only [Act.put, List.setIfInBounds_toArray, List.set_cons_zero, List.set_cons_succ])
          refine wpX_cell (v := .int .u64 ((sch (bt l) i) (i - 7))) (blk_rd k_t3) (by rw [Nat.zero_add]; exact arrK_get _ _ _ _ (by omega)) (by rfl) rfl rfl (by kernel_rfl) ?_
          (try simp only [Act.put, List.setIfInBounds_toArray, List.set_cons_zero, List.set_cons_succ])
          refine wpX_val (v := .int .u64 (ad (ad ((sch (bt l) i) (i - 16)) (xo (xo (rt ((sch (bt l) i) (i - 15)) 1) (rt ((sch (bt l) i) (i - 15)) 8)) (sr ((sch (bt l) i) (i - 15)) 7))) ((sch (bt l) i) (i - 7)))) (by rfl) (fun _ _ => run_add rfl rfl rfl) ?_
          (try simp only [Act.put, List.setIfInBounds_toArray, List.set_cons_zero, List.set_cons_succ])
          (refine wpX_val (v := ?_) (by rfl) (fun W hW => ?_) ?_; rotate_left 1; (focus (go_simp; first | done | with_reducible rfl)); (try simp only [Act.put, List.setIfInBounds_toArray, List.set_cons_zero, List.set_cons_succ]))
          ((with_reducible refine wpX_fn (fun W hW => turn_c ((sch (bt l) i) (i - 2)) 19 (by decide) (by decide) W) ?_ rfl ?_ ?_ ?_); (focus rfl); (focus kernel_rfl); (focus rfl); (try simp only [Act.put, List.setIfInBounds_toArray, List.set_cons_zero, List.set_cons_succ]))
          (refine wpX_val (v := ?_) (by rfl) (fun W hW => ?_) ?_; rotate_left 1; (focus (go_simp; first | done | with_reducible rfl)); (try simp only [Act.put, List.setIfInBounds_toArray, List.set_cons_zero, List.set_cons_succ]))
          ((with_reducible refine wpX_fn (fun W hW => turn_c ((sch (bt l) i) (i - 2)) 61 (by decide) (by decide) W) ?_ rfl ?_ ?_ ?_); (focus rfl); (focus kernel_rfl); (focus rfl); (try simp only [Act.put, List.setIfInBounds_toArray, List.set_cons_zero, List.set_cons_succ]))
          refine wpX_val (v := .int .u64 (xo (rt ((sch (bt l) i) (i - 2)) 19) (rt ((sch (bt l) i) (i - 2)) 61))) (by rfl) (fun _ _ => run_xor rfl rfl rfl) ?_
          (try simp only [Act.put, List.setIfInBounds_toArray, List.set_cons_zero, List.set_cons_succ])
          (refine wpX_val (v := ?_) (by rfl) (fun W hW => ?_) ?_; rotate_left 1; (focus (go_simp; first | done | with_reducible rfl)); (try simp only [Act.put, List.setIfInBounds_toArray, List.set_cons_zero, List.set_cons_succ]))
          refine wpX_val (v := .int .u64 (sr ((sch (bt l) i) (i - 2)) 6)) (by rfl) (fun _ _ => run_shr (n := 6) (by decide) rfl rfl rfl) ?_
          (try simp only [Act.put, List.setIfInBounds_toArray, List.set_cons_zero, List.set_cons_succ])
          refine wpX_val (v := .int .u64 (xo (xo (rt ((sch (bt l) i) (i - 2)) 19) (rt ((sch (bt l) i) (i - 2)) 61)) (sr ((sch (bt l) i) (i - 2)) 6))) (by rfl) (fun _ _ => run_xor rfl rfl rfl) ?_
          (try simp only [Act.put, List.setIfInBounds_toArray, List.set_cons_zero, List.set_cons_succ])
          refine wpX_val (v := .int .u64 (ad (ad (ad ((sch (bt l) i) (i - 16)) (xo (xo (rt ((sch (bt l) i) (i - 15)) 1) (rt ((sch (bt l) i) (i - 15)) 8)) (sr ((sch (bt l) i) (i - 15)) 7))) ((sch (bt l) i) (i - 7))) (xo (xo (rt ((sch (bt l) i) (i - 2)) 19) (rt ((sch (bt l) i) (i - 2)) 61)) (sr ((sch (bt l) i) (i - 2)) 6)))) (by rfl) (fun _ _ => run_add rfl rfl rfl) ?_
          (try simp only [Act.put, List.setIfInBounds_toArray, List.set_cons_zero, List.set_cons_succ])
          refine wpX_val (v := .pointer (some ⟨p3_2, 0 + i, none⟩)) (by rfl) (fun _ _ => run_ixarr (m := 80) (by decide) (by omega) Tryd.underlying38 (by kernel_rfl) rfl rfl rfl) ?_
          (try simp only [Act.put, List.setIfInBounds_toArray, List.set_cons_zero, List.set_cons_succ])
          refine wpX_nil ?_
          intro β W6 hE hN hD
          clear hN hD
          simp only [putAll, Act.put, List.setIfInBounds_toArray, List.set_cons_zero, List.set_cons_succ, List.drop_succ_cons, List.drop_zero, List.drop_nil, List.length_nil, Nat.add_zero]
          have hO := off_ext hE
          replace k_t2 := blk_off k_t2 hO nm0
          replace k_t3 := blk_off k_t3 hO nm0
          replace ow_a := Sl.off ow_a hO f0
          replace off0 := off0.step hO i0
          replace sz := off0.size
          clear hO hE β
          refine wpL_put1 (v := .int .u64 (ad (ad (ad ((sch (bt l) i) (i - 16)) (xo (xo (rt ((sch (bt l) i) (i - 15)) 1) (rt ((sch (bt l) i) (i - 15)) 8)) (sr ((sch (bt l) i) (i - 15)) 7))) ((sch (bt l) i) (i - 7))) (xo (xo (rt ((sch (bt l) i) (i - 2)) 19) (rt ((sch (bt l) i) (i - 2)) 61)) (sr ((sch (bt l) i) (i - 2)) 6)))) ⟨rfl, rfl⟩ (by rfl) rfl rfl rfl k_t3 (by rw [arrK_size, Nat.zero_add]; omega) (by kernel_rfl) ?_
          (try simp only [Act.put, List.setIfInBounds_toArray, List.set_cons_zero, List.set_cons_succ])
          intro W7 hO h_
          rw [Nat.zero_add, arrK_set] at h_
          replace k_t3 : Blk W7 p3_2 (arrK .u64 80 (upd (sch (bt l) i) i (ad (ad (ad ((sch (bt l) i) (i - 16)) (xo (xo (rt ((sch (bt l) i) (i - 15)) 1) (rt ((sch (bt l) i) (i - 15)) 8)) (sr ((sch (bt l) i) (i - 15)) 7))) ((sch (bt l) i) (i - 7))) (xo (xo (rt ((sch (bt l) i) (i - 2)) 19) (rt ((sch (bt l) i) (i - 2)) 61)) (sr ((sch (bt l) i) (i - 2)) 6))))) 38 := h_
          clear h_
          replace k_t2 := blk_off k_t2 hO (nm1 nq_t2_t3)
          replace ow_a := Sl.off ow_a hO (f1 ne_a_t3)
          replace off0 := off0.step hO (i1 fb_t3)
          replace sz := off0.size
          clear hO
          refine wpL_nil ?_
          first | refine NoPanic.normal (Q := Exit.then _ _) ?_ | refine NoPanic.normal ?_
          go_wp2
          go_roundw
          case rel => exact ⟨i + 1, ⟨by omega, by omega⟩, by go_num, off0, k_t2, (by rw [← sch_hi hi]; exact k_t3), ow_a⟩
          case measure => simp [intOf]; omega
        · have _f := h80
          obtain rfl : i = 80 := by omega
          go_upto_region 8 with fail
          refine wp_region_lit ?_
          (refine wpL_val (v := ?_) (by rfl) ?_ ?_; rotate_left 1; (focus (go_simp; first | done | with_reducible rfl)))
          (try simp only [Act.put, List.setIfInBounds_toArray, List.set_cons_zero, List.set_cons_succ])
          refine wpL_val (v := .bool false) (by rfl) (by first | rfl | (go_simp; done) | (go_simp; with_reducible rfl) | (go_simp; omega)) ?_
          (try simp only [Act.put, List.setIfInBounds_toArray, List.set_cons_zero, List.set_cons_succ])
          refine wpL_nil ?_
          go_upto_region 12 with fail
          refine wp_region_lit ?_
          refine wpL_load0 (by rfl) rfl rfl k_t3 (by kernel_rfl) (by rw [arrK_size]; kernel_rfl) ?_
          (try simp only [Act.put, List.setIfInBounds_toArray, List.set_cons_zero, List.set_cons_succ])
          refine wpL_putrow (cells := arrK .u64 80 (sch (bt l) 80)) (by rfl) rfl rfl rfl k_t2 (by rw [arrK_size]; kernel_rfl) (by rw [arrK_size, arrK_size]) (by exact arrK_one _ _ _) ?_
          (try simp only [Act.put, List.setIfInBounds_toArray, List.set_cons_zero, List.set_cons_succ])
          intro W5 hO h_
          replace k_t2 : Blk W5 p2_1 (arrK .u64 80 (sch (bt l) 80)) 38 := h_
          clear h_
          replace k_t3 := blk_off k_t3 hO (nm1 nq_t2_t3.symm)
          replace ow_a := Sl.off ow_a hO (f1 ne_a_t2)
          replace off0 := off0.step hO (i1 fb_t2)
          replace sz := off0.size
          clear hO
          refine wpL_nil ?_
          go_wp2
          refine bodyPost_ret (res_row rfl rfl k_t2 (by kernel_rfl) (by rw [arrK_size]; kernel_rfl)) rfl ⟨rfl, off0.ext⟩
end Go.Proofs.YtfkhogeaadldnaaDoor

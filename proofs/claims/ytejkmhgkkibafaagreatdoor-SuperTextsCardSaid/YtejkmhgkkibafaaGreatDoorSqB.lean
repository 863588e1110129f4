/- sha2.spread: a block as 64 words of 32 bits. Conditions: the slice has 64 bytes. -/
import Derived.Test.YtejkmhgkkibafaaGreatDoorJ29
import Derived.Test.YtejkmhgkkibafaaGreatDoorGc
set_option linter.unusedSimpArgs false
set_option linter.unusedVariables false
namespace Go.Proofs.YtejkmhgkkibafaaGreatDoor
set_option maxHeartbeats 1500000
set_option maxRecDepth 100000
open Go.RowKit
attribute [local irreducible] wpList

theorem run_cv4 {w : World} {o : Oper} {a : Act} {x : Operand} {c : UInt8} (ho : o.op = .convert 5 193 x) (hx : a.eval x = .int .u8 (c.toNat : Int)) : (execOp a.eval o).run Tryz.prog w = .ok (.value (.int .u32 (c.toNat : Int))) w := by
  have hc := c.toNat_lt
  have hw : IntKind.wrap .u32 (c.toNat : Int) = (c.toNat : Int) := by rw [IntKind.wrap_u32]; omega
  simp [execOp, ho, hx, convert, run_underlying Tryz.underlying5, run_underlying Tryz.underlying193, Sem.run_bind, Conv.intToInt, hw]
theorem run_cut64 {w : World} {o : Oper} {a : Act} {x y : Operand} {adr : Addr} {n c : Nat} (hl : 64 ≤ n) (hn : n ≤ c) (ho : o.op = .slice 22 x none (some y) none) (hx : a.eval x = .slice (some adr) n c) (hy : a.eval y = .int .i64 64) : (execOp a.eval o).run Tryz.prog w = .ok (.value (.slice (some adr) 64 c)) w := by
  have hnc : 64 ≤ c := by omega
  have hc0 : ¬ c = 0 := by omega
  have h1 := u8_size
  have hadd : adr.add 0 = adr := by unfold Addr.add; simp
  cases hq : Tryz.prog.info? 5 with
  | none => simp [hq] at h1
  | some i => simp [execOp, ho, hx, hy, Instr.sliceAt, Instr.slice, Instr.sliceBounds, Instr.sliceBound, asIntOf, run_underlying Tryz.underlying22, Sem.run_bind, sizeOf, typeInfo, hq, hnc, hc0, hadd]; intro h_; omega
/-- the first k bytes of word i -/
def wrd4 (b : Nat → Int) (i : Nat) : Nat → Int
  | 0 => 0
  | k + 1 => oo4 (sl4 (wrd4 b i k) 8) (b (4 * i + k))
def sg4 (f : Nat → Int) (i : Nat) : Int := ad4 (ad4 (ad4 (f (i - 16)) (small4 (f (i - 15)) 7 18 3)) (f (i - 7))) (small4 (f (i - 2)) 17 19 10)
/-- the words of a block, as far as i -/
def sch4 (b : Nat → Int) : Nat → Nat → Int
  | 0 => fun _ => 0
  | i + 1 => upd (sch4 b i) i (if i < 16 then wrd4 b i 4 else sg4 (sch4 b i) i)
theorem sch_hi4 {b : Nat → Int} {i : Nat} (h : 16 ≤ i) : upd (sch4 b i) i (sg4 (sch4 b i) i) = sch4 b (i + 1) := by
  show _ = upd (sch4 b i) i (if i < 16 then wrd4 b i 4 else sg4 (sch4 b i) i)
  rw [if_neg (by omega)]
theorem sch_lo4 (b : Nat → Int) : ∀ i, i ≤ 16 → ∀ j, sch4 b i j = if j < i then wrd4 b j 4 else 0
  | 0, _, j => by simp [sch4]
  | i + 1, h, j => by
    show upd (sch4 b i) i (if i < 16 then wrd4 b i 4 else sg4 (sch4 b i) i) j = _
    rw [if_pos (by omega)]
    unfold upd
    by_cases hj : j = i
    · rw [if_pos hj, if_pos (by omega), hj]
    · rw [if_neg hj, sch_lo4 b i (by omega) j]
      by_cases hl : j < i
      · rw [if_pos hl, if_pos (by omega)]
      · rw [if_neg hl, if_neg (by omega)]
/-- the words behind n bytes -/
def fst4 (b : Nat → Int) (n j : Nat) : Int := if j < n / 4 then wrd4 b j 4 else if j = n / 4 then wrd4 b j (n % 4) else 0
theorem fst_step4 (b : Nat → Int) (n : Nat) : upd (fst4 b n) (n / 4) (oo4 (sl4 (fst4 b n (n / 4)) 8) (b n)) = fst4 b (n + 1) := by
  funext j
  have e : fst4 b n (n / 4) = wrd4 b (n / 4) (n % 4) := by unfold fst4; rw [if_neg (by omega), if_pos rfl]
  have hb : b n = b (4 * (n / 4) + n % 4) := by rw [Nat.div_add_mod]
  rw [e, hb]
  show (if j = n / 4 then wrd4 b (n / 4) (n % 4 + 1) else fst4 b n j) = fst4 b (n + 1) j
  unfold fst4
  by_cases hm : n % 4 = 3
  · have h1 : (n + 1) / 4 = n / 4 + 1 := by omega
    have h2 : (n + 1) % 4 = 0 := by omega
    rw [h1, h2, hm]
    by_cases hj : j = n / 4
    · rw [if_pos hj, if_pos (by omega), hj]
    · rw [if_neg hj]
      by_cases hl : j < n / 4
      · rw [if_pos hl, if_pos (by omega)]
      · rw [if_neg hl, if_neg hj, if_neg (by omega)]
        split
        · rfl
        · rfl
  · have h1 : (n + 1) / 4 = n / 4 := by omega
    have h2 : (n + 1) % 4 = n % 4 + 1 := by omega
    rw [h1, h2]
    by_cases hj : j = n / 4
    · rw [if_pos hj, if_neg (by omega), if_pos hj, hj]
    · rw [if_neg hj]
      by_cases hl : j < n / 4
      · rw [if_pos hl, if_pos hl]
      · rw [if_neg hl, if_neg hj, if_neg hl, if_neg hj]
theorem fst_end4 (b : Nat → Int) : fst4 b 64 = sch4 b 16 := by
  funext j
  rw [sch_lo4 b 16 (Nat.le_refl _) j]
  unfold fst4
  by_cases h : j < 16
  · rw [if_pos (by omega), if_pos h]
  · rw [if_neg (by omega), if_neg h]
    split
    · rename_i h2; rw [show 64 % 4 = 0 by rfl]; rfl
    · rfl
theorem fst_zero4 (b : Nat → Int) : fst4 b 0 = fun _ => 0 := by
  funext j
  unfold fst4
  rw [if_neg (by omega)]
  split <;> rfl

theorem spread4_c (l : List UInt8) (adr : Addr) (c : Nat) (hl : 64 ≤ l.length) (hc : l.length ≤ c) (w : World) (hs : Sl w (.slice (some adr) l.length c) l) :
  Calls Tryz.prog 159 #[.slice (some adr) l.length c] w fun e w' => Ret (.agg (arrK .u32 64 (sch4 (bt l) 64))) w w' e := by
 have ow_a := hs
 have off0 : Off [] w w := Off.refl _ _
 go_enter Tryz.func159, Tryz.ntmps159
 go_upto_region 0 with fail
 refine wp_region_lit ?_
 refine Ln ?_ (z := arrK .u32 64 (fun _ => 0)) (t := 231)
 intro p2_1 W1 n_t2 hO h_
 have fb_t2 := fbn off0 n_t2
 replace ow_a := Sl.off ow_a hO f0
 replace off0 := off0.o hO
 have k_t2 := h_
 clear hO h_ n_t2
 refine wpL_nil ?_
 go_upto_region 1 with fail
 refine wp_region_lit ?_
 refine Ln ?_ (z := arrK .u32 64 (fun _ => 0)) (t := 231)
 intro p3_2 W2 n_t3 hO h_
 have nq_t2_t3 := bn k_t2 n_t3
 have ne_a_t3 := ne_new (Sl.lt ow_a) n_t3
 have fb_t3 := fbn off0 n_t3
 replace k_t2 := k_t2.o hO
 replace ow_a := Sl.off ow_a hO f0
 replace off0 := off0.o hO
 have k_t3 := h_
 clear hO h_ n_t3
 refine wpL_nil ?_
 go_upto_region 2 with fail
 refine wp_region_lit ?_
 refine Lv ?_
 refine Lw ?_ (v := .slice (some adr) 64 c) (hv := run_cut64 hl hc rfl rfl rfl)
 refine Lw ?_ (v := .int .i64 64)
 refine Lw ?_ (v := .int .i64 0)
 refine wpL_nil ?_
 go_wp2_with fail
 go_loopw [9] (fun ii wr => ∃ (n : Nat), (n ≤ 64) ∧ (ii = .int .i64 (n : Int)) ∧ Off [] w wr ∧ Blk wr p2_1 (arrK .u32 64 (fun _ => 0)) 231 ∧ Blk wr p3_2 (arrK .u32 64 (fst4 (bt l) n)) 231 ∧ Sl wr (.slice (some adr) l.length c) l)
  (fun ii _ => 64 - (intOf ii).toNat)
 case atStart => exact ⟨0, Nat.zero_le _, rfl, off0, k_t2, (by rw [fst_zero4]; exact k_t3), ow_a⟩
 case round =>
  obtain ⟨n, hn, rfl, off0, k_t2, k_t3, ow_a⟩ := hrel
  obtain ⟨W3, eW_⟩ := wname off0
  subst eW_
  by_cases h128 : n < 64
  ·
   have _f := h128
   go_upto_region 3 with fail
   refine wp_region_lit ?_
   refine Lw ?_ (v := .bool true)
   refine wpL_nil ?_
   go_upto_region 5 with fail
   refine Rx 14 ?_
   refine Xv ?_
   refine Xw ?_ (v := .int .i64 (((n / 4 : Nat) : Int))) (hv := fun _ _ => by go_simp; (try simp only [IntKind.wrap_u64, IntKind.wrap_i64]); (try omega))
   refine Xv ?_
   refine Xw ?_ (v := .int .i64 (((n / 4 : Nat) : Int))) (hv := fun _ _ => by go_simp; (try simp only [IntKind.wrap_u64, IntKind.wrap_i64]); (try omega))
   refine Xw ?_ (v := .pointer (some ⟨p3_2, 0 + (n / 4), none⟩)) (hv := fun _ _ => run_ixarr (m := 64) (by decide) (by omega) Tryz.underlying231 (by kernel_rfl) rfl rfl rfl)
   refine Xc ?_ (v := .int .u32 ((fst4 (bt l) n) (n / 4))) (blk_rd k_t3) (hj := by rw [Nat.zero_add]; exact arrK_get _ _ _ _ (by omega))
   refine Xw ?_ (v := .int .u32 (sl4 ((fst4 (bt l) n) (n / 4)) 8)) (hv := fun _ _ => run_shl4 (n := 8) (by decide) rfl rfl rfl)
   refine Xv ?_
   refine Xv ?_
   refine Xw ?_ (v := .pointer (some (adr.add n))) (hv := fun W hW => run_ixa (j := n) (by omega) rfl rfl rfl)
   refine wpX_at (by rfl) rfl rfl (fun W hW => cell_ext (sl_at ow_a (getD_some (by omega))) hW) (by kernel_rfl) ?_
   (try simp only [Act.put, mA, mB, mC])
   refine Xw ?_ (v := .int .u32 (bt l n)) (hv := fun _ _ => by exact run_cv4 rfl rfl)
   refine Xw ?_ (v := .int .u32 (oo4 (sl4 ((fst4 (bt l) n) (n / 4)) 8) (bt l n))) (hv := fun _ _ => run_or4 rfl rfl rfl)
   refine Xw ?_ (v := .pointer (some ⟨p3_2, 0 + (n / 4), none⟩)) (hv := fun _ _ => run_ixarr (m := 64) (by decide) (by omega) Tryz.underlying231 (by kernel_rfl) rfl rfl rfl)
   refine wpX_nil fun W4 hE => ?_
   have hO := off_ext hE
   replace k_t2 := k_t2.o hO
   replace k_t3 := k_t3.o hO
   replace ow_a := Sl.off ow_a hO f0
   replace off0 := off0.o hO
   clear hO hE
   refine wpL_put1 (v := .int .u32 (oo4 (sl4 ((fst4 (bt l) n) (n / 4)) 8) (bt l n))) ⟨rfl, rfl⟩ (by rfl) rfl rfl rfl k_t3 (by rw [arrK_size, Nat.zero_add]; omega) (by kernel_rfl) ?_
   (try simp only [Act.put, mA, mB, mC])
   intro W5 hO h_
   rw [Nat.zero_add, arrK_set] at h_
   replace k_t3 : Blk W5 p3_2 (arrK .u32 64 (upd (fst4 (bt l) n) (n / 4) (oo4 (sl4 ((fst4 (bt l) n) (n / 4)) 8) (bt l n)))) 231 := h_
   clear h_
   replace k_t2 := k_t2.p hO nq_t2_t3
   replace ow_a := Sl.off ow_a hO (f1 ne_a_t3)
   replace off0 := off0.p hO fb_t3
   clear hO
   refine LN ?_
   go_wp2
   go_roundw
   case rel => exact ⟨n + 1, by omega, by go_num, off0, k_t2, (by rw [← fst_step4]; exact k_t3), ow_a⟩
   case measure => simp [intOf]; omega
  ·
   have _f := h128
   obtain rfl : n = 64 := by omega
   rw [fst_end4] at k_t3
   go_upto_region 3 with fail
   refine wp_region_lit ?_
   refine Lw ?_ (v := .bool false)
   refine wpL_nil ?_
   go_wp2_with fail
   go_loopw [5] (fun ii wr => ∃ (i : Nat), (16 ≤ i ∧ i ≤ 64) ∧ (ii = .int .i64 (i : Int)) ∧ Off [] w wr ∧ Blk wr p2_1 (arrK .u32 64 (fun _ => 0)) 231 ∧ Blk wr p3_2 (arrK .u32 64 (sch4 (bt l) i)) 231 ∧ Sl wr (.slice (some adr) l.length c) l)
    (fun ii _ => 64 - (intOf ii).toNat)
   case atStart => exact ⟨16, ⟨Nat.le_refl _, by decide⟩, rfl, off0, k_t2, k_t3, ow_a⟩
   case round =>
    obtain ⟨i, ⟨hi, hi2⟩, rfl, off0, k_t2, k_t3, ow_a⟩ := hrel
    obtain ⟨W4, eW_⟩ := wname off0
    subst eW_
    by_cases h80 : i < 64
    ·
     have _f := h80
     go_upto_region 8 with fail
     refine wp_region_lit ?_
     refine Lv ?_
     refine Lw ?_ (v := .bool true)
     refine wpL_nil ?_
     go_upto_region 10 with fail
     refine Rx 23 ?_
     refine Xv ?_
     refine Xv ?_
     refine Xw ?_ (v := .int .i64 (((i - 16 : Nat) : Int))) (hv := fun _ _ => by go_simp; (try simp only [IntKind.wrap_u64, IntKind.wrap_i64]); (try omega))
     refine Xw ?_ (v := .pointer (some ⟨p3_2, 0 + (i - 16), none⟩)) (hv := fun _ _ => run_ixarr (m := 64) (by decide) (by omega) Tryz.underlying231 (by kernel_rfl) rfl rfl rfl)
     refine Xc ?_ (v := .int .u32 ((sch4 (bt l) i) (i - 16))) (blk_rd k_t3) (hj := by rw [Nat.zero_add]; exact arrK_get _ _ _ _ (by omega))
     refine Xv ?_
     refine Xw ?_ (v := .int .i64 (((i - 15 : Nat) : Int))) (hv := fun _ _ => by go_simp; (try simp only [IntKind.wrap_u64, IntKind.wrap_i64]); (try omega))
     refine Xw ?_ (v := .pointer (some ⟨p3_2, 0 + (i - 15), none⟩)) (hv := fun _ _ => run_ixarr (m := 64) (by decide) (by omega) Tryz.underlying231 (by kernel_rfl) rfl rfl rfl)
     refine Xc ?_ (v := .int .u32 ((sch4 (bt l) i) (i - 15))) (blk_rd k_t3) (hj := by rw [Nat.zero_add]; exact arrK_get _ _ _ _ (by omega))
     refine Xf ?_ (fun W hW => small4_c ((sch4 (bt l) i) (i - 15)) 7 18 3 (by decide) (by decide) (by decide) W)
     refine Xw ?_ (v := .int .u32 (ad4 ((sch4 (bt l) i) (i - 16)) (small4 ((sch4 (bt l) i) (i - 15)) 7 18 3))) (hv := fun _ _ => run_add4 rfl rfl rfl)
     refine Xv ?_
     refine Xw ?_ (v := .int .i64 (((i - 7 : Nat) : Int))) (hv := fun _ _ => by go_simp; (try simp only [IntKind.wrap_u64, IntKind.wrap_i64]); (try omega))
     refine Xw ?_ (v := .pointer (some ⟨p3_2, 0 + (i - 7), none⟩)) (hv := fun _ _ => run_ixarr (m := 64) (by decide) (by omega) Tryz.underlying231 (by kernel_rfl) rfl rfl rfl)
     refine Xc ?_ (v := .int .u32 ((sch4 (bt l) i) (i - 7))) (blk_rd k_t3) (hj := by rw [Nat.zero_add]; exact arrK_get _ _ _ _ (by omega))
     refine Xw ?_ (v := .int .u32 (ad4 (ad4 ((sch4 (bt l) i) (i - 16)) (small4 ((sch4 (bt l) i) (i - 15)) 7 18 3)) ((sch4 (bt l) i) (i - 7)))) (hv := fun _ _ => run_add4 rfl rfl rfl)
     refine Xv ?_
     refine Xw ?_ (v := .int .i64 (((i - 2 : Nat) : Int))) (hv := fun _ _ => by go_simp; (try simp only [IntKind.wrap_u64, IntKind.wrap_i64]); (try omega))
     refine Xw ?_ (v := .pointer (some ⟨p3_2, 0 + (i - 2), none⟩)) (hv := fun _ _ => run_ixarr (m := 64) (by decide) (by omega) Tryz.underlying231 (by kernel_rfl) rfl rfl rfl)
     refine Xc ?_ (v := .int .u32 ((sch4 (bt l) i) (i - 2))) (blk_rd k_t3) (hj := by rw [Nat.zero_add]; exact arrK_get _ _ _ _ (by omega))
     refine Xf ?_ (fun W hW => small4_c ((sch4 (bt l) i) (i - 2)) 17 19 10 (by decide) (by decide) (by decide) W)
     refine Xw ?_ (v := .int .u32 (ad4 (ad4 (ad4 ((sch4 (bt l) i) (i - 16)) (small4 ((sch4 (bt l) i) (i - 15)) 7 18 3)) ((sch4 (bt l) i) (i - 7))) (small4 ((sch4 (bt l) i) (i - 2)) 17 19 10))) (hv := fun _ _ => run_add4 rfl rfl rfl)
     refine Xw ?_ (v := .pointer (some ⟨p3_2, 0 + i, none⟩)) (hv := fun _ _ => run_ixarr (m := 64) (by decide) (by omega) Tryz.underlying231 (by kernel_rfl) rfl rfl rfl)
     refine wpX_nil fun W5 hE => ?_
     have hO := off_ext hE
     replace k_t2 := k_t2.o hO
     replace k_t3 := k_t3.o hO
     replace ow_a := Sl.off ow_a hO f0
     replace off0 := off0.o hO
     clear hO hE
     refine wpL_put1 (v := .int .u32 (ad4 (ad4 (ad4 ((sch4 (bt l) i) (i - 16)) (small4 ((sch4 (bt l) i) (i - 15)) 7 18 3)) ((sch4 (bt l) i) (i - 7))) (small4 ((sch4 (bt l) i) (i - 2)) 17 19 10))) ⟨rfl, rfl⟩ (by rfl) rfl rfl rfl k_t3 (by rw [arrK_size, Nat.zero_add]; omega) (by kernel_rfl) ?_
     (try simp only [Act.put, mA, mB, mC])
     intro W6 hO h_
     rw [Nat.zero_add, arrK_set] at h_
     replace k_t3 : Blk W6 p3_2 (arrK .u32 64 (upd (sch4 (bt l) i) i (ad4 (ad4 (ad4 ((sch4 (bt l) i) (i - 16)) (small4 ((sch4 (bt l) i) (i - 15)) 7 18 3)) ((sch4 (bt l) i) (i - 7))) (small4 ((sch4 (bt l) i) (i - 2)) 17 19 10)))) 231 := h_
     clear h_
     replace k_t2 := k_t2.p hO nq_t2_t3
     replace ow_a := Sl.off ow_a hO (f1 ne_a_t3)
     replace off0 := off0.p hO fb_t3
     clear hO
     refine LN ?_
     go_wp2
     go_roundw
     case rel => exact ⟨i + 1, ⟨by omega, by omega⟩, by go_num, off0, k_t2, (by rw [← sch_hi4 hi]; exact k_t3), ow_a⟩
     case measure => simp [intOf]; omega
    ·
     have _f := h80
     obtain rfl : i = 64 := by omega
     go_upto_region 8 with fail
     refine wp_region_lit ?_
     refine Lv ?_
     refine Lw ?_ (v := .bool false)
     refine wpL_nil ?_
     go_upto_region 11 with fail
     refine wp_region_lit ?_
     refine L0A ?_ k_t3
     refine LpA ?_ k_t2 (k := .u32) (n := 64) (f := sch4 (bt l) 64)
     intro W5 hO h_
     replace k_t2 : Blk W5 p2_1 (arrK .u32 64 (sch4 (bt l) 64)) 231 := h_
     clear h_
     replace off0 := off0.p hO fb_t2
     clear hO
     refine wpL_nil ?_
     go_wp2
     refine bodyPost_ret (res_row rfl rfl k_t2 (by kernel_rfl) (by rw [arrK_size]; kernel_rfl)) rfl ⟨rfl, off0.ext⟩
end Go.Proofs.YtejkmhgkkibafaaGreatDoor

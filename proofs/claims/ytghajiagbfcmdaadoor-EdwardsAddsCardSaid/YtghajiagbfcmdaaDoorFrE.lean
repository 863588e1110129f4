/- custumalref05.Mul. No conditions. -/
import Derived.Test.YtghajiagbfcmdaaDoorFrD
namespace Go.Proofs.YtghajiagbfcmdaaDoor
set_option linter.unusedSimpArgs false
set_option linter.unusedVariables false
open Go.RowKit

theorem sval_split (f : Nat → Int) (m : Nat) : ∀ n, sval f (m + n) = sval f m + 2 ^ (16 * m) * sval (fun j => f (m + j)) n
  | 0 => by simp [sval]
  | n + 1 => by
    show sval f (m + n) + (f (m + n)).toNat * 2 ^ (16 * (m + n)) = sval f m + 2 ^ (16 * m) * (sval (fun j => f (m + j)) n + (f (m + n)).toNat * 2 ^ (16 * n))
    rw [sval_split f m n, Nat.mul_add, Nat.pow_add, Nat.mul_add (2 ^ (16 * m)), Nat.mul_left_comm (2 ^ (16 * m))]; omega
theorem sval_scale (f : Nat → Int) (hf : ∀ j, 0 ≤ f j) (c : Nat) : ∀ n, sval (fun j => (c : Int) * f j) n = c * sval f n
  | 0 => rfl
  | n + 1 => by
    show sval _ n + ((c : Int) * f n).toNat * _ = c * (sval f n + (f n).toNat * _)
    obtain ⟨x, hx⟩ := Int.eq_ofNat_of_zero_le (hf n)
    rw [sval_scale f hf c n, Nat.mul_add, hx, ← Int.natCast_mul, Int.toNat_natCast, Int.toNat_natCast, Nat.mul_assoc]
/-- the 32 sums folded to 16 -/
def fold16 (F : Nat → Int) : Nat → Int := fun j => F j + 38 * F (j + 16)
theorem fold16_val (F : Nat → Int) (h : ∀ j, 0 ≤ F j) : sval (fold16 F) 16 % PP = sval F 32 % PP := by
  have e1 : sval (fold16 F) 16 = sval F 16 + 38 * sval (fun j => F (16 + j)) 16 := by
    have := sval_add F (fun j => (38 : Nat) * F (16 + j)) h (fun j => Int.mul_nonneg (by omega) (h _)) 16
    rw [sval_scale (fun j => F (16 + j)) (fun j => h (16 + j)) 38 16] at this
    rw [← this]
    apply sval_congr
    intro j _
    unfold fold16
    rw [Nat.add_comm j 16]; rfl
  have e2 := sval_split F 16 16
  rw [show 16 + 16 = 32 by decide, show (2 : Nat) ^ (16 * 16) = P256 by decide, show P256 = 2 * PP + 38 from PP_two.symm] at e2
  rw [e1, e2, Nat.add_mul, Nat.mul_comm 2 PP, Nat.mul_assoc PP, ← Nat.add_assoc, Nat.add_right_comm, Nat.add_mul_mod_self_left]
/-- a product more -/
theorem conv_step (F : Nat → Int) (h : ∀ j, 0 ≤ F j) (X Y i k : Nat) (hi : i < 16) (hk : k < 16) (B : Nat) (hB : ∀ j, F j ≤ (B : Int)) (hs : sval F 32 = X % 2 ^ (16 * i) * Y + (l16 X i).toNat * 2 ^ (16 * i) * (Y % 2 ^ (16 * k))) :
    (∀ j, 0 ≤ upd F (i + k) (F (i + k) + l16 X i * l16 Y k) j) ∧ (∀ j, upd F (i + k) (F (i + k) + l16 X i * l16 Y k) j ≤ ((B + 4294836225 : Nat) : Int)) ∧
    sval (upd F (i + k) (F (i + k) + l16 X i * l16 Y k)) 32 = X % 2 ^ (16 * i) * Y + (l16 X i).toNat * 2 ^ (16 * i) * (Y % 2 ^ (16 * (k + 1))) := by
  have r1 := l16_ok X i
  have r2 := l16_ok Y k
  have h0 := h (i + k)
  obtain ⟨x, hx⟩ := Int.eq_ofNat_of_zero_le r1.1
  have hy : l16 Y k = ((Y / 2 ^ (16 * k) % 65536 : Nat) : Int) := rfl
  have hsu := sval_upd F (i + k) (F (i + k) + l16 X i * l16 Y k) 32 (by omega)
  obtain ⟨f, hf⟩ := Int.eq_ofNat_of_zero_le h0
  have hyb : Y / 2 ^ (16 * k) % 65536 < 65536 := Nat.mod_lt _ (by decide)
  rw [mod16_succ Y k]
  rw [hx] at hs r1 ⊢ hsu
  rw [hy] at r2 ⊢ hsu
  generalize Y / 2 ^ (16 * k) % 65536 = y at *
  have hxy : x * y ≤ 65535 * 65535 := Nat.mul_le_mul (by omega) (by omega)
  have exy : (x : Int) * (y : Int) = ((x * y : Nat) : Int) := by rw [Int.natCast_mul]
  rw [exy] at hsu ⊢
  have hBk := hB (i + k)
  rw [hf] at hsu ⊢
  refine ⟨fun j => ?_, fun j => ?_, ?_⟩
  · unfold upd; split
    · omega
    · exact h j
  · unfold upd; split
    · omega
    · have := hB j; omega
  · rw [← Int.natCast_add] at hsu ⊢
    rw [hs] at hsu
    simp only [Int.toNat_natCast] at hsu ⊢
    rw [Nat.add_mul] at hsu
    rw [Nat.mul_add (x * 2 ^ (16 * i)), show x * 2 ^ (16 * i) * (y * 2 ^ (16 * k)) = x * y * 2 ^ (16 * (i + k)) by rw [show 16 * (i + k) = 16 * i + 16 * k by omega, Nat.pow_add, Nat.mul_mul_mul_comm]]
    omega

set_option maxHeartbeats 4000000 in
theorem rMul_c (X Y : Nat) (hX : X < P256) (hY : Y < P256) (w : World) :
    Calls Tryd.prog 40 #[A16 X, A16 Y] w fun e w' => Ret (A16 (X * Y % PP)) w w' e := by
  have HX := Lib.hid hX
  have HY := Lib.hid hY
  clear hX hY
  unfold A16
  go_enter Tryd.func40, Tryd.ntmps40
  go_wp2_with fail
  refine wp_world (fun W => Below w.heap.size w W ∧ Blk W w.heap.size (arrK .i64 16 (l16 X)) 39 ∧ Blk W (w.heap.size + 1) (arrK .i64 16 (l16 Y)) 39 ∧ Blk W (w.heap.size + 2) (arrK .i64 16 (fun _ => 0)) 39 ∧ Blk W (w.heap.size + 3) (arrK .i64 32 (fun _ => 0)) 83) ⟨(by (repeat' (first | (with_reducible assumption) | (with_reducible exact Below.refl _ _) | (with_reducible refine Below.drew ?_) | (with_reducible refine Below.alloc ?_ ?_ _) | (with_reducible refine below_set ?_ ?_ _ _) | (with_reducible refine below_setRow ?_ ?_ _) | (with_reducible refine below_step ?_ (by assumption) ?_))) <;> (first | omega | ((try simp only [World.size_alloc, World.size_setCell, World.size_drew, size_setRow]); omega))), blk_alloc (blk_alloc (blk_alloc (blk_new _ _ rfl) _) _) _, blk_alloc (blk_alloc (blk_new _ _ (by simp)) _) _, blk_alloc (blk_new _ _ (by simp)) _, blk_new _ _ (by simp)⟩ ?_
  rintro W0 ⟨bel, k_t2, k_t3, k_t4, k_t5⟩
  have lt_t2_0 := blk_lt k_t2
  have lt_t3_0 := blk_lt k_t3
  have lt_t4_0 := blk_lt k_t4
  have lt_t5_0 := blk_lt k_t5
  go_wp2_with fail
  go_loopw [6] (fun ii wr => ∃ (i : Nat) (F : Nat → Int), i ≤ 16 ∧ ii = .int .i64 i ∧ Hid ((∀ j, 0 ≤ F j) ∧ (∀ j, F j ≤ ((16 * i * 4294836225 : Nat) : Int)) ∧ sval F 32 = X % 2 ^ (16 * i) * Y) ∧ Below w.heap.size w wr ∧ Blk wr w.heap.size (arrK .i64 16 (l16 X)) 39 ∧ Blk wr (w.heap.size + 1) (arrK .i64 16 (l16 Y)) 39 ∧ Blk wr (w.heap.size + 2) (arrK .i64 16 (fun _ => 0)) 39 ∧ Blk wr (w.heap.size + 3) (arrK .i64 32 F) 83)
    (fun ii _ => (16 - intOf ii).toNat)
  case atStart =>
    refine ⟨0, fun _ => 0, by omega, rfl, Lib.hid ⟨fun _ => Int.le_refl _, fun _ => by simp, by rw [sval_zero, Nat.mul_zero, Nat.pow_zero, Nat.mod_one, Nat.zero_mul]⟩, bel, k_t2, k_t3, k_t4, k_t5⟩
  case round =>
    obtain ⟨i, F, hi, rfl, HF, bel, k_t2, k_t3, k_t4, k_t5⟩ := hrel
    by_cases hexit : i = 16
    · have _hx := hexit
      subst hexit
      go_upto_region 9 with fail
      have lt_t2_1 := blk_lt k_t2
      have lt_t3_1 := blk_lt k_t3
      have lt_t4_1 := blk_lt k_t4
      have lt_t5_1 := blk_lt k_t5
      refine wp_region_pn 0 [⟨0, 8, arrK .i64 16 (fun _ => 0), 39⟩] ?_ (by kernel_rfl) ?_
      · intro x hx
        simp only [List.mem_cons, List.not_mem_nil, or_false] at hx
        subst hx; exact ⟨_, rfl, rfl, rfl, fun _ _ => by kernel_rfl⟩
      simp only [List.take_succ_cons, List.take_zero, List.take_nil]
      (try simp only [Act.put, List.setIfInBounds_toArray, List.set_cons_zero, List.set_cons_succ])
      refine wpX_nil ?_
      intro β W2 hE hN hD
      obtain ⟨n_t8_2, k_t8⟩ := hN _ (List.mem_cons_self ..)
      simp only [putAll, Act.put, List.setIfInBounds_toArray, List.set_cons_zero, List.set_cons_succ, List.drop_succ_cons, List.drop_zero, List.drop_nil, List.length_cons, List.length_nil] at n_t8_2 k_t8 ⊢
      generalize β 0 = p8_2 at *
      have sz_2 := bel.size
      clear hN hD β
      refine wpL_nil ?_
      have hF : Below w.heap.size w W2 ∧ Blk W2 w.heap.size (arrK .i64 16 (l16 X)) 39 ∧ Blk W2 (w.heap.size + 1) (arrK .i64 16 (l16 Y)) 39 ∧ Blk W2 (w.heap.size + 2) (arrK .i64 16 (fun _ => 0)) 39 ∧ Blk W2 (w.heap.size + 3) (arrK .i64 32 F) 83 ∧ Blk W2 p8_2 (arrK .i64 16 (fun _ => 0)) 39 := ⟨(below_step bel hE bel.size), (blk_step k_t2 hE), (blk_step k_t3 hE), (blk_step k_t4 hE), (blk_step k_t5 hE), k_t8⟩
      clear bel k_t2 k_t3 k_t4 k_t5 k_t8
      obtain ⟨bel, k_t2, k_t3, k_t4, k_t5, k_t8⟩ := hF
      have lt_t8_2 := blk_lt k_t8
      go_wp2_with fail
      go_loopw [9] (fun ii wr => ∃ (k : Nat), k ≤ 16 ∧ ii = .int .i64 k ∧ Below w.heap.size w wr ∧ Blk wr w.heap.size (arrK .i64 16 (l16 X)) 39 ∧ Blk wr (w.heap.size + 1) (arrK .i64 16 (l16 Y)) 39 ∧ Blk wr (w.heap.size + 2) (arrK .i64 16 (fun _ => 0)) 39 ∧ Blk wr (w.heap.size + 3) (arrK .i64 32 F) 83 ∧ Blk wr p8_2 (arrK .i64 16 (mixF k (fold16 F) (fun _ => 0))) 39)
        (fun ii _ => (16 - intOf ii).toNat)
      case atStart =>
        refine ⟨0, by omega, rfl, bel, k_t2, k_t3, k_t4, k_t5, ?_⟩
        rw [mixF_zero]; exact k_t8
      case round =>
        obtain ⟨k, hk, rfl, bel, k_t2, k_t3, k_t4, k_t5, k_t8⟩ := hrel
        by_cases hexit : k = 16
        · have _hx := hexit
          subst hexit
          rw [mixF_all] at k_t8
          go_upto_region 14 with fail
          have lt_t2_3 := blk_lt k_t2
          have lt_t3_3 := blk_lt k_t3
          have lt_t4_3 := blk_lt k_t4
          have lt_t5_3 := blk_lt k_t5
          have lt_t8_3 := blk_lt k_t8
          have okfold : okF (fold16 F) := fun j => by have u := HF.out.1 j; have v := HF.out.2.1 j; have u2 := HF.out.1 (j + 16); have v2 := HF.out.2.1 (j + 16); unfold fold16; omega
          have c_t := rtidy_c (fold16 F) okfold
          rw [fold16_val F HF.out.1, HF.out.2.2, show X % 2 ^ (16 * 16) = X by rw [show (2 : Nat) ^ (16 * 16) = P256 by decide]; exact Nat.mod_eq_of_lt HX.out] at c_t
          obtain ⟨R, hR⟩ : ∃ v_, v_ = X * Y % PP := ⟨_, rfl⟩
          rw [← hR] at c_t
          have HR := Lib.hid hR
          clear hR
          refine wp_region_pn 2 [] (fun x hx => by cases hx) (by kernel_rfl) ?_
          simp only [List.take_succ_cons, List.take_zero, List.take_nil]
          (try simp only [Act.put, List.setIfInBounds_toArray, List.set_cons_zero, List.set_cons_succ])
          ((with_reducible refine wpX_load (b := ?_) (cs := ?_) ?_ rfl ?_ ?_ ?_ ?_ ?_); rotate_left 2; (focus rfl); (focus rfl); (focus first | assumption | exact blk_rd (by assumption)); (focus kernel_rfl); (focus kernel_rfl); (try simp only [Act.put, List.setIfInBounds_toArray, List.set_cons_zero, List.set_cons_succ]))
          ((with_reducible refine wpX_fn (fun W hW => c_t W) ?_ rfl ?_ ?_ ?_); (focus rfl); (focus kernel_rfl); (focus rfl); (try simp only [Act.put, List.setIfInBounds_toArray, List.set_cons_zero, List.set_cons_succ]))
          refine wpX_nil ?_
          intro β W4 hE hN hD
          simp only [putAll, Act.put, List.setIfInBounds_toArray, List.set_cons_zero, List.set_cons_succ, List.drop_succ_cons, List.drop_zero, List.drop_nil, List.length_cons, List.length_nil]
          clear hN hD β
          refine wpL_store (g := (w.heap.size + 2)) (cells := arrK .i64 16 (l16 R)) (by rfl) rfl rfl rfl (blk_step k_t4 hE) (by kernel_rfl) (by kernel_rfl) (arrK_one _ _ _) ?_
          (try simp only [Act.put, List.setIfInBounds_toArray, List.set_cons_zero, List.set_cons_succ])
          refine wpL_nil ?_
          have hF : Below w.heap.size w (W4.setRow (w.heap.size + 2) (arrK .i64 16 (l16 R))) ∧ Blk (W4.setRow (w.heap.size + 2) (arrK .i64 16 (l16 R))) w.heap.size (arrK .i64 16 (l16 X)) 39 ∧ Blk (W4.setRow (w.heap.size + 2) (arrK .i64 16 (l16 R))) (w.heap.size + 1) (arrK .i64 16 (l16 Y)) 39 ∧ Blk (W4.setRow (w.heap.size + 2) (arrK .i64 16 (l16 R))) (w.heap.size + 2) (arrK .i64 16 (l16 R)) 39 ∧ Blk (W4.setRow (w.heap.size + 2) (arrK .i64 16 (l16 R))) (w.heap.size + 3) (arrK .i64 32 F) 83 ∧ Blk (W4.setRow (w.heap.size + 2) (arrK .i64 16 (l16 R))) p8_2 (arrK .i64 16 (fold16 F)) 39 := ⟨(below_setRow (below_step bel hE bel.size) (by omega) _), (blk_setRow_other (blk_step k_t2 hE) (by omega) _), (blk_setRow_other (blk_step k_t3 hE) (by omega) _), (blk_setRow (blk_step k_t4 hE) (arrK .i64 16 (l16 R))), (blk_setRow_other (blk_step k_t5 hE) (by omega) _), (blk_setRow_other (blk_step k_t8 hE) (by omega) _)⟩
          generalize (W4.setRow (w.heap.size + 2) (arrK .i64 16 (l16 R))) = W5 at hF ⊢
          clear bel k_t2 k_t3 k_t4 k_t5 k_t8
          obtain ⟨bel, k_t2, k_t3, k_t4, k_t5, k_t8⟩ := hF
          go_wp2
          refine bodyPost_ret (res_row rfl rfl k_t4 (by kernel_rfl) (by kernel_rfl)) rfl ⟨?_, bel⟩
          (rw [← HR.out] <;> rfl)
        · have hk3 : k < 16 := by omega
          have hk3' : (k : Int) < 16 := by omega
          clear hexit
          have c0 := (blk_cell k_t5 k).trans (arrK_get _ _ _ _ (by omega))
          have c1 := (blk_cell k_t5 (k + 16)).trans (arrK_get _ _ _ _ (by omega))
          have c2 := (blk_cell k_t8 k).trans (arrK_get _ _ _ _ hk3)
          rw [mixF_at] at c2
          have f0 := blk_free k_t8
          obtain ⟨u0, u1⟩ := And.intro (HF.out.1 k) (HF.out.2.1 k)
          obtain ⟨v0, v1⟩ := And.intro (HF.out.1 (k + 16)) (HF.out.2.1 (k + 16))
          have w0 : IntKind.i64.wrap ((k : Int) + 16) = ((k + 16 : Nat) : Int) := by rw [IntWalk.i64_in _ (by omega)]; omega
          have w1 : IntKind.i64.wrap (38 * F (k + 16)) = 38 * F (k + 16) := IntWalk.i64_in _ (by omega)
          have w2 : IntKind.i64.wrap (F k + 38 * F (k + 16)) = F k + 38 * F (k + 16) := IntWalk.i64_in _ (by omega)
          clear u0 u1 v0 v1 w0
          have h32 : (k : Int) < 32 := by omega
          have h33 : (k : Int) + 16 < 32 := by omega
          go_wp2
          go_region
          go_wp2
          have hs := blk_set k_t8 k (.int .i64 (fold16 F k))
          rw [mixF_set] at hs
          go_roundw
          case rel =>
            refine ⟨k + 1, by omega, ?_, (below_set bel (by omega) _ _).drew, blk_drew (blk_other k_t2 (by omega) _ _), blk_drew (blk_other k_t3 (by omega) _ _), blk_drew (blk_other k_t4 (by omega) _ _), blk_drew (blk_other k_t5 (by omega) _ _), ?_⟩
            · (first | rfl | go_num)
            · exact blk_drew hs
          case measure => simp [intOf]; omega
    · have hi3 : i < 16 := by omega
      have hi3' : (i : Int) < 16 := by omega
      clear hexit
      have lt_t2_1 := blk_lt k_t2
      have lt_t3_1 := blk_lt k_t3
      have lt_t4_1 := blk_lt k_t4
      have lt_t5_1 := blk_lt k_t5
      go_wp2_with fail
      go_loopw [7] (fun kk wr => ∃ (k : Nat) (G : Nat → Int), k ≤ 16 ∧ kk = .int .i64 k ∧ Hid ((∀ j, 0 ≤ G j) ∧ (∀ j, G j ≤ (((16 * i + k) * 4294836225 : Nat) : Int)) ∧ sval G 32 = X % 2 ^ (16 * i) * Y + (l16 X i).toNat * 2 ^ (16 * i) * (Y % 2 ^ (16 * k))) ∧ Below w.heap.size w wr ∧ Blk wr w.heap.size (arrK .i64 16 (l16 X)) 39 ∧ Blk wr (w.heap.size + 1) (arrK .i64 16 (l16 Y)) 39 ∧ Blk wr (w.heap.size + 2) (arrK .i64 16 (fun _ => 0)) 39 ∧ Blk wr (w.heap.size + 3) (arrK .i64 32 G) 83)
        (fun kk _ => (16 - intOf kk).toNat)
      case atStart =>
        refine ⟨0, F, by omega, rfl, Lib.hid ⟨HF.out.1, HF.out.2.1, by rw [HF.out.2.2, Nat.mul_zero 16, Nat.pow_zero, Nat.mod_one, Nat.mul_zero, Nat.add_zero]⟩, bel, k_t2, k_t3, k_t4, k_t5⟩
      case round =>
        obtain ⟨k, G, hk, rfl, HG, bel, k_t2, k_t3, k_t4, k_t5⟩ := hrel
        by_cases hexit : k = 16
        · have _hx := hexit
          subst hexit
          go_wp2_with fail
          go_roundw
          case rel =>
            refine ⟨i + 1, G, by omega, by go_num, Lib.hid ⟨HG.out.1, ?_, ?_⟩, bel, k_t2, k_t3, k_t4, k_t5⟩
            · rw [show 16 * (i + 1) * 4294836225 = (16 * i + 16) * 4294836225 by omega]; exact HG.out.2.1
            · have h := HG.out.2.2
              rw [show Y % 2 ^ (16 * 16) = Y by rw [show (2 : Nat) ^ (16 * 16) = P256 by decide]; exact Nat.mod_eq_of_lt HY.out] at h
              rw [h, mod16_succ X i, Nat.add_mul]; rfl
          case measure => simp [intOf]; omega
        · have hk3 : k < 16 := by omega
          have hk3' : (k : Int) < 16 := by omega
          clear hexit
          obtain ⟨m, hm⟩ : ∃ v_, v_ = i + k := ⟨_, rfl⟩
          have hcs := conv_step G HG.out.1 X Y i k hi3 hk3 _ HG.out.2.1 HG.out.2.2
          have hG0 := HG.out.1 m
          have hG1 := HG.out.2.1 m
          have lx := l16_ok X i
          have ly := l16_ok Y k
          have hp : 0 ≤ l16 X i * l16 Y k ∧ l16 X i * l16 Y k ≤ 4294836225 := ⟨Int.mul_nonneg lx.1 ly.1, by have := Int.mul_le_mul lx.2 ly.2 ly.1 (by omega); omega⟩
          rw [← hm] at hcs
          have hm32 : m < 32 := by omega
          have hm32' : (m : Int) < 32 := by omega
          have w0 : IntKind.i64.wrap ((i : Int) + (k : Int)) = (m : Int) := by rw [IntWalk.i64_in _ (by omega)]; omega
          have c0 := (blk_cell k_t5 m).trans (arrK_get _ _ _ _ hm32)
          have c1 := (blk_cell k_t2 i).trans (arrK_get _ _ _ _ hi3)
          have c2 := (blk_cell k_t3 k).trans (arrK_get _ _ _ _ hk3)
          have f0 := blk_free k_t5
          obtain ⟨p, hpe⟩ : ∃ v_, v_ = l16 X i * l16 Y k := ⟨_, rfl⟩
          rw [← hpe] at hcs hp
          have w1 : IntKind.i64.wrap (l16 X i * l16 Y k) = p := by rw [← hpe]; exact IntWalk.i64_in _ (by omega)
          have w2 : IntKind.i64.wrap (G m + p) = G m + p := IntWalk.i64_in _ (by omega)
          have HC := Lib.hid hcs
          clear hcs hpe lx ly hG0 hG1 hp hm
          go_wp2
          go_region
          go_wp2
          have hs := blk_set k_t5 m (.int .i64 (G m + p))
          rw [arrK_set] at hs
          go_roundw
          case rel =>
            refine ⟨k + 1, _, by omega, ?_, ?_, (below_set bel (by omega) _ _).drew, blk_drew (blk_other k_t2 (by omega) _ _), blk_drew (blk_other k_t3 (by omega) _ _), blk_drew (blk_other k_t4 (by omega) _ _), blk_drew hs⟩
            · (first | rfl | go_num)
            · refine Lib.hid ⟨HC.out.1, ?_, HC.out.2.2⟩
              rw [show (16 * i + (k + 1)) * 4294836225 = (16 * i + k) * 4294836225 + 4294836225 by omega]; exact HC.out.2.1
          case measure => simp [intOf]; omega
end Go.Proofs.YtghajiagbfcmdaaDoor

/- bits of a key. Conditions: the bit's number is below 256, the key's parts are bytes. -/
import Derived.Test.YtndnlbinnhdmbaaDoorGc
import Derived.Test.YtndnlbinnhdmbaaDoorBw
import Derived.Test.YtndnlbinnhdmbaaDoorSg
set_option linter.unusedSimpArgs false
set_option linter.unusedVariables false
namespace Go.Proofs.YtndnlbinnhdmbaaDoor
set_option maxHeartbeats 1500000
set_option maxRecDepth 100000
open Go.RowKit
attribute [local irreducible] wpList
/-- bit i of a key -/
def kbit (f : Nat → Int) (i : Nat) : Int := f (i / 8) / 2 ^ (7 - i % 8) % 2
theorem div_byte {x : Int} {n : Nat} (h : 0 ≤ x ∧ x < 256) : 0 ≤ x / 2 ^ n ∧ x / 2 ^ n < 256 := by
  obtain ⟨a, rfl⟩ := Int.eq_ofNat_of_zero_le h.1
  rw [show ((a : Int) / 2 ^ n) = ((a / 2 ^ n : Nat) : Int) by rw [Int.natCast_ediv, Int.natCast_pow]; rfl]
  have h2 := Nat.div_le_self a (2 ^ n)
  have h3 := h.2
  clear h
  generalize a / 2 ^ n = q at *
  omega
section
variable {w : World} {o : Oper} {a : Act} {x y : Operand} {t t' : TypeId} {p : Int}
theorem run_shr_8 {P : Program} {k : IntKind} {n : Nat} (hn : n ≤ 8) (ho : o.op = .binOp .shr t x y t') (hx : a.eval x = .int .u8 p) (hy : a.eval y = .int k (n : Int)) : (execOp a.eval o).run P w = .ok (.value (.int .u8 (p / 2 ^ n))) w := by
  have h : min ((n : Int)).toNat IntKind.u8.bits = n := by rw [Int.toNat_natCast]; exact Nat.min_eq_left hn
  simp only [execOp, ho, hx, hy, eqGuard, binOp, Sem.run_bind]
  simp [Op.shift, h, go_sem, Sem.run_bind]
theorem run_cv8 (hp : 0 ≤ p ∧ p < 256) (ho : o.op = .convert 5 3 x) (hx : a.eval x = .int .u8 p) : (execOp a.eval o).run Tryd.prog w = .ok (.value (.int .i64 p)) w := by
  have hw : IntKind.wrap .i64 p = p := by rw [IntKind.wrap_i64]; omega
  simp [execOp, ho, hx, convert, run_underlying Tryd.underlying5, run_underlying Tryd.underlying3, Sem.run_bind, Conv.intToInt, hw]
theorem and_one (h : 0 ≤ p ∧ p < 256) : bits .and .i64 p 1 = p % 2 := bits_mask .i64 63 (by decide) wr63 1 (by decide) p h.1 (by omega)
end

theorem within_c (i : Nat) (hi : i < 256) (w : World) :
  Calls Tryd.prog 83 #[.int .i64 (i : Int)] w fun e w' => Ret (.bool true) w w' e := by
 have hi1 : (i : Int) < 256 := by omega
 have hi0 : (0 : Int) ≤ (i : Int) := by omega
 have off0 : Off [] w w := Off.refl _ _
 go_enter Tryd.func83, Tryd.ntmps83
 go_upto_region 1 with fail
 refine wp_region_lit ?_
 refine Lv ?_
 refine Lw ?_ (v := .bool true) (hv := by first | (go_simp; done) | (go_simp; omega))
 refine Lw ?_ (v := .bool true)
 refine Lv ?_
 refine Lw ?_ (v := .bool true) (hv := by first | (go_simp; done) | (go_simp; omega))
 refine Lw ?_ (v := .bool true)
 refine Lw ?_ (v := .bool true)
 refine wpL_nil ?_
 go_wp2
 exact bodyPost_ret (v := .bool true) (by simp only [results, Tryd.results83]; go_simp) rfl ⟨rfl, off0.ext⟩
theorem kbit_c (f : Nat → Int) (hf : ∀ j, 0 ≤ f j ∧ f j < 256) (i : Nat) (hi : i < 256) (w : World) :
  Calls Tryd.prog 61 #[.agg (arrK .u8 32 f), .int .i64 (i : Int)] w fun e w' => Ret (.int .i64 (kbit f i)) w w' e := by
 have hi1 : (i : Int) < 256 := by omega
 have hi0 : (0 : Int) ≤ (i : Int) := by omega
 have hD := div_byte (n := 7 - i % 8) (hf (i / 8))
 have hA := and_one hD
 clear hf
 have off0 : Off [] w w := Off.refl _ _
 go_enter Tryd.func61, Tryd.ntmps61
 go_upto_region 0 with fail
 refine wp_region_lit ?_
 refine Ln ?_ (z := arrK .u8 32 f) (t := 28)
 intro p2_1 W1 n_t2 hO h_
 replace off0 := off0.o hO
 have k_t2 := h_
 clear hO h_ n_t2
 refine Lw ?_ (v := .int .i64 0)
 refine wpL_nil ?_
 go_upto_region 1 with fail
 refine wp_region_lit ?_
 refine Lv ?_
 refine Lr ?_ (within_c i hi W1)
 intro W2 hO
 replace k_t2 := k_t2.o hO
 replace off0 := off0.o hO
 clear hO
 refine Lw ?_ (v := .bool false)
 refine wpL_nil ?_
 go_upto_region 3 with fail
 refine wp_region_lit ?_
 refine Lv ?_
 refine Lw ?_ (v := .int .i64 (((i / 8 : Nat) : Int))) (hv := by go_simp; (try simp only [IntKind.wrap_u64, IntKind.wrap_i64]); (try omega))
 refine Lw ?_ (v := .pointer (some ⟨p2_1, 0 + (i / 8), none⟩)) (hv := run_ixarr (m := 32) (by decide) (by omega) Tryd.underlying28 (by kernel_rfl) rfl rfl rfl)
 refine Lg ?_ k_t2 (v := .int .u8 (f (i / 8))) (hj := by rw [Nat.zero_add]; exact arrK_get _ _ _ _ (by omega))
 refine Lv ?_
 refine Lw ?_ (v := .int .i64 (((i % 8 : Nat) : Int))) (hv := by go_simp; (try rw [Int.tmod_eq_emod_of_nonneg (by omega)]); (try omega))
 refine Lw ?_ (v := .int .i64 (((7 - i % 8 : Nat) : Int))) (hv := by go_simp; (try simp only [IntKind.wrap_u64, IntKind.wrap_i64]); (try omega))
 refine Lw ?_ (v := .int .u8 (f (i / 8) / 2 ^ (7 - i % 8))) (hv := by exact run_shr_8 (n := 7 - i % 8) (by omega) rfl rfl rfl)
 refine Lw ?_ (v := .int .i64 (f (i / 8) / 2 ^ (7 - i % 8))) (hv := by exact run_cv8 hD rfl rfl)
 refine Lw ?_ (v := .int .i64 (kbit f i)) (hv := by unfold kbit; rw [← hA]; exact run_and_i rfl rfl rfl)
 refine Lv ?_
 refine wpL_nil ?_
 go_wp2
 exact bodyPost_ret (v := .int .i64 (kbit f i)) (by simp only [results, Tryd.results61]; go_simp) rfl ⟨rfl, off0.ext⟩
end Go.Proofs.YtndnlbinnhdmbaaDoor

/- Sums of 32 bytes: the padded row, the states, the sum; a sum that goes on. No conditions. Words of 32 bits reckoned as words and as numbers of the type int, with a mask. No conditions. sha2's sums that go on: what a Hash holds; New. Conditions: the tables hold their numbers. append to a slice of bytes that has no room left: a new row. No conditions. -/
import Derived.Test.YtejkmhgkkibafaaGreatDoorSqC
import Derived.Test.YtejkmhgkkibafaaGreatDoorJ11
import Derived.Test.YtejkmhgkkibafaaGreatDoorJ29
import Derived.Test.YtejkmhgkkibafaaGreatDoorGc
set_option linter.unusedSimpArgs false
set_option linter.unusedVariables false
namespace Go.Proofs.YtejkmhgkkibafaaGreatDoor
open Go.RowKit

/-- how many zeros stand behind the mark -/
def zc4 (n : Nat) : Nat := (119 - n % 64) % 64
/-- the padded row -/
def pad4 (l : List UInt8) : List UInt8 := l ++ [128] ++ List.replicate (zc4 l.length) 0 ++ be8 (8 * l.length)
def nb4 (n : Nat) : Nat := (n + 1 + zc4 n + 8) / 64
theorem zc_spec4 (n : Nat) : (n + 1 + zc4 n) % 64 = 56 ∧ zc4 n < 64 := by unfold zc4; omega
theorem zc_lt4 {n k : Nat} (h : k < zc4 n) : (n + 1 + k) % 64 ≠ 56 := by unfold zc4 at h; omega
theorem zc_rest4 (n : Nat) : zc4 (n - 64 * (n / 64)) = zc4 n := by unfold zc4; omega
theorem nb_rest4 (n : Nat) : nb4 (n - 64 * (n / 64)) + n / 64 = nb4 n := by unfold nb4 zc4; omega
theorem pad_length4 (l : List UInt8) : (pad4 l).length = 64 * nb4 l.length := by
  have h := zc_spec4 l.length
  unfold pad4 nb4
  simp only [List.length_append, List.length_cons, List.length_nil, List.length_replicate, be8]
  omega
/-- the states -/
def Hs4 (P : List UInt8) : Nat → Nat → Int
  | 0 => hf4
  | j + 1 => prs4 (Hs4 P j) (bt (P.drop (64 * j)))
/-- byte by byte -/
def ob4 (H : Nat → Int) (j : Nat) : Int := w8 (sr4 (H (j / 4)) (8 * (3 - j % 4)))
def outp4 (H : Nat → Int) (n j : Nat) : Int := if j < n then ob4 H j else 0
theorem outp_zero4 (H : Nat → Int) : outp4 H 0 = fun _ => 0 := by funext j; unfold outp4; rw [if_neg (by omega)]
theorem outp_step4 (H : Nat → Int) (i k : Nat) (hk : k < 4) : upd (outp4 H (4 * i + k)) (4 * i + k) (w8 (sr4 (H i) (8 * (3 - k)))) = outp4 H (4 * i + (k + 1)) := by
  funext j
  unfold upd outp4
  by_cases h : j = 4 * i + k
  · subst h
    rw [if_pos rfl, if_pos (by omega), ob4, show (4 * i + k) / 4 = i by omega, show (4 * i + k) % 4 = k by omega]
  · rw [if_neg h]
    by_cases hl : j < 4 * i + k
    · rw [if_pos hl, if_pos (by omega)]
    · rw [if_neg hl, if_neg (by omega)]
theorem outp_end4 (H : Nat → Int) : arrK .u8 32 (outp4 H 32) = arrK .u8 32 (ob4 H) := arrK_congr _ _ _ _ fun j hj => by unfold outp4; rw [if_pos hj]
/-- the sum's bytes -/
def sm4 (l : List UInt8) : Nat → Int := ob4 (Hs4 (pad4 l) (nb4 l.length))
theorem drop_next4 (P : List UInt8) (j : Nat) : List.drop 64 (List.drop (64 * j) P) = List.drop (64 * (j + 1)) P := by
  rw [List.drop_drop]; congr 1
/-! ### a block's words are of its bytes alone -/
theorem wrd_congr4 {a b : Nat → Int} {i : Nat} : ∀ k, (∀ j, j < 4 * i + k → a j = b j) → wrd4 a i k = wrd4 b i k
  | 0, _ => rfl
  | k + 1, h => by
    show oo4 (sl4 (wrd4 a i k) 8) (a (4 * i + k)) = oo4 (sl4 (wrd4 b i k) 8) (b (4 * i + k))
    rw [wrd_congr4 k (fun j hj => h j (by omega)), h (4 * i + k) (by omega)]
theorem sch_congr4 {a b : Nat → Int} (h : ∀ j, j < 64 → a j = b j) : ∀ i, sch4 a i = sch4 b i
  | 0 => rfl
  | i + 1 => by
    show upd (sch4 a i) i (if i < 16 then wrd4 a i 4 else sg4 (sch4 a i) i) = upd (sch4 b i) i (if i < 16 then wrd4 b i 4 else sg4 (sch4 b i) i)
    rw [sch_congr4 h i]
    by_cases hi : i < 16
    · rw [if_pos hi, if_pos hi, wrd_congr4 4 (fun j hj => h j (by omega))]
    · rw [if_neg hi, if_neg hi]
theorem prs_congr4 {H a b : Nat → Int} (h : ∀ j, j < 64 → a j = b j) : prs4 H a = prs4 H b := by
  funext j
  unfold prs4
  rw [sch_congr4 h 64]
theorem bt_drop4 (P : List UInt8) (n m : Nat) : bt (P.drop n) m = bt P (n + m) := by
  unfold bt
  simp [List.getD_eq_getElem?_getD, List.getElem?_drop]
theorem Hs_congr4 {P Q : List UInt8} : ∀ k, (∀ j, j < 64 * k → bt P j = bt Q j) → Hs4 P k = Hs4 Q k
  | 0, _ => rfl
  | k + 1, h => by
    show prs4 (Hs4 P k) (bt (P.drop (64 * k))) = prs4 (Hs4 Q k) (bt (Q.drop (64 * k)))
    rw [Hs_congr4 k (fun j hj => h j (by omega))]
    exact prs_congr4 fun j hj => by rw [bt_drop4, bt_drop4]; exact h _ (by omega)
theorem bt_app4 {P Q : List UInt8} {j : Nat} (h : j < P.length) : bt (P ++ Q) j = bt P j := by
  unfold bt
  simp [List.getD_eq_getElem?_getD, List.getElem?_append, h]
/-! ### a sum that goes on -/
/-- the words behind some bytes, and what is left of these -/
def hw4 (F : List UInt8) : Nat → Int := Hs4 F (F.length / 64)
def hr4 (F : List UInt8) : List UInt8 := F.drop (64 * (F.length / 64))
theorem hr_length4 (F : List UInt8) : (hr4 F).length = F.length - 64 * (F.length / 64) := by unfold hr4; rw [List.length_drop]
theorem hr_lt4 (F : List UInt8) : (hr4 F).length < 64 := by rw [hr_length4]; omega
theorem drop_app4 {F b : List UInt8} : (F ++ b).drop (64 * (F.length / 64)) = hr4 F ++ b := by
  unfold hr4
  rw [List.drop_append_of_le_length (by omega)]
theorem hw_app4 (F b : List UInt8) : hw4 F = Hs4 (F ++ b) (F.length / 64) := Hs_congr4 _ fun j hj => (bt_app4 (by omega)).symm
/-- a block more -/
theorem hs_next4 (F b : List UInt8) (k : Nat) : prs4 (Hs4 (F ++ b) (F.length / 64 + k)) (bt ((hr4 F ++ b).drop (64 * k))) = Hs4 (F ++ b) (F.length / 64 + (k + 1)) := by
  rw [← drop_app4, List.drop_drop, ← Nat.mul_add]; rfl
/-- behind all blocks -/
theorem hs_end4 {F b : List UInt8} {k : Nat} (h : k = (hr4 F ++ b).length / 64) : Hs4 (F ++ b) (F.length / 64 + k) = hw4 (F ++ b) ∧ (hr4 F ++ b).drop (64 * k) = hr4 (F ++ b) := by
  have e : F.length / 64 + k = (F ++ b).length / 64 := by rw [h, List.length_append, List.length_append, hr_length4]; omega
  refine ⟨by rw [hw4, e], ?_⟩
  rw [← drop_app4, List.drop_drop, ← Nat.mul_add, e]; rfl
/-- what is padded at the end -/
theorem pad_rest4 (F : List UInt8) : (pad4 F).drop (64 * (F.length / 64)) = hr4 F ++ [128] ++ List.replicate (zc4 F.length) 0 ++ be8 (8 * F.length) := by
  unfold pad4
  rw [List.append_assoc, List.append_assoc, drop_app4]
  simp only [List.append_assoc]
theorem hw_pad4 (F : List UInt8) : hw4 F = Hs4 (pad4 F) (F.length / 64) := by
  unfold pad4
  rw [List.append_assoc, List.append_assoc]
  exact hw_app4 _ _
theorem pad_next4 (F : List UInt8) (k : Nat) : prs4 (Hs4 (pad4 F) (F.length / 64 + k)) (bt (((pad4 F).drop (64 * (F.length / 64))).drop (64 * k))) = Hs4 (pad4 F) (F.length / 64 + (k + 1)) := by
  rw [List.drop_drop, ← Nat.mul_add]; rfl
theorem pad_end4 (F : List UInt8) : F.length / 64 + nb4 (hr4 F).length = nb4 F.length := by
  rw [hr_length4, Nat.add_comm]; exact nb_rest4 _
end Go.Proofs.YtejkmhgkkibafaaGreatDoor

set_option linter.unusedSimpArgs false
set_option linter.unusedVariables false
namespace Go.Proofs.YtejkmhgkkibafaaGreatDoor
open Go.RowKit

theorem bits_xor_nat (k : IntKind) (j : Nat) (hj : j ≤ k.bits) (hk : ∀ n : Int, 0 ≤ n → n < 2 ^ j → k.wrap n = n) (a b : Nat) (ha : a < 2 ^ j) (hb : b < 2 ^ j) : bits .xor k a b = ((a ^^^ b : Nat) : Int) := by
  have hp : 2 ^ j ≤ 2 ^ k.bits := Nat.pow_le_pow_right (by decide) hj
  have ha' : a % 2 ^ k.bits = a := Nat.mod_eq_of_lt (Nat.lt_of_lt_of_le ha hp)
  have hb' : b % 2 ^ k.bits = b := Nat.mod_eq_of_lt (Nat.lt_of_lt_of_le hb hp)
  simp only [bits, BitVec.ofInt_natCast, BitVec.toNat_xor, BitVec.toNat_ofNat, ha', hb']
  exact hk _ (Int.natCast_nonneg _) (by exact_mod_cast Nat.xor_lt_two_pow ha hb)
theorem wr32 (n : Int) (h0 : 0 ≤ n) (h1 : n < 2 ^ 32) : IntKind.u32.wrap n = n := by rw [IntKind.wrap_u32]; omega
theorem wr63 (n : Int) (h0 : 0 ≤ n) (h1 : n < 2 ^ 63) : IntKind.i64.wrap n = n := by rw [IntKind.wrap_i64]; omega
section
variable {a b : Nat}
theorem w_and (ha : a < 2 ^ 32) (hb : b < 2 ^ 32) : an4 a b = ((a &&& b : Nat) : Int) := (bits_nat .u32 32 (by decide) wr32 a b ha hb).1
theorem w_or (ha : a < 2 ^ 32) (hb : b < 2 ^ 32) : oo4 a b = ((a ||| b : Nat) : Int) := (bits_nat .u32 32 (by decide) wr32 a b ha hb).2
theorem w_xor (ha : a < 2 ^ 32) (hb : b < 2 ^ 32) : xo4 a b = ((a ^^^ b : Nat) : Int) := bits_xor_nat .u32 32 (by decide) wr32 a b ha hb
theorem i_and (ha : a < 2 ^ 63) (hb : b < 2 ^ 63) : bits .and .i64 a b = ((a &&& b : Nat) : Int) := (bits_nat .i64 63 (by decide) wr63 a b ha hb).1
theorem i_or (ha : a < 2 ^ 63) (hb : b < 2 ^ 63) : bits .or .i64 a b = ((a ||| b : Nat) : Int) := (bits_nat .i64 63 (by decide) wr63 a b ha hb).2
theorem i_xor (ha : a < 2 ^ 63) (hb : b < 2 ^ 63) : bits .xor .i64 a b = ((a ^^^ b : Nat) : Int) := bits_xor_nat .i64 63 (by decide) wr63 a b ha hb
end
/-- the mask -/
theorem i_mask {x : Int} (h0 : 0 ≤ x) (h1 : x < 2 ^ 63) : bits .and .i64 x 4294967295 = x % 4294967296 := bits_mask .i64 63 (by decide) wr63 32 (by decide) x h0 h1
/-- a word -/
def W4 (x : Int) : Prop := 0 ≤ x ∧ x < 4294967296
theorem W4.nat {x : Int} (h : W4 x) : ∃ a : Nat, x = (a : Int) ∧ a < 2 ^ 32 := ⟨x.toNat, by have := h.1; omega, by have := h.1; have := h.2; omega⟩
theorem W4.mk' {a : Nat} (h : a < 2 ^ 32) : W4 (a : Int) := ⟨by omega, by omega⟩
theorem up63 {a : Nat} (h : a < 2 ^ 32) : a < 2 ^ 63 := by omega
variable {x y : Int}
theorem xo_W4 (hx : W4 x) (hy : W4 y) : W4 (xo4 x y) := by
  obtain ⟨a, rfl, ha⟩ := hx.nat; obtain ⟨b, rfl, hb⟩ := hy.nat; rw [w_xor ha hb]; exact W4.mk' (Nat.xor_lt_two_pow ha hb)
theorem an_W4 (hx : W4 x) (hy : W4 y) : W4 (an4 x y) := by
  obtain ⟨a, rfl, ha⟩ := hx.nat; obtain ⟨b, rfl, hb⟩ := hy.nat; rw [w_and ha hb]; exact W4.mk' (Nat.and_lt_two_pow _ hb)
theorem oo_W4 (hx : W4 x) (hy : W4 y) : W4 (oo4 x y) := by
  obtain ⟨a, rfl, ha⟩ := hx.nat; obtain ⟨b, rfl, hb⟩ := hy.nat; rw [w_or ha hb]; exact W4.mk' (Nat.or_lt_two_pow ha hb)
theorem nt_W4 (hx : W4 x) : W4 (nt4 x) := xo_W4 (x := 4294967295) ⟨by decide, by decide⟩ hx
theorem ad_W4 : W4 (ad4 x y) := by unfold ad4 W4; rw [IntKind.wrap_u32]; omega
theorem sl_W4 {n : Nat} : W4 (sl4 x n) := by unfold sl4 W4; rw [IntKind.wrap_u32]; omega
theorem sr_W4 {n : Nat} (hx : W4 x) : W4 (sr4 x n) := by
  obtain ⟨a, rfl, ha⟩ := hx.nat
  unfold sr4
  rw [show ((a : Int) / 2 ^ n) = ((a / 2 ^ n : Nat) : Int) by rw [Int.natCast_ediv, Int.natCast_pow]; rfl]
  exact W4.mk' (Nat.lt_of_le_of_lt (Nat.div_le_self _ _) ha)
theorem rt_W4 {n : Nat} (hx : W4 x) : W4 (rt4 x n) := oo_W4 (sr_W4 hx) sl_W4
/-- the same by ints -/
theorem ix_xor (hx : W4 x) (hy : W4 y) : bits .xor .i64 x y = xo4 x y := by
  obtain ⟨a, rfl, ha⟩ := hx.nat; obtain ⟨b, rfl, hb⟩ := hy.nat; rw [w_xor ha hb, i_xor (up63 ha) (up63 hb)]
theorem ix_and (hx : W4 x) (hy : W4 y) : bits .and .i64 x y = an4 x y := by
  obtain ⟨a, rfl, ha⟩ := hx.nat; obtain ⟨b, rfl, hb⟩ := hy.nat; rw [w_and ha hb, i_and (up63 ha) (up63 hb)]
theorem ix_nt (hx : W4 x) : bits .xor .i64 4294967295 x = nt4 x := ix_xor (x := 4294967295) ⟨by decide, by decide⟩ hx
theorem ad_mod : ad4 x y = (x + y) % 4294967296 := by unfold ad4; rw [IntKind.wrap_u32]
theorem ix_shl {n : Nat} (hx : W4 x) (h1 : 1 ≤ n) (h2 : n ≤ 31) : IntKind.wrap .i64 (x * 2 ^ (32 - n)) = x * 2 ^ (32 - n) := by
  obtain ⟨a, rfl, ha⟩ := hx.nat
  have e2 : ((a : Int) * 2 ^ (32 - n)) = ((a * 2 ^ (32 - n) : Nat) : Int) := by rw [Int.natCast_mul, Int.natCast_pow]; rfl
  have h3 : 2 ^ (32 - n) ≤ 2 ^ 31 := Nat.pow_le_pow_right (by decide) (by omega)
  have l2 : a * 2 ^ (32 - n) < 2 ^ 63 := Nat.lt_of_le_of_lt (Nat.mul_le_mul_left _ h3) (by omega)
  rw [e2]
  exact wr63 _ (Int.natCast_nonneg _) (by exact_mod_cast l2)
/-- turned by ints -/
theorem ix_turn {n : Nat} (hx : W4 x) (h1 : 1 ≤ n) (h2 : n ≤ 31) : bits .and .i64 (bits .or .i64 (x / 2 ^ n) (x * 2 ^ (32 - n))) 4294967295 = rt4 x n := by
  obtain ⟨a, rfl, ha⟩ := hx.nat
  have e1 : ((a : Int) / 2 ^ n) = ((a / 2 ^ n : Nat) : Int) := by rw [Int.natCast_ediv, Int.natCast_pow]; rfl
  have e2 : ((a : Int) * 2 ^ (32 - n)) = ((a * 2 ^ (32 - n) : Nat) : Int) := by rw [Int.natCast_mul, Int.natCast_pow]; rfl
  have l1 : a / 2 ^ n < 2 ^ 32 := Nat.lt_of_le_of_lt (Nat.div_le_self _ _) ha
  have l2 : a * 2 ^ (32 - n) < 2 ^ 63 := by
    have h3 : 2 ^ (32 - n) ≤ 2 ^ 31 := Nat.pow_le_pow_right (by decide) (by omega)
    calc a * 2 ^ (32 - n) ≤ a * 2 ^ 31 := Nat.mul_le_mul_left _ h3
      _ < 2 ^ 63 := by omega
  have e3 : sl4 (a : Int) (32 - n) = ((a * 2 ^ (32 - n) % 2 ^ 32 : Nat) : Int) := by
    unfold sl4; rw [IntKind.wrap_u32, e2]; omega
  have l3 : a * 2 ^ (32 - n) % 2 ^ 32 < 2 ^ 32 := Nat.mod_lt _ (by decide)
  unfold rt4
  rw [e3, show sr4 (a : Int) n = ((a / 2 ^ n : Nat) : Int) from e1, w_or l1 l3, e1, e2, i_or (up63 l1) l2, i_mask (by omega) (by exact_mod_cast Nat.or_lt_two_pow (up63 l1) l2)]
  have h4 : (a / 2 ^ n ||| a * 2 ^ (32 - n)) % 2 ^ 32 = a / 2 ^ n ||| a * 2 ^ (32 - n) % 2 ^ 32 := by rw [Nat.or_mod_two_pow, Nat.mod_eq_of_lt l1]
  rw [← h4]; omega
end Go.Proofs.YtejkmhgkkibafaaGreatDoor

set_option linter.unusedSimpArgs false
set_option linter.unusedVariables false
namespace Go.Proofs.YtejkmhgkkibafaaGreatDoor
set_option maxHeartbeats 1500000
set_option maxRecDepth 100000
open Go.RowKit
attribute [local irreducible] wpList

/-- the cells of a Hash: eight words, the rest, the count -/
abbrev hc8 (H : Nat → Int) (v n : Value) : Array Value := arrK .u32 8 H ++ #[v, n]
section
variable {H K : Nat → Int} {v n x : Value}
theorem hc_size : (hc8 H v n).size = 10 := by simp [arrK_size]
theorem hc_words : ∀ i u, (arrK .u32 8 H)[i]? = some u → (hc8 H v n)[0 + i]? = some u := fun i u h => by
  have hi : i < (arrK .u32 8 H).size := by
    rcases Nat.lt_or_ge i (arrK .u32 8 H).size with h1 | h1
    · exact h1
    · rw [Array.getElem?_eq_none h1] at h; cases h
  rw [Nat.zero_add, Array.getElem?_append_left hi]; exact h
theorem hc_rest : (hc8 H v n)[8]? = some v := by rw [Array.getElem?_append_right (by rw [arrK_size]; decide), arrK_size]; rfl
theorem hc_count : (hc8 H v n)[9]? = some n := by rw [Array.getElem?_append_right (by rw [arrK_size]; decide), arrK_size]; rfl
theorem hc_putrest : (hc8 H v n).setIfInBounds 8 x = hc8 H x n := by
  apply Array.toList_inj.1; simp [arrK]
theorem hc_putcount : (hc8 H v n).setIfInBounds 9 x = hc8 H v x := by
  apply Array.toList_inj.1; simp [arrK]
theorem hc_putwords : spl (hc8 H v n) 0 (arrK .u32 8 K).toList = hc8 K v n := by
  first | kernel_rfl | rfl | (apply Array.toList_inj.1; simp [spl, arrK, List.range, List.range.loop])
end
/-- a Hash that has taken the bytes F: its words, what is left of F, and the count -/
abbrev hcs (v : Value) (F : List UInt8) : Array Value := hc8 (hw4 F) v (.int .i64 (F.length : Int))
def Hsh (w : World) (p : Nat) (v : Value) (F : List UInt8) : Prop := Blk w p (hcs v F) 196 ∧ Own w v (hr4 F) ∧ v.ownBlock ≠ some p

theorem new4_c (w : World) (hG : GS4 w) :
  Calls Tryz.prog 84 #[] w fun e w' => ∃ p, e = .returned (.pointer (some ⟨p, 0, none⟩)) ∧ w.heap.size ≤ p ∧ Off [] w w' ∧ Hsh w' p (.slice none 0 0) [] := by
 have HG := Lib.hid hG
 clear hG
 have off0 : Off [] w w := Off.refl _ _
 go_enter Tryz.func84, Tryz.ntmps84
 go_upto_region 1 with fail
 refine wp_region_lit ?_
 refine wpL_rd0 (by rfl) rfl rfl ((GS_ext4 HG.out off0.ext).2) (by kernel_rfl) (by rw [arrK_size]; kernel_rfl) ?_
 (try simp only [Act.put, mA, mB, mC])
 refine Lw ?_ (v := .agg (hcs (.slice none 0 0) [])) (hv := by first | rfl | (go_simp; rfl) | kernel_rfl)
 refine Ln ?_ (z := hcs (.slice none 0 0) []) (t := 196)
 intro p3_1 W1 n_t3 hO h_
 have fb_t3 := fbn off0 n_t3
 replace off0 := off0.o hO
 have k_t3 := h_
 clear hO h_ n_t3
 refine Lv ?_
 refine wpL_nil ?_
 go_wp2
 exact bodyPost_ret (v := .pointer (some ⟨p3_1, 0, none⟩)) (by simp only [results, Tryz.results84]; go_simp) rfl ⟨_, rfl, Nat.le_of_not_lt (fun h_ => by simpa using fb_t3 h_), off0, k_t3, own_nil _, fun e_ => by cases e_⟩
end Go.Proofs.YtejkmhgkkibafaaGreatDoor

set_option linter.unusedSimpArgs false
set_option linter.unusedVariables false
namespace Go.Proofs.YtejkmhgkkibafaaGreatDoor
open Go.RowKit
set_option linter.unusedSimpArgs false

theorem sl_cells_at {w : World} {ad : Addr} {n c : Nat} {l : List UInt8} (h : Sl w (.slice (some ad) n c) l) : ∀ j u, (bs8 l)[j]? = some u → w.cell? (ad.add j) = some u := fun j u hu => by
  simp only [bs8, List.getElem?_map, Option.map_eq_some_iff] at hu
  obtain ⟨x, hx, rfl⟩ := hu
  exact sl_at h hx
theorem sl_fresh (w : World) {l : List UInt8} {cap n : Nat} {z : Array Value} (hn : n = l.length) (hc : l.length ≤ cap) (hm : cap ≤ maxLen) : Sl (w.drew.alloc (.cells ((bs8 l).toArray ++ z) 5)) (.slice (some ⟨w.heap.size, 0, none⟩) n cap) l :=
  sl_blk (cs := (bs8 l).toArray ++ z) (t := 5) (by exact heap_alloc_new w.drew _) hn (by omega) hm fun j x hj => by
    have h1 := bs8_get hj
    have h2 : j < (bs8 l).length := (List.getElem?_eq_some_iff.1 h1).1
    rw [Nat.zero_add, Array.getElem?_append_left (by simpa using h2)]
    simpa using h1
theorem run_append_tight (w : World) (ty : TypeId) {A : Option Addr} {u : Value} {l m : List UInt8} (hv : Sl w (.slice A l.length l.length) l) (hu : Sl w u m) (hlen : l.length + m.length ≤ 140737488355328) :
    ∃ v' W, (Builtin.append_ #[22, 22] ty #[.slice A l.length l.length, u]).run Tryz.prog w = .ok v' W ∧ Sl W v' (l ++ m) ∧ Off [] w W ∧ ((m = [] ∧ v' = .slice A l.length l.length) ∨ v'.ownBlock = some w.heap.size) := by
  obtain ⟨i, hi, hz, hsz, hby⟩ := info_parts bytes_info
  have ht := Tryz.underlying22
  obtain ⟨B, c, rfl, hc, hm, h0, hcell⟩ := id hu
  by_cases hme : m = []
  · subst hme
    refine ⟨_, w, ?_, by rw [List.append_nil]; exact hv, Off.refl _ _, .inl ⟨rfl, rfl⟩⟩
    cases A <;> cases B <;> simp [Builtin.append_, run_underlying ht, sizeOf, typeInfo, hi, Builtin.lenOf, Builtin.firstCells, storeCells, loadCells, loadCellsFrom]
  · have hml : 0 < m.length := List.length_pos_iff.2 hme
    rcases B with _ | ad
    · obtain ⟨ad, h, _⟩ := hcell 0 m[0] (List.getElem?_eq_getElem hml); cases h
    · have hge := fun o => grownCap_ge w (l.length + m.length) o 5
      have hcm := fun o => grownCap_le_maxLen w (l.length + m.length) o 5 (by unfold maxLen; omega)
      rcases A with _ | b
      · have hl : l = [] := by
          cases l with
          | nil => rfl
          | cons x r => obtain ⟨_, _, h, _, _, _, hcell2⟩ := hv; obtain ⟨ad, h2, _⟩ := hcell2 0 x rfl; cases h; cases h2
        subst hl
        have hr := run_append_nil (P := Tryz.prog) (w := w) 22 ty 5 i (.int .u8 0) ht hi hz ad m.length c (bs8 m) (by rw [bs8_length, hsz, Nat.mul_one]) (sl_cells_at hu) hml (by omega) (by rw [hby]; omega)
        refine ⟨_, _, hr, ?_, off_ext ((Below.refl _ _).drew.alloc (Nat.le_refl _) _), .inr rfl⟩
        have hg := hge 0; have hc2 := hcm 0
        simp only [List.length_nil, Nat.zero_add] at hg hc2
        exact sl_fresh w rfl hg hc2
      · have hr := run_append_grow (P := Tryz.prog) (w := w) 22 ty 5 i (.int .u8 0) ht hi hz b l.length l.length (bs8 l) (by rw [bs8_length, hsz, Nat.mul_one]) (sl_cells_at hv) ad m.length c (bs8 m) (by rw [bs8_length, hsz, Nat.mul_one]) (sl_cells_at hu) (by omega) (by omega) (by rw [hby]; exact growslice_fits (by omega) (by omega))
        refine ⟨_, _, hr, ?_, off_ext ((Below.refl _ _).drew.alloc (Nat.le_refl _) _), .inr rfl⟩
        rw [show (bs8 l).toArray ++ (bs8 m).toArray = (bs8 (l ++ m)).toArray by rw [bs8_append]; simp]
        exact sl_fresh w (by rw [List.length_append]) (by rw [List.length_append]; exact hge _) (hcm _)
/-- v[:n:n] -/
theorem run_tight {w : World} {v : Value} {l : List UInt8} (hs : Sl w v l) : ∃ A, (∀ W, (Instr.sliceAt 22 v none (some (.int .i64 (l.length : Int))) (some (.int .i64 (l.length : Int)))).run Tryz.prog W = .ok (.slice A l.length l.length) W) ∧ Sl w (.slice A l.length l.length) l ∧ (∀ x, (Value.slice A l.length l.length).ownBlock = some x → v.ownBlock = some x) := by
  obtain ⟨A, c, rfl, h1, h2, h0, h3⟩ := hs
  have hA : A.map (fun a : Addr => a.add 0) = A := by
    have : ∀ a : Addr, a.add 0 = a := fun a => by unfold Addr.add; simp
    cases A <;> simp [this]
  refine ⟨A, fun W => ?_, ⟨A, l.length, rfl, Nat.le_refl _, Nat.le_trans h1 h2, fun h => ?_, h3⟩, fun x hx => by cases A <;> exact hx⟩
  · have hnc : l.length ≤ c := h1
    have h1 := u8_size
    cases hq : Tryz.prog.info? 5 with
    | none => simp [hq] at h1
    | some i => simp [Instr.sliceAt, Instr.slice, Instr.sliceBounds, Instr.sliceBound, asIntOf, run_underlying Tryz.underlying22, Sem.run_bind, sizeOf, typeInfo, hq, hnc, hA]
  · have := h0 h; omega
end Go.Proofs.YtejkmhgkkibafaaGreatDoor

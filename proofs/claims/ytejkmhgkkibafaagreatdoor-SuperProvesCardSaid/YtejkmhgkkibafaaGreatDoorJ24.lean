/- Sums of 32 bytes: the padded row, the states, the sum; a sum that goes on. No conditions. Words of 32 bits reckoned as words and as numbers of the type int, with a mask. No conditions. sha2's sums that go on: what a Hash holds; New. Conditions: the tables hold their numbers. append to a slice of bytes that has no room left: a new row. No conditions. append to a slice of bytes that has no room, over the list of what lies where; press by a slice. Conditions: the tables hold their numbers. sha2: bytes written into a sum that goes on. Conditions: the tables hold their numbers. -/
import Derived.Test.YtejkmhgkkibafaaGreatDoorJ23
import Derived.Test.YtejkmhgkkibafaaGreatDoorJ9
import Derived.Test.YtejkmhgkkibafaaGreatDoorJ22
import Derived.Test.YtejkmhgkkibafaaGreatDoorGc
import Derived.Test.YtejkmhgkkibafaaGreatDoorJ5
set_option linter.unusedSimpArgs false
set_option linter.unusedVariables false
namespace Go.Proofs.YtejkmhgkkibafaaGreatDoor
section
open Go.RowKit

def zc4 (n : Nat) : Nat := (119 - n % 64) % 64
def J4 (l : List UInt8) : List UInt8 := l ++ [128] ++ List.replicate (zc4 l.length) 0 ++ be8 (8 * l.length)
def nb4 (n : Nat) : Nat := (n + 1 + zc4 n + 8) / 64
theorem J9g (n : Nat) : (n + 1 + zc4 n) % 64 = 56 ∧ zc4 n < 64 := by unfold zc4; omega
theorem Y0h {n k : Nat} (h : k < zc4 n) : (n + 1 + k) % 64 ≠ 56 := by unfold zc4 at h; omega
theorem Y0g (n : Nat) : zc4 (n - 64 * (n / 64)) = zc4 n := by unfold zc4; omega
theorem Y0i (n : Nat) : nb4 (n - 64 * (n / 64)) + n / 64 = nb4 n := by unfold nb4 zc4; omega
theorem Q2r (l : List UInt8) : (J4 l).length = 64 * nb4 l.length := by
  have h := J9g l.length
  unfold J4 nb4
  simp only [List.length_append, List.length_cons, List.length_nil, List.length_replicate, be8]
  omega
def Y3 (P : List UInt8) : Nat → Nat → Int
  | 0 => hf4
  | j + 1 => J79 (Y3 P j) (bt (P.drop (64 * j)))
def ob4 (H : Nat → Int) (j : Nat) : Int := w8 (sr4 (H (j / 4)) (8 * (3 - j % 4)))
def J8p (H : Nat → Int) (n j : Nat) : Int := if j < n then ob4 H j else 0
theorem Z1t (H : Nat → Int) : J8p H 0 = fun _ => 0 := by funext j; unfold J8p; rw [if_neg (by omega)]
theorem J8j (H : Nat → Int) (i k : Nat) (hk : k < 4) : upd (J8p H (4 * i + k)) (4 * i + k) (w8 (sr4 (H i) (8 * (3 - k)))) = J8p H (4 * i + (k + 1)) := by
  funext j
  unfold upd J8p
  by_cases h : j = 4 * i + k
  · subst h
    rw [if_pos rfl, if_pos (by omega), ob4, show (4 * i + k) / 4 = i by omega, show (4 * i + k) % 4 = k by omega]
  rw [if_neg h]
  by_cases hl : j < 4 * i + k
  · rw [if_pos hl, if_pos (by omega)]
  rw [if_neg hl, if_neg (by omega)]
theorem Z64 (H : Nat → Int) : J0 .u8 32 (J8p H 32) = J0 .u8 32 (ob4 H) := J07 _ _ _ _ fun j hj => by unfold J8p; rw [if_pos hj]
def sm4 (l : List UInt8) : Nat → Int := ob4 (Y3 (J4 l) (nb4 l.length))
theorem Q4w (P : List UInt8) (j : Nat) : List.drop 64 (List.drop (64 * j) P) = List.drop (64 * (j + 1)) P := by
  rw [List.drop_drop]; congr 1
/-! ### a block's words are of its bytes alone -/
theorem Q4y {a b : Nat → Int} {i : Nat} : ∀ k, (∀ j, j < 4 * i + k → a j = b j) → J4a a i k = J4a b i k
  | 0, _ => rfl
  | k + 1, h => by
    show oo4 (sl4 (J4a a i k) 8) (a (4 * i + k)) = oo4 (sl4 (J4a b i k) 8) (b (4 * i + k))
    rw [Q4y k (fun j hj => h j (by omega)), h (4 * i + k) (by omega)]
theorem Q4z {a b : Nat → Int} (h : ∀ j, j < 64 → a j = b j) : ∀ i, J9 a i = J9 b i
  | 0 => rfl
  | i + 1 => by
    show upd (J9 a i) i (if i < 16 then J4a a i 4 else sg4 (J9 a i) i) = upd (J9 b i) i (if i < 16 then J4a b i 4 else sg4 (J9 b i) i)
    rw [Q4z h i]
    by_cases hi : i < 16
    · rw [if_pos hi, if_pos hi, Q4y 4 (fun j hj => h j (by omega))]
    · rw [if_neg hi, if_neg hi]
theorem Q4v {H a b : Nat → Int} (h : ∀ j, j < 64 → a j = b j) : J79 H a = J79 H b := by
  funext j
  unfold J79
  rw [Q4z h 64]
theorem J7u (P : List UInt8) (n m : Nat) : bt (P.drop n) m = bt P (n + m) := by
  unfold bt
  simp [List.getD_eq_getElem?_getD, List.getElem?_drop]
theorem Q6e {P Q : List UInt8} : ∀ k, (∀ j, j < 64 * k → bt P j = bt Q j) → Y3 P k = Y3 Q k
  | 0, _ => rfl
  | k + 1, h => by
    show J79 (Y3 P k) (bt (P.drop (64 * k))) = J79 (Y3 Q k) (bt (Q.drop (64 * k)))
    rw [Q6e k (fun j hj => h j (by omega))]
    exact Q4v fun j hj => by rw [J7u, J7u]; exact h _ (by omega)
theorem Y49 {P Q : List UInt8} {j : Nat} (h : j < P.length) : bt (P ++ Q) j = bt P j := by
  unfold bt
  simp [List.getD_eq_getElem?_getD, List.getElem?_append, h]
/-! ### a sum that goes on -/
def hw4 (F : List UInt8) : Nat → Int := Y3 F (F.length / 64)
def hr4 (F : List UInt8) : List UInt8 := F.drop (64 * (F.length / 64))
theorem J8i (F : List UInt8) : (hr4 F).length = F.length - 64 * (F.length / 64) := by unfold hr4; rw [List.length_drop]
theorem Z1s (F : List UInt8) : (hr4 F).length < 64 := by rw [J8i]; omega
theorem Q28 {F b : List UInt8} : (F ++ b).drop (64 * (F.length / 64)) = hr4 F ++ b := by
  unfold hr4
  rw [List.drop_append_of_le_length (by omega)]
theorem Z40 (F b : List UInt8) : hw4 F = Y3 (F ++ b) (F.length / 64) := Q6e _ fun j hj => (Y49 (by omega)).symm
theorem Y0f (F b : List UInt8) (k : Nat) : J79 (Y3 (F ++ b) (F.length / 64 + k)) (bt ((hr4 F ++ b).drop (64 * k))) = Y3 (F ++ b) (F.length / 64 + (k + 1)) := by
  rw [← Q28, List.drop_drop, ← Nat.mul_add]; rfl
theorem Y40 {F b : List UInt8} {k : Nat} (h : k = (hr4 F ++ b).length / 64) : Y3 (F ++ b) (F.length / 64 + k) = hw4 (F ++ b) ∧ (hr4 F ++ b).drop (64 * k) = hr4 (F ++ b) := by
  have e : F.length / 64 + k = (F ++ b).length / 64 := by rw [h, List.length_append, List.length_append, J8i]; omega
  refine ⟨by rw [hw4, e], ?_⟩
  rw [← Q28, List.drop_drop, ← Nat.mul_add, e]; rfl
theorem Z62 (F : List UInt8) : (J4 F).drop (64 * (F.length / 64)) = hr4 F ++ [128] ++ List.replicate (zc4 F.length) 0 ++ be8 (8 * F.length) := by
  unfold J4
  rw [List.append_assoc, List.append_assoc, Q28]
  simp only [List.append_assoc]
theorem Y43 (F : List UInt8) : hw4 F = Y3 (J4 F) (F.length / 64) := by
  unfold J4
  rw [List.append_assoc, List.append_assoc]
  exact Z40 _ _
theorem Z63 (F : List UInt8) (k : Nat) : J79 (Y3 (J4 F) (F.length / 64 + k)) (bt (((J4 F).drop (64 * (F.length / 64))).drop (64 * k))) = Y3 (J4 F) (F.length / 64 + (k + 1)) := by
  rw [List.drop_drop, ← Nat.mul_add]; rfl
theorem Z0a (F : List UInt8) : F.length / 64 + nb4 (hr4 F).length = nb4 F.length := by
  rw [J8i, Nat.add_comm]; exact Y0i _
end

section
open Go.RowKit

theorem J3d (k : IntKind) (j : Nat) (hj : j ≤ k.bits) (hk : ∀ n : Int, 0 ≤ n → n < 2 ^ j → k.wrap n = n) (a b : Nat) (ha : a < 2 ^ j) (hb : b < 2 ^ j) : bits .xor k a b = ((a ^^^ b : Nat) : Int) := by
  have hp : 2 ^ j ≤ 2 ^ k.bits := Nat.pow_le_pow_right (by decide) hj
  have ha' : a % 2 ^ k.bits = a := Nat.mod_eq_of_lt (Nat.lt_of_lt_of_le ha hp)
  have hb' : b % 2 ^ k.bits = b := Nat.mod_eq_of_lt (Nat.lt_of_lt_of_le hb hp)
  simp only [bits, BitVec.ofInt_natCast, BitVec.toNat_xor, BitVec.toNat_ofNat, ha', hb']
  exact hk _ (Int.natCast_nonneg _) (by exact_mod_cast Nat.xor_lt_two_pow ha hb)
theorem Y6u (n : Int) (h0 : 0 ≤ n) (h1 : n < 2 ^ 32) : IntKind.u32.wrap n = n := by rw [IntKind.wrap_u32]; omega
theorem Z0q (n : Int) (h0 : 0 ≤ n) (h1 : n < 2 ^ 63) : IntKind.i64.wrap n = n := by rw [IntKind.wrap_i64]; omega
section
variable {a b : Nat}
theorem Y4t (ha : a < 2 ^ 32) (hb : b < 2 ^ 32) : an4 a b = ((a &&& b : Nat) : Int) := (bits_nat .u32 32 (by decide) Y6u a b ha hb).1
theorem Y6v (ha : a < 2 ^ 32) (hb : b < 2 ^ 32) : oo4 a b = ((a ||| b : Nat) : Int) := (bits_nat .u32 32 (by decide) Y6u a b ha hb).2
theorem Y4u (ha : a < 2 ^ 32) (hb : b < 2 ^ 32) : xo4 a b = ((a ^^^ b : Nat) : Int) := J3d .u32 32 (by decide) Y6u a b ha hb
theorem V1e (ha : a < 2 ^ 63) (hb : b < 2 ^ 63) : bits .and .i64 a b = ((a &&& b : Nat) : Int) := (bits_nat .i64 63 (by decide) Z0q a b ha hb).1
theorem V1f (ha : a < 2 ^ 63) (hb : b < 2 ^ 63) : bits .or .i64 a b = ((a ||| b : Nat) : Int) := (bits_nat .i64 63 (by decide) Z0q a b ha hb).2
theorem V1g (ha : a < 2 ^ 63) (hb : b < 2 ^ 63) : bits .xor .i64 a b = ((a ^^^ b : Nat) : Int) := J3d .i64 63 (by decide) Z0q a b ha hb
end
theorem Q3k {x : Int} (h0 : 0 ≤ x) (h1 : x < 2 ^ 63) : bits .and .i64 x 4294967295 = x % 4294967296 := bits_mask .i64 63 (by decide) Z0q 32 (by decide) x h0 h1
def W4 (x : Int) : Prop := 0 ≤ x ∧ x < 4294967296
theorem W4.nat {x : Int} (h : W4 x) : ∃ a : Nat, x = (a : Int) ∧ a < 2 ^ 32 := ⟨x.toNat, by have := h.1; omega, by have := h.1; have := h.2; omega⟩
theorem W4.mk' {a : Nat} (h : a < 2 ^ 32) : W4 (a : Int) := ⟨by omega, by omega⟩
theorem Z4j {a : Nat} (h : a < 2 ^ 32) : a < 2 ^ 63 := by omega
variable {x y : Int}
theorem J5r (hx : W4 x) (hy : W4 y) : W4 (xo4 x y) := by
  obtain ⟨a, rfl, ha⟩ := hx.nat; obtain ⟨b, rfl, hb⟩ := hy.nat; rw [Y4u ha hb]; exact W4.mk' (Nat.xor_lt_two_pow ha hb)
theorem J57 (hx : W4 x) (hy : W4 y) : W4 (an4 x y) := by
  obtain ⟨a, rfl, ha⟩ := hx.nat; obtain ⟨b, rfl, hb⟩ := hy.nat; rw [Y4t ha hb]; exact W4.mk' (Nat.and_lt_two_pow _ hb)
theorem Y4v (hx : W4 x) (hy : W4 y) : W4 (oo4 x y) := by
  obtain ⟨a, rfl, ha⟩ := hx.nat; obtain ⟨b, rfl, hb⟩ := hy.nat; rw [Y6v ha hb]; exact W4.mk' (Nat.or_lt_two_pow ha hb)
theorem Z27 (hx : W4 x) : W4 (nt4 x) := J5r (x := 4294967295) ⟨by decide, by decide⟩ hx
theorem Z28 : W4 (ad4 x y) := by unfold ad4 W4; rw [IntKind.wrap_u32]; omega
theorem Y4w {n : Nat} : W4 (sl4 x n) := by unfold sl4 W4; rw [IntKind.wrap_u32]; omega
theorem Z29 {n : Nat} (hx : W4 x) : W4 (sr4 x n) := by
  obtain ⟨a, rfl, ha⟩ := hx.nat
  unfold sr4
  rw [show ((a : Int) / 2 ^ n) = ((a / 2 ^ n : Nat) : Int) by rw [Int.natCast_ediv, Int.natCast_pow]; rfl]
  exact W4.mk' (Nat.lt_of_le_of_lt (Nat.div_le_self _ _) ha)
theorem J2z {n : Nat} (hx : W4 x) : W4 (rt4 x n) := Y4v (Z29 hx) Y4w
theorem J5k (hx : W4 x) (hy : W4 y) : bits .xor .i64 x y = xo4 x y := by
  obtain ⟨a, rfl, ha⟩ := hx.nat; obtain ⟨b, rfl, hb⟩ := hy.nat; rw [Y4u ha hb, V1g (Z4j ha) (Z4j hb)]
theorem Q3l (hx : W4 x) (hy : W4 y) : bits .and .i64 x y = an4 x y := by
  obtain ⟨a, rfl, ha⟩ := hx.nat; obtain ⟨b, rfl, hb⟩ := hy.nat; rw [Y4t ha hb, V1e (Z4j ha) (Z4j hb)]
theorem V1h (hx : W4 x) : bits .xor .i64 4294967295 x = nt4 x := J5k (x := 4294967295) ⟨by decide, by decide⟩ hx
theorem Q1u : ad4 x y = (x + y) % 4294967296 := by unfold ad4; rw [IntKind.wrap_u32]
theorem Y6w {n : Nat} (hx : W4 x) (h1 : 1 ≤ n) (h2 : n ≤ 31) : IntKind.wrap .i64 (x * 2 ^ (32 - n)) = x * 2 ^ (32 - n) := by
  obtain ⟨a, rfl, ha⟩ := hx.nat
  have e2 : ((a : Int) * 2 ^ (32 - n)) = ((a * 2 ^ (32 - n) : Nat) : Int) := by rw [Int.natCast_mul, Int.natCast_pow]; rfl
  have h3 : 2 ^ (32 - n) ≤ 2 ^ 31 := Nat.pow_le_pow_right (by decide) (by omega)
  have l2 : a * 2 ^ (32 - n) < 2 ^ 63 := Nat.lt_of_le_of_lt (Nat.mul_le_mul_left _ h3) (by omega)
  rw [e2]
  exact Z0q _ (Int.natCast_nonneg _) (by exact_mod_cast l2)
theorem Y1m {n : Nat} (hx : W4 x) (h1 : 1 ≤ n) (h2 : n ≤ 31) : bits .and .i64 (bits .or .i64 (x / 2 ^ n) (x * 2 ^ (32 - n))) 4294967295 = rt4 x n := by
  obtain ⟨a, rfl, ha⟩ := hx.nat
  have e1 : ((a : Int) / 2 ^ n) = ((a / 2 ^ n : Nat) : Int) := by rw [Int.natCast_ediv, Int.natCast_pow]; rfl
  have e2 : ((a : Int) * 2 ^ (32 - n)) = ((a * 2 ^ (32 - n) : Nat) : Int) := by rw [Int.natCast_mul, Int.natCast_pow]; rfl
  have l1 : a / 2 ^ n < 2 ^ 32 := Nat.lt_of_le_of_lt (Nat.div_le_self _ _) ha
  have l2 : a * 2 ^ (32 - n) < 2 ^ 63 := by
    have h3 : 2 ^ (32 - n) ≤ 2 ^ 31 := Nat.pow_le_pow_right (by decide) (by omega)
    calc a * 2 ^ (32 - n) ≤ a * 2 ^ 31 := Nat.mul_le_mul_left _ h3
      _ < 2 ^ 63 := by omega
  have e3 : sl4 (a : Int) (32 - n) = ((a * 2 ^ (32 - n) % 2 ^ 32 : Nat) : Int) := by
    unfold sl4; rw [IntKind.wrap_u32, e2]; omega
  have l3 : a * 2 ^ (32 - n) % 2 ^ 32 < 2 ^ 32 := Nat.mod_lt _ (by decide)
  unfold rt4
  rw [e3, show sr4 (a : Int) n = ((a / 2 ^ n : Nat) : Int) from e1, Y6v l1 l3, e1, e2, V1f (Z4j l1) l2, Q3k (by omega) (by exact_mod_cast Nat.or_lt_two_pow (Z4j l1) l2)]
  have h4 : (a / 2 ^ n ||| a * 2 ^ (32 - n)) % 2 ^ 32 = a / 2 ^ n ||| a * 2 ^ (32 - n) % 2 ^ 32 := by rw [Nat.or_mod_two_pow, Nat.mod_eq_of_lt l1]
  rw [← h4]; omega
end

section
set_option maxHeartbeats 1500000
set_option maxRecDepth 100000
open Go.RowKit
attribute [local irreducible] wpList

abbrev hc8 (H : Nat → Int) (v n : Value) : Array Value := J0 .u32 8 H ++ #[v, n]
section
variable {H K : Nat → Int} {v n x : Value}
theorem Q8d : (hc8 H v n).size = 10 := by simp [J2]
theorem Z05 : ∀ i u, (J0 .u32 8 H)[i]? = some u → (hc8 H v n)[0 + i]? = some u := fun i u h => by
  have hi : i < (J0 .u32 8 H).size := by
    rcases Nat.lt_or_ge i (J0 .u32 8 H).size with h1 | h1
    · exact h1
    · rw [Array.getElem?_eq_none h1] at h; cases h
  rw [Nat.zero_add, Array.getElem?_append_left hi]; exact h
theorem Q3e : (hc8 H v n)[8]? = some v := by rw [Array.getElem?_append_right (by rw [J2]; decide), J2]; rfl
theorem J4o : (hc8 H v n)[9]? = some n := by rw [Array.getElem?_append_right (by rw [J2]; decide), J2]; rfl
theorem Z1r : (hc8 H v n).setIfInBounds 8 x = hc8 H x n := by
  apply Array.toList_inj.1; simp [J0]
theorem Z06 : (hc8 H v n).setIfInBounds 9 x = hc8 H v x := by
  apply Array.toList_inj.1; simp [J0]
theorem Z07 : spl (hc8 H v n) 0 (J0 .u32 8 K).toList = hc8 K v n := by
  first | kernel_rfl | rfl | (apply Array.toList_inj.1; simp [spl, J0, List.range, List.range.loop])
end
abbrev hcs (v : Value) (F : List UInt8) : Array Value := hc8 (hw4 F) v (.int .i64 (F.length : Int))
def Hsh (w : World) (p : Nat) (v : Value) (F : List UInt8) : Prop := Blk w p (hcs v F) 196 ∧ Own w v (hr4 F) ∧ v.ownBlock ≠ some p

theorem Y9t (w : World) (hG : GS4 w) :
  Calls Tryz.prog 84 #[] w fun e w' => ∃ p, e = .returned (.pointer (some ⟨p, 0, none⟩)) ∧ w.heap.size ≤ p ∧ Off [] w w' ∧ Hsh w' p (.slice none 0 0) [] := by
 have HG := Lib.hid hG
 clear hG
 have off0 : Off [] w w := Off.refl _ _
 go_enter Tryz.func84, Tryz.ntmps84
 go_upto_region 1 with fail
 refine wp_region_lit ?_
 refine Q37 (by rfl) rfl rfl ((J1a HG.out off0.ext).2) (by kernel_rfl) (by rw [J2]; kernel_rfl) ?_
 (try simp only [Act.put, mA, mB, mC])
 refine Lw ?_ (v := .agg (hcs (.slice none 0 0) [])) (hv := by first | rfl | (go_simp; rfl) | kernel_rfl)
 refine Ln ?_ (z := hcs (.slice none 0 0) []) (t := 196)
 intro J0c W1 J20 hO h_
 have J90 := fbn off0 J20
 replace off0 := off0.o hO
 have k_t3 := h_
 clear hO h_ J20
 refine Lv ?_
 refine J3 ?_
 go_wp2
 exact bodyPost_ret (v := .pointer (some ⟨J0c, 0, none⟩)) (by simp only [results, Tryz.results84]; go_simp) rfl ⟨_, rfl, Nat.le_of_not_lt (fun h_ => by simpa using J90 h_), off0, k_t3, Q35 _, fun e_ => by cases e_⟩
end

section
open Go.RowKit

theorem J9f {w : World} {ad : Addr} {n c : Nat} {l : List UInt8} (h : Sl w (.slice (some ad) n c) l) : ∀ j u, (bs8 l)[j]? = some u → w.cell? (ad.add j) = some u := fun j u hu => by
  simp only [bs8, List.getElem?_map, Option.map_eq_some_iff] at hu
  obtain ⟨x, hx, rfl⟩ := hu
  exact Q3x h hx
theorem Z08 (w : World) {l : List UInt8} {cap n : Nat} {z : Array Value} (hn : n = l.length) (hc : l.length ≤ cap) (hm : cap ≤ maxLen) : Sl (w.drew.alloc (.cells ((bs8 l).toArray ++ z) 5)) (.slice (some ⟨w.heap.size, 0, none⟩) n cap) l :=
  Z74 (cs := (bs8 l).toArray ++ z) (t := 5) (by exact heap_alloc_new w.drew _) hn (by omega) hm fun j x hj => by
    have h1 := Q70 hj
    have h2 : j < (bs8 l).length := (List.getElem?_eq_some_iff.1 h1).1
    rw [Nat.zero_add, Array.getElem?_append_left (by simpa using h2)]
    simpa using h1
theorem Q27 (w : World) (ty : TypeId) {A : Option Addr} {u : Value} {l m : List UInt8} (hv : Sl w (.slice A l.length l.length) l) (hu : Sl w u m) (hlen : l.length + m.length ≤ 140737488355328) :
    ∃ v' W, (Builtin.append_ #[22, 22] ty #[.slice A l.length l.length, u]).run Tryz.prog w = .ok v' W ∧ Sl W v' (l ++ m) ∧ Off [] w W ∧ ((m = [] ∧ v' = .slice A l.length l.length) ∨ v'.ownBlock = some w.heap.size) := by
  obtain ⟨i, hi, hz, hsz, hby⟩ := info_parts J87
  have ht := Tryz.underlying22
  obtain ⟨B, c, rfl, hc, hm, h0, hcell⟩ := id hu
  by_cases hme : m = []
  · subst hme
    refine ⟨_, w, ?_, by rw [List.append_nil]; exact hv, Off.refl _ _, .inl ⟨rfl, rfl⟩⟩
    cases A <;> cases B <;> simp [Builtin.append_, run_underlying ht, sizeOf, typeInfo, hi, Builtin.lenOf, Builtin.firstCells, storeCells, loadCells, loadCellsFrom]
  have hml : 0 < m.length := List.length_pos_iff.2 hme
  rcases B with _ | ad
  · obtain ⟨ad, h, _⟩ := hcell 0 m[0] (List.getElem?_eq_getElem hml); cases h
  have hge := fun o => grownCap_ge w (l.length + m.length) o 5
  have hcm := fun o => grownCap_le_maxLen w (l.length + m.length) o 5 (by unfold maxLen; omega)
  rcases A with _ | b
  · have hl : l = [] := by
      cases l with
      | nil => rfl
      | cons x r => obtain ⟨_, _, h, _, _, _, hcell2⟩ := hv; obtain ⟨ad, h2, _⟩ := hcell2 0 x rfl; cases h; cases h2
    subst hl
    have hr := run_append_nil (P := Tryz.prog) (w := w) 22 ty 5 i (.int .u8 0) ht hi hz ad m.length c (bs8 m) (by rw [K7, hsz, Nat.mul_one]) (J9f hu) hml (by omega) (by rw [hby]; omega)
    refine ⟨_, _, hr, ?_, Z7 ((Below.refl _ _).drew.alloc (Nat.le_refl _) _), .inr rfl⟩
    have hg := hge 0; have hc2 := hcm 0
    simp only [List.length_nil, Nat.zero_add] at hg hc2
    exact Z08 w rfl hg hc2
  have hr := run_append_grow (P := Tryz.prog) (w := w) 22 ty 5 i (.int .u8 0) ht hi hz b l.length l.length (bs8 l) (by rw [K7, hsz, Nat.mul_one]) (J9f hv) ad m.length c (bs8 m) (by rw [K7, hsz, Nat.mul_one]) (J9f hu) (by omega) (by omega) (by rw [hby]; exact growslice_fits (by omega) (by omega))
  refine ⟨_, _, hr, ?_, Z7 ((Below.refl _ _).drew.alloc (Nat.le_refl _) _), .inr rfl⟩
  rw [show (bs8 l).toArray ++ (bs8 m).toArray = (bs8 (l ++ m)).toArray by rw [J69]; simp]
  exact Z08 w (by rw [List.length_append]) (by rw [List.length_append]; exact hge _) (hcm _)
theorem Z60 {w : World} {v : Value} {l : List UInt8} (hs : Sl w v l) : ∃ A, (∀ W, (Instr.sliceAt 22 v none (some (.int .i64 (l.length : Int))) (some (.int .i64 (l.length : Int)))).run Tryz.prog W = .ok (.slice A l.length l.length) W) ∧ Sl w (.slice A l.length l.length) l ∧ (∀ x, (Value.slice A l.length l.length).ownBlock = some x → v.ownBlock = some x) := by
  obtain ⟨A, c, rfl, h1, h2, h0, h3⟩ := hs
  have hA : A.map (fun a : Addr => a.add 0) = A := by
    have : ∀ a : Addr, a.add 0 = a := fun a => by unfold Addr.add; simp
    cases A <;> simp [this]
  refine ⟨A, fun W => ?_, ⟨A, l.length, rfl, Nat.le_refl _, Nat.le_trans h1 h2, fun h => ?_, h3⟩, fun x hx => by cases A <;> exact hx⟩
  · have hnc : l.length ≤ c := h1
    have h1 := J5x
    cases hq : Tryz.prog.info? 5 with
    | none => simp [hq] at h1
    | some i => simp [Instr.sliceAt, Instr.slice, Instr.sliceBounds, Instr.sliceBound, asIntOf, run_underlying Tryz.underlying22, Sem.run_bind, sizeOf, typeInfo, hq, hnc, hA]
  have := h0 h; omega
end

section
open Go.RowKit
section
variable {ops : Array Oper} {k : Wk} {Q : Exit → Act → World → Prop} {F : List Nat} {w : World} {H : List As} {l : List Oper} {o : Oper} {a : Act}
theorem MQ (i : Nat) {x y z : Operand} {v : Value} {m : List UInt8} {a' : Value → Act} (h : ∀ A, wpM Tryz.prog ops k F w (.s (.slice A m.length m.length) m :: H) l (a' (.slice A m.length m.length))) (hi : H[i]? = some (.s v m) := by exact rfl) (hw : Region.wanted o (yielded ops a.tmps) = true := by exact rfl)
    (ho : o.op = .slice 22 x none (some y) (some z) := by exact rfl) (hx : a.eval x = v := by exact rfl) (hy : a.eval y = .int .i64 (m.length : Int) := by exact rfl) (hz : a.eval z = .int .i64 (m.length : Int) := by exact rfl) (hp : ∀ v, a.put o.dst v = a' v := by intro b; first | exact pl (by dsimp only [mB, mC]; first | done | exact rfl) | exact pn | exact rfl) : wpM Tryz.prog ops k F w H (o :: l) a := by
  intro W hS
  obtain ⟨A, hr, h1, h2⟩ := Z60 (hS.sl hi)
  have hS' := hS.sub hi h1 fun x hx => by
    have hm : m ≠ [] := fun e => by subst e; unfold sb at hx; rw [if_pos rfl] at hx; cases hx
    unfold sb; rw [if_neg hm]; exact h2 x (Q0i hx)
  have hrun : ∀ W, (execOp a.eval o).run Tryz.prog W = .ok (.value (.slice A m.length m.length)) W := fun W => by simp [execOp, ho, hx, hy, hz, hr W, Sem.run_bind]
  cases k with
  | L Q => exact J26 hw (hrun W) (by rw [hp]; exact h A W hS')
  | X E => exact J2w hw (fun W' _ => hrun W') (by rw [hp]; exact h A W hS')
theorem MAt (i : Nat) {s x : Operand} {A : Option Addr} {u : Value} {xs ys : List UInt8} {a' : Value → Act} (hsl : ∀ W, SH F w W H → Sl W u ys) (hlen : xs.length + ys.length ≤ 140737488355328) (h : ∀ v', wpM Tryz.prog ops (.L Q) F w (.s v' (xs ++ ys) :: H) l (a' v')) (hi : H[i]? = some (.s (.slice A xs.length xs.length) xs) := by exact rfl) (hw : Region.wanted o (yielded ops a.tmps) = true := by exact rfl)
    (ho : o.op = .call { callee := .builtin .append, args := #[s, x], argTypes := #[22, 22] } := by exact rfl) (hs : a.eval s = .slice A xs.length xs.length := by exact rfl) (hx : a.eval x = u := by exact rfl)
    (hp : ∀ v, a.put o.dst v = a' v := by intro b; first | exact pl (by dsimp only [mB, mC]; first | done | exact rfl) | exact pn | exact rfl) : wpM Tryz.prog ops (.L Q) F w H (o :: l) a := by
  intro W hS
  obtain ⟨v', W', hrun, h1, h2, h3⟩ := Q27 W o.type (hS.sl hi) (hsl W hS) hlen
  have hS' : SH F w W' (.s v' (xs ++ ys) :: H) := by
    rcases h3 with ⟨e1, e2⟩ | h3
    · subst e1 e2
      refine (hS.next h2).sub hi h1 ?_
      rw [List.append_nil]; exact J2r
    refine hS.newS h2 h1 fun k hk => ?_
    have := Q0i hk
    rw [h3] at this
    exact Nat.le_of_eq (Option.some.inj this)
  refine J6r hw (v := v') (W := W') ?_ (by rw [hp]; exact h v' W' hS')
  unfold execOp
  simp only [ho, resolve, invoke, builtin, Sem.run_bind, Sem.run_pure, Result.andThen_ok, List.map_toArray, List.map_cons, List.map_nil, hs, hx, hrun]
end
theorem Z09 (h : Nat → Int) (L m : List UInt8) (u : Value) (hl : 64 ≤ L.length) (hm : m = L.take 64) (w : World) (hs : Sl w u m) (hG : GS4 w) : Calls Tryz.prog 128 #[.agg (J0 .u32 8 h), u] w fun e w' => Ret (.agg (J0 .u32 8 (J79 h (bt L)))) w w' e := by
  have hml : m.length = 64 := by rw [hm, List.length_take]; omega
  obtain ⟨ad, c, rfl, _⟩ := Q74 hs (by omega)
  have hlc : m.length ≤ c := by obtain ⟨A, c', e, h1, _⟩ := hs; injection e with _ _ e; omega
  have hc := Y0c h m ad c (by omega) hlc w hs hG
  rw [show J79 h (bt L) = J79 h (bt m) from Q4v fun j hj => by
    unfold bt; rw [hm, List.getD_eq_getElem?_getD, List.getD_eq_getElem?_getD, List.getElem?_take_of_lt hj]]
  exact hc
abbrev gs4 : As := .p [11, 4] GS4
theorem Z61 {w : World} (h : GS4 w) : gs4.holds w :=
  ⟨h, fun k hk => by
    rcases List.mem_cons.1 hk with rfl | hk
    · exact h.1.2
    · rw [List.mem_singleton.1 hk]; exact h.2.2, fun W hs he => ⟨J3w h.1 hs (he _ (by simp)), J3w h.2 hs (he _ (by simp))⟩⟩
end

section
set_option maxHeartbeats 1500000
set_option maxRecDepth 100000
open Go.RowKit
attribute [local irreducible] wpList J0k wpX
theorem Y0e (p : Nat) (v u : Value) (F b : List UInt8) (hlen : F.length + b.length ≤ 140737488355200) (w : World) (h_ : SH (SH.feet [.b p (hcs v F) 196, .o v (hr4 F), .s u b, gs4]) w w [.b p (hcs v F) 196, .o v (hr4 F), .s u b, gs4]) :
  Calls Tryz.prog 85 #[.pointer (some ⟨p, 0, none⟩), u] w fun e w' => ∃ v', e = .returned (.tuple #[]) ∧ SH (SH.feet [.b p (hcs v F) 196, .o v (hr4 F), .s u b, gs4]) w w' [.b p (hcs v' (F ++ b)) 196, .o v' (hr4 (F ++ b)), .s u b, gs4] := by
 have hl3 := Z1s F
 have hS := h_
 clear h_
 go_enter Tryz.func85, Tryz.ntmps85
 go_upto_region 1 with fail
 refine RL hS ?_
 clear hS
 refine MV ?_
 refine MV ?_
 refine MV ?_
 refine MG 0 ?_ (v := .int .i64 (F.length : Int)) (hj := J4o)
 refine MV ?_
 refine MF (v := .int .i64 (b.length : Int)) (fun W hS => J12 (hS.sl (i := 2) rfl) rfl rfl) ?_
 refine MW ?_ (v := .int .i64 ((F ++ b).length : Int)) (hv := by intro W; go_simp; (try simp only [List.length_append, IntKind.wrap_i64]); (try omega))
 refine MV ?_
 refine MV ?_
 refine MP 0 (v := .int .i64 ((F ++ b).length : Int)) (cs' := hc8 (hw4 F) v (.int .i64 ((F ++ b).length : Int))) ?_ (hs := by rw [Q8d]; decide) (hc := Z06)
 refine MZ fun W hS => ?_
 go_upto_region 2 with fail
 refine RX 16 hS ?_
 clear hS
 refine MV ?_
 refine MV ?_
 refine MV ?_
 refine MG 0 ?_ (v := v) (hj := Q3e)
 refine MV ?_
 refine MV ?_
 refine MV ?_
 refine MG 0 ?_ (v := v) (hj := Q3e)
 refine MF (v := .int .i64 ((hr4 F).length : Int)) (fun W hS => J12 (hS.osl (i := 1) rfl) rfl rfl) ?_
 refine MV ?_
 refine MV ?_
 refine MV ?_
 refine MG 0 ?_ (v := v) (hj := Q3e)
 refine MF (v := .int .i64 ((hr4 F).length : Int)) (fun W hS => J12 (hS.osl (i := 1) rfl) rfl rfl) ?_
 refine MT (fun W hS => hS.read (i := 1) rfl (hS.osl (i := 1) rfl) J2r) ?_
 refine MQ 1 ?_
 intro A30
 refine MV ?_
 refine MZt ?_
 refine MAt 0 (xs := hr4 F) (ys := b) (fun W hS => (hS.sl (i := 3) rfl)) (by omega) ?_
 intro v32
 refine MV ?_
 refine MZn fun W hS => ?_
 rw [Z40 F b] at hS
 go_wp2_with fail
 go_loopw [4] (fun sv wr => ∃ (k : Nat) (a : Value), (64 * k ≤ (hr4 F ++ b).length) ∧ (a = sv) ∧ SH (SH.feet [.b p (hcs v F) 196, .o v (hr4 F), .s u b, gs4]) w wr [.b p (hc8 (Y3 (F ++ b) (F.length / 64 + k)) v (.int .i64 ((F ++ b).length : Int))) 196, .s a (List.drop (64 * k) (hr4 F ++ b)), .s u b, gs4])
  (fun sv _ => Q2q sv)
 case atStart => exact ⟨0, _, Nat.zero_le _, rfl, (hS.pick [2, 0, 4, 5])⟩
 clear hS
 case round =>
  obtain ⟨k, a, hk, rfl, hS⟩ := hrel
  have lb := J78 (hS.sl (i := 1) rfl)
  by_cases hz : 64 ≤ (List.drop (64 * k) (hr4 F ++ b)).length
  ·
   have _f := hz
   go_upto_region 3 with fail
   refine RL hS ?_
   clear hS
   refine MV ?_
   refine MF (v := .int .i64 ((List.drop (64 * k) (hr4 F ++ b)).length : Int)) (fun W hS => J12 (hS.sl (i := 1) rfl) rfl rfl) ?_
   refine MW ?_ (v := .bool true) (hv := by intro W; have hz_ := hz; simp only [List.length_drop, List.length_append] at hz_; go_simp; omega)
   refine MZ fun W hS => ?_
   go_upto_region 4 with fail
   refine RX 10 hS ?_
   clear hS
   refine MV ?_
   refine MV ?_
   refine MV ?_
   refine MV ?_
   refine Ml 0 Z05 ?_
   refine MV ?_
   refine MH 1 64 (m' := (List.take 64 (List.drop (64 * k) (hr4 F ++ b)))) (by exact hz) ?_
   intro V3w
   refine MC (v := .agg (J0 .u32 8 (J79 (Y3 (F ++ b) (F.length / 64 + k)) (bt (List.drop (64 * k) (hr4 F ++ b)))))) (fun W hS => Z09 (Y3 (F ++ b) (F.length / 64 + k)) (List.drop (64 * k) (hr4 F ++ b)) (List.take 64 (List.drop (64 * k) (hr4 F ++ b))) V3w hz rfl W (hS.sl (i := 0) rfl) (hS.pp (i := 4) rfl)) ?_
   refine MV ?_
   refine MV ?_
   refine MZt ?_
   refine Mr 1 (new := hc8 (J79 (Y3 (F ++ b) (F.length / 64 + k)) (bt (List.drop (64 * k) (hr4 F ++ b)))) v (.int .i64 ((F ++ b).length : Int))) Z07 ?_ (hs := by rw [Q8d, J2]; decide)
   refine MZn fun W hS => ?_
   go_upto_region 5 with fail
   refine RL hS ?_
   clear hS
   refine MV ?_
   refine Mt 2 64 (m' := (List.drop (64 * (k + 1)) (hr4 F ++ b))) (by exact hz) ?_ (hm := Q4w _ _)
   intro V6r
   refine MV ?_
   refine MZ fun W hS => ?_
   have la := J78 (hS.sl (i := 0) rfl)
   simp only [List.length_drop] at la lb hz
   rw [Y0f] at hS
   go_wp2
   go_roundw
   case rel => exact ⟨k + 1, _, by omega, rfl, (hS.pick [2, 0, 4, 5])⟩
   case measure => simp only [la, lb]; omega
  have _f := hz
  go_upto_region 3 with fail
  refine RL hS ?_
  clear hS
  refine MV ?_
  refine MF (v := .int .i64 ((List.drop (64 * k) (hr4 F ++ b)).length : Int)) (fun W hS => J12 (hS.sl (i := 1) rfl) rfl rfl) ?_
  refine MW ?_ (v := .bool false) (hv := by intro W; have hz_ := hz; simp only [List.length_drop, List.length_append] at hz_; go_simp; omega)
  refine MZ fun W hS => ?_
  obtain ⟨e1_, e2_⟩ := Y40 (F := F) (b := b) (k := k) (by simp only [List.length_drop] at hz; omega)
  rw [e1_, e2_] at hS
  clear e1_ e2_
  have hl4 := Z1s (F ++ b)
  go_upto_region 6 with fail
  refine RL hS ?_
  clear hS
  refine MV ?_
  refine MO (m := []) (n := 0) (z := #[]) ?_
  intro V6s
  refine MV ?_
  refine MA 0 (xs := []) (ys := (hr4 (F ++ b))) (fun W hS => (hS.sl (i := 2) rfl)) (by first | omega | (simp only [List.length_append, List.length_drop, List.length_nil]; omega)) ?_
  intro Y6g
  refine MT (fun W hS => by rw [List.nil_append] at hS; exact hS) ?_
  refine MV ?_
  refine MV ?_
  refine MP 1 (v := Y6g) (cs' := hc8 (hw4 (F ++ b)) Y6g (.int .i64 ((F ++ b).length : Int))) ?_ (hv := fun W hS => V3 (hS.osl (i := 0) rfl)) (hs := by rw [Q8d]; decide) (hc := Z1r)
  refine MZ fun W hS => ?_
  go_wp2
  exact bodyPost_end (v := .tuple #[]) (by simp only [results, Tryz.results85]; go_simp) rfl ⟨_, rfl, hS.pick [1, 0, 3, 4]⟩
end
end Go.Proofs.YtejkmhgkkibafaaGreatDoor

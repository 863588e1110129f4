/- Bits of keys as numbers; how many bits two keys begin with alike, by bytes. No conditions. -/
import Derived.Test.YtejkmhgkkibafaaGreatDoorJ39
set_option linter.unusedSimpArgs false
set_option linter.unusedVariables false
namespace Go.Proofs.YtejkmhgkkibafaaGreatDoor
set_option maxHeartbeats 1500000
set_option maxRecDepth 100000
open Go.RowKit
attribute [local irreducible] wpList wpTr wpX
set_option linter.unusedSimpArgs false
theorem kbit_01 (f : Nat → Int) (i : Nat) : 0 ≤ kbit f i ∧ kbit f i < 2 := by unfold kbit; omega
/-- bit i of a key; none is beyond the last one -/
def kb (k i : Nat) : Nat := if i < 256 then (kbit (byt k) i).toNat else 0
theorem kb_cast {k i : Nat} (h : i < 256) : ((kb k i : Nat) : Int) = kbit (byt k) i := by unfold kb; rw [if_pos h]; have := (kbit_01 (byt k) i).1; omega
theorem kb_hi {k i : Nat} (h : 256 ≤ i) : kb k i = 0 := by unfold kb; rw [if_neg (by omega)]
theorem kb_le (k i : Nat) : kb k i < 2 := by unfold kb; split; have := kbit_01 (byt k) i; omega; decide
theorem byt_b (k : Nat) : ∀ j, 0 ≤ byt k j ∧ byt k j < 256 := fun j => byt_ok k j
theorem run_sixs {w : World} {o : Oper} {a : Act} {x y : Operand} {l : List UInt8} {i : Nat} {c : UInt8} (h : l[i]? = some c) (ho : o.op = .index 9 x y) (hx : a.eval x = str l) {k : IntKind} (hy : a.eval y = .int k (i : Int)) : (execOp a.eval o).run Tryz.prog w = .ok (.value (.int .u8 (c.toNat : Int))) w := by
 have hs := ba_size l
 have hi := (List.getElem?_eq_some_iff.1 h).1
 have hg := (List.getElem?_eq_some_iff.1 h).2
 have hg2 : (⟨l.toArray⟩ : ByteArray)[i]'(by rw [hs]; exact hi) = c := by
  show l.toArray[i]'(by simpa using hi) = c
  simpa using hg
 simp only [execOp, ho, hx, hy, str, Sem.run_bind]
 simp [Instr.index, asIntOf, run_underlying Tryz.underlying9, hs, hi, hg2, Sem.run_bind]
/-- how many bits a byte has -/
def tb8 : List UInt8 := [0, 1, 2, 2, 3, 3, 3, 3, 4, 4, 4, 4, 4, 4, 4, 4, 5, 5, 5, 5, 5, 5, 5, 5, 5, 5, 5, 5, 5, 5, 5, 5, 6, 6, 6, 6, 6, 6, 6, 6, 6, 6, 6, 6, 6, 6, 6, 6, 6, 6, 6, 6, 6, 6, 6, 6, 6, 6, 6, 6, 6, 6, 6, 6, 7, 7, 7, 7, 7, 7, 7, 7, 7, 7, 7, 7, 7, 7, 7, 7, 7, 7, 7, 7, 7, 7, 7, 7, 7, 7, 7, 7, 7, 7, 7, 7, 7, 7, 7, 7, 7, 7, 7, 7, 7, 7, 7, 7, 7, 7, 7, 7, 7, 7, 7, 7, 7, 7, 7, 7, 7, 7, 7, 7, 7, 7, 7, 7, 8, 8, 8, 8, 8, 8, 8, 8, 8, 8, 8, 8, 8, 8, 8, 8, 8, 8, 8, 8, 8, 8, 8, 8, 8, 8, 8, 8, 8, 8, 8, 8, 8, 8, 8, 8, 8, 8, 8, 8, 8, 8, 8, 8, 8, 8, 8, 8, 8, 8, 8, 8, 8, 8, 8, 8, 8, 8, 8, 8, 8, 8, 8, 8, 8, 8, 8, 8, 8, 8, 8, 8, 8, 8, 8, 8, 8, 8, 8, 8, 8, 8, 8, 8, 8, 8, 8, 8, 8, 8, 8, 8, 8, 8, 8, 8, 8, 8, 8, 8, 8, 8, 8, 8, 8, 8, 8, 8, 8, 8, 8, 8, 8, 8, 8, 8, 8, 8, 8, 8, 8, 8, 8, 8, 8, 8, 8, 8]
def l8 (z : Nat) : Nat := (tb8.getD z 0).toNat
theorem tb8_get {z : Nat} (h : z < 256) : tb8[z]? = some (tb8.getD z 0) := by rw [List.getD_eq_getElem?_getD, List.getElem?_eq_getElem (by rw [show tb8.length = 256 by decide +kernel]; exact h)]; rfl
theorem l8_law : ∀ z : Fin 256, l8 z.val ≤ 8 ∧ (z.val ≠ 0 → 0 < l8 z.val ∧ z.val / 2 ^ (l8 z.val - 1) % 2 = 1) ∧ ∀ i : Fin 8, i.val < 8 - l8 z.val → z.val / 2 ^ (7 - i.val) % 2 = 0 := by decide +kernel
theorem xor_bit (x y n : Nat) : (x ^^^ y) / 2 ^ n % 2 = 0 ↔ x / 2 ^ n % 2 = y / 2 ^ n % 2 := by
 have h := Nat.testBit_xor x y n
 have e : ∀ z : Nat, z.testBit n = decide (z / 2 ^ n % 2 = 1) := fun z => by rw [Nat.testBit_eq_decide_div_mod_eq]
 rw [e, e, e] at h
 have h1 : (x ^^^ y) / 2 ^ n % 2 < 2 := Nat.mod_lt _ (by decide)
 have h2 : x / 2 ^ n % 2 < 2 := Nat.mod_lt _ (by decide)
 have h3 : y / 2 ^ n % 2 < 2 := Nat.mod_lt _ (by decide)
 generalize (x ^^^ y) / 2 ^ n % 2 = a at *
 generalize x / 2 ^ n % 2 = b at *
 generalize y / 2 ^ n % 2 = c at *
 match a, b, c, h1, h2, h3 with
 | 0, 0, 0, _, _, _ => simp
 | 0, 0, 1, _, _, _ => simp at h
 | 0, 1, 0, _, _, _ => simp at h
 | 0, 1, 1, _, _, _ => simp
 | 1, 0, 0, _, _, _ => simp at h
 | 1, 0, 1, _, _, _ => simp
 | 1, 1, 0, _, _, _ => simp
 | 1, 1, 1, _, _, _ => simp at h
/-- byte j of a key -/
def kby (k j : Nat) : Nat := k / 2 ^ (8 * j) % 256
theorem byt_kby (k j : Nat) : byt k j = ((kby k j : Nat) : Int) := rfl
theorem kby_lt (k j : Nat) : kby k j < 256 := Nat.mod_lt _ (by decide)
theorem kbit_kby (k i : Nat) : kbit (byt k) i = ((kby k (i / 8) / 2 ^ (7 - i % 8) % 2 : Nat) : Int) := by
 unfold kbit; rw [byt_kby]; rw [Int.natCast_emod, Int.natCast_ediv, Int.natCast_pow]; rfl
theorem kbit_eq {a b i : Nat} : kbit (byt a) i = kbit (byt b) i ↔ (kby a (i / 8) ^^^ kby b (i / 8)) / 2 ^ (7 - i % 8) % 2 = 0 := by
 rw [kbit_kby, kbit_kby, xor_bit]; omega
theorem kcomF_at {f g : Nat → Int} {m : Nat} (hm : m ≤ 256) (hlt : ∀ i, i < m → kbit f i = kbit g i) (he : m < 256 → kbit f m ≠ kbit g m) : ∀ n i, n + i = m → kcomF f g (256 - i) i = m
 | 0, i, h => by
  obtain rfl : i = m := by omega
  by_cases h2 : i < 256
  ·
   rw [kcom_step h2, if_neg (he h2)]
  ·
   obtain rfl : i = 256 := by omega
   rfl
 | n + 1, i, h => by
  rw [kcom_step (by omega), if_pos (hlt i (by omega))]
  exact kcomF_at hm hlt he n (i + 1) (by omega)
theorem kcom_at {f g : Nat → Int} {m : Nat} (hm : m ≤ 256) (hlt : ∀ i, i < m → kbit f i = kbit g i) (he : m < 256 → kbit f m ≠ kbit g m) : kcom f g = m := kcomF_at hm hlt he m 0 (by omega)
/-- the first byte that differs tells it -/
theorem kcom_byte {a b j : Nat} (hj : j < 32) (hlt : ∀ i, i < j → kby a i = kby b i) (hne : kby a j ≠ kby b j) : kcom (byt a) (byt b) = 8 * j + (8 - l8 (kby a j ^^^ kby b j)) := by
 have hz : kby a j ^^^ kby b j < 256 := Nat.xor_lt_two_pow (n := 8) (kby_lt a j) (kby_lt b j)
 have hz0 : kby a j ^^^ kby b j ≠ 0 := fun h => hne (by have e := congrArg (· ^^^ kby b j) h; simpa [Nat.xor_assoc] using e)
 obtain ⟨h1, h2, h3⟩ := l8_law ⟨_, hz⟩
 obtain ⟨h2, h4⟩ := h2 hz0
 simp only at h1 h2 h3 h4
 generalize hl : l8 (kby a j ^^^ kby b j) = L at *
 refine kcom_at (by omega) (fun i hi => ?_) fun _ => ?_
 ·
  rw [kbit_eq]
  by_cases hq : i / 8 < j
  ·
   rw [hlt _ hq, Nat.xor_self, Nat.zero_div]
  ·
   have e : i / 8 = j := by omega
   have h5 := h3 ⟨i % 8, Nat.mod_lt _ (by decide)⟩ (by simp only; omega)
   rw [e]; exact h5
 ·
  rw [Ne, kbit_eq]
  have e1 : (8 * j + (8 - L)) / 8 = j := by omega
  have e2 : 7 - (8 * j + (8 - L)) % 8 = L - 1 := by omega
  rw [e1, e2, h4]; decide
theorem kcom_all {a b : Nat} (h : ∀ i, i < 32 → kby a i = kby b i) : kcom (byt a) (byt b) = 256 :=
 kcom_at (Nat.le_refl _) (fun i hi => by rw [kbit_kby, kbit_kby, h _ (by omega)]) (fun h => absurd h (by decide))
theorem kcom_le (f g : Nat → Int) : kcom f g ≤ 256 := by
 have : ∀ n i, n + i = 256 → kcomF f g (256 - i) i ≤ 256 := by
  intro n
  induction n with
  | zero =>
   intro i h
   obtain rfl : i = 256 := by omega
   exact Nat.le_refl 256
  | succ n ih => intro i h; rw [kcom_step (by omega)]; split; exact ih (i + 1) (by omega); omega
 exact this 256 0 rfl

theorem within_hi (i : Nat) (hi : 256 ≤ i) (hi2 : i < 4611686018427387904) (w : World) :
  Calls Tryz.prog 144 #[.int .i64 (i : Int)] w fun e w' => Ret (.bool false) w w' e := by
 have hS := SH.nil [] w
 go_enter Tryz.func144, Tryz.ntmps144
 go_upto_region 1 with fail
 refine RL hS ?_
 clear hS
 refine MV ?_
 refine MW ?_ (v := .bool true) (hv := by intro W; first | (go_simp; done) | (go_simp; omega))
 refine MW ?_ (v := .bool true)
 refine MV ?_
 refine MW ?_ (v := .bool false) (hv := by intro W; first | (go_simp; done) | (go_simp; omega))
 refine MW ?_ (v := .bool false)
 refine MW ?_ (v := .bool false)
 refine MZ fun W hS => ?_
 go_wp2
 exact bodyPost_ret (v := .bool false) (by simp only [results, Tryz.results144]; go_simp) rfl ⟨rfl, hS.ext⟩
theorem kbit_hi (k i : Nat) (hi : 256 ≤ i) (hi2 : i < 4611686018427387904) (w : World) :
  Calls Tryz.prog 100 #[.agg (arrK .u8 32 (byt k)), .int .i64 (i : Int)] w fun e w' => Ret (.int .i64 0) w w' e := by
 have hS := SH.nil [] w
 go_enter Tryz.func100, Tryz.ntmps100
 go_upto_region 0 with fail
 refine RL hS ?_
 clear hS
 refine MN (z := arrK .u8 32 (byt k)) (t := 31) ?_
 intro p2_1
 refine MW ?_ (v := .int .i64 0)
 refine MZ fun W hS => ?_
 go_upto_region 1 with fail
 refine RL hS ?_
 clear hS
 refine MV ?_
 refine MC (v := .bool false) (fun W hS => within_hi i hi hi2 W) ?_
 refine MW ?_ (v := .bool true)
 refine MZ fun W hS => ?_
 go_wp2
 exact bodyPost_ret (v := .int .i64 0) (by simp only [results, Tryz.results100]; go_simp) rfl ⟨rfl, hS.ext⟩
theorem bit_c (k i : Nat) (hi : i < 4611686018427387904) (w : World) : Calls Tryz.prog 100 #[.agg (arrK .u8 32 (byt k)), .int .i64 (i : Int)] w fun e w' => Ret (.int .i64 (kb k i : Int)) w w' e := by
 by_cases h : i < 256
 ·
  rw [kb_cast h]; exact kbit_c _ (byt_b k) i h w
 ·
  rw [kb_hi (by omega)]; exact kbit_hi k i (by omega) hi w
theorem len8_c (z : Nat) (hz : z < 256) (w : World) :
  Calls Tryz.prog 170 #[.int .u8 (z : Int)] w fun e w' => Ret (.int .i64 (l8 z : Int)) w w' e := by
 have hS := SH.nil [] w
 go_enter Tryz.func170, Tryz.ntmps170
 go_upto_region 1 with fail
 refine RL hS ?_
 clear hS
 refine MV ?_
 refine MW ?_ (v := .int .u8 ((tb8.getD z 0).toNat : Int)) (hv := by intro W; exact run_sixs (l := tb8) (i := z) (tb8_get hz) rfl rfl rfl)
 refine MW ?_ (v := .int .i64 (l8 z : Int)) (hv := by intro W; exact run_cvi rfl rfl)
 refine MV ?_
 refine MZ fun W hS => ?_
 go_wp2
 exact bodyPost_ret (v := .int .i64 (l8 z : Int)) (by simp only [results, Tryz.results170]; go_simp) rfl ⟨rfl, hS.ext⟩
theorem lz8_c (z : Nat) (hz : z < 256) (w : World) :
  Calls Tryz.prog 143 #[.int .u8 (z : Int)] w fun e w' => Ret (.int .i64 ((8 - l8 z : Nat) : Int)) w w' e := by
 have hl := (l8_law ⟨z, hz⟩).1
 simp only at hl
 have hS := SH.nil [] w
 go_enter Tryz.func143, Tryz.ntmps143
 go_upto_region 1 with fail
 refine RL hS ?_
 clear hS
 refine MV ?_
 refine MC (v := .int .i64 (l8 z : Int)) (fun W hS => len8_c z hz W) ?_
 refine MW ?_ (v := .int .i64 ((8 - l8 z : Nat) : Int)) (hv := by intro W; go_simp; (try simp only [IntKind.wrap_i64]); omega)
 refine MV ?_
 refine MZ fun W hS => ?_
 go_wp2
 exact bodyPost_ret (v := .int .i64 ((8 - l8 z : Nat) : Int)) (by simp only [results, Tryz.results143]; go_simp) rfl ⟨rfl, hS.ext⟩
theorem u8_agg {w : World} : (isAgg 5).run Tryz.prog w = .ok false w := by
 simp [isAgg, run_underlying Tryz.underlying5, Sem.run_bind]
theorem xor_u8 {a b : Nat} (ha : a < 256) (hb : b < 256) : bits .xor .u8 (a : Int) (b : Int) = ((a ^^^ b : Nat) : Int) := bits_xor_nat .u8 8 (by decide) (fun n h0 h1 => by rw [IntKind.wrap_u8]; omega) a b ha hb
theorem run_xor8 {w : World} {o : Oper} {a : Act} {x y : Operand} {t t' : TypeId} {p q : Int} (ho : o.op = .binOp .xor t x y t') (hx : a.eval x = .int .u8 p) (hy : a.eval y = .int .u8 q) : (execOp a.eval o).run Tryz.prog w = .ok (.value (.int .u8 (bits .xor .u8 p q))) w := by
 simp only [execOp, ho, hx, hy]; rfl
theorem kcommon_c (a b : Nat) (w : World) :
  Calls Tryz.prog 97 #[.agg (arrK .u8 32 (byt a)), .agg (arrK .u8 32 (byt b))] w fun e w' => Ret (.int .i64 (kcom (byt a) (byt b) : Int)) w w' e := by
 have hS := SH.nil [] w
 go_enter Tryz.func97, Tryz.ntmps97
 go_upto_region 0 with fail
 refine RL hS ?_
 clear hS
 refine MN (z := arrK .u8 32 (byt a)) (t := 31) ?_
 intro p2_1
 refine MN (z := arrK .u8 32 (byt b)) (t := 31) ?_
 intro p3_2
 refine MW ?_ (v := .int .i64 0)
 refine MZ fun W hS => ?_
 go_upto_region 1 with fail
 refine RL hS ?_
 clear hS
 refine ML 1 ?_
 refine MW ?_ (v := .int .i64 0)
 refine MZ fun W hS => ?_
 go_wp2_with fail
 go_loopw [8] (fun ii wr => ∃ (j : Nat), (j ≤ 32) ∧ (∀ i, i < j → kby a i = kby b i) ∧ (ii = .int .i64 (j : Int)) ∧ SH [] w wr [.b p3_2 (arrK .u8 32 (byt b)) 31, .b p2_1 (arrK .u8 32 (byt a)) 31])
  (fun ii _ => 32 - (intOf ii).toNat)
 case atStart => exact ⟨0, Nat.zero_le _, fun i h => absurd h (Nat.not_lt_zero _), rfl, hS⟩
 clear hS
 case round =>
  obtain ⟨j, hj, hlt, rfl, hS⟩ := hrel
  by_cases h32 : j < 32
  ·
   have _f := h32
   go_upto_region 2 with fail
   refine RL hS ?_
   clear hS
   refine MW ?_ (v := .bool true)
   refine MZ fun W hS => ?_
   go_upto_region 3 with fail
   refine RL hS ?_
   clear hS
   refine MV ?_
   refine MW ?_ (v := .int .u8 ((kby a j : Nat) : Int)) (hv := fun _ => run_ixv (m := 32) (f := byt a) h32 Tryz.underlying31 (by kernel_rfl) u8_agg rfl rfl rfl)
   refine MV ?_
   refine MV ?_
   refine MZ fun W hS => ?_
   by_cases heq : kby a j = kby b j
   ·
    have _f := heq
    go_upto_region 4 with fail
    refine RL hS ?_
    clear hS
    refine MV ?_
    refine MV ?_
    refine MW ?_ (v := .pointer (some ⟨p3_2, 0 + j, none⟩)) (hv := fun _ => run_ixarr (m := 32) (by decide) (by omega) Tryz.underlying31 (by kernel_rfl) rfl rfl rfl)
    refine MG 0 ?_ (j := 0 + j) (v := .int .u8 ((byt b) j)) (hj := by rw [Nat.zero_add]; exact arrK_get _ _ _ _ (by omega))
    refine MW ?_ (v := .bool false) (hv := by intro W; go_simp; (try simp only [byt_kby]); (try simp [heq]))
    refine MZ fun W hS => ?_
    go_wp2
    go_roundw
    case rel => exact ⟨j + 1, by omega, fun i h => by rcases Nat.lt_succ_iff_lt_or_eq.1 h with h | rfl; exact hlt i h; exact heq, by go_num, hS⟩
    case measure => simp [intOf]; omega
   ·
    have _f := heq
    have hne := heq
    go_upto_region 4 with fail
    refine RL hS ?_
    clear hS
    refine MV ?_
    refine MV ?_
    refine MW ?_ (v := .pointer (some ⟨p3_2, 0 + j, none⟩)) (hv := fun _ => run_ixarr (m := 32) (by decide) (by omega) Tryz.underlying31 (by kernel_rfl) rfl rfl rfl)
    refine MG 0 ?_ (j := 0 + j) (v := .int .u8 ((byt b) j)) (hj := by rw [Nat.zero_add]; exact arrK_get _ _ _ _ (by omega))
    refine MW ?_ (v := .bool true) (hv := by intro W; go_simp; (try simp only [byt_kby]); omega)
    refine MZ fun W hS => ?_
    go_upto_region 5 with fail
    refine RL hS ?_
    clear hS
    refine MV ?_
    refine MW ?_ (v := .int .i64 ((8 * j : Nat) : Int)) (hv := by intro W; go_simp; (try simp only [IntKind.wrap_i64]); omega)
    refine MV ?_
    refine MV ?_
    refine MW ?_ (v := .pointer (some ⟨p3_2, 0 + j, none⟩)) (hv := fun _ => run_ixarr (m := 32) (by decide) (by omega) Tryz.underlying31 (by kernel_rfl) rfl rfl rfl)
    refine MG 0 ?_ (j := 0 + j) (v := .int .u8 ((byt b) j)) (hj := by rw [Nat.zero_add]; exact arrK_get _ _ _ _ (by omega))
    refine MW ?_ (v := .int .u8 ((kby a j ^^^ kby b j : Nat) : Int)) (hv := by intro W; rw [← xor_u8 (kby_lt a j) (kby_lt b j)]; exact run_xor8 rfl rfl rfl)
    refine MC (v := .int .i64 ((8 - l8 (kby a j ^^^ kby b j) : Nat) : Int)) (fun W hS => lz8_c (kby a j ^^^ kby b j) (Nat.xor_lt_two_pow (n := 8) (kby_lt a j) (kby_lt b j)) W) ?_
    refine MW ?_ (v := .int .i64 ((8 * j + (8 - l8 (kby a j ^^^ kby b j)) : Nat) : Int)) (hv := by intro W; go_simp; (try simp only [IntKind.wrap_i64]); omega)
    refine MV ?_
    refine MZ fun W hS => ?_
    go_wp2
    exact bodyPost_ret (v := .int .i64 ((8 * j + (8 - l8 (kby a j ^^^ kby b j)) : Nat) : Int)) (by simp only [results, Tryz.results97]; go_simp) rfl ⟨by rw [kcom_byte h32 hlt hne], hS.ext⟩
  ·
   have _f := h32
   obtain rfl : j = 32 := by omega
   go_upto_region 2 with fail
   refine RL hS ?_
   clear hS
   refine MW ?_ (v := .bool false)
   refine MZ fun W hS => ?_
   go_wp2
   exact bodyPost_ret (v := .int .i64 256) (by simp only [results, Tryz.results97]; go_simp) rfl ⟨by rw [kcom_all hlt]; rfl, hS.ext⟩
end Go.Proofs.YtejkmhgkkibafaaGreatDoor

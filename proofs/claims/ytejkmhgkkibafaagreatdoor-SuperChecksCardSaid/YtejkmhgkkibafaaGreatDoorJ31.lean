/- Contracts and plain laws that superChecks_holds rests on. Conditions: the variables' cells hold the numbers of the program's text. -/
import Derived.Test.YtejkmhgkkibafaaGreatDoorGc
import Derived.Test.YtejkmhgkkibafaaGreatDoorJ30
open Go.RowKit
set_option maxRecDepth 100000
set_option linter.unusedSimpArgs false
set_option linter.unusedVariables false
namespace Go.Proofs.YtejkmhgkkibafaaGreatDoor
section
set_option maxHeartbeats 1500000
attribute [local irreducible] wpList
def Q3a (f g : Nat → Int) : Nat → Nat → Nat
  | 0, i => i
  | n + 1, i => if J2g f i = J2g g i then Q3a f g n (i + 1) else i
def J2h (f g : Nat → Int) : Nat := Q3a f g 256 0
theorem J6a {f g : Nat → Int} {i : Nat} (h : i < 256) : Q3a f g (256 - i) i = if J2g f i = J2g g i then Q3a f g (256 - (i + 1)) (i + 1) else i := by
  rw [show 256 - i = (256 - (i + 1)) + 1 by omega]; rfl

theorem Z4j (f g : Nat → Int) (hf : ∀ j, 0 ≤ f j ∧ f j < 256) (hg : ∀ j, 0 ≤ g j ∧ g j < 256) (w : World) :
  Calls Tryz.prog 145 #[.agg (J0 .u8 32 f), .agg (J0 .u8 32 g)] w fun e w' => K6 (.int .i64 (J2h f g : Int)) w w' e := by
 have D : Off [] w w := Off.refl _ _
 go_enter Tryz.func145, Tryz.ntmps145
 go_upto_region 0 with fail
 refine wp_region_lit ?_
 refine Ln ?_ (z := J0 .u8 32 f) (t := 23)
 intro Y W1 X hO h_
 replace D := D.o hO
 have G := h_
 clear hO h_ X
 refine Ln ?_ (z := J0 .u8 32 g) (t := 23)
 intro V W2 U hO h_
 replace G := G.o hO
 replace D := D.o hO
 have M := h_
 clear hO h_ U
 refine Lw ?_ (v := .int .i64 0)
 refine J9 ?_
 go_wp2_with fail
 go_loopw [5] (fun ii wr => ∃ (i : Nat), (i ≤ 256) ∧ (ii = .int .i64 (i : Int)) ∧ (J2h f g = Q3a f g (256 - i) i) ∧ Off [] w wr ∧ Blk wr Y (J0 .u8 32 f) 23 ∧ Blk wr V (J0 .u8 32 g) 23)
  (fun ii _ => 256 - (intOf ii).toNat)
 case atStart => exact ⟨0, Nat.zero_le _, rfl, rfl, D, G, M⟩
 case round =>
  obtain ⟨i, hi, rfl, N, D, G, M⟩ := hrel
  obtain ⟨W3, T⟩ := J5e D
  subst T
  by_cases J : i < 256
  ·
   go_upto_region 2 with fail
   refine wp_region_lit ?_
   refine Lv ?_
   refine Lw ?_ (v := .bool true)
   refine J9 ?_
   by_cases hz : J2g f i = J2g g i
   ·
    have R := Lib.hid hz
    clear hz
    go_upto_region 4 with fail
    refine Rx 7 ?_
    refine XlA ?_ G
    refine Xv ?_
    refine Xf ?_ (fun W hW => Q39 f hf i J W)
    refine XlA ?_ M
    refine Xv ?_
    refine Xf ?_ (fun W hW => Q39 g hg i J W)
    refine Xw ?_ (v := .bool false) (hv := fun _ _ => by have hz := R.out; first | (go_simp; done) | (go_simp; simp [hz]))
    refine Z7 fun W4 hE => ?_
    have hO := J0k hE
    replace G := G.o hO
    replace M := M.o hO
    replace D := D.o hO
    clear hO hE
    refine LN ?_
    go_wp2
    go_roundw
    case rel => exact ⟨i + 1, by omega, by go_num, by rw [N, J6a J, if_pos R.out], D, G, M⟩
    case measure => simp [intOf]; omega
   have S : ((J2h f g : Nat) : Int) = (i : Int) := by rw [N, J6a J, if_neg hz]
   have R := Lib.hid hz
   clear hz N
   go_upto_region 4 with fail
   refine Rx 7 ?_
   refine XlA ?_ G
   refine Xv ?_
   refine Xf ?_ (fun W hW => Q39 f hf i J W)
   refine XlA ?_ M
   refine Xv ?_
   refine Xf ?_ (fun W hW => Q39 g hg i J W)
   refine Xw ?_ (v := .bool true) (hv := fun _ _ => by have hz := R.out; first | (go_simp; done) | (go_simp; simp [hz]))
   refine Z7 fun W4 hE => ?_
   have hO := J0k hE
   replace D := D.o hO
   clear hO hE
   refine LN ?_
   go_wp2
   exact bodyPost_ret (v := .int .i64 (i : Int)) (by simp only [results, Tryz.results145]; go_simp) rfl ⟨congrArg (fun z : Int => Ending.returned (.int .i64 z)) S.symm, D.ext⟩
  obtain rfl : i = 256 := by omega
  have S : ((J2h f g : Nat) : Int) = 256 := by rw [N]; rfl
  clear N
  go_upto_region 2 with fail
  refine wp_region_lit ?_
  refine Lv ?_
  refine Lw ?_ (v := .bool false)
  refine J9 ?_
  go_wp2
  exact bodyPost_ret (v := .int .i64 256) (by simp only [results, Tryz.results145]; go_simp) rfl ⟨congrArg (fun z : Int => Ending.returned (.int .i64 z)) S.symm, D.ext⟩
def Z92 (f g : Nat → Int) : Bool := decide (J2h f g < 256) && decide (J2g f (J2h f g) = 0)
theorem Q67 (f g : Nat → Int) (hf : ∀ j, 0 ≤ f j ∧ f j < 256) (hg : ∀ j, 0 ≤ g j ∧ g j < 256) (w : World) :
  Calls Tryz.prog 104 #[.agg (J0 .u8 32 f), .agg (J0 .u8 32 g)] w fun e w' => K6 (.bool (Z92 f g)) w w' e := by
 have J := Z4j f g hf hg
 obtain ⟨c, hc⟩ : ∃ c, J2h f g = c := ⟨_, rfl⟩
 rw [hc] at J
 have HK := Lib.hid hc
 clear hc
 have D : Off [] w w := Off.refl _ _
 go_enter Tryz.func104, Tryz.ntmps104
 go_upto_region 0 with fail
 refine wp_region_lit ?_
 refine Ln ?_ (z := J0 .u8 32 f) (t := 23)
 intro T W1 R hO h_
 replace D := D.o hO
 have G := h_
 clear hO h_ R
 refine Ln ?_ (z := J0 .u8 32 g) (t := 23)
 intro S W2 N hO h_
 replace G := G.o hO
 replace D := D.o hO
 have M := h_
 clear hO h_ N
 refine Lw ?_ (v := .bool false)
 refine J9 ?_
 go_upto_region 1 with fail
 refine wp_region_lit ?_
 refine L0A ?_ G
 refine L0A ?_ M
 refine Lr ?_ (J W2)
 intro W3 hO
 replace G := G.o hO
 replace D := D.o hO
 clear hO
 refine Lv ?_
 refine J9 ?_
 by_cases ha : c < 256
 ·
  go_upto_region 2 with fail
  refine wp_region_lit ?_
  refine Lv ?_
  refine Lw ?_ (v := .bool true)
  refine Lw ?_ (v := .bool true)
  refine L0A ?_ G
  refine Lv ?_
  refine Lr ?_ (Q39 f hf c ha W3)
  intro W4 hO
  replace D := D.o hO
  clear hO
  refine Lw ?_ (v := .bool (decide (J2g f c = 0))) (hv := by go_simp; first | done | rfl | (cases h_ : (J2g f c == 0) <;> simp_all))
  refine Lw ?_ (v := .bool (decide (J2g f c = 0)))
  refine Lw ?_ (v := .bool (decide (J2g f c = 0)))
  refine J9 ?_
  go_wp2
  exact bodyPost_ret (v := .bool (decide (J2g f c = 0))) (by simp only [results, Tryz.results104]; go_simp) rfl ⟨congrArg (fun z => Ending.returned (.bool z)) (by unfold Z92; rw [HK.out]; simp [ha]), D.ext⟩
 go_upto_region 2 with fail
 refine wp_region_lit ?_
 refine Lv ?_
 refine Lw ?_ (v := .bool false)
 refine Lw ?_ (v := .bool false)
 refine Ls ?_
 refine Ls ?_
 refine Ls ?_
 refine Ls ?_
 refine Lw ?_ (v := .bool false)
 refine Lw ?_ (v := .bool false)
 refine J9 ?_
 go_wp2
 exact bodyPost_ret (v := .bool false) (by simp only [results, Tryz.results104]; go_simp) rfl ⟨congrArg (fun z => Ending.returned (.bool z)) (by unfold Z92; rw [HK.out]; simp [ha]), D.ext⟩
end

section
set_option maxHeartbeats 1500000
attribute [local irreducible] wpList J01 wpX
theorem Z2c (f : Nat → Int) (i : Nat) : 0 ≤ J2g f i ∧ J2g f i < 2 := by unfold J2g; omega
def kb (k i : Nat) : Nat := if i < 256 then (J2g (Q3 k) i).toNat else 0
theorem Y2z {k i : Nat} (h : i < 256) : ((kb k i : Nat) : Int) = J2g (Q3 k) i := by unfold kb; rw [if_pos h]; have := (Z2c (Q3 k) i).1; omega
theorem V2g {k i : Nat} (h : 256 ≤ i) : kb k i = 0 := by unfold kb; rw [if_neg (by omega)]
theorem V2h (k i : Nat) : kb k i < 2 := by unfold kb; split; have := Z2c (Q3 k) i; omega; decide
theorem V2i (k : Nat) : ∀ j, 0 ≤ Q3 k j ∧ Q3 k j < 256 := fun j => J38 k j
theorem J7l {w : World} {o : Oper} {a : Act} {x y : Operand} {l : List UInt8} {i : Nat} {c : UInt8} (h : l[i]? = some c) (ho : o.op = .index 9 x y) (hx : a.eval x = str l) {k : IntKind} (hy : a.eval y = .int k (i : Int)) : (execOp a.eval o).run Tryz.prog w = .ok (.value (.int .u8 (c.toNat : Int))) w := by
 have hs := J5f l
 have hi := (List.getElem?_eq_some_iff.1 h).1
 have hg := (List.getElem?_eq_some_iff.1 h).2
 have D : (⟨l.toArray⟩ : ByteArray)[i]'(by rw [hs]; exact hi) = c := by
  show l.toArray[i]'(by simpa using hi) = c
  simpa using hg
 simp only [execOp, ho, hx, hy, str, Sem.run_bind]
 simp [Instr.index, asIntOf, run_underlying Tryz.underlying9, hs, hi, D, Sem.run_bind]
def tb8 : List UInt8 := [0, 1, 2, 2, 3, 3, 3, 3, 4, 4, 4, 4, 4, 4, 4, 4, 5, 5, 5, 5, 5, 5, 5, 5, 5, 5, 5, 5, 5, 5, 5, 5, 6, 6, 6, 6, 6, 6, 6, 6, 6, 6, 6, 6, 6, 6, 6, 6, 6, 6, 6, 6, 6, 6, 6, 6, 6, 6, 6, 6, 6, 6, 6, 6, 7, 7, 7, 7, 7, 7, 7, 7, 7, 7, 7, 7, 7, 7, 7, 7, 7, 7, 7, 7, 7, 7, 7, 7, 7, 7, 7, 7, 7, 7, 7, 7, 7, 7, 7, 7, 7, 7, 7, 7, 7, 7, 7, 7, 7, 7, 7, 7, 7, 7, 7, 7, 7, 7, 7, 7, 7, 7, 7, 7, 7, 7, 7, 7, 8, 8, 8, 8, 8, 8, 8, 8, 8, 8, 8, 8, 8, 8, 8, 8, 8, 8, 8, 8, 8, 8, 8, 8, 8, 8, 8, 8, 8, 8, 8, 8, 8, 8, 8, 8, 8, 8, 8, 8, 8, 8, 8, 8, 8, 8, 8, 8, 8, 8, 8, 8, 8, 8, 8, 8, 8, 8, 8, 8, 8, 8, 8, 8, 8, 8, 8, 8, 8, 8, 8, 8, 8, 8, 8, 8, 8, 8, 8, 8, 8, 8, 8, 8, 8, 8, 8, 8, 8, 8, 8, 8, 8, 8, 8, 8, 8, 8, 8, 8, 8, 8, 8, 8, 8, 8, 8, 8, 8, 8, 8, 8, 8, 8, 8, 8, 8, 8, 8, 8, 8, 8, 8, 8, 8, 8, 8, 8]
def l8 (z : Nat) : Nat := (tb8.getD z 0).toNat
theorem Y30 {z : Nat} (h : z < 256) : tb8[z]? = some (tb8.getD z 0) := by rw [List.getD_eq_getElem?_getD, List.getElem?_eq_getElem (by rw [show tb8.length = 256 by decide +kernel]; exact h)]; rfl
theorem Z97 : ∀ z : Fin 256, l8 z.val ≤ 8 ∧ (z.val ≠ 0 → 0 < l8 z.val ∧ z.val / 2 ^ (l8 z.val - 1) % 2 = 1) ∧ ∀ i : Fin 8, i.val < 8 - l8 z.val → z.val / 2 ^ (7 - i.val) % 2 = 0 := by decide +kernel
theorem Y31 (x y n : Nat) : (x ^^^ y) / 2 ^ n % 2 = 0 ↔ x / 2 ^ n % 2 = y / 2 ^ n % 2 := by
 have h := Nat.testBit_xor x y n
 have e : ∀ z : Nat, z.testBit n = decide (z / 2 ^ n % 2 = 1) := fun z => by rw [Nat.testBit_eq_decide_div_mod_eq]
 rw [e, e, e] at h
 have h1 : (x ^^^ y) / 2 ^ n % 2 < 2 := Nat.mod_lt _ (by decide)
 have h2 : x / 2 ^ n % 2 < 2 := Nat.mod_lt _ (by decide)
 have h3 : y / 2 ^ n % 2 < 2 := Nat.mod_lt _ (by decide)
 generalize (x ^^^ y) / 2 ^ n % 2 = a at *
 generalize x / 2 ^ n % 2 = b at *
 generalize y / 2 ^ n % 2 = c at *
 match a, b, c, h1, h2, h3 with
 | 0, 0, 0, _, _, _ => simp
 | 0, 0, 1, _, _, _ => simp at h
 | 0, 1, 0, _, _, _ => simp at h
 | 0, 1, 1, _, _, _ => simp
 | 1, 0, 0, _, _, _ => simp at h
 | 1, 0, 1, _, _, _ => simp
 | 1, 1, 0, _, _, _ => simp
 | 1, 1, 1, _, _, _ => simp at h
def kby (k j : Nat) : Nat := k / 2 ^ (8 * j) % 256
theorem Q6e (k j : Nat) : Q3 k j = ((kby k j : Nat) : Int) := rfl
theorem Q0h (k j : Nat) : kby k j < 256 := Nat.mod_lt _ (by decide)
theorem J9y (k i : Nat) : J2g (Q3 k) i = ((kby k (i / 8) / 2 ^ (7 - i % 8) % 2 : Nat) : Int) := by
 unfold J2g; rw [Q6e]; rw [Int.natCast_emod, Int.natCast_ediv, Int.natCast_pow]; rfl
theorem Z2d {a b i : Nat} : J2g (Q3 a) i = J2g (Q3 b) i ↔ (kby a (i / 8) ^^^ kby b (i / 8)) / 2 ^ (7 - i % 8) % 2 = 0 := by
 rw [J9y, J9y, Y31]; omega
theorem Q8i {f g : Nat → Int} {m : Nat} (hm : m ≤ 256) (hlt : ∀ i, i < m → J2g f i = J2g g i) (he : m < 256 → J2g f m ≠ J2g g m) : ∀ n i, n + i = m → Q3a f g (256 - i) i = m
 | 0, i, h => by
  obtain rfl : i = m := by omega
  by_cases h2 : i < 256
  ·
   rw [J6a h2, if_neg (he h2)]
  ·
   obtain rfl : i = 256 := by omega
   rfl
 | n + 1, i, h => by
  rw [J6a (by omega), if_pos (hlt i (by omega))]
  exact Q8i hm hlt he n (i + 1) (by omega)
theorem Z2e {f g : Nat → Int} {m : Nat} (hm : m ≤ 256) (hlt : ∀ i, i < m → J2g f i = J2g g i) (he : m < 256 → J2g f m ≠ J2g g m) : J2h f g = m := Q8i hm hlt he m 0 (by omega)
theorem Z4m {a b j : Nat} (hj : j < 32) (hlt : ∀ i, i < j → kby a i = kby b i) (hne : kby a j ≠ kby b j) : J2h (Q3 a) (Q3 b) = 8 * j + (8 - l8 (kby a j ^^^ kby b j)) := by
 have hz : kby a j ^^^ kby b j < 256 := Nat.xor_lt_two_pow (n := 8) (Q0h a j) (Q0h b j)
 have D : kby a j ^^^ kby b j ≠ 0 := fun h => hne (by have e := congrArg (· ^^^ kby b j) h; simpa [Nat.xor_assoc] using e)
 obtain ⟨h1, h2, h3⟩ := Z97 ⟨_, hz⟩
 obtain ⟨h2, h4⟩ := h2 D
 simp only at h1 h2 h3 h4
 generalize hl : l8 (kby a j ^^^ kby b j) = L at *
 refine Z2e (by omega) (fun i hi => ?_) fun _ => ?_
 ·
  rw [Z2d]
  by_cases hq : i / 8 < j
  ·
   rw [hlt _ hq, Nat.xor_self, Nat.zero_div]
  have e : i / 8 = j := by omega
  have h5 := h3 ⟨i % 8, Nat.mod_lt _ (by decide)⟩ (by simp only; omega)
  rw [e]; exact h5
 rw [Ne, Z2d]
 have e1 : (8 * j + (8 - L)) / 8 = j := by omega
 have e2 : 7 - (8 * j + (8 - L)) % 8 = L - 1 := by omega
 rw [e1, e2, h4]; decide
theorem Z98 {a b : Nat} (h : ∀ i, i < 32 → kby a i = kby b i) : J2h (Q3 a) (Q3 b) = 256 :=
 Z2e (Nat.le_refl _) (fun i hi => by rw [J9y, J9y, h _ (by omega)]) (fun h => absurd h (by decide))
theorem Z2f (f g : Nat → Int) : J2h f g ≤ 256 := by
 have : ∀ n i, n + i = 256 → Q3a f g (256 - i) i ≤ 256 := by
  intro n
  induction n with
  | zero =>
   intro i h
   obtain rfl : i = 256 := by omega
   exact Nat.le_refl 256
  | succ n ih => intro i h; rw [J6a (by omega)]; split; exact ih (i + 1) (by omega); omega
 exact this 256 0 rfl

theorem Z4n (i : Nat) (hi : 256 ≤ i) (hi2 : i < 4611686018427387904) (w : World) :
  Calls Tryz.prog 144 #[.int .i64 (i : Int)] w fun e w' => K6 (.bool false) w w' e := by
 have hS := SH.nil [] w
 go_enter Tryz.func144, Tryz.ntmps144
 go_upto_region 1 with fail
 refine RL hS ?_
 clear hS
 refine MV ?_
 refine MW ?_ (v := .bool true) (hv := by intro W; first | (go_simp; done) | (go_simp; omega))
 refine MW ?_ (v := .bool true)
 refine MV ?_
 refine MW ?_ (v := .bool false) (hv := by intro W; first | (go_simp; done) | (go_simp; omega))
 refine MW ?_ (v := .bool false)
 refine MW ?_ (v := .bool false)
 refine MZ fun W hS => ?_
 go_wp2
 exact bodyPost_ret (v := .bool false) (by simp only [results, Tryz.results144]; go_simp) rfl ⟨rfl, hS.ext⟩
theorem Y32 (k i : Nat) (hi : 256 ≤ i) (hi2 : i < 4611686018427387904) (w : World) :
  Calls Tryz.prog 100 #[.agg (J0 .u8 32 (Q3 k)), .int .i64 (i : Int)] w fun e w' => K6 (.int .i64 0) w w' e := by
 have hS := SH.nil [] w
 go_enter Tryz.func100, Tryz.ntmps100
 go_upto_region 0 with fail
 refine RL hS ?_
 clear hS
 refine MN (z := J0 .u8 32 (Q3 k)) (t := 31) ?_
 intro D
 refine MW ?_ (v := .int .i64 0)
 refine MZ fun W hS => ?_
 go_upto_region 1 with fail
 refine RL hS ?_
 clear hS
 refine MV ?_
 refine MC (v := .bool false) (fun W hS => Z4n i hi hi2 W) ?_
 refine MW ?_ (v := .bool true)
 refine MZ fun W hS => ?_
 go_wp2
 exact bodyPost_ret (v := .int .i64 0) (by simp only [results, Tryz.results100]; go_simp) rfl ⟨rfl, hS.ext⟩
theorem Q0t (k i : Nat) (hi : i < 4611686018427387904) (w : World) : Calls Tryz.prog 100 #[.agg (J0 .u8 32 (Q3 k)), .int .i64 (i : Int)] w fun e w' => K6 (.int .i64 (kb k i : Int)) w w' e := by
 by_cases h : i < 256
 ·
  rw [Y2z h]; exact Y8z _ (V2i k) i h w
 rw [V2g (by omega)]; exact Y32 k i (by omega) hi w
theorem Y93 (z : Nat) (hz : z < 256) (w : World) :
  Calls Tryz.prog 170 #[.int .u8 (z : Int)] w fun e w' => K6 (.int .i64 (l8 z : Int)) w w' e := by
 have hS := SH.nil [] w
 go_enter Tryz.func170, Tryz.ntmps170
 go_upto_region 1 with fail
 refine RL hS ?_
 clear hS
 refine MV ?_
 refine MW ?_ (v := .int .u8 ((tb8.getD z 0).toNat : Int)) (hv := by intro W; exact J7l (l := tb8) (i := z) (Y30 hz) rfl rfl rfl)
 refine MW ?_ (v := .int .i64 (l8 z : Int)) (hv := by intro W; exact Y2w rfl rfl)
 refine MV ?_
 refine MZ fun W hS => ?_
 go_wp2
 exact bodyPost_ret (v := .int .i64 (l8 z : Int)) (by simp only [results, Tryz.results170]; go_simp) rfl ⟨rfl, hS.ext⟩
theorem V2j (z : Nat) (hz : z < 256) (w : World) :
  Calls Tryz.prog 143 #[.int .u8 (z : Int)] w fun e w' => K6 (.int .i64 ((8 - l8 z : Nat) : Int)) w w' e := by
 have hl := (Z97 ⟨z, hz⟩).1
 simp only at hl
 have hS := SH.nil [] w
 go_enter Tryz.func143, Tryz.ntmps143
 go_upto_region 1 with fail
 refine RL hS ?_
 clear hS
 refine MV ?_
 refine MC (v := .int .i64 (l8 z : Int)) (fun W hS => Y93 z hz W) ?_
 refine MW ?_ (v := .int .i64 ((8 - l8 z : Nat) : Int)) (hv := by intro W; go_simp; (try simp only [IntKind.wrap_i64]); omega)
 refine MV ?_
 refine MZ fun W hS => ?_
 go_wp2
 exact bodyPost_ret (v := .int .i64 ((8 - l8 z : Nat) : Int)) (by simp only [results, Tryz.results143]; go_simp) rfl ⟨rfl, hS.ext⟩
theorem Y94 {w : World} : (isAgg 5).run Tryz.prog w = .ok false w := by
 simp [isAgg, run_underlying Tryz.underlying5, Sem.run_bind]
theorem Y95 {a b : Nat} (ha : a < 256) (hb : b < 256) : bits .xor .u8 (a : Int) (b : Int) = ((a ^^^ b : Nat) : Int) := J4q .u8 8 (by decide) (fun n h0 h1 => by rw [IntKind.wrap_u8]; omega) a b ha hb
theorem Z99 {w : World} {o : Oper} {a : Act} {x y : Operand} {t t' : TypeId} {p q : Int} (ho : o.op = .binOp .xor t x y t') (hx : a.eval x = .int .u8 p) (hy : a.eval y = .int .u8 q) : (execOp a.eval o).run Tryz.prog w = .ok (.value (.int .u8 (bits .xor .u8 p q))) w := by
 simp only [execOp, ho, hx, hy]; rfl
theorem Z4o (a b : Nat) (w : World) :
  Calls Tryz.prog 97 #[.agg (J0 .u8 32 (Q3 a)), .agg (J0 .u8 32 (Q3 b))] w fun e w' => K6 (.int .i64 (J2h (Q3 a) (Q3 b) : Int)) w w' e := by
 have hS := SH.nil [] w
 go_enter Tryz.func97, Tryz.ntmps97
 go_upto_region 0 with fail
 refine RL hS ?_
 clear hS
 refine MN (z := J0 .u8 32 (Q3 a)) (t := 31) ?_
 intro R
 refine MN (z := J0 .u8 32 (Q3 b)) (t := 31) ?_
 intro J
 refine MW ?_ (v := .int .i64 0)
 refine MZ fun W hS => ?_
 go_upto_region 1 with fail
 refine RL hS ?_
 clear hS
 refine ML 1 ?_
 refine MW ?_ (v := .int .i64 0)
 refine MZ fun W hS => ?_
 go_wp2_with fail
 go_loopw [8] (fun ii wr => ∃ (j : Nat), (j ≤ 32) ∧ (∀ i, i < j → kby a i = kby b i) ∧ (ii = .int .i64 (j : Int)) ∧ SH [] w wr [.b J (J0 .u8 32 (Q3 b)) 31, .b R (J0 .u8 32 (Q3 a)) 31])
  (fun ii _ => 32 - (intOf ii).toNat)
 case atStart => exact ⟨0, Nat.zero_le _, fun i h => absurd h (Nat.not_lt_zero _), rfl, hS⟩
 clear hS
 case round =>
  obtain ⟨j, hj, M, rfl, hS⟩ := hrel
  by_cases G : j < 32
  ·
   go_upto_region 2 with fail
   refine RL hS ?_
   clear hS
   refine MW ?_ (v := .bool true)
   refine MZ fun W hS => ?_
   go_upto_region 3 with fail
   refine RL hS ?_
   clear hS
   refine MV ?_
   refine MW ?_ (v := .int .u8 ((kby a j : Nat) : Int)) (hv := fun _ => Q6b (m := 32) (f := Q3 a) G Tryz.underlying31 (by kernel_rfl) Y94 rfl rfl rfl)
   refine MV ?_
   refine MV ?_
   refine MZ fun W hS => ?_
   by_cases D : kby a j = kby b j
   ·
    go_upto_region 4 with fail
    refine RL hS ?_
    clear hS
    refine MV ?_
    refine MV ?_
    refine MW ?_ (v := .pointer (some ⟨J, 0 + j, none⟩)) (hv := fun _ => J7 (m := 32) (by decide) (by omega) Tryz.underlying31 (by kernel_rfl) rfl rfl rfl)
    refine MG 0 ?_ (j := 0 + j) (v := .int .u8 ((Q3 b) j)) (hj := by rw [Nat.zero_add]; exact J4 _ _ _ _ (by omega))
    refine MW ?_ (v := .bool false) (hv := by intro W; go_simp; (try simp only [Q6e]); (try simp [D]))
    refine MZ fun W hS => ?_
    go_wp2
    go_roundw
    case rel => exact ⟨j + 1, by omega, fun i h => by rcases Nat.lt_succ_iff_lt_or_eq.1 h with h | rfl; exact M i h; exact D, by go_num, hS⟩
    case measure => simp [intOf]; omega
   have N := D
   go_upto_region 4 with fail
   refine RL hS ?_
   clear hS
   refine MV ?_
   refine MV ?_
   refine MW ?_ (v := .pointer (some ⟨J, 0 + j, none⟩)) (hv := fun _ => J7 (m := 32) (by decide) (by omega) Tryz.underlying31 (by kernel_rfl) rfl rfl rfl)
   refine MG 0 ?_ (j := 0 + j) (v := .int .u8 ((Q3 b) j)) (hj := by rw [Nat.zero_add]; exact J4 _ _ _ _ (by omega))
   refine MW ?_ (v := .bool true) (hv := by intro W; go_simp; (try simp only [Q6e]); omega)
   refine MZ fun W hS => ?_
   go_upto_region 5 with fail
   refine RL hS ?_
   clear hS
   refine MV ?_
   refine MW ?_ (v := .int .i64 ((8 * j : Nat) : Int)) (hv := by intro W; go_simp; (try simp only [IntKind.wrap_i64]); omega)
   refine MV ?_
   refine MV ?_
   refine MW ?_ (v := .pointer (some ⟨J, 0 + j, none⟩)) (hv := fun _ => J7 (m := 32) (by decide) (by omega) Tryz.underlying31 (by kernel_rfl) rfl rfl rfl)
   refine MG 0 ?_ (j := 0 + j) (v := .int .u8 ((Q3 b) j)) (hj := by rw [Nat.zero_add]; exact J4 _ _ _ _ (by omega))
   refine MW ?_ (v := .int .u8 ((kby a j ^^^ kby b j : Nat) : Int)) (hv := by intro W; rw [← Y95 (Q0h a j) (Q0h b j)]; exact Z99 rfl rfl rfl)
   refine MC (v := .int .i64 ((8 - l8 (kby a j ^^^ kby b j) : Nat) : Int)) (fun W hS => V2j (kby a j ^^^ kby b j) (Nat.xor_lt_two_pow (n := 8) (Q0h a j) (Q0h b j)) W) ?_
   refine MW ?_ (v := .int .i64 ((8 * j + (8 - l8 (kby a j ^^^ kby b j)) : Nat) : Int)) (hv := by intro W; go_simp; (try simp only [IntKind.wrap_i64]); omega)
   refine MV ?_
   refine MZ fun W hS => ?_
   go_wp2
   exact bodyPost_ret (v := .int .i64 ((8 * j + (8 - l8 (kby a j ^^^ kby b j)) : Nat) : Int)) (by simp only [results, Tryz.results97]; go_simp) rfl ⟨by rw [Z4m G M N], hS.ext⟩
  obtain rfl : j = 32 := by omega
  go_upto_region 2 with fail
  refine RL hS ?_
  clear hS
  refine MW ?_ (v := .bool false)
  refine MZ fun W hS => ?_
  go_wp2
  exact bodyPost_ret (v := .int .i64 256) (by simp only [results, Tryz.results97]; go_simp) rfl ⟨by rw [Z98 M]; rfl, hS.ext⟩
end

section
set_option maxHeartbeats 1500000
attribute [local irreducible] wpList J01 wpX
def tsz : TR → Nat
 | .nil => 0
 | .leaf _ _ => 1
 | .node _ l r => 1 + tsz l + tsz r
def hd (w : World) : Nat → Value → Nat
 | n + 1, .pointer (some a) => match w.cell? ⟨a.block, 66, none⟩ with
  | some (.bool true) => 1 + hd w n ((w.cell? ⟨a.block, 64, none⟩).getD undef) + hd w n ((w.cell? ⟨a.block, 65, none⟩).getD undef)
  | some (.bool false) => 1
  | _ => 0
 | _, _ => 0
theorem Y96 (w : World) (n : Nat) : hd w n nlp = 0 := by cases n <;> rfl
theorem Q4j {w : World} : ∀ {T : TR} {u : Value} {n : Nat}, TA w T u → tsz T ≤ n → hd w n u = tsz T
 | .nil, _, n, h, _ => by rw [show _ = nlp from h]; exact Y96 w n
 | .leaf k v, _, 0, _, hn => absurd hn (by show ¬ 1 ≤ 0; omega)
 | .leaf k v, _, n + 1, ⟨b, h1, h2, _⟩, _ => by
  subst h1
  have e : w.cell? ⟨b, 66, none⟩ = some (.bool false) := by rw [Q0 h2]; exact J7t
  show (match w.cell? ⟨b, 66, none⟩ with
   | some (.bool true) => _
   | some (.bool false) => 1
   | _ => 0) = 1
  rw [e]
 | .node d l r, _, 0, _, hn => absurd hn (by show ¬ 1 + tsz l + tsz r ≤ 0; omega)
 | .node d l r, _, n + 1, ⟨b, s0, s1, h1, h2, h3, h4⟩, hn => by
  subst h1
  have e : w.cell? ⟨b, 66, none⟩ = some (.bool true) := by rw [Q0 h2]; exact J7t
  have e0 : w.cell? ⟨b, 64, none⟩ = some s0 := by rw [Q0 h2]; exact nd_s0
  have e1 : w.cell? ⟨b, 65, none⟩ = some s1 := by rw [Q0 h2]; exact nd_s1
  have hn' : 1 + tsz l + tsz r ≤ n + 1 := hn
  show (match w.cell? ⟨b, 66, none⟩ with
   | some (.bool true) => 1 + hd w n ((w.cell? ⟨b, 64, none⟩).getD undef) + hd w n ((w.cell? ⟨b, 65, none⟩).getD undef)
   | some (.bool false) => 1
   | _ => 0) = 1 + tsz l + tsz r
  rw [e, e0, e1]
  show 1 + hd w n s0 + hd w n s1 = _
  rw [Q4j h3 (by omega), Q4j h4 (by omega)]
def Q6f : TR → Nat
 | .nil => 0
 | .leaf k _ => k
 | .node _ .nil r => Q6f r
 | .node _ l _ => Q6f l
def full : TR → Prop
 | .nil => False
 | .leaf _ _ => True
 | .node _ .nil r => full r
 | .node _ l _ => full l
theorem Q9z {d : Nat} {l r : TR} (h : l ≠ .nil) : Q6f (.node d l r) = Q6f l := by cases l <;> first | exact absurd rfl h | rfl
theorem Z00 {d : Nat} {l r : TR} (h : l ≠ .nil) : full (.node d l r) = full l := by cases l <;> first | exact absurd rfl h | rfl
theorem Q1l {T : TR} (h : full T) : T ≠ .nil := fun e => by subst e; exact h
theorem TA.cases {w : World} {T : TR} {u : Value} (h : TA w T u) (hf : full T) : (∃ b k v, T = .leaf k v ∧ u = ptr b ∧ Blk w b (ndc k v nlp nlp false (sL k v) 1) 151) ∨
  ∃ b d l r s0 s1, T = .node d l r ∧ u = ptr b ∧ Blk w b (ndc 0 0 s0 s1 true (rs (.node d l r)) (cnt l + cnt r)) 151 ∧ TA w l s0 ∧ TA w r s1 := by
 cases T with
 | nil => exact hf.elim
 | leaf k v => obtain ⟨b, h1, h2, _⟩ := h; exact .inl ⟨b, k, v, rfl, h1, h2⟩
 | node d l r => obtain ⟨b, s0, s1, h1, h2, h3, h4⟩ := h; exact .inr ⟨b, d, l, r, s0, s1, rfl, h1, h2, h3, h4⟩
theorem TA.side {w : World} {T : TR} {u : Value} (h : TA w T u) : (T = .nil ∧ u = nlp) ∨ ∃ b, T ≠ .nil ∧ u = ptr b := by
 cases T with
 | nil => exact .inl ⟨rfl, h⟩
 | leaf k v => obtain ⟨b, h1, _⟩ := h; exact .inr ⟨b, fun e => (by cases e), h1⟩
 | node d l r => obtain ⟨b, s0, s1, h1, _⟩ := h; exact .inr ⟨b, fun e => (by cases e), h1⟩
attribute [local irreducible] hs4 sE sL sN

theorem Z2g {T : TR} {u : Value} (hf0 : full T) (w : World) (h : TA w T u) :
  Calls Tryz.prog 180 #[u] w fun e w' => K6 (.agg (J0 .u8 32 (Q3 (Q6f T)))) w w' e := by
 have hS := SH.nil [] w
 go_enter Tryz.func180, Tryz.ntmps180
 go_upto_region 0 with fail
 refine RL hS ?_
 clear hS
 refine MN (z := J0 .u8 32 (Q3 0)) (t := 31) ?_
 intro J
 refine MZ fun W hS => ?_
 go_wp2_with fail
 go_loopw [0] (fun u wr => ∃ (T1 : TR), (TA w T1 u) ∧ (full T1) ∧ (Q6f T1 = Q6f T) ∧ (tsz T1 ≤ tsz T) ∧ SH [] w wr [.b J (J0 .u8 32 (Q3 0)) 31])
  (fun u _ => hd w (tsz T) u)
 case atStart => exact ⟨T, h, hf0, rfl, Nat.le_refl _, hS⟩
 clear hS
 case round =>
  obtain ⟨T1, hT, hf, hk, hz, hS⟩ := hrel
  rcases hT.cases hf with ⟨b, k, v, rfl, rfl, hB⟩ | ⟨b, d, l, r, s0, s1, rfl, rfl, hB, hl, hr⟩
  ·
   go_upto_region 1 with fail
   refine RL hS ?_
   clear hS
   refine MV ?_
   refine MV ?_
   refine MV ?_
   refine MF (v := .bool false) (fun W hS => J04 rfl rfl (by rw [Q0 (J1 hB hS.ext)]; exact J7t) (by kernel_rfl)) ?_
   refine MZ fun W hS => ?_
   go_upto_region 5 with fail
   refine RL hS ?_
   clear hS
   refine MV ?_
   refine MV ?_
   refine MV ?_
   refine MV ?_
   refine MF (v := .agg (J0 .u8 32 (Q3 k))) (fun W hS => J0n (vs := (J0 .u8 32 (Q3 k)).toList) rfl rfl (fun i v hv => by rw [Q0 (J1 hB hS.ext)]; exact J8z i v (by simpa using hv)) (by kernel_rfl) (by first | kernel_rfl | (simp only [Array.length_toList]; rw [J2]; kernel_rfl))) ?_
   refine MR 0 ?_ 
   refine MZ fun W hS => ?_
   go_wp2
   exact bodyPost_ret (Y3 rfl rfl (hS.blk (i := 0) rfl) (by kernel_rfl) (by rw [J2]; kernel_rfl)) rfl ⟨by rw [← hk]; rfl, hS.ext⟩
  have D : TA w (.node d l r) (ptr b) := hT
  go_upto_region 1 with fail
  refine RL hS ?_
  clear hS
  refine MV ?_
  refine MV ?_
  refine MV ?_
  refine MF (v := .bool true) (fun W hS => J04 rfl rfl (by rw [Q0 (J1 hB hS.ext)]; exact J7t) (by kernel_rfl)) ?_
  refine MZ fun W hS => ?_
  rcases hl.side with ⟨rfl, rfl⟩ | ⟨c, G, rfl⟩
  ·
   go_upto_region 2 with fail
   refine RL hS ?_
   clear hS
   refine MV ?_
   refine MV ?_
   refine MV ?_
   refine MW ?_ (v := .pointer (some ⟨b, 64, none⟩)) (hv := fun _ => J16 (m := 2) (k := 1) (j := 0) (off := 64) (by decide) Tryz.underlying149 (by kernel_rfl) rfl rfl rfl)
   refine MF (v := .pointer none) (fun W hS => J04 rfl rfl (by rw [Q0 (J1 hB hS.ext)]; exact nd_s0) (by kernel_rfl)) ?_
   refine MW ?_ (v := .bool false)
   refine MZ fun W hS => ?_
   go_upto_region 4 with fail
   refine RL hS ?_
   clear hS
   refine MV ?_
   refine MV ?_
   refine MV ?_
   refine MW ?_ (v := .pointer (some ⟨b, 65, none⟩)) (hv := fun _ => J16 (m := 2) (k := 1) (j := 1) (off := 64) (by decide) Tryz.underlying149 (by kernel_rfl) rfl rfl rfl)
   refine MF (v := s1) (fun W hS => J04 rfl rfl (by rw [Q0 (J1 hB hS.ext)]; exact nd_s1) (by kernel_rfl)) ?_
   refine MV ?_
   refine MZ fun W hS => ?_
   go_wp2
   go_roundw
   case rel => exact ⟨r, hr, hf, hk, (by have h_ : 1 + tsz .nil + tsz r ≤ tsz T := hz; omega), hS⟩
   case measure => rw [Q4j D hz, Q4j hr (by have h_ : 1 + tsz .nil + tsz r ≤ tsz T := hz; omega)]; show _ < 1 + tsz .nil + tsz r; omega
  go_upto_region 2 with fail
  refine RL hS ?_
  clear hS
  refine MV ?_
  refine MV ?_
  refine MV ?_
  refine MW ?_ (v := .pointer (some ⟨b, 64, none⟩)) (hv := fun _ => J16 (m := 2) (k := 1) (j := 0) (off := 64) (by decide) Tryz.underlying149 (by kernel_rfl) rfl rfl rfl)
  refine MF (v := .pointer (some ⟨c, 0, none⟩)) (fun W hS => J04 rfl rfl (by rw [Q0 (J1 hB hS.ext)]; exact nd_s0) (by kernel_rfl)) ?_
  refine MW ?_ (v := .bool true)
  refine MZ fun W hS => ?_
  go_upto_region 3 with fail
  refine RL hS ?_
  clear hS
  refine MV ?_
  refine MV ?_
  refine MV ?_
  refine MW ?_ (v := .pointer (some ⟨b, 64, none⟩)) (hv := fun _ => J16 (m := 2) (k := 1) (j := 0) (off := 64) (by decide) Tryz.underlying149 (by kernel_rfl) rfl rfl rfl)
  refine MF (v := .pointer (some ⟨c, 0, none⟩)) (fun W hS => J04 rfl rfl (by rw [Q0 (J1 hB hS.ext)]; exact nd_s0) (by kernel_rfl)) ?_
  refine MV ?_
  refine MZ fun W hS => ?_
  go_wp2
  go_roundw
  case rel => exact ⟨l, hl, (by rw [Z00 G] at hf; exact hf), (by rw [Q9z G] at hk; exact hk), (by have h_ : 1 + tsz l + tsz r ≤ tsz T := hz; omega), hS⟩
  case measure => rw [Q4j D hz, Q4j hl (by have h_ : 1 + tsz l + tsz r ≤ tsz T := hz; omega)]; show _ < 1 + tsz l + tsz r; omega
end
end Go.Proofs.YtejkmhgkkibafaaGreatDoor

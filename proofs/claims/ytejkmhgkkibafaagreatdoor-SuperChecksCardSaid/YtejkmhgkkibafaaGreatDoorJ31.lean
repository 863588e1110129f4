/- Contracts and plain laws that superChecks_holds rests on. Conditions: the variables' cells hold the numbers of the program's text. -/
import Derived.Test.YtejkmhgkkibafaaGreatDoorGc
import Derived.Test.YtejkmhgkkibafaaGreatDoorJ30
open Go.RowKit
set_option maxRecDepth 100000
set_option linter.unusedSimpArgs false
set_option linter.unusedVariables false
namespace Go.Proofs.YtejkmhgkkibafaaGreatDoor
section
set_option maxHeartbeats 1500000
attribute [local irreducible] wpList
def Q30 (f g : Nat → Int) : Nat → Nat → Nat
  | 0, i => i
  | n + 1, i => if J28 f i = J28 g i then Q30 f g n (i + 1) else i
def J29 (f g : Nat → Int) : Nat := Q30 f g 256 0
theorem J5z {f g : Nat → Int} {i : Nat} (h : i < 256) : Q30 f g (256 - i) i = if J28 f i = J28 g i then Q30 f g (256 - (i + 1)) (i + 1) else i := by
  rw [show 256 - i = (256 - (i + 1)) + 1 by omega]; rfl

theorem Z46 (f g : Nat → Int) (hf : ∀ j, 0 ≤ f j ∧ f j < 256) (hg : ∀ j, 0 ≤ g j ∧ g j < 256) (w : World) :
  Calls Tryz.prog 145 #[.agg (J0 .u8 32 f), .agg (J0 .u8 32 g)] w fun e w' => K7 (.int .i64 (J29 f g : Int)) w w' e := by
 have D : Off [] w w := Off.refl _ _
 go_enter Tryz.func145, Tryz.ntmps145
 go_upto_region 0 with fail
 refine wp_region_lit ?_
 refine Ln ?_ (z := J0 .u8 32 f) (t := 23)
 intro X5 W1 X hO h_
 replace D := D.o hO
 have G := h_
 clear hO h_ X
 refine Ln ?_ (z := J0 .u8 32 g) (t := 23)
 intro V W2 T hO h_
 replace G := G.o hO
 replace D := D.o hO
 have M := h_
 clear hO h_ T
 refine Lw ?_ (v := .int .i64 0)
 refine J9 ?_
 go_wp2_with fail
 go_loopw [5] (fun ii wr => ∃ (i : Nat), (i ≤ 256) ∧ (ii = .int .i64 (i : Int)) ∧ (J29 f g = Q30 f g (256 - i) i) ∧ Off [] w wr ∧ Blk wr X5 (J0 .u8 32 f) 23 ∧ Blk wr V (J0 .u8 32 g) 23)
  (fun ii _ => 256 - (intOf ii).toNat)
 case atStart => exact ⟨0, Nat.zero_le _, rfl, rfl, D, G, M⟩
 case round =>
  obtain ⟨i, hi, rfl, N, D, G, M⟩ := hrel
  obtain ⟨W3, U⟩ := J54 D
  subst U
  by_cases J : i < 256
  ·
   go_upto_region 2 with fail
   refine wp_region_lit ?_
   refine Lv ?_
   refine Lw ?_ (v := .bool true)
   refine J9 ?_
   by_cases hz : J28 f i = J28 g i
   ·
    have _f := hz
    have R := Lib.hid hz
    clear hz
    go_upto_region 4 with fail
    refine Rx 7 ?_
    refine XlA ?_ G
    refine Xv ?_
    refine Xf ?_ (fun W hW => Q2z f hf i J W)
    refine XlA ?_ M
    refine Xv ?_
    refine Xf ?_ (fun W hW => Q2z g hg i J W)
    refine Xw ?_ (v := .bool false) (hv := fun _ _ => by have hz := R.out; first | (go_simp; done) | (go_simp; simp [hz]))
    refine V7 fun W4 hE => ?_
    have hO := J0d hE
    replace G := G.o hO
    replace M := M.o hO
    replace D := D.o hO
    clear hO hE
    refine LN ?_
    go_wp2
    go_roundw
    case rel => exact ⟨i + 1, by omega, by go_num, by rw [N, J5z J, if_pos R.out], D, G, M⟩
    case measure => simp [intOf]; omega
   have _f := hz
   have S : ((J29 f g : Nat) : Int) = (i : Int) := by rw [N, J5z J, if_neg hz]
   have R := Lib.hid hz
   clear hz N
   go_upto_region 4 with fail
   refine Rx 7 ?_
   refine XlA ?_ G
   refine Xv ?_
   refine Xf ?_ (fun W hW => Q2z f hf i J W)
   refine XlA ?_ M
   refine Xv ?_
   refine Xf ?_ (fun W hW => Q2z g hg i J W)
   refine Xw ?_ (v := .bool true) (hv := fun _ _ => by have hz := R.out; first | (go_simp; done) | (go_simp; simp [hz]))
   refine V7 fun W4 hE => ?_
   have hO := J0d hE
   replace D := D.o hO
   clear hO hE
   refine LN ?_
   go_wp2
   exact bodyPost_ret (v := .int .i64 (i : Int)) (by simp only [results, Tryz.results145]; go_simp) rfl ⟨congrArg (fun z : Int => Ending.returned (.int .i64 z)) S.symm, D.ext⟩
  obtain rfl : i = 256 := by omega
  have S : ((J29 f g : Nat) : Int) = 256 := by rw [N]; rfl
  clear N
  go_upto_region 2 with fail
  refine wp_region_lit ?_
  refine Lv ?_
  refine Lw ?_ (v := .bool false)
  refine J9 ?_
  go_wp2
  exact bodyPost_ret (v := .int .i64 256) (by simp only [results, Tryz.results145]; go_simp) rfl ⟨congrArg (fun z : Int => Ending.returned (.int .i64 z)) S.symm, D.ext⟩
def Z8k (f g : Nat → Int) : Bool := decide (J29 f g < 256) && decide (J28 f (J29 f g) = 0)
theorem Q5v (f g : Nat → Int) (hf : ∀ j, 0 ≤ f j ∧ f j < 256) (hg : ∀ j, 0 ≤ g j ∧ g j < 256) (w : World) :
  Calls Tryz.prog 104 #[.agg (J0 .u8 32 f), .agg (J0 .u8 32 g)] w fun e w' => K7 (.bool (Z8k f g)) w w' e := by
 have J := Z46 f g hf hg
 obtain ⟨c, hc⟩ : ∃ c, J29 f g = c := ⟨_, rfl⟩
 rw [hc] at J
 have HK := Lib.hid hc
 clear hc
 have D : Off [] w w := Off.refl _ _
 go_enter Tryz.func104, Tryz.ntmps104
 go_upto_region 0 with fail
 refine wp_region_lit ?_
 refine Ln ?_ (z := J0 .u8 32 f) (t := 23)
 intro X5 W1 R hO h_
 replace D := D.o hO
 have G := h_
 clear hO h_ R
 refine Ln ?_ (z := J0 .u8 32 g) (t := 23)
 intro S W2 N hO h_
 replace G := G.o hO
 replace D := D.o hO
 have M := h_
 clear hO h_ N
 refine Lw ?_ (v := .bool false)
 refine J9 ?_
 go_upto_region 1 with fail
 refine wp_region_lit ?_
 refine L0A ?_ G
 refine L0A ?_ M
 refine Lr ?_ (J W2)
 intro W3 hO
 replace G := G.o hO
 replace D := D.o hO
 clear hO
 refine Lv ?_
 refine J9 ?_
 by_cases ha : c < 256
 ·
  go_upto_region 2 with fail
  refine wp_region_lit ?_
  refine Lv ?_
  refine Lw ?_ (v := .bool true)
  refine Lw ?_ (v := .bool true)
  refine L0A ?_ G
  refine Lv ?_
  refine Lr ?_ (Q2z f hf c ha W3)
  intro W4 hO
  replace D := D.o hO
  clear hO
  refine Lw ?_ (v := .bool (decide (J28 f c = 0))) (hv := by go_simp; first | done | rfl | (cases h_ : (J28 f c == 0) <;> simp_all))
  refine Lw ?_ (v := .bool (decide (J28 f c = 0)))
  refine Lw ?_ (v := .bool (decide (J28 f c = 0)))
  refine J9 ?_
  go_wp2
  exact bodyPost_ret (v := .bool (decide (J28 f c = 0))) (by simp only [results, Tryz.results104]; go_simp) rfl ⟨congrArg (fun z => Ending.returned (.bool z)) (by unfold Z8k; rw [HK.out]; simp [ha]), D.ext⟩
 go_upto_region 2 with fail
 refine wp_region_lit ?_
 refine Lv ?_
 refine Lw ?_ (v := .bool false)
 refine Lw ?_ (v := .bool false)
 refine Ls ?_
 refine Ls ?_
 refine Ls ?_
 refine Ls ?_
 refine Lw ?_ (v := .bool false)
 refine Lw ?_ (v := .bool false)
 refine J9 ?_
 go_wp2
 exact bodyPost_ret (v := .bool false) (by simp only [results, Tryz.results104]; go_simp) rfl ⟨congrArg (fun z => Ending.returned (.bool z)) (by unfold Z8k; rw [HK.out]; simp [ha]), D.ext⟩
end

section
set_option maxHeartbeats 1500000
attribute [local irreducible] wpList U0 wpX
theorem Z1z (f : Nat → Int) (i : Nat) : 0 ≤ J28 f i ∧ J28 f i < 2 := by unfold J28; omega
def kb (k i : Nat) : Nat := if i < 256 then (J28 (Q3 k) i).toNat else 0
theorem Y2f {k i : Nat} (h : i < 256) : ((kb k i : Nat) : Int) = J28 (Q3 k) i := by unfold kb; rw [if_pos h]; have := (Z1z (Q3 k) i).1; omega
theorem V1w {k i : Nat} (h : 256 ≤ i) : kb k i = 0 := by unfold kb; rw [if_neg (by omega)]
theorem V1x (k i : Nat) : kb k i < 2 := by unfold kb; split; have := Z1z (Q3 k) i; omega; decide
theorem V1y (k : Nat) : ∀ j, 0 ≤ Q3 k j ∧ Q3 k j < 256 := fun j => J2y k j
theorem J7d {w : World} {o : Oper} {a : Act} {x y : Operand} {l : List UInt8} {i : Nat} {c : UInt8} (h : l[i]? = some c) (ho : o.op = .index 9 x y) (hx : a.eval x = str l) {k : IntKind} (hy : a.eval y = .int k (i : Int)) : (execOp a.eval o).run Tryz.prog w = .ok (.value (.int .u8 (c.toNat : Int))) w := by
 have hs := J55 l
 have hi := (List.getElem?_eq_some_iff.1 h).1
 have hg := (List.getElem?_eq_some_iff.1 h).2
 have D : (⟨l.toArray⟩ : ByteArray)[i]'(by rw [hs]; exact hi) = c := by
  show l.toArray[i]'(by simpa using hi) = c
  simpa using hg
 simp only [execOp, ho, hx, hy, str, Sem.run_bind]
 simp [Instr.index, asIntOf, run_underlying Tryz.underlying9, hs, hi, D, Sem.run_bind]
def tb8 : List UInt8 := [0, 1, 2, 2, 3, 3, 3, 3, 4, 4, 4, 4, 4, 4, 4, 4, 5, 5, 5, 5, 5, 5, 5, 5, 5, 5, 5, 5, 5, 5, 5, 5, 6, 6, 6, 6, 6, 6, 6, 6, 6, 6, 6, 6, 6, 6, 6, 6, 6, 6, 6, 6, 6, 6, 6, 6, 6, 6, 6, 6, 6, 6, 6, 6, 7, 7, 7, 7, 7, 7, 7, 7, 7, 7, 7, 7, 7, 7, 7, 7, 7, 7, 7, 7, 7, 7, 7, 7, 7, 7, 7, 7, 7, 7, 7, 7, 7, 7, 7, 7, 7, 7, 7, 7, 7, 7, 7, 7, 7, 7, 7, 7, 7, 7, 7, 7, 7, 7, 7, 7, 7, 7, 7, 7, 7, 7, 7, 7, 8, 8, 8, 8, 8, 8, 8, 8, 8, 8, 8, 8, 8, 8, 8, 8, 8, 8, 8, 8, 8, 8, 8, 8, 8, 8, 8, 8, 8, 8, 8, 8, 8, 8, 8, 8, 8, 8, 8, 8, 8, 8, 8, 8, 8, 8, 8, 8, 8, 8, 8, 8, 8, 8, 8, 8, 8, 8, 8, 8, 8, 8, 8, 8, 8, 8, 8, 8, 8, 8, 8, 8, 8, 8, 8, 8, 8, 8, 8, 8, 8, 8, 8, 8, 8, 8, 8, 8, 8, 8, 8, 8, 8, 8, 8, 8, 8, 8, 8, 8, 8, 8, 8, 8, 8, 8, 8, 8, 8, 8, 8, 8, 8, 8, 8, 8, 8, 8, 8, 8, 8, 8, 8, 8, 8, 8, 8, 8]
def l8 (z : Nat) : Nat := (tb8.getD z 0).toNat
theorem Y2g {z : Nat} (h : z < 256) : tb8[z]? = some (tb8.getD z 0) := by rw [List.getD_eq_getElem?_getD, List.getElem?_eq_getElem (by rw [show tb8.length = 256 by decide +kernel]; exact h)]; rfl
theorem Z8p : ∀ z : Fin 256, l8 z.val ≤ 8 ∧ (z.val ≠ 0 → 0 < l8 z.val ∧ z.val / 2 ^ (l8 z.val - 1) % 2 = 1) ∧ ∀ i : Fin 8, i.val < 8 - l8 z.val → z.val / 2 ^ (7 - i.val) % 2 = 0 := by decide +kernel
theorem Y2h (x y n : Nat) : (x ^^^ y) / 2 ^ n % 2 = 0 ↔ x / 2 ^ n % 2 = y / 2 ^ n % 2 := by
 have h := Nat.testBit_xor x y n
 have e : ∀ z : Nat, z.testBit n = decide (z / 2 ^ n % 2 = 1) := fun z => by rw [Nat.testBit_eq_decide_div_mod_eq]
 rw [e, e, e] at h
 have h1 : (x ^^^ y) / 2 ^ n % 2 < 2 := Nat.mod_lt _ (by decide)
 have h2 : x / 2 ^ n % 2 < 2 := Nat.mod_lt _ (by decide)
 have h3 : y / 2 ^ n % 2 < 2 := Nat.mod_lt _ (by decide)
 generalize (x ^^^ y) / 2 ^ n % 2 = a at *
 generalize x / 2 ^ n % 2 = b at *
 generalize y / 2 ^ n % 2 = c at *
 match a, b, c, h1, h2, h3 with
 | 0, 0, 0, _, _, _ => simp
 | 0, 0, 1, _, _, _ => simp at h
 | 0, 1, 0, _, _, _ => simp at h
 | 0, 1, 1, _, _, _ => simp
 | 1, 0, 0, _, _, _ => simp at h
 | 1, 0, 1, _, _, _ => simp
 | 1, 1, 0, _, _, _ => simp
 | 1, 1, 1, _, _, _ => simp at h
def kby (k j : Nat) : Nat := k / 2 ^ (8 * j) % 256
theorem Q62 (k j : Nat) : Q3 k j = ((kby k j : Nat) : Int) := rfl
theorem Q06 (k j : Nat) : kby k j < 256 := Nat.mod_lt _ (by decide)
theorem J9n (k i : Nat) : J28 (Q3 k) i = ((kby k (i / 8) / 2 ^ (7 - i % 8) % 2 : Nat) : Int) := by
 unfold J28; rw [Q62]; rw [Int.natCast_emod, Int.natCast_ediv, Int.natCast_pow]; rfl
theorem Z20 {a b i : Nat} : J28 (Q3 a) i = J28 (Q3 b) i ↔ (kby a (i / 8) ^^^ kby b (i / 8)) / 2 ^ (7 - i % 8) % 2 = 0 := by
 rw [J9n, J9n, Y2h]; omega
theorem Q86 {f g : Nat → Int} {m : Nat} (hm : m ≤ 256) (hlt : ∀ i, i < m → J28 f i = J28 g i) (he : m < 256 → J28 f m ≠ J28 g m) : ∀ n i, n + i = m → Q30 f g (256 - i) i = m
 | 0, i, h => by
  obtain rfl : i = m := by omega
  by_cases h2 : i < 256
  ·
   rw [J5z h2, if_neg (he h2)]
  ·
   obtain rfl : i = 256 := by omega
   rfl
 | n + 1, i, h => by
  rw [J5z (by omega), if_pos (hlt i (by omega))]
  exact Q86 hm hlt he n (i + 1) (by omega)
theorem Z21 {f g : Nat → Int} {m : Nat} (hm : m ≤ 256) (hlt : ∀ i, i < m → J28 f i = J28 g i) (he : m < 256 → J28 f m ≠ J28 g m) : J29 f g = m := Q86 hm hlt he m 0 (by omega)
theorem Z49 {a b j : Nat} (hj : j < 32) (hlt : ∀ i, i < j → kby a i = kby b i) (hne : kby a j ≠ kby b j) : J29 (Q3 a) (Q3 b) = 8 * j + (8 - l8 (kby a j ^^^ kby b j)) := by
 have hz : kby a j ^^^ kby b j < 256 := Nat.xor_lt_two_pow (n := 8) (Q06 a j) (Q06 b j)
 have D : kby a j ^^^ kby b j ≠ 0 := fun h => hne (by have e := congrArg (· ^^^ kby b j) h; simpa [Nat.xor_assoc] using e)
 obtain ⟨h1, h2, h3⟩ := Z8p ⟨_, hz⟩
 obtain ⟨h2, h4⟩ := h2 D
 simp only at h1 h2 h3 h4
 generalize hl : l8 (kby a j ^^^ kby b j) = L at *
 refine Z21 (by omega) (fun i hi => ?_) fun _ => ?_
 ·
  rw [Z20]
  by_cases hq : i / 8 < j
  ·
   rw [hlt _ hq, Nat.xor_self, Nat.zero_div]
  have e : i / 8 = j := by omega
  have h5 := h3 ⟨i % 8, Nat.mod_lt _ (by decide)⟩ (by simp only; omega)
  rw [e]; exact h5
 rw [Ne, Z20]
 have e1 : (8 * j + (8 - L)) / 8 = j := by omega
 have e2 : 7 - (8 * j + (8 - L)) % 8 = L - 1 := by omega
 rw [e1, e2, h4]; decide
theorem Z8q {a b : Nat} (h : ∀ i, i < 32 → kby a i = kby b i) : J29 (Q3 a) (Q3 b) = 256 :=
 Z21 (Nat.le_refl _) (fun i hi => by rw [J9n, J9n, h _ (by omega)]) (fun h => absurd h (by decide))
theorem Z22 (f g : Nat → Int) : J29 f g ≤ 256 := by
 have : ∀ n i, n + i = 256 → Q30 f g (256 - i) i ≤ 256 := by
  intro n
  induction n with
  | zero =>
   intro i h
   obtain rfl : i = 256 := by omega
   exact Nat.le_refl 256
  | succ n ih => intro i h; rw [J5z (by omega)]; split; exact ih (i + 1) (by omega); omega
 exact this 256 0 rfl

theorem Z4a (i : Nat) (hi : 256 ≤ i) (hi2 : i < 4611686018427387904) (w : World) :
  Calls Tryz.prog 144 #[.int .i64 (i : Int)] w fun e w' => K7 (.bool false) w w' e := by
 have hS := SH.nil [] w
 go_enter Tryz.func144, Tryz.ntmps144
 go_upto_region 1 with fail
 refine RL hS ?_
 clear hS
 refine MV ?_
 refine MW ?_ (v := .bool true) (hv := by intro W; first | (go_simp; done) | (go_simp; omega))
 refine MW ?_ (v := .bool true)
 refine MV ?_
 refine MW ?_ (v := .bool false) (hv := by intro W; first | (go_simp; done) | (go_simp; omega))
 refine MW ?_ (v := .bool false)
 refine MW ?_ (v := .bool false)
 refine MZ fun W hS => ?_
 go_wp2
 exact bodyPost_ret (v := .bool false) (by simp only [results, Tryz.results144]; go_simp) rfl ⟨rfl, hS.ext⟩
theorem Y2i (k i : Nat) (hi : 256 ≤ i) (hi2 : i < 4611686018427387904) (w : World) :
  Calls Tryz.prog 100 #[.agg (J0 .u8 32 (Q3 k)), .int .i64 (i : Int)] w fun e w' => K7 (.int .i64 0) w w' e := by
 have hS := SH.nil [] w
 go_enter Tryz.func100, Tryz.ntmps100
 go_upto_region 0 with fail
 refine RL hS ?_
 clear hS
 refine MN (z := J0 .u8 32 (Q3 k)) (t := 31) ?_
 intro X5
 refine MW ?_ (v := .int .i64 0)
 refine MZ fun W hS => ?_
 go_upto_region 1 with fail
 refine RL hS ?_
 clear hS
 refine MV ?_
 refine MC (v := .bool false) (fun W hS => Z4a i hi hi2 W) ?_
 refine MW ?_ (v := .bool true)
 refine MZ fun W hS => ?_
 go_wp2
 exact bodyPost_ret (v := .int .i64 0) (by simp only [results, Tryz.results100]; go_simp) rfl ⟨rfl, hS.ext⟩
theorem Q0i (k i : Nat) (hi : i < 4611686018427387904) (w : World) : Calls Tryz.prog 100 #[.agg (J0 .u8 32 (Q3 k)), .int .i64 (i : Int)] w fun e w' => K7 (.int .i64 (kb k i : Int)) w w' e := by
 by_cases h : i < 256
 ·
  rw [Y2f h]; exact Y8d _ (V1y k) i h w
 rw [V1w (by omega)]; exact Y2i k i (by omega) hi w
theorem Y8h (z : Nat) (hz : z < 256) (w : World) :
  Calls Tryz.prog 170 #[.int .u8 (z : Int)] w fun e w' => K7 (.int .i64 (l8 z : Int)) w w' e := by
 have hS := SH.nil [] w
 go_enter Tryz.func170, Tryz.ntmps170
 go_upto_region 1 with fail
 refine RL hS ?_
 clear hS
 refine MV ?_
 refine MW ?_ (v := .int .u8 ((tb8.getD z 0).toNat : Int)) (hv := by intro W; exact J7d (l := tb8) (i := z) (Y2g hz) rfl rfl rfl)
 refine MW ?_ (v := .int .i64 (l8 z : Int)) (hv := by intro W; exact Y2c rfl rfl)
 refine MV ?_
 refine MZ fun W hS => ?_
 go_wp2
 exact bodyPost_ret (v := .int .i64 (l8 z : Int)) (by simp only [results, Tryz.results170]; go_simp) rfl ⟨rfl, hS.ext⟩
theorem V1z (z : Nat) (hz : z < 256) (w : World) :
  Calls Tryz.prog 143 #[.int .u8 (z : Int)] w fun e w' => K7 (.int .i64 ((8 - l8 z : Nat) : Int)) w w' e := by
 have hl := (Z8p ⟨z, hz⟩).1
 simp only at hl
 have hS := SH.nil [] w
 go_enter Tryz.func143, Tryz.ntmps143
 go_upto_region 1 with fail
 refine RL hS ?_
 clear hS
 refine MV ?_
 refine MC (v := .int .i64 (l8 z : Int)) (fun W hS => Y8h z hz W) ?_
 refine MW ?_ (v := .int .i64 ((8 - l8 z : Nat) : Int)) (hv := by intro W; go_simp; (try simp only [IntKind.wrap_i64]); omega)
 refine MV ?_
 refine MZ fun W hS => ?_
 go_wp2
 exact bodyPost_ret (v := .int .i64 ((8 - l8 z : Nat) : Int)) (by simp only [results, Tryz.results143]; go_simp) rfl ⟨rfl, hS.ext⟩
theorem Y8i {w : World} : (isAgg 5).run Tryz.prog w = .ok false w := by
 simp [isAgg, run_underlying Tryz.underlying5, Sem.run_bind]
theorem Y8j {a b : Nat} (ha : a < 256) (hb : b < 256) : bits .xor .u8 (a : Int) (b : Int) = ((a ^^^ b : Nat) : Int) := J4g .u8 8 (by decide) (fun n h0 h1 => by rw [IntKind.wrap_u8]; omega) a b ha hb
theorem Z8r {w : World} {o : Oper} {a : Act} {x y : Operand} {t t' : TypeId} {p q : Int} (ho : o.op = .binOp .xor t x y t') (hx : a.eval x = .int .u8 p) (hy : a.eval y = .int .u8 q) : (execOp a.eval o).run Tryz.prog w = .ok (.value (.int .u8 (bits .xor .u8 p q))) w := by
 simp only [execOp, ho, hx, hy]; rfl
theorem Z4b (a b : Nat) (w : World) :
  Calls Tryz.prog 97 #[.agg (J0 .u8 32 (Q3 a)), .agg (J0 .u8 32 (Q3 b))] w fun e w' => K7 (.int .i64 (J29 (Q3 a) (Q3 b) : Int)) w w' e := by
 have hS := SH.nil [] w
 go_enter Tryz.func97, Tryz.ntmps97
 go_upto_region 0 with fail
 refine RL hS ?_
 clear hS
 refine MN (z := J0 .u8 32 (Q3 a)) (t := 31) ?_
 intro X5
 refine MN (z := J0 .u8 32 (Q3 b)) (t := 31) ?_
 intro G
 refine MW ?_ (v := .int .i64 0)
 refine MZ fun W hS => ?_
 go_upto_region 1 with fail
 refine RL hS ?_
 clear hS
 refine ML 1 ?_
 refine MW ?_ (v := .int .i64 0)
 refine MZ fun W hS => ?_
 go_wp2_with fail
 go_loopw [8] (fun ii wr => ∃ (j : Nat), (j ≤ 32) ∧ (∀ i, i < j → kby a i = kby b i) ∧ (ii = .int .i64 (j : Int)) ∧ SH [] w wr [.b G (J0 .u8 32 (Q3 b)) 31, .b X5 (J0 .u8 32 (Q3 a)) 31])
  (fun ii _ => 32 - (intOf ii).toNat)
 case atStart => exact ⟨0, Nat.zero_le _, fun i h => absurd h (Nat.not_lt_zero _), rfl, hS⟩
 clear hS
 case round =>
  obtain ⟨j, hj, M, rfl, hS⟩ := hrel
  by_cases J : j < 32
  ·
   go_upto_region 2 with fail
   refine RL hS ?_
   clear hS
   refine MW ?_ (v := .bool true)
   refine MZ fun W hS => ?_
   go_upto_region 3 with fail
   refine RL hS ?_
   clear hS
   refine MV ?_
   refine MW ?_ (v := .int .u8 ((kby a j : Nat) : Int)) (hv := fun _ => Q5z (m := 32) (f := Q3 a) J Tryz.underlying31 (by kernel_rfl) Y8i rfl rfl rfl)
   refine MV ?_
   refine MV ?_
   refine MZ fun W hS => ?_
   by_cases D : kby a j = kby b j
   ·
    go_upto_region 4 with fail
    refine RL hS ?_
    clear hS
    refine MV ?_
    refine MV ?_
    refine MW ?_ (v := .pointer (some ⟨G, 0 + j, none⟩)) (hv := fun _ => J5 (m := 32) (by decide) (by omega) Tryz.underlying31 (by kernel_rfl) rfl rfl rfl)
    refine MG 0 ?_ (j := 0 + j) (v := .int .u8 ((Q3 b) j)) (hj := by rw [Nat.zero_add]; exact J3 _ _ _ _ (by omega))
    refine MW ?_ (v := .bool false) (hv := by intro W; go_simp; (try simp only [Q62]); (try simp [D]))
    refine MZ fun W hS => ?_
    go_wp2
    go_roundw
    case rel => exact ⟨j + 1, by omega, fun i h => by rcases Nat.lt_succ_iff_lt_or_eq.1 h with h | rfl; exact M i h; exact D, by go_num, hS⟩
    case measure => simp [intOf]; omega
   have N := D
   go_upto_region 4 with fail
   refine RL hS ?_
   clear hS
   refine MV ?_
   refine MV ?_
   refine MW ?_ (v := .pointer (some ⟨G, 0 + j, none⟩)) (hv := fun _ => J5 (m := 32) (by decide) (by omega) Tryz.underlying31 (by kernel_rfl) rfl rfl rfl)
   refine MG 0 ?_ (j := 0 + j) (v := .int .u8 ((Q3 b) j)) (hj := by rw [Nat.zero_add]; exact J3 _ _ _ _ (by omega))
   refine MW ?_ (v := .bool true) (hv := by intro W; go_simp; (try simp only [Q62]); omega)
   refine MZ fun W hS => ?_
   go_upto_region 5 with fail
   refine RL hS ?_
   clear hS
   refine MV ?_
   refine MW ?_ (v := .int .i64 ((8 * j : Nat) : Int)) (hv := by intro W; go_simp; (try simp only [IntKind.wrap_i64]); omega)
   refine MV ?_
   refine MV ?_
   refine MW ?_ (v := .pointer (some ⟨G, 0 + j, none⟩)) (hv := fun _ => J5 (m := 32) (by decide) (by omega) Tryz.underlying31 (by kernel_rfl) rfl rfl rfl)
   refine MG 0 ?_ (j := 0 + j) (v := .int .u8 ((Q3 b) j)) (hj := by rw [Nat.zero_add]; exact J3 _ _ _ _ (by omega))
   refine MW ?_ (v := .int .u8 ((kby a j ^^^ kby b j : Nat) : Int)) (hv := by intro W; rw [← Y8j (Q06 a j) (Q06 b j)]; exact Z8r rfl rfl rfl)
   refine MC (v := .int .i64 ((8 - l8 (kby a j ^^^ kby b j) : Nat) : Int)) (fun W hS => V1z (kby a j ^^^ kby b j) (Nat.xor_lt_two_pow (n := 8) (Q06 a j) (Q06 b j)) W) ?_
   refine MW ?_ (v := .int .i64 ((8 * j + (8 - l8 (kby a j ^^^ kby b j)) : Nat) : Int)) (hv := by intro W; go_simp; (try simp only [IntKind.wrap_i64]); omega)
   refine MV ?_
   refine MZ fun W hS => ?_
   go_wp2
   exact bodyPost_ret (v := .int .i64 ((8 * j + (8 - l8 (kby a j ^^^ kby b j)) : Nat) : Int)) (by simp only [results, Tryz.results97]; go_simp) rfl ⟨by rw [Z49 J M N], hS.ext⟩
  obtain rfl : j = 32 := by omega
  go_upto_region 2 with fail
  refine RL hS ?_
  clear hS
  refine MW ?_ (v := .bool false)
  refine MZ fun W hS => ?_
  go_wp2
  exact bodyPost_ret (v := .int .i64 256) (by simp only [results, Tryz.results97]; go_simp) rfl ⟨by rw [Z8q M]; rfl, hS.ext⟩
end

section
set_option maxHeartbeats 1500000
attribute [local irreducible] wpList U0 wpX
def tsz : TR → Nat
 | .nil => 0
 | .leaf _ _ => 1
 | .node _ l r => 1 + tsz l + tsz r
def hd (w : World) : Nat → Value → Nat
 | n + 1, .pointer (some a) => match w.cell? ⟨a.block, 66, none⟩ with
  | some (.bool true) => 1 + hd w n ((w.cell? ⟨a.block, 64, none⟩).getD undef) + hd w n ((w.cell? ⟨a.block, 65, none⟩).getD undef)
  | some (.bool false) => 1
  | _ => 0
 | _, _ => 0
theorem Y8k (w : World) (n : Nat) : hd w n nlp = 0 := by cases n <;> rfl
theorem Q48 {w : World} : ∀ {T : TR} {u : Value} {n : Nat}, TA w T u → tsz T ≤ n → hd w n u = tsz T
 | .nil, _, n, h, _ => by rw [show _ = nlp from h]; exact Y8k w n
 | .leaf k v, _, 0, _, hn => absurd hn (by show ¬ 1 ≤ 0; omega)
 | .leaf k v, _, n + 1, ⟨b, h1, h2, _⟩, _ => by
  subst h1
  have e : w.cell? ⟨b, 66, none⟩ = some (.bool false) := by rw [J7 h2]; exact J7l
  show (match w.cell? ⟨b, 66, none⟩ with
   | some (.bool true) => _
   | some (.bool false) => 1
   | _ => 0) = 1
  rw [e]
 | .node d l r, _, 0, _, hn => absurd hn (by show ¬ 1 + tsz l + tsz r ≤ 0; omega)
 | .node d l r, _, n + 1, ⟨b, s0, s1, h1, h2, h3, h4⟩, hn => by
  subst h1
  have e : w.cell? ⟨b, 66, none⟩ = some (.bool true) := by rw [J7 h2]; exact J7l
  have e0 : w.cell? ⟨b, 64, none⟩ = some s0 := by rw [J7 h2]; exact nd_s0
  have e1 : w.cell? ⟨b, 65, none⟩ = some s1 := by rw [J7 h2]; exact nd_s1
  have hn' : 1 + tsz l + tsz r ≤ n + 1 := hn
  show (match w.cell? ⟨b, 66, none⟩ with
   | some (.bool true) => 1 + hd w n ((w.cell? ⟨b, 64, none⟩).getD undef) + hd w n ((w.cell? ⟨b, 65, none⟩).getD undef)
   | some (.bool false) => 1
   | _ => 0) = 1 + tsz l + tsz r
  rw [e, e0, e1]
  show 1 + hd w n s0 + hd w n s1 = _
  rw [Q48 h3 (by omega), Q48 h4 (by omega)]
def Q63 : TR → Nat
 | .nil => 0
 | .leaf k _ => k
 | .node _ .nil r => Q63 r
 | .node _ l _ => Q63 l
def full : TR → Prop
 | .nil => False
 | .leaf _ _ => True
 | .node _ .nil r => full r
 | .node _ l _ => full l
theorem Q9o {d : Nat} {l r : TR} (h : l ≠ .nil) : Q63 (.node d l r) = Q63 l := by cases l <;> first | exact absurd rfl h | rfl
theorem Q9p {d : Nat} {l r : TR} (h : l ≠ .nil) : full (.node d l r) = full l := by cases l <;> first | exact absurd rfl h | rfl
theorem Q1b {T : TR} (h : full T) : T ≠ .nil := fun e => by subst e; exact h
theorem TA.cases {w : World} {T : TR} {u : Value} (h : TA w T u) (hf : full T) : (∃ b k v, T = .leaf k v ∧ u = ptr b ∧ Blk w b (ndc k v nlp nlp false (sL k v) 1) 151) ∨
  ∃ b d l r s0 s1, T = .node d l r ∧ u = ptr b ∧ Blk w b (ndc 0 0 s0 s1 true (rs (.node d l r)) (cnt l + cnt r)) 151 ∧ TA w l s0 ∧ TA w r s1 := by
 cases T with
 | nil => exact hf.elim
 | leaf k v => obtain ⟨b, h1, h2, _⟩ := h; exact .inl ⟨b, k, v, rfl, h1, h2⟩
 | node d l r => obtain ⟨b, s0, s1, h1, h2, h3, h4⟩ := h; exact .inr ⟨b, d, l, r, s0, s1, rfl, h1, h2, h3, h4⟩
theorem TA.side {w : World} {T : TR} {u : Value} (h : TA w T u) : (T = .nil ∧ u = nlp) ∨ ∃ b, T ≠ .nil ∧ u = ptr b := by
 cases T with
 | nil => exact .inl ⟨rfl, h⟩
 | leaf k v => obtain ⟨b, h1, _⟩ := h; exact .inr ⟨b, fun e => (by cases e), h1⟩
 | node d l r => obtain ⟨b, s0, s1, h1, _⟩ := h; exact .inr ⟨b, fun e => (by cases e), h1⟩
attribute [local irreducible] hs4 sE sL sN

theorem Z23 {T : TR} {u : Value} (hf0 : full T) (w : World) (h : TA w T u) :
  Calls Tryz.prog 180 #[u] w fun e w' => K7 (.agg (J0 .u8 32 (Q3 (Q63 T)))) w w' e := by
 have hS := SH.nil [] w
 go_enter Tryz.func180, Tryz.ntmps180
 go_upto_region 0 with fail
 refine RL hS ?_
 clear hS
 refine MN (z := J0 .u8 32 (Q3 0)) (t := 31) ?_
 intro X5
 refine MZ fun W hS => ?_
 go_wp2_with fail
 go_loopw [0] (fun u wr => ∃ (T1 : TR), (TA w T1 u) ∧ (full T1) ∧ (Q63 T1 = Q63 T) ∧ (tsz T1 ≤ tsz T) ∧ SH [] w wr [.b X5 (J0 .u8 32 (Q3 0)) 31])
  (fun u _ => hd w (tsz T) u)
 case atStart => exact ⟨T, h, hf0, rfl, Nat.le_refl _, hS⟩
 clear hS
 case round =>
  obtain ⟨T1, hT, hf, hk, hz, hS⟩ := hrel
  rcases hT.cases hf with ⟨b, k, v, rfl, rfl, hB⟩ | ⟨b, d, l, r, s0, s1, rfl, rfl, hB, hl, hr⟩
  ·
   go_upto_region 1 with fail
   refine RL hS ?_
   clear hS
   refine MV ?_
   refine MV ?_
   refine MV ?_
   refine MF (v := .bool false) (fun W hS => X8 rfl rfl (by rw [J7 (J2 hB hS.ext)]; exact J7l) (by kernel_rfl)) ?_
   refine MZ fun W hS => ?_
   go_upto_region 5 with fail
   refine RL hS ?_
   clear hS
   refine MV ?_
   refine MV ?_
   refine MV ?_
   refine MV ?_
   refine MF (v := .agg (J0 .u8 32 (Q3 k))) (fun W hS => J0g (vs := (J0 .u8 32 (Q3 k)).toList) rfl rfl (fun i v hv => by rw [J7 (J2 hB hS.ext)]; exact J8p i v (by simpa using hv)) (by kernel_rfl) (by first | kernel_rfl | (simp only [Array.length_toList]; rw [J1]; kernel_rfl))) ?_
   refine MR 0 ?_ 
   refine MZ fun W hS => ?_
   go_wp2
   exact bodyPost_ret (Z6 rfl rfl (hS.blk (i := 0) rfl) (by kernel_rfl) (by rw [J1]; kernel_rfl)) rfl ⟨by rw [← hk]; rfl, hS.ext⟩
  have D : TA w (.node d l r) (ptr b) := hT
  go_upto_region 1 with fail
  refine RL hS ?_
  clear hS
  refine MV ?_
  refine MV ?_
  refine MV ?_
  refine MF (v := .bool true) (fun W hS => X8 rfl rfl (by rw [J7 (J2 hB hS.ext)]; exact J7l) (by kernel_rfl)) ?_
  refine MZ fun W hS => ?_
  rcases hl.side with ⟨rfl, rfl⟩ | ⟨c, G, rfl⟩
  ·
   go_upto_region 2 with fail
   refine RL hS ?_
   clear hS
   refine MV ?_
   refine MV ?_
   refine MV ?_
   refine MW ?_ (v := .pointer (some ⟨b, 64, none⟩)) (hv := fun _ => J10 (m := 2) (k := 1) (j := 0) (off := 64) (by decide) Tryz.underlying149 (by kernel_rfl) rfl rfl rfl)
   refine MF (v := .pointer none) (fun W hS => X8 rfl rfl (by rw [J7 (J2 hB hS.ext)]; exact nd_s0) (by kernel_rfl)) ?_
   refine MW ?_ (v := .bool false)
   refine MZ fun W hS => ?_
   go_upto_region 4 with fail
   refine RL hS ?_
   clear hS
   refine MV ?_
   refine MV ?_
   refine MV ?_
   refine MW ?_ (v := .pointer (some ⟨b, 65, none⟩)) (hv := fun _ => J10 (m := 2) (k := 1) (j := 1) (off := 64) (by decide) Tryz.underlying149 (by kernel_rfl) rfl rfl rfl)
   refine MF (v := s1) (fun W hS => X8 rfl rfl (by rw [J7 (J2 hB hS.ext)]; exact nd_s1) (by kernel_rfl)) ?_
   refine MV ?_
   refine MZ fun W hS => ?_
   go_wp2
   go_roundw
   case rel => exact ⟨r, hr, hf, hk, (by have h_ : 1 + tsz .nil + tsz r ≤ tsz T := hz; omega), hS⟩
   case measure => rw [Q48 D hz, Q48 hr (by have h_ : 1 + tsz .nil + tsz r ≤ tsz T := hz; omega)]; show _ < 1 + tsz .nil + tsz r; omega
  go_upto_region 2 with fail
  refine RL hS ?_
  clear hS
  refine MV ?_
  refine MV ?_
  refine MV ?_
  refine MW ?_ (v := .pointer (some ⟨b, 64, none⟩)) (hv := fun _ => J10 (m := 2) (k := 1) (j := 0) (off := 64) (by decide) Tryz.underlying149 (by kernel_rfl) rfl rfl rfl)
  refine MF (v := .pointer (some ⟨c, 0, none⟩)) (fun W hS => X8 rfl rfl (by rw [J7 (J2 hB hS.ext)]; exact nd_s0) (by kernel_rfl)) ?_
  refine MW ?_ (v := .bool true)
  refine MZ fun W hS => ?_
  go_upto_region 3 with fail
  refine RL hS ?_
  clear hS
  refine MV ?_
  refine MV ?_
  refine MV ?_
  refine MW ?_ (v := .pointer (some ⟨b, 64, none⟩)) (hv := fun _ => J10 (m := 2) (k := 1) (j := 0) (off := 64) (by decide) Tryz.underlying149 (by kernel_rfl) rfl rfl rfl)
  refine MF (v := .pointer (some ⟨c, 0, none⟩)) (fun W hS => X8 rfl rfl (by rw [J7 (J2 hB hS.ext)]; exact nd_s0) (by kernel_rfl)) ?_
  refine MV ?_
  refine MZ fun W hS => ?_
  go_wp2
  go_roundw
  case rel => exact ⟨l, hl, (by rw [Q9p G] at hf; exact hf), (by rw [Q9o G] at hk; exact hk), (by have h_ : 1 + tsz l + tsz r ≤ tsz T := hz; omega), hS⟩
  case measure => rw [Q48 D hz, Q48 hl (by have h_ : 1 + tsz l + tsz r ≤ tsz T := hz; omega)]; show _ < 1 + tsz l + tsz r; omega
end
end Go.Proofs.YtejkmhgkkibafaaGreatDoor

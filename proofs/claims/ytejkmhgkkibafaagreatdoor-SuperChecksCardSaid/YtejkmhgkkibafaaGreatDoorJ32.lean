/- Contracts and plain laws that superChecks_holds rests on. Conditions: the variables' cells hold the numbers of the program's text. -/
import Derived.Test.YtejkmhgkkibafaaGreatDoorJ31
import Derived.Test.YtejkmhgkkibafaaGreatDoorJ6
open Go.RowKit
set_option maxRecDepth 100000
set_option linter.unusedSimpArgs false
set_option linter.unusedVariables false
namespace Go.Proofs.YtejkmhgkkibafaaGreatDoor
section
set_option maxHeartbeats 3000000
attribute [local irreducible] wpList U0 wpX
def J5b (K : Nat) (d : Nat) : Nat → TR → TR
 | 0, T => T
 | m + 1, T => if d ≤ m then J5b K d m (if kb K m = 0 then .node m T .nil else .node m .nil T) else T
def J5c (a x b y d : Nat) : TR :=
 if kb a (J29 (Q3 a) (Q3 b)) = 1 then J5b b d (J29 (Q3 a) (Q3 b)) (.node (J29 (Q3 a) (Q3 b)) (.leaf b y) (.leaf a x))
 else J5b a d (J29 (Q3 a) (Q3 b)) (.node (J29 (Q3 a) (Q3 b)) (.leaf a x) (.leaf b y))
def J3a (k v : Nat) : TR → Nat → TR
 | .nil, _ => .leaf k v
 | .leaf a x, d => if a = k then .leaf k v else J5c a x k v d
 | .node _ l r, d => if kb k d = 0 then .node d (J3a k v l (d + 1)) r else .node d l (J3a k v r (d + 1))
theorem Q1c {K d m : Nat} {T : TR} (h : d ≤ m) : J5b K d (m + 1) T = J5b K d m (if kb K m = 0 then .node m T .nil else .node m .nil T) := by
 show (if d ≤ m then _ else _) = _
 rw [if_pos h]
theorem Z24 {K d m : Nat} {T : TR} (h : m ≤ d) : J5b K d m T = T := by
 cases m with
 | zero => rfl
 | succ m => show (if d ≤ m then _ else _) = _; rw [if_neg (by omega)]
theorem Q49 (K d : Nat) : ∀ (m : Nat) (T : TR), cnt (J5b K d m T) = cnt T
 | 0, _ => rfl
 | m + 1, T => by
  unfold J5b
  split
  ·
   rw [Q49]; split <;> simp [cnt]
  ·
   rfl
theorem Z4c (a x b y d : Nat) : cnt (J5c a x b y d) = 2 := by unfold J5c; split <;> rw [Q49] <;> rfl
theorem J4x (k v : Nat) : ∀ (T : TR) (d : Nat), cnt (J3a k v T d) ≤ cnt T + 1
 | .nil, _ => by show 1 ≤ 0 + 1; omega
 | .leaf a x, d => by
  show cnt (if a = k then TR.leaf k v else J5c a x k v d) ≤ 1 + 1
  split
  ·
   show 1 ≤ 2; omega
  ·
   rw [Z4c]; omega
 | .node e l r, d => by
  have h1 := J4x k v l (d + 1)
  have h2 := J4x k v r (d + 1)
  show cnt (if kb k d = 0 then TR.node d (J3a k v l (d + 1)) r else TR.node d l (J3a k v r (d + 1))) ≤ cnt l + cnt r + 1
  split
  ·
   show cnt (J3a k v l (d + 1)) + cnt r ≤ _; omega
  ·
   show cnt l + cnt (J3a k v r (d + 1)) ≤ _; omega
theorem TA.leaf' {w : World} {k v b : Nat} (h : Blk w b (ndc k v nlp nlp false (sL k v) 1) 151) (hk : k < 2 ^ 256) (hv : v < 2 ^ 256) : TA w (.leaf k v) (ptr b) := ⟨b, rfl, h, hk, hv⟩
attribute [local irreducible] hs4 sE sL sN

theorem Y8l {q : Prop} {a x c y b1 b2 : Nat} (ha : a < 2 ^ 256) (hx : x < 2 ^ 256) (hc : c < 2 ^ 256) (hy : y < 2 ^ 256) (d : Nat) (hd_ : d < 4611686018427387904) (w : World) (hG : GT q w) (hB1 : Blk w b1 (ndc a x nlp nlp false (sL a x) 1) 151) (hB2 : Blk w b2 (ndc c y nlp nlp false (sL c y) 1) 151) :
  Calls Tryz.prog 162 #[ptr b1, ptr b2, .int .i64 (d : Int)] w fun e w' => J7m (J5c a x c y d) w w' e := by
 have hS := SH.nil [] w
 have h3 := Z22 (Q3 a) (Q3 c)
 have hA : TA w (.leaf a x) (ptr b1) := TA.leaf' hB1 ha hx
 have hC : TA w (.leaf c y) (ptr b2) := TA.leaf' hB2 hc hy
 go_enter Tryz.func162, Tryz.ntmps162
 go_upto_region 1 with fail
 refine RTh (.q 0 (.q 1 (.q 2 (.q 3 (.q 4 (.q 5 (.q 6 (.q 7 (.q 8 (.q 9 (.e 10 (.q 11 .z)))))))))))) hS ?_
 clear hS
 refine TV ?_
 refine TV ?_
 refine TV ?_
 refine TV ?_
 refine TF (v := .agg (J0 .u8 32 (Q3 a))) rfl (fun W hS => J0g (vs := (J0 .u8 32 (Q3 a)).toList) rfl rfl (fun i v hv => by rw [J7 (J2 hB1 hS.ext)]; exact J8p i v (by simpa using hv)) (by kernel_rfl) (by first | kernel_rfl | (simp only [Array.length_toList]; rw [J1]; kernel_rfl))) ?_
 refine TV ?_
 refine TV ?_
 refine TV ?_
 refine TV ?_
 refine TF (v := .agg (J0 .u8 32 (Q3 c))) rfl (fun W hS => J0g (vs := (J0 .u8 32 (Q3 c)).toList) rfl rfl (fun i v hv => by rw [J7 (J2 hB2 hS.ext)]; exact J8p i v (by simpa using hv)) (by kernel_rfl) (by first | kernel_rfl | (simp only [Array.length_toList]; rw [J1]; kernel_rfl))) ?_
 refine TE (fun _ h => h) ?_
 refine MC (v := .int .i64 ((J29 (Q3 a) (Q3 c) : Nat) : Int)) (fun W hS => Z4b a c W) ?_
 refine TNh (fun W hS => hS) ?_
 refine TV ?_
 refine TZ (fun _ h => h) fun W hS => ?_
 by_cases hb : kb a (J29 (Q3 a) (Q3 c)) = 1
 ·
  go_upto_region 2 with fail
  refine RL hS ?_
  clear hS
  refine MV ?_
  refine MV ?_
  refine MV ?_
  refine MV ?_
  refine MF (v := .agg (J0 .u8 32 (Q3 a))) (fun W hS => J0g (vs := (J0 .u8 32 (Q3 a)).toList) rfl rfl (fun i v hv => by rw [J7 (J2 hB1 hS.ext)]; exact J8p i v (by simpa using hv)) (by kernel_rfl) (by first | kernel_rfl | (simp only [Array.length_toList]; rw [J1]; kernel_rfl))) ?_
  refine MV ?_
  refine MC (v := .int .i64 ((kb a (J29 (Q3 a) (Q3 c)) : Nat) : Int)) (fun W hS => Q0i a (J29 (Q3 a) (Q3 c)) (by omega) W) ?_
  refine MW ?_ (v := .bool true) (hv := by intro W; go_simp; (try simp [hb]))
  refine MZ fun W hS => ?_
  go_upto_region 4 with fail
  refine RL hS ?_
  clear hS
  refine MV ?_
  refine MV ?_
  refine MV ?_
  refine ME (fun W hS => J49 hS (J7n (J29 (Q3 a) (Q3 c)) (by simp only [cnt]; omega) W (J08 hG hS.ext) (TA.ext hC hS.ext) (TA.ext hA hS.ext)) rfl) ?_
  intro T
  refine MV ?_
  refine MZ fun W hS => ?_
  go_upto_region 5 with fail
  refine RL hS ?_
  clear hS
  refine MV ?_
  refine MW ?_ (v := .int .i64 (((J29 (Q3 a) (Q3 c) : Nat) : Int) - 1)) (hv := by intro W; go_simp; (try simp only [IntKind.wrap_i64]); (try omega))
  refine MV ?_
  refine MZ fun W hS => ?_
  go_wp2_with fail
  go_loopw [8, 9] (fun uv ii wr => ∃ (T1 : TR) (u : Value) (m : Nat), (m ≤ J29 (Q3 a) (Q3 c)) ∧ (J5b c d m T1 = J5b c d (J29 (Q3 a) (Q3 c)) (.node (J29 (Q3 a) (Q3 c)) (.leaf c y) (.leaf a x))) ∧ (full T1) ∧ (Q63 T1 = c) ∧ (cnt T1 = 2) ∧ (u = uv) ∧ (ii = .int .i64 ((m : Int) - 1)) ∧ SH [] w wr [.t 151 (fun W => TA W T1 u)])
   (fun uv ii _ => (intOf ii + 1).toNat)
  case atStart => exact ⟨(.node (J29 (Q3 a) (Q3 c)) (.leaf c y) (.leaf a x)), T, J29 (Q3 a) (Q3 c), Nat.le_refl _, rfl, trivial, rfl, rfl, rfl, by go_num, hS⟩
  clear hS
  case round =>
   obtain ⟨T1, u, m, hm, D, hf, hk, U, rfl, rfl, hS⟩ := hrel
   by_cases G : d < m
   ·
    obtain ⟨m, rfl⟩ : ∃ m1, m = m1 + 1 := ⟨m - 1, by omega⟩
    go_upto_region 6 with fail
    refine RL hS ?_
    clear hS
    refine MV ?_
    refine MV ?_
    refine MW ?_ (v := .bool true) (hv := by intro W; go_simp; omega)
    refine MZ fun W hS => ?_
    by_cases hz : kb c m = 0
    ·
     go_upto_region 8 with fail
     refine RL hS ?_
     clear hS
     refine MV ?_
     refine MC (v := .agg (J0 .u8 32 (Q3 c))) (fun W hS => (hk ▸ Z23 hf W (hS.tt (i := 0) rfl))) ?_
     refine MW ?_ (v := .int .i64 ((m : Nat) : Int)) (hv := by intro W; go_simp; (try omega))
     refine MC (v := .int .i64 ((kb c m : Nat) : Int)) (fun W hS => Q0i c m (by omega) W) ?_
     refine MW ?_ (v := .bool true) (hv := by intro W; go_simp; (try simp [hz]))
     refine MZ fun W hS => ?_
     go_upto_region 9 with fail
     refine RL hS ?_
     clear hS
     refine MW ?_ (v := .int .i64 ((m : Nat) : Int)) (hv := by intro W; go_simp; (try omega))
     refine MV ?_
     refine ME (fun W hS => J49 hS (J7n m (by simp only [cnt]; omega) W (J08 hG hS.ext) (hS.tt (i := 0) rfl) (show TA W .nil nlp from rfl)) rfl) ?_
     intro N
     refine MV ?_
     refine MZ fun W hS => ?_
     go_upto_region 7 with fail
     refine RL hS ?_
     clear hS
     refine MV ?_
     refine MW ?_ (v := .int .i64 ((m : Int) - 1)) (hv := by intro W; go_simp; (try simp only [IntKind.wrap_i64]); (try omega))
     refine MV ?_
     refine MZ fun W hS => ?_
     go_wp2
     go_roundw
     case rel => exact ⟨(.node m T1 .nil), N, m, by omega, (by rw [← D, Q1c (by omega), if_pos hz]), (by rw [Q9p (Q1b hf)]; exact hf), (by rw [Q9o (Q1b hf)]; exact hk), (by show cnt T1 + 0 = 2; omega), rfl, by go_num, (hS.pick [0])⟩
     case measure => first | (simp [intOf]; done) | (simp [intOf]; omega)
    go_upto_region 8 with fail
    refine RL hS ?_
    clear hS
    refine MV ?_
    refine MC (v := .agg (J0 .u8 32 (Q3 c))) (fun W hS => (hk ▸ Z23 hf W (hS.tt (i := 0) rfl))) ?_
    refine MW ?_ (v := .int .i64 ((m : Nat) : Int)) (hv := by intro W; go_simp; (try omega))
    refine MC (v := .int .i64 ((kb c m : Nat) : Int)) (fun W hS => Q0i c m (by omega) W) ?_
    refine MW ?_ (v := .bool false) (hv := by intro W; go_simp; (try omega))
    refine MZ fun W hS => ?_
    go_upto_region 10 with fail
    refine RL hS ?_
    clear hS
    refine MW ?_ (v := .int .i64 ((m : Nat) : Int)) (hv := by intro W; go_simp; (try omega))
    refine MV ?_
    refine ME (fun W hS => J49 hS (J7n m (by simp only [cnt]; omega) W (J08 hG hS.ext) (show TA W .nil nlp from rfl) (hS.tt (i := 0) rfl)) rfl) ?_
    intro R
    refine MV ?_
    refine MZ fun W hS => ?_
    go_upto_region 7 with fail
    refine RL hS ?_
    clear hS
    refine MV ?_
    refine MW ?_ (v := .int .i64 ((m : Int) - 1)) (hv := by intro W; go_simp; (try simp only [IntKind.wrap_i64]); (try omega))
    refine MV ?_
    refine MZ fun W hS => ?_
    go_wp2
    go_roundw
    case rel => exact ⟨(.node m .nil T1), R, m, by omega, (by rw [← D, Q1c (by omega), if_neg hz]), hf, hk, (by show 0 + cnt T1 = 2; omega), rfl, by go_num, (hS.pick [0])⟩
    case measure => first | (simp [intOf]; done) | (simp [intOf]; omega)
   go_upto_region 6 with fail
   refine RL hS ?_
   clear hS
   refine MV ?_
   refine MV ?_
   refine MW ?_ (v := .bool false) (hv := by intro W; go_simp; omega)
   refine MZ fun W hS => ?_
   go_wp2
   exact bodyPost_ret (v := u) (by simp only [results, Tryz.results162]; go_simp) rfl ⟨_, rfl, hS.ext, (by have h_ := hS.tt (i := 0) rfl; rw [show J5c a x c y d = T1 from (by unfold J5c; rw [if_pos hb]; rw [← D, Z24 (by omega)])]; exact h_)⟩
 go_upto_region 2 with fail
 refine RL hS ?_
 clear hS
 refine MV ?_
 refine MV ?_
 refine MV ?_
 refine MV ?_
 refine MF (v := .agg (J0 .u8 32 (Q3 a))) (fun W hS => J0g (vs := (J0 .u8 32 (Q3 a)).toList) rfl rfl (fun i v hv => by rw [J7 (J2 hB1 hS.ext)]; exact J8p i v (by simpa using hv)) (by kernel_rfl) (by first | kernel_rfl | (simp only [Array.length_toList]; rw [J1]; kernel_rfl))) ?_
 refine MV ?_
 refine MC (v := .int .i64 ((kb a (J29 (Q3 a) (Q3 c)) : Nat) : Int)) (fun W hS => Q0i a (J29 (Q3 a) (Q3 c)) (by omega) W) ?_
 refine MW ?_ (v := .bool false) (hv := by intro W; go_simp; (try omega))
 refine MZ fun W hS => ?_
 go_upto_region 4 with fail
 refine RL hS ?_
 clear hS
 refine MV ?_
 refine MV ?_
 refine MV ?_
 refine ME (fun W hS => J49 hS (J7n (J29 (Q3 a) (Q3 c)) (by simp only [cnt]; omega) W (J08 hG hS.ext) (TA.ext hA hS.ext) (TA.ext hC hS.ext)) rfl) ?_
 intro M
 refine MV ?_
 refine MZ fun W hS => ?_
 go_upto_region 5 with fail
 refine RL hS ?_
 clear hS
 refine MV ?_
 refine MW ?_ (v := .int .i64 (((J29 (Q3 a) (Q3 c) : Nat) : Int) - 1)) (hv := by intro W; go_simp; (try simp only [IntKind.wrap_i64]); (try omega))
 refine MV ?_
 refine MZ fun W hS => ?_
 go_wp2_with fail
 go_loopw [8, 9] (fun uv ii wr => ∃ (T1 : TR) (u : Value) (m : Nat), (m ≤ J29 (Q3 a) (Q3 c)) ∧ (J5b a d m T1 = J5b a d (J29 (Q3 a) (Q3 c)) (.node (J29 (Q3 a) (Q3 c)) (.leaf a x) (.leaf c y))) ∧ (full T1) ∧ (Q63 T1 = a) ∧ (cnt T1 = 2) ∧ (u = uv) ∧ (ii = .int .i64 ((m : Int) - 1)) ∧ SH [] w wr [.t 151 (fun W => TA W T1 u)])
  (fun uv ii _ => (intOf ii + 1).toNat)
 case atStart => exact ⟨(.node (J29 (Q3 a) (Q3 c)) (.leaf a x) (.leaf c y)), M, J29 (Q3 a) (Q3 c), Nat.le_refl _, rfl, trivial, rfl, rfl, rfl, by go_num, hS⟩
 clear hS
 case round =>
  obtain ⟨T1, u, m, hm, D, hf, hk, U, rfl, rfl, hS⟩ := hrel
  by_cases G : d < m
  ·
   obtain ⟨m, rfl⟩ : ∃ m1, m = m1 + 1 := ⟨m - 1, by omega⟩
   go_upto_region 6 with fail
   refine RL hS ?_
   clear hS
   refine MV ?_
   refine MV ?_
   refine MW ?_ (v := .bool true) (hv := by intro W; go_simp; omega)
   refine MZ fun W hS => ?_
   by_cases hz : kb a m = 0
   ·
    go_upto_region 8 with fail
    refine RL hS ?_
    clear hS
    refine MV ?_
    refine MC (v := .agg (J0 .u8 32 (Q3 a))) (fun W hS => (hk ▸ Z23 hf W (hS.tt (i := 0) rfl))) ?_
    refine MW ?_ (v := .int .i64 ((m : Nat) : Int)) (hv := by intro W; go_simp; (try omega))
    refine MC (v := .int .i64 ((kb a m : Nat) : Int)) (fun W hS => Q0i a m (by omega) W) ?_
    refine MW ?_ (v := .bool true) (hv := by intro W; go_simp; (try simp [hz]))
    refine MZ fun W hS => ?_
    go_upto_region 9 with fail
    refine RL hS ?_
    clear hS
    refine MW ?_ (v := .int .i64 ((m : Nat) : Int)) (hv := by intro W; go_simp; (try omega))
    refine MV ?_
    refine ME (fun W hS => J49 hS (J7n m (by simp only [cnt]; omega) W (J08 hG hS.ext) (hS.tt (i := 0) rfl) (show TA W .nil nlp from rfl)) rfl) ?_
    intro J
    refine MV ?_
    refine MZ fun W hS => ?_
    go_upto_region 7 with fail
    refine RL hS ?_
    clear hS
    refine MV ?_
    refine MW ?_ (v := .int .i64 ((m : Int) - 1)) (hv := by intro W; go_simp; (try simp only [IntKind.wrap_i64]); (try omega))
    refine MV ?_
    refine MZ fun W hS => ?_
    go_wp2
    go_roundw
    case rel => exact ⟨(.node m T1 .nil), J, m, by omega, (by rw [← D, Q1c (by omega), if_pos hz]), (by rw [Q9p (Q1b hf)]; exact hf), (by rw [Q9o (Q1b hf)]; exact hk), (by show cnt T1 + 0 = 2; omega), rfl, by go_num, (hS.pick [0])⟩
    case measure => first | (simp [intOf]; done) | (simp [intOf]; omega)
   go_upto_region 8 with fail
   refine RL hS ?_
   clear hS
   refine MV ?_
   refine MC (v := .agg (J0 .u8 32 (Q3 a))) (fun W hS => (hk ▸ Z23 hf W (hS.tt (i := 0) rfl))) ?_
   refine MW ?_ (v := .int .i64 ((m : Nat) : Int)) (hv := by intro W; go_simp; (try omega))
   refine MC (v := .int .i64 ((kb a m : Nat) : Int)) (fun W hS => Q0i a m (by omega) W) ?_
   refine MW ?_ (v := .bool false) (hv := by intro W; go_simp; (try omega))
   refine MZ fun W hS => ?_
   go_upto_region 10 with fail
   refine RL hS ?_
   clear hS
   refine MW ?_ (v := .int .i64 ((m : Nat) : Int)) (hv := by intro W; go_simp; (try omega))
   refine MV ?_
   refine ME (fun W hS => J49 hS (J7n m (by simp only [cnt]; omega) W (J08 hG hS.ext) (show TA W .nil nlp from rfl) (hS.tt (i := 0) rfl)) rfl) ?_
   intro S
   refine MV ?_
   refine MZ fun W hS => ?_
   go_upto_region 7 with fail
   refine RL hS ?_
   clear hS
   refine MV ?_
   refine MW ?_ (v := .int .i64 ((m : Int) - 1)) (hv := by intro W; go_simp; (try simp only [IntKind.wrap_i64]); (try omega))
   refine MV ?_
   refine MZ fun W hS => ?_
   go_wp2
   go_roundw
   case rel => exact ⟨(.node m .nil T1), S, m, by omega, (by rw [← D, Q1c (by omega), if_neg hz]), hf, hk, (by show 0 + cnt T1 = 2; omega), rfl, by go_num, (hS.pick [0])⟩
   case measure => first | (simp [intOf]; done) | (simp [intOf]; omega)
  go_upto_region 6 with fail
  refine RL hS ?_
  clear hS
  refine MV ?_
  refine MV ?_
  refine MW ?_ (v := .bool false) (hv := by intro W; go_simp; omega)
  refine MZ fun W hS => ?_
  go_wp2
  exact bodyPost_ret (v := u) (by simp only [results, Tryz.results162]; go_simp) rfl ⟨_, rfl, hS.ext, (by have h_ := hS.tt (i := 0) rfl; rw [show J5c a x c y d = T1 from (by unfold J5c; rw [if_neg hb]; rw [← D, Z24 (by omega)])]; exact h_)⟩
end

section
set_option maxHeartbeats 3000000
attribute [local irreducible] wpList U0 wpX
theorem Y5j (A B : Nat) (hA : A < 2 ^ 256) (hB : B < 2 ^ 256) (w : World) : (Op.equalIn 10000 31 (.agg (J0 .u8 32 (Q3 A))) (.agg (J0 .u8 32 (Q3 B)))).run Tryz.prog w = .ok (decide (A = B)) w := by
 have h := J22 (P := Tryz.prog) w 9998 31 5 32 .u8 (J0 .u8 32 (Q3 A)) (J0 .u8 32 (Q3 B)) (Q3 A) (Q3 B) Tryz.underlying31 Tryz.underlying5 (by kernel_rfl)
  (fun i hi => J3 _ _ _ _ hi) (fun i hi => J3 _ _ _ _ hi)
 rw [h]
 congr 1
 rw [Bool.eq_iff_iff, J4n, decide_eq_true_iff]
 exact ⟨Q4t hA hB, fun h => by subst h; intro _ _; rfl⟩
theorem Y8m {q : Prop} {a x c y : Nat} {u1 u2 : Value} (d : Nat) (hd_ : d < 4611686018427387904) (w : World) (hG : GT q w) (h1 : TA w (.leaf a x) u1) (h2 : TA w (.leaf c y) u2) :
  Calls Tryz.prog 162 #[u1, u2, .int .i64 (d : Int)] w fun e w' => J7m (J5c a x c y d) w w' e := by
 obtain ⟨b1, rfl, G, ha, hx⟩ := h1
 obtain ⟨b2, rfl, D, hc, hy⟩ := h2
 exact Y8l ha hx hc hy d hd_ w hG G D
attribute [local irreducible] hs4 sE sL sN

theorem Y2j {q : Prop} {k v : Nat} (hk : k < 2 ^ 256) (hv : v < 2 ^ 256) (d : Nat) (w : World) (hG : GT q w) :
  Calls Tryz.prog 129 #[nlp, .agg (lf k v), .int .i64 (d : Int)] w fun e w' => J7m (J3a k v .nil d) w w' e := by
 have hS := SH.nil [] w
 go_enter Tryz.func129, Tryz.ntmps129
 go_upto_region 0 with fail
 refine RL hS ?_
 clear hS
 refine MN (z := lf k v) (t := 51) ?_
 intro G
 refine MV ?_
 refine MZ fun W hS => ?_
 go_upto_region 3 with fail
 refine RL hS ?_
 clear hS
 refine ML 0 ?_ (hs := by rw [J4k]; kernel_rfl)
 refine ME (fun W hS => J49 hS (Z8o hk hv W (J08 hG hS.ext)) rfl) ?_
 intro D
 refine MV ?_
 refine MZ fun W hS => ?_
 go_wp2
 exact bodyPost_ret (v := D) (by simp only [results, Tryz.results129]; go_simp) rfl ⟨_, rfl, hS.ext, (by exact hS.tt (i := 0) rfl)⟩
theorem Y8n {q : Prop} {k v : Nat} (hk : k < 2 ^ 256) (hv : v < 2 ^ 256) {a x b1 : Nat} (ha : a < 2 ^ 256) (hx : x < 2 ^ 256) (hak : a = k) (d : Nat) (w : World) (hG : GT q w) (hB1 : Blk w b1 (ndc a x nlp nlp false (sL a x) 1) 151) :
  Calls Tryz.prog 129 #[ptr b1, .agg (lf k v), .int .i64 (d : Int)] w fun e w' => J7m (J3a k v (.leaf a x) d) w w' e := by
 have hS := SH.nil [] w
 have hA : TA w (.leaf a x) (ptr b1) := TA.leaf' hB1 ha hx
 go_enter Tryz.func129, Tryz.ntmps129
 go_upto_region 0 with fail
 refine RL hS ?_
 clear hS
 refine MN (z := lf k v) (t := 51) ?_
 intro G
 refine MV ?_
 refine MZ fun W hS => ?_
 go_upto_region 2 with fail
 refine RTh (.q 0 (.q 1 (.q 2 (.q 3 (.q 4 (.q 5 (.q 6 (.q 7 (.q 8 (.q 9 (.q 10 (.q 11 (.q 12 (.q 13 (.q 14 (.q 15 .z)))))))))))))))) hS ?_
 clear hS
 refine TV ?_
 refine TV ?_
 refine TV ?_
 refine TF (v := .bool false) rfl (fun W hS => X8 rfl rfl (by rw [J7 (J2 hB1 hS.ext)]; exact J7l) (by kernel_rfl)) ?_
 refine TW ?_ (v := .bool true)
 refine TW ?_ (v := .bool true)
 refine TV ?_
 refine TV ?_
 refine TV ?_
 refine TV ?_
 refine TF (v := .agg (J0 .u8 32 (Q3 a))) rfl (fun W hS => J0g (vs := (J0 .u8 32 (Q3 a)).toList) rfl rfl (fun i v hv => by rw [J7 (J2 hB1 hS.ext)]; exact J8p i v (by simpa using hv)) (by kernel_rfl) (by first | kernel_rfl | (simp only [Array.length_toList]; rw [J1]; kernel_rfl))) ?_
 refine TV ?_
 refine Tl 0 Z30 ?_
 refine TW ?_ (v := .bool true) (hv := fun _ => J0t ((fun w => (Y5j a k ha hk w).trans (by rw [decide_eq_true hak])) _) (by kernel_rfl) rfl rfl rfl)
 refine TW ?_ (v := .bool true)
 refine TW ?_ (v := .bool true)
 refine TZ (fun _ h => h) fun W hS => ?_
 go_upto_region 3 with fail
 refine RL hS ?_
 clear hS
 refine ML 0 ?_ (hs := by rw [J4k]; kernel_rfl)
 refine ME (fun W hS => J49 hS (Z8o hk hv W (J08 hG hS.ext)) rfl) ?_
 intro D
 refine MV ?_
 refine MZ fun W hS => ?_
 go_wp2
 exact bodyPost_ret (v := D) (by simp only [results, Tryz.results129]; go_simp) rfl ⟨_, rfl, hS.ext, (by rw [show J3a k v (.leaf a x) d = .leaf k v from if_pos hak]; exact hS.tt (i := 0) rfl)⟩
theorem Y8o {q : Prop} {k v : Nat} (hk : k < 2 ^ 256) (hv : v < 2 ^ 256) {a x b1 : Nat} (ha : a < 2 ^ 256) (hx : x < 2 ^ 256) (hak : ¬ a = k) (d : Nat) (hdl : d < 4611686018427387904) (w : World) (hG : GT q w) (hB1 : Blk w b1 (ndc a x nlp nlp false (sL a x) 1) 151) :
  Calls Tryz.prog 129 #[ptr b1, .agg (lf k v), .int .i64 (d : Int)] w fun e w' => J7m (J3a k v (.leaf a x) d) w w' e := by
 have hS := SH.nil [] w
 have hA : TA w (.leaf a x) (ptr b1) := TA.leaf' hB1 ha hx
 go_enter Tryz.func129, Tryz.ntmps129
 go_upto_region 0 with fail
 refine RL hS ?_
 clear hS
 refine MN (z := lf k v) (t := 51) ?_
 intro J
 refine MV ?_
 refine MZ fun W hS => ?_
 go_upto_region 2 with fail
 refine RTh (.q 0 (.q 1 (.q 2 (.q 3 (.q 4 (.q 5 (.q 6 (.q 7 (.q 8 (.q 9 (.q 10 (.q 11 (.q 12 (.q 13 (.q 14 (.q 15 .z)))))))))))))))) hS ?_
 clear hS
 refine TV ?_
 refine TV ?_
 refine TV ?_
 refine TF (v := .bool false) rfl (fun W hS => X8 rfl rfl (by rw [J7 (J2 hB1 hS.ext)]; exact J7l) (by kernel_rfl)) ?_
 refine TW ?_ (v := .bool true)
 refine TW ?_ (v := .bool true)
 refine TV ?_
 refine TV ?_
 refine TV ?_
 refine TV ?_
 refine TF (v := .agg (J0 .u8 32 (Q3 a))) rfl (fun W hS => J0g (vs := (J0 .u8 32 (Q3 a)).toList) rfl rfl (fun i v hv => by rw [J7 (J2 hB1 hS.ext)]; exact J8p i v (by simpa using hv)) (by kernel_rfl) (by first | kernel_rfl | (simp only [Array.length_toList]; rw [J1]; kernel_rfl))) ?_
 refine TV ?_
 refine Tl 0 Z30 ?_
 refine TW ?_ (v := .bool false) (hv := fun _ => J0t ((fun w => (Y5j a k ha hk w).trans (by rw [decide_eq_false hak])) _) (by kernel_rfl) rfl rfl rfl)
 refine TW ?_ (v := .bool false)
 refine TW ?_ (v := .bool false)
 refine TZ (fun _ h => h) fun W hS => ?_
 go_upto_region 4 with fail
 refine RL hS ?_
 clear hS
 refine MV ?_
 refine MV ?_
 refine MV ?_
 refine MF (v := .bool false) (fun W hS => X8 rfl rfl (by rw [J7 (J2 hB1 hS.ext)]; exact J7l) (by kernel_rfl)) ?_
 refine MW ?_ (v := .bool true)
 refine MW ?_ (v := .bool true)
 refine MZ fun W hS => ?_
 go_upto_region 5 with fail
 refine RL hS ?_
 clear hS
 refine MV ?_
 refine ML 0 ?_ (hs := by rw [J4k]; kernel_rfl)
 refine ME (fun W hS => J49 hS (Z8o hk hv W (J08 hG hS.ext)) rfl) ?_
 intro G
 refine MV ?_
 refine ME (fun W hS => J49 hS (Y8m d hdl W (J08 hG hS.ext) (TA.ext hA hS.ext) (hS.tt (i := 0) rfl)) rfl) ?_
 intro D
 refine MV ?_
 refine MZ fun W hS => ?_
 go_wp2
 exact bodyPost_ret (v := D) (by simp only [results, Tryz.results129]; go_simp) rfl ⟨_, rfl, hS.ext, (by rw [show J3a k v (.leaf a x) d = J5c a x k v d from if_neg hak]; exact hS.tt (i := 0) rfl)⟩
theorem V20 {q : Prop} {k v : Nat} (hk : k < 2 ^ 256) (hv : v < 2 ^ 256) {e0 b : Nat} {l r : TR} {p0 p1 : Option Addr} (d : Nat) (hdl : d < 4611686018427387904) (hn : cnt l + cnt r < 2305843009213693952) (hb : kb k d = 0) (w : World) (hG : GT q w) (hB : Blk w b (ndc 0 0 (.pointer p0) (.pointer p1) true (rs (.node e0 l r)) (cnt l + cnt r)) 151) (hl : TA w l (.pointer p0)) (hr : TA w r (.pointer p1)) (ih : ∀ W, GT q W → TA W l (.pointer p0) → Calls Tryz.prog 129 #[.pointer p0, .agg (lf k v), .int .i64 ((d + 1 : Nat) : Int)] W fun e w' => J7m (J3a k v l (d + 1)) W w' e) :
  Calls Tryz.prog 129 #[ptr b, .agg (lf k v), .int .i64 (d : Int)] w fun e w' => J7m (J3a k v (.node e0 l r) d) w w' e := by
 have hS := SH.nil [] w
 go_enter Tryz.func129, Tryz.ntmps129
 go_upto_region 0 with fail
 refine RL hS ?_
 clear hS
 refine MN (z := lf k v) (t := 51) ?_
 intro R
 refine MV ?_
 refine MZ fun W hS => ?_
 go_upto_region 2 with fail
 refine RTh (.q 0 (.q 1 (.q 2 (.q 3 (.q 4 (.q 5 (.q 6 (.q 7 (.q 8 (.q 9 (.q 10 (.q 11 (.q 12 (.q 13 (.q 14 (.q 15 .z)))))))))))))))) hS ?_
 clear hS
 refine TV ?_
 refine TV ?_
 refine TV ?_
 refine TF (v := .bool true) rfl (fun W hS => X8 rfl rfl (by rw [J7 (J2 hB hS.ext)]; exact J7l) (by kernel_rfl)) ?_
 refine TW ?_ (v := .bool false)
 refine TW ?_ (v := .bool false)
 refine TS ?_
 refine TS ?_
 refine TS ?_
 refine TS ?_
 refine TS ?_
 refine TS ?_
 refine TS ?_
 refine TS ?_
 refine TW ?_ (v := .bool false)
 refine TW ?_ (v := .bool false)
 refine TZ (fun _ h => h) fun W hS => ?_
 go_upto_region 4 with fail
 refine RL hS ?_
 clear hS
 refine MV ?_
 refine MV ?_
 refine MV ?_
 refine MF (v := .bool true) (fun W hS => X8 rfl rfl (by rw [J7 (J2 hB hS.ext)]; exact J7l) (by kernel_rfl)) ?_
 refine MW ?_ (v := .bool false)
 refine MW ?_ (v := .bool false)
 refine MZ fun W hS => ?_
 go_upto_region 6 with fail
 refine RL hS ?_
 clear hS
 refine MV ?_
 refine MV ?_
 refine MV ?_
 refine MF (v := .agg #[(.pointer p0), (.pointer p1)]) (fun W hS => J0g (vs := (#[(.pointer p0), (.pointer p1)]).toList) rfl rfl (fun i v hv => by rw [J7 (J2 hB hS.ext)]; exact Q85 i v (by simpa using hv)) (by kernel_rfl) (by kernel_rfl)) ?_
 refine MN (z := #[.pointer none, .pointer none]) (t := 149) ?_
 intro D
 refine MR 0 ?_ 
 refine MZ fun W hS => ?_
 go_upto_region 7 with fail
 refine RL hS ?_
 clear hS
 refine MV ?_
 refine Ml 1 Z30 ?_
 refine MV ?_
 refine MC (v := .int .i64 0) (fun W hS => (hb ▸ Q0i k d hdl W)) ?_
 refine MW ?_ (v := .int .i64 0)
 refine MZ fun W hS => ?_
 go_upto_region 8 with fail
 refine RTp [1] (.q 0 (.q 1 (.q 2 (.q 4 (.q 5 (.q 6 (.e 3 (.e 7 (.q 8 (.e 9 .z)))))))))) hS ?_
 clear hS
 refine TW ?_ (v := .int .i64 0)
 refine TW ?_ (v := .int .i64 0)
 refine TW ?_ (v := .pointer (some ⟨D, 0, none⟩)) (hv := fun _ => J10 (m := 2) (k := 1) (j := 0) (off := 0) (by decide) Tryz.underlying149 (by kernel_rfl) rfl rfl rfl)
 refine TL 0 ?_ (hs := by rw [J4k]; kernel_rfl)
 refine TV ?_
 refine TW ?_ (v := .int .i64 ((d + 1 : Nat) : Int)) (hv := by intro W; go_simp; (try simp only [IntKind.wrap_i64]); omega)
 refine TE (fun _ h => h.pick [1]) ?_
 refine MG 0 ?_ (v := .pointer p0)
 refine TNp [1] [0] ?_
 refine TE (fun _ h => h.pick [1]) ?_
 refine ME (fun W hS => J49 hS (ih W (J08 hG hS.ext) (TA.ext hl hS.ext)) rfl) ?_
 intro G
 refine TNp [0, 2] [1] ?_
 refine TW ?_ (v := .pointer (some ⟨D, 0, none⟩)) (hv := fun _ => J10 (m := 2) (k := 1) (j := 0) (off := 0) (by decide) Tryz.underlying149 (by kernel_rfl) rfl rfl rfl)
 refine TE (fun _ h => h.pick [0, 2]) ?_
 refine MP 1 (v := G) ?_ (hv := fun W hS => TA.one (hS.tt (i := 0) rfl))
 refine TNp [0, 2] [0, 1] ?_
 refine TZ (fun _ h => h.pick [0, 2]) fun W hS => ?_
 go_upto_region 9 with fail
 refine RL hS ?_
 clear hS
 refine MV ?_
 refine MW ?_ (v := .pointer (some ⟨D, 0, none⟩)) (hv := fun _ => J10 (m := 2) (k := 1) (j := 0) (off := 0) (by decide) Tryz.underlying149 (by kernel_rfl) rfl rfl rfl)
 refine MG 1 ?_ (v := G)
 refine MW ?_ (v := .pointer (some ⟨D, 1, none⟩)) (hv := fun _ => J10 (m := 2) (k := 1) (j := 1) (off := 0) (by decide) Tryz.underlying149 (by kernel_rfl) rfl rfl rfl)
 refine MG 1 ?_ (v := .pointer p1)
 refine ME (fun W hS => J49 hS (J7n d (by have M := J4x k v l (d + 1); have N := J4x k v r (d + 1); omega) W (J08 hG hS.ext) (hS.tt (i := 0) rfl) (TA.ext hr hS.ext)) rfl) ?_
 intro J
 refine MV ?_
 refine MZ fun W hS => ?_
 go_wp2
 exact bodyPost_ret (v := J) (by simp only [results, Tryz.results129]; go_simp) rfl ⟨_, rfl, hS.ext, (by rw [show J3a k v (.node e0 l r) d = .node d (J3a k v l (d + 1)) r from if_pos hb]; exact hS.tt (i := 0) rfl)⟩
theorem V21 {q : Prop} {k v : Nat} (hk : k < 2 ^ 256) (hv : v < 2 ^ 256) {e0 b : Nat} {l r : TR} {p0 p1 : Option Addr} (d : Nat) (hdl : d < 4611686018427387904) (hn : cnt l + cnt r < 2305843009213693952) (hb : kb k d = 1) (w : World) (hG : GT q w) (hB : Blk w b (ndc 0 0 (.pointer p0) (.pointer p1) true (rs (.node e0 l r)) (cnt l + cnt r)) 151) (hl : TA w l (.pointer p0)) (hr : TA w r (.pointer p1)) (ih : ∀ W, GT q W → TA W r (.pointer p1) → Calls Tryz.prog 129 #[.pointer p1, .agg (lf k v), .int .i64 ((d + 1 : Nat) : Int)] W fun e w' => J7m (J3a k v r (d + 1)) W w' e) :
  Calls Tryz.prog 129 #[ptr b, .agg (lf k v), .int .i64 (d : Int)] w fun e w' => J7m (J3a k v (.node e0 l r) d) w w' e := by
 have hS := SH.nil [] w
 go_enter Tryz.func129, Tryz.ntmps129
 go_upto_region 0 with fail
 refine RL hS ?_
 clear hS
 refine MN (z := lf k v) (t := 51) ?_
 intro R
 refine MV ?_
 refine MZ fun W hS => ?_
 go_upto_region 2 with fail
 refine RTh (.q 0 (.q 1 (.q 2 (.q 3 (.q 4 (.q 5 (.q 6 (.q 7 (.q 8 (.q 9 (.q 10 (.q 11 (.q 12 (.q 13 (.q 14 (.q 15 .z)))))))))))))))) hS ?_
 clear hS
 refine TV ?_
 refine TV ?_
 refine TV ?_
 refine TF (v := .bool true) rfl (fun W hS => X8 rfl rfl (by rw [J7 (J2 hB hS.ext)]; exact J7l) (by kernel_rfl)) ?_
 refine TW ?_ (v := .bool false)
 refine TW ?_ (v := .bool false)
 refine TS ?_
 refine TS ?_
 refine TS ?_
 refine TS ?_
 refine TS ?_
 refine TS ?_
 refine TS ?_
 refine TS ?_
 refine TW ?_ (v := .bool false)
 refine TW ?_ (v := .bool false)
 refine TZ (fun _ h => h) fun W hS => ?_
 go_upto_region 4 with fail
 refine RL hS ?_
 clear hS
 refine MV ?_
 refine MV ?_
 refine MV ?_
 refine MF (v := .bool true) (fun W hS => X8 rfl rfl (by rw [J7 (J2 hB hS.ext)]; exact J7l) (by kernel_rfl)) ?_
 refine MW ?_ (v := .bool false)
 refine MW ?_ (v := .bool false)
 refine MZ fun W hS => ?_
 go_upto_region 6 with fail
 refine RL hS ?_
 clear hS
 refine MV ?_
 refine MV ?_
 refine MV ?_
 refine MF (v := .agg #[(.pointer p0), (.pointer p1)]) (fun W hS => J0g (vs := (#[(.pointer p0), (.pointer p1)]).toList) rfl rfl (fun i v hv => by rw [J7 (J2 hB hS.ext)]; exact Q85 i v (by simpa using hv)) (by kernel_rfl) (by kernel_rfl)) ?_
 refine MN (z := #[.pointer none, .pointer none]) (t := 149) ?_
 intro D
 refine MR 0 ?_ 
 refine MZ fun W hS => ?_
 go_upto_region 7 with fail
 refine RL hS ?_
 clear hS
 refine MV ?_
 refine Ml 1 Z30 ?_
 refine MV ?_
 refine MC (v := .int .i64 1) (fun W hS => (hb ▸ Q0i k d hdl W)) ?_
 refine MW ?_ (v := .int .i64 1)
 refine MZ fun W hS => ?_
 go_upto_region 8 with fail
 refine RTp [1] (.q 0 (.q 1 (.q 2 (.q 4 (.q 5 (.q 6 (.e 3 (.e 7 (.q 8 (.e 9 .z)))))))))) hS ?_
 clear hS
 refine TW ?_ (v := .int .i64 1)
 refine TW ?_ (v := .int .i64 1)
 refine TW ?_ (v := .pointer (some ⟨D, 1, none⟩)) (hv := fun _ => J10 (m := 2) (k := 1) (j := 1) (off := 0) (by decide) Tryz.underlying149 (by kernel_rfl) rfl rfl rfl)
 refine TL 0 ?_ (hs := by rw [J4k]; kernel_rfl)
 refine TV ?_
 refine TW ?_ (v := .int .i64 ((d + 1 : Nat) : Int)) (hv := by intro W; go_simp; (try simp only [IntKind.wrap_i64]); omega)
 refine TE (fun _ h => h.pick [1]) ?_
 refine MG 0 ?_ (v := .pointer p1)
 refine TNp [1] [0] ?_
 refine TE (fun _ h => h.pick [1]) ?_
 refine ME (fun W hS => J49 hS (ih W (J08 hG hS.ext) (TA.ext hr hS.ext)) rfl) ?_
 intro G
 refine TNp [0, 2] [1] ?_
 refine TW ?_ (v := .pointer (some ⟨D, 1, none⟩)) (hv := fun _ => J10 (m := 2) (k := 1) (j := 1) (off := 0) (by decide) Tryz.underlying149 (by kernel_rfl) rfl rfl rfl)
 refine TE (fun _ h => h.pick [0, 2]) ?_
 refine MP 1 (v := G) ?_ (hv := fun W hS => TA.one (hS.tt (i := 0) rfl))
 refine TNp [0, 2] [0, 1] ?_
 refine TZ (fun _ h => h.pick [0, 2]) fun W hS => ?_
 go_upto_region 9 with fail
 refine RL hS ?_
 clear hS
 refine MV ?_
 refine MW ?_ (v := .pointer (some ⟨D, 0, none⟩)) (hv := fun _ => J10 (m := 2) (k := 1) (j := 0) (off := 0) (by decide) Tryz.underlying149 (by kernel_rfl) rfl rfl rfl)
 refine MG 1 ?_ (v := .pointer p0)
 refine MW ?_ (v := .pointer (some ⟨D, 1, none⟩)) (hv := fun _ => J10 (m := 2) (k := 1) (j := 1) (off := 0) (by decide) Tryz.underlying149 (by kernel_rfl) rfl rfl rfl)
 refine MG 1 ?_ (v := G)
 refine ME (fun W hS => J49 hS (J7n d (by have M := J4x k v l (d + 1); have N := J4x k v r (d + 1); omega) W (J08 hG hS.ext) (TA.ext hl hS.ext) (hS.tt (i := 0) rfl)) rfl) ?_
 intro J
 refine MV ?_
 refine MZ fun W hS => ?_
 go_wp2
 exact bodyPost_ret (v := J) (by simp only [results, Tryz.results129]; go_simp) rfl ⟨_, rfl, hS.ext, (by rw [show J3a k v (.node e0 l r) d = .node d l (J3a k v r (d + 1)) from if_neg (by rw [hb]; decide)]; exact hS.tt (i := 0) rfl)⟩
theorem Z8s {q : Prop} {k v : Nat} (hk : k < 2 ^ 256) (hv : v < 2 ^ 256) : ∀ {T : TR} {u : Value} (d : Nat), d + tsz T < 4611686018427387904 → cnt T < 2305843009213693952 → ∀ (w : World), GT q w → TA w T u → Calls Tryz.prog 129 #[u, .agg (lf k v), .int .i64 (d : Int)] w fun e w' => J7m (J3a k v T d) w w' e
 | .nil, _, d, _, _, w, hG, h => by rw [show _ = nlp from h]; exact Y2j hk hv d w hG
 | .leaf a x, _, d, hd_, _, w, hG, ⟨b1, h1, hB1, ha, hx⟩ => by
  subst h1
  by_cases hak : a = k
  ·
   exact Y8n hk hv ha hx hak d w hG hB1
  ·
   exact Y8o hk hv ha hx hak d (by omega) w hG hB1
 | .node e l r, _, d, hd_, hn, w, hG, ⟨b, s0, s1, h1, hB, hl, hr⟩ => by
  subst h1
  obtain ⟨p0, rfl⟩ := hl.pt
  obtain ⟨p1, rfl⟩ := hr.pt
  have hd2 : d + (1 + tsz l + tsz r) < 4611686018427387904 := hd_
  have hn2 : cnt l + cnt r < 2305843009213693952 := hn
  have hb2 := V1x k d
  rcases Nat.lt_or_ge 0 (kb k d) with hb | hb
  ·
   exact V21 hk hv d (by omega) hn2 (by omega) w hG hB hl hr fun W hG' h' => Z8s hk hv (T := r) (d + 1) (by omega) (by omega) W hG' h'
  ·
   exact V20 hk hv d (by omega) hn2 (by omega) w hG hB hl hr fun W hG' h' => Z8s hk hv (T := l) (d + 1) (by omega) (by omega) W hG' h'
end

section
set_option maxHeartbeats 3000000
attribute [local irreducible] wpList U0 wpX
abbrev lfl (x : Nat × Nat) : List Value := (lf x.1 x.2).toList
def ofT (ls : List (Nat × Nat)) : TR := ls.foldl (fun T x => J3a x.1 x.2 T 0) .nil
theorem Z8t (ls : List (Nat × Nat)) (x : Nat × Nat) : ofT (ls ++ [x]) = J3a x.1 x.2 (ofT ls) 0 := by unfold ofT; rw [List.foldl_append]; rfl
theorem Q87 {ls : List (Nat × Nat)} {i : Nat} {x : Nat × Nat} (h : ls[i]? = some x) : ofT (ls.take (i + 1)) = J3a x.1 x.2 (ofT (ls.take i)) 0 := by
 rw [List.take_add_one, h]; exact Z8t _ _
theorem Q07 (K d : Nat) : ∀ (m : Nat) (T : TR), tsz (J5b K d m T) ≤ m + tsz T
 | 0, T => by show tsz T ≤ 0 + tsz T; omega
 | m + 1, T => by
  unfold J5b
  split
  ·
   refine Nat.le_trans (Q07 K d m _) ?_
   split
   ·
    show m + (1 + tsz T + 0) ≤ _; omega
   ·
    show m + (1 + 0 + tsz T) ≤ _; omega
  ·
   omega
theorem Z4d (a x b y d : Nat) : tsz (J5c a x b y d) ≤ 259 := by
 have h := Z22 (Q3 a) (Q3 b)
 unfold J5c
 split
 ·
  refine Nat.le_trans (Q07 _ _ _ _) ?_; show _ + (1 + 1 + 1) ≤ 259; omega
 refine Nat.le_trans (Q07 _ _ _ _) ?_; show _ + (1 + 1 + 1) ≤ 259; omega
theorem Q32 (k v : Nat) : ∀ (T : TR) (d : Nat), tsz (J3a k v T d) ≤ tsz T + 260
 | .nil, _ => by show 1 ≤ 0 + 260; omega
 | .leaf a x, d => by
  show tsz (if a = k then TR.leaf k v else J5c a x k v d) ≤ 1 + 260
  split
  ·
   show 1 ≤ 261; omega
  ·
   have := Z4d a x k v d; omega
 | .node e l r, d => by
  have h1 := Q32 k v l (d + 1)
  have h2 := Q32 k v r (d + 1)
  show tsz (if kb k d = 0 then TR.node d (J3a k v l (d + 1)) r else TR.node d l (J3a k v r (d + 1))) ≤ 1 + tsz l + tsz r + 260
  split
  ·
   show 1 + tsz (J3a k v l (d + 1)) + tsz r ≤ _; omega
  ·
   show 1 + tsz l + tsz (J3a k v r (d + 1)) ≤ _; omega
theorem Q9q : ∀ (n : Nat) (ls : List (Nat × Nat)), tsz (ofT (ls.take n)) ≤ 260 * n ∧ cnt (ofT (ls.take n)) ≤ n
 | 0, ls => by rw [List.take_zero]; exact ⟨Nat.le_refl _, Nat.le_refl _⟩
 | n + 1, ls => by
  have ih := Q9q n ls
  cases h : ls[n]? with
  | none => rw [List.take_add_one, h]; simp only [Option.toList_none, List.append_nil]; omega
  | some x =>
   rw [Q87 h]
   have h1 := Q32 x.1 x.2 (ofT (ls.take n)) 0
   have h2 := J4x x.1 x.2 (ofT (ls.take n)) 0
   omega
attribute [local irreducible] hs4 sE sL sN

theorem V22 {q : Prop} {k v : Nat} (hk : k < 2 ^ 256) (hv : v < 2 ^ 256) {T : TR} {u : Value} (hz : tsz T < 4611686018427387904) (hcn : cnt T < 2305843009213693952) (w : World) (hG : GT q w) (h : TA w T u) :
  Calls Tryz.prog 87 #[u, .agg (lf k v)] w fun e w' => J7m (J3a k v T 0) w w' e := by
 have hS := SH.nil [] w
 go_enter Tryz.func87, Tryz.ntmps87
 go_upto_region 0 with fail
 refine RL hS ?_
 clear hS
 refine MN (z := lf k v) (t := 51) ?_
 intro G
 refine MV ?_
 refine MZ fun W hS => ?_
 go_upto_region 1 with fail
 refine RL hS ?_
 clear hS
 refine MV ?_
 refine ML 0 ?_ (hs := by rw [J4k]; kernel_rfl)
 refine ME (fun W hS => J49 hS (Z8s hk hv 0 (by omega) hcn W (J08 hG hS.ext) (TA.ext h hS.ext)) rfl) ?_
 intro D
 refine MV ?_
 refine MZ fun W hS => ?_
 go_wp2
 exact bodyPost_ret (v := D) (by simp only [results, Tryz.results87]; go_simp) rfl ⟨_, rfl, hS.ext, (by exact hS.tt (i := 0) rfl)⟩
end
end Go.Proofs.YtejkmhgkkibafaaGreatDoor

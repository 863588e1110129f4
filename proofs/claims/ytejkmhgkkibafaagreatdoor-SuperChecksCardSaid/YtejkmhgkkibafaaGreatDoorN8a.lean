/- The document's sum of 64 bytes. Conditions: the text is no longer than 2^46 bytes; the tables hold their numbers. -/
import Derived.Test.YtejkmhgkkibafaaGreatDoorJ9
import Derived.Test.YtejkmhgkkibafaaGreatDoorJ5
set_option linter.unusedSimpArgs false
set_option linter.unusedVariables false
namespace Go.Proofs.YtejkmhgkkibafaaGreatDoor.S8
set_option maxHeartbeats 3000000
set_option maxRecDepth 100000
open Go.RowKit
attribute [local irreducible] wpList U0 wpX
def J79 (X : Nat) : List UInt8 := List.replicate 8 0 ++ be8 X
theorem J3r (X : Nat) : (J79 X).length = 16 := rfl
theorem Z2z (l : List UInt8) : l ++ [128] ++ List.replicate (zc l.length) 0 ++ (J79 (8 * l.length)).take 16 = Z3 l := by
 rw [List.take_of_length_le (Nat.le_of_eq (J3r _))]; unfold Z3 J79; rw [← List.append_assoc]
theorem Z5v {X m : Nat} (h : m < 8) : (J79 X).take (m + 1) = (J79 X).take m ++ [0] := by
 rcases (show m = 0 ∨ m = 1 ∨ m = 2 ∨ m = 3 ∨ m = 4 ∨ m = 5 ∨ m = 6 ∨ m = 7 by omega) with rfl | rfl | rfl | rfl | rfl | rfl | rfl | rfl <;> rfl
theorem Z5w {X m : Nat} (h8 : ¬ m < 8) (h : m < 16) : (J79 X).take (m + 1) = (J79 X).take m ++ [u8 (X / 2 ^ (8 * (15 - m)))] := by
 rcases (show m = 8 ∨ m = 9 ∨ m = 10 ∨ m = 11 ∨ m = 12 ∨ m = 13 ∨ m = 14 ∨ m = 15 by omega) with rfl | rfl | rfl | rfl | rfl | rfl | rfl | rfl <;> simp [J79, be8, List.replicate]
theorem Y09 (H : Nat → Int) (n : Nat) : wb H (n + 1) = wb H n ++ [bo H n] := by unfold wb; rw [List.range_succ, List.map_append]; rfl

theorem Y60 (l : List UInt8) (hlen : l.length ≤ 70368744177664) (w : World) (hG : GR w) :
  Calls Tryz.prog 65 #[str l] w fun e w' => K7 (str (smb l)) w w' e := by
 have HG := Lib.hid hG
 clear hG
 have X := Q2a l
 have θ := (J95 l.length).2
 have δ : nb l.length ≤ 549755814000 := by unfold nb; omega
 have hS := SH.nil [] w
 go_enter Tryz.func65, Tryz.ntmps65
 go_upto_region 1 with fail
 refine RL hS ?_
 clear hS
 refine MV ?_
 refine MW ?_ (v := .int .i64 (l.length : Int)) (hv := fun _ => Q6m (l := l) rfl rfl)
 refine MV ?_
 refine MZ fun W hS => ?_
 go_upto_region 2 with fail
 refine RL hS ?_
 clear hS
 refine MV ?_
 refine MY (m := l) (by first | omega | (simp only [List.length_append, List.length_cons, List.length_nil, List.length_replicate, List.length_take, J3r, J3s]; omega)) ?_
 intro ζ
 refine MO (m := [128]) (n := 1) (z := #[.int .u8 128]) ?_
 intro ρ
 refine MAz 1 (xs := l) (ys := [128]) (fun W hS => (hS.osl (i := 0) rfl)) (by first | omega | (simp only [List.length_append, List.length_cons, List.length_nil, List.length_replicate, List.length_take, J3r, J3s]; omega)) ?_
 intro γ
 refine MV ?_
 refine MZ fun W hS => ?_
 go_wp2_with fail
 go_loopw [4] (fun sv wr => ∃ (k : Nat) (bv : Value), (k ≤ zc l.length) ∧ (bv = sv) ∧ SH [] w wr [.w bv (l ++ [128] ++ List.replicate k 0)])
  (fun sv _ => l.length + 300 - J8c sv)
 case atStart => exact ⟨0, _, Nat.zero_le _, rfl, (by rw [List.replicate_zero, List.append_nil]; exact (hS.pick [1]))⟩
 clear hS
 case round =>
  obtain ⟨k, bv, hk, rfl, hS⟩ := hrel
  have lb := J5k (hS.ozl (i := 0) rfl)
  by_cases hz : k < zc l.length
  ·
   have β := Y4e hz
   go_upto_region 3 with fail
   refine RL hS ?_
   clear hS
   refine MV ?_
   refine MF (v := .int .i64 ((l ++ [128] ++ List.replicate k 0).length : Int)) (fun W hS => J1u (hS.ozl (i := 0) rfl) rfl rfl) ?_
   refine MW ?_ (v := .int .i64 (((l.length + 1 + k) % 128 : Nat) : Int)) (hv := by intro W; go_simp; (try simp only [List.length_append, List.length_cons, List.length_nil, List.length_replicate]); rw [Int.tmod_eq_emod_of_nonneg (by omega)]; omega)
   refine MW ?_ (v := .bool true) (hv := by intro W; go_simp; (try omega))
   refine MZ fun W hS => ?_
   go_upto_region 4 with fail
   refine RL hS ?_
   clear hS
   refine MV ?_
   refine MO (m := [0]) (n := 1) (z := #[.int .u8 0]) ?_
   intro σ
   refine MAz 1 (xs := (l ++ [128] ++ List.replicate k 0)) (ys := [0]) (fun W hS => (hS.osl (i := 0) rfl)) (by first | omega | (simp only [List.length_append, List.length_cons, List.length_nil, List.length_replicate, List.length_take, J3r, J3s]; omega)) ?_
   intro ξ
   refine MV ?_
   refine MZ fun W hS => ?_
   have la := J5k (hS.ozl (i := 1) rfl)
   simp only [List.length_append, List.length_cons, List.length_nil, List.length_replicate] at la lb
   go_wp2
   go_roundw
   case rel => exact ⟨k + 1, _, by omega, rfl, (by have h_ := (hS.pick [1]); rw [List.append_assoc _ (List.replicate k 0), ← List.replicate_succ'] at h_; exact h_)⟩
   case measure => simp only [la, lb]; omega
  obtain rfl : k = zc l.length := by omega
  have β := (J95 l.length).1
  go_upto_region 3 with fail
  refine RL hS ?_
  clear hS
  refine MV ?_
  refine MF (v := .int .i64 ((l ++ [128] ++ List.replicate (zc l.length) 0).length : Int)) (fun W hS => J1u (hS.ozl (i := 0) rfl) rfl rfl) ?_
  refine MW ?_ (v := .int .i64 (((l.length + 1 + zc l.length) % 128 : Nat) : Int)) (hv := by intro W; go_simp; (try simp only [List.length_append, List.length_cons, List.length_nil, List.length_replicate]); rw [Int.tmod_eq_emod_of_nonneg (by omega)]; omega)
  refine MW ?_ (v := .bool false) (hv := by intro W; first | (go_simp; done) | (go_simp; omega))
  refine MZ fun W hS => ?_
  go_wp2_with fail
  go_loopw [4, 5] (fun sv ss wr => ∃ (m : Nat) (bv : Value), (m ≤ 16) ∧ (bv = sv) ∧ (ss = .int .i64 ((120 : Int) - 8 * (m : Int))) ∧ SH [] w wr [.w bv (l ++ [128] ++ List.replicate (zc l.length) 0 ++ List.take m (J79 (8 * l.length)))])
   (fun sv ss _ => (intOf ss + 8).toNat)
  case atStart => exact ⟨0, _, Nat.zero_le _, rfl, rfl, (by rw [List.take_zero, List.append_nil]; exact hS)⟩
  clear hS
  case round =>
   obtain ⟨m, bv, hm, rfl, rfl, hS⟩ := hrel
   by_cases T : m < 16
   ·
    go_upto_region 6 with fail
    refine RL hS ?_
    clear hS
    refine MV ?_
    refine MW ?_ (v := .bool true) (hv := by intro W; go_simp; (try omega))
    refine MZ fun W hS => ?_
    by_cases U : m < 8
    ·
     go_upto_region 8 with fail
     refine RL hS ?_
     clear hS
     refine MV ?_
     refine MW ?_ (v := .bool true) (hv := by intro W; go_simp; (try omega))
     refine MZ fun W hS => ?_
     go_upto_region 9 with fail
     refine RL hS ?_
     clear hS
     refine MV ?_
     refine MO (m := [0]) (n := 1) (z := #[.int .u8 0]) ?_
     intro τ
     refine MAz 1 (xs := (l ++ [128] ++ List.replicate (zc l.length) 0 ++ List.take m (J79 (8 * l.length)))) (ys := [0]) (fun W hS => (hS.osl (i := 0) rfl)) (by first | omega | (simp only [List.length_append, List.length_cons, List.length_nil, List.length_replicate, List.length_take, J3r, J3s]; omega)) ?_
     intro φ
     refine MV ?_
     refine MZ fun W hS => ?_
     go_wp2
     go_roundw
     case rel => exact ⟨m + 1, _, by omega, rfl, by go_num, (by rw [Z5v U, ← List.append_assoc]; exact (hS.pick [1]))⟩
     case measure => simp [intOf]; omega
    go_upto_region 8 with fail
    refine RL hS ?_
    clear hS
    refine MV ?_
    refine MW ?_ (v := .bool false) (hv := by intro W; go_simp; (try omega))
    refine MZ fun W hS => ?_
    go_upto_region 10 with fail
    refine RL hS ?_
    clear hS
    refine MV ?_
    refine MV ?_
    refine MW ?_ (v := .int .i64 (((8 * l.length : Nat) : Int))) (hv := by intro W; go_simp; (try simp only [IntKind.wrap_u64, IntKind.wrap_i64]); (try omega))
    refine MW ?_ (v := .int .i64 (((8 * (15 - m) : Nat) : Int))) (hv := by intro W; go_simp; (try omega))
    refine MW ?_ (v := .int .i64 (((8 * l.length / 2 ^ (8 * (15 - m)) : Nat) : Int))) (hv := by intro W; rw [← Y0a (8 * l.length) (8 * (15 - m)) _ rfl]; exact Q3z (n := 8 * (15 - m)) (by omega) rfl rfl rfl)
    refine MW ?_ (v := .int .u8 ((u8 (8 * l.length / 2 ^ (8 * (15 - m)))).toNat : Int)) (hv := by intro W; rw [← Y0b]; exact Q51 rfl rfl)
    refine MO (m := [u8 (8 * l.length / 2 ^ (8 * (15 - m)))]) (n := 1) (z := #[.int .u8 ((u8 (8 * l.length / 2 ^ (8 * (15 - m)))).toNat : Int)]) ?_
    intro η
    refine MAz 1 (xs := (l ++ [128] ++ List.replicate (zc l.length) 0 ++ List.take m (J79 (8 * l.length)))) (ys := [u8 (8 * l.length / 2 ^ (8 * (15 - m)))]) (fun W hS => (hS.osl (i := 0) rfl)) (by first | omega | (simp only [List.length_append, List.length_cons, List.length_nil, List.length_replicate, List.length_take, J3r, J3s]; omega)) ?_
    intro μ
    refine MV ?_
    refine MZ fun W hS => ?_
    go_wp2
    go_roundw
    case rel => exact ⟨m + 1, _, by omega, rfl, by go_num, (by rw [Z5w U T, ← List.append_assoc]; exact (hS.pick [1]))⟩
    case measure => simp [intOf]; omega
   obtain rfl : m = 16 := by omega
   rw [Z2z] at hS
   go_upto_region 6 with fail
   refine RL hS ?_
   clear hS
   refine MV ?_
   refine MW ?_ (v := .bool false) (hv := by intro W; go_simp; (try omega))
   refine MZ fun W hS => ?_
   go_upto_region 11 with fail
   refine RL hS ?_
   clear hS
   refine MF (v := .agg (J0 .u64 8 hf)) (fun W hS => J1v rfl rfl ((GR_ext HG.out hS.ext).2) (by kernel_rfl) (by rw [J1]; kernel_rfl)) ?_
   refine MN (z := J0 .u64 8 (fun _ => 0)) (t := 186) ?_
   intro M
   refine MR 0 ?_ 
   refine MZ fun W hS => ?_
   have hS := hS.readw (i := 1) rfl (hS.ozl (i := 1) rfl) J43
   go_wp2_with fail
   go_loopw [7] (fun ii wr => ∃ (j : Nat), (j ≤ nb l.length) ∧ (ii = .int .i64 ((128 * j : Nat) : Int)) ∧ SH [] w wr [.b M (J0 .u64 8 (Hs (Z3 l) j)) 186, .s bv (Z3 l)])
    (fun ii _ => 128 * nb l.length - (intOf ii).toNat)
   case atStart => exact ⟨0, Nat.zero_le _, rfl, hS⟩
   clear hS
   case round =>
    obtain ⟨j, hj, rfl, hS⟩ := hrel
    by_cases Y : j < nb l.length
    ·
     go_upto_region 13 with fail
     refine RL hS ?_
     clear hS
     refine MV ?_
     refine MV ?_
     refine MF (v := .int .i64 ((Z3 l).length : Int)) (fun W hS => J1u (hS.sl (i := 1) rfl) rfl rfl) ?_
     refine MW ?_ (v := .bool true) (hv := by intro W; first | (go_simp; done) | (go_simp; (try simp only [X]); omega))
     refine MZ fun W hS => ?_
     go_upto_region 15 with fail
     refine RL hS ?_
     clear hS
     refine MN (z := J0 .u64 80 (fun _ => 0)) (t := 187) ?_
     intro G
     refine MZ fun W hS => ?_
     go_wp2_with fail
     go_loopw [9] (fun ii wr => ∃ (i : Nat), (i ≤ 80) ∧ (ii = .int .i64 (i : Int)) ∧ SH [] w wr [.b G (J0 .u64 80 (rst (bt (List.drop (128 * j) (Z3 l))) i)) 187, .b M (J0 .u64 8 (Hs (Z3 l) j)) 186, .s bv (Z3 l)])
      (fun ii _ => 80 - (intOf ii).toNat)
     case atStart => exact ⟨0, Nat.zero_le _, rfl, (by rw [Q8q (by decide), Nat.mul_zero, Q6w]; exact hS)⟩
     clear hS
     case round =>
      obtain ⟨i, hi, rfl, hS⟩ := hrel
      by_cases S : i < 80
      ·
       go_upto_region 17 with fail
       refine RL hS ?_
       clear hS
       refine MV ?_
       refine MW ?_ (v := .bool true)
       refine MZ fun W hS => ?_
       by_cases N : i < 16
       ·
        rw [Q8q N] at hS
        go_upto_region 19 with fail
        refine RL hS ?_
        clear hS
        refine MV ?_
        refine MW ?_ (v := .bool true)
        refine MZ fun W hS => ?_
        go_wp2_with fail
        go_loopw [10] (fun jj wr => ∃ (k : Nat), (k ≤ 8) ∧ (jj = .int .i64 (k : Int)) ∧ SH [] w wr [.b G (J0 .u64 80 (fst (bt (List.drop (128 * j) (Z3 l))) (8 * i + k))) 187, .b M (J0 .u64 8 (Hs (Z3 l) j)) 186, .s bv (Z3 l)])
         (fun jj _ => 8 - (intOf jj).toNat)
        case atStart => exact ⟨0, Nat.zero_le _, rfl, hS⟩
        clear hS
        case round =>
         obtain ⟨k, hk, rfl, hS⟩ := hrel
         by_cases R : k < 8
         ·
          obtain ⟨J, α⟩ : ∃ J, 128 * j + 8 * i + k = J := ⟨_, rfl⟩
          have hJ : J < (Z3 l).length := by rw [X]; omega
          go_upto_region 21 with fail
          refine RL hS ?_
          clear hS
          refine MV ?_
          refine MW ?_ (v := .bool true)
          refine MZ fun W hS => ?_
          go_upto_region 23 with fail
          refine RX 17 hS ?_
          clear hS
          refine MV ?_
          refine MV ?_
          refine MW ?_ (v := .pointer (some ⟨G, 0 + i, none⟩)) (hv := fun _ => J5 (m := 80) (by decide) (by omega) Tryz.underlying187 (by kernel_rfl) rfl rfl rfl)
          refine MG 0 ?_ (j := 0 + i) (v := .int .u64 ((fst (bt (List.drop (128 * j) (Z3 l))) (8 * i + k)) i)) (hj := by rw [Nat.zero_add]; exact J3 _ _ _ _ (by omega))
          refine MW ?_ (v := .int .u64 (sl ((fst (bt (List.drop (128 * j) (Z3 l))) (8 * i + k)) i) 8)) (hv := fun _ => J2l (n := 8) (by decide) rfl rfl rfl)
          refine MV ?_
          refine MV ?_
          refine MV ?_
          refine MW ?_ (v := .int .i64 (((8 * i : Nat) : Int))) (hv := by intro W; go_simp; (try simp only [IntKind.wrap_u64, IntKind.wrap_i64]); (try omega))
          refine MW ?_ (v := .int .i64 (((128 * j + 8 * i : Nat) : Int))) (hv := by intro W; go_simp; (try simp only [IntKind.wrap_u64, IntKind.wrap_i64]); (try omega))
          refine MV ?_
          refine MW ?_ (v := .int .i64 (((J : Nat) : Int))) (hv := by intro W; go_simp; (try simp only [IntKind.wrap_u64, IntKind.wrap_i64]); (try omega))
          refine MJ 2 J (b := ((Z3 l).getD J 0)) (J7s hJ) ?_
          intro Z c_ V
          refine MF (v := .int .u8 (((Z3 l).getD J 0).toNat : Int)) (fun W hS => X8 rfl rfl (Q6o (by rw [← V.out]; exact (hS.sl (i := 2) rfl)) (J7s hJ)) (by kernel_rfl)) ?_
          refine MW ?_ (v := .int .u64 (bt (Z3 l) J)) (hv := by intro W; exact Z5g rfl rfl)
          refine MW ?_ (v := .int .u64 (oo (sl ((fst (bt (List.drop (128 * j) (Z3 l))) (8 * i + k)) i) 8) (bt (Z3 l) J))) (hv := fun _ => Q4p rfl rfl rfl)
          refine MW ?_ (v := .pointer (some ⟨G, 0 + i, none⟩)) (hv := fun _ => J5 (m := 80) (by decide) (by omega) Tryz.underlying187 (by kernel_rfl) rfl rfl rfl)
          refine MZt ?_
          refine MP 0 (v := .int .u64 (oo (sl ((fst (bt (List.drop (128 * j) (Z3 l))) (8 * i + k)) i) 8) (bt (Z3 l) J))) (cs' := J0 .u64 80 (upd (fst (bt (List.drop (128 * j) (Z3 l))) (8 * i + k)) i (oo (sl ((fst (bt (List.drop (128 * j) (Z3 l))) (8 * i + k)) i) 8) (bt (Z3 l) J)))) ?_ (hs := by rw [J1, Nat.zero_add]; omega) (hc := by rw [Nat.zero_add]; exact V4 _ _ _ _ _)
          refine MZn fun W hS => ?_
          go_wp2
          go_roundw
          case rel => exact ⟨k + 1, by omega, by go_num, (by rw [← Z5x _ _ _ _ N R, α]; exact hS)⟩
          case measure => simp [intOf]; omega
         obtain rfl : k = 8 := by omega
         go_upto_region 21 with fail
         refine RL hS ?_
         clear hS
         refine MV ?_
         refine MW ?_ (v := .bool false)
         refine MZ fun W hS => ?_
         go_wp2
         go_roundw
         case rel => exact ⟨i + 1, by omega, by go_num, (by rw [← Z5y N]; exact hS)⟩
         case measure => simp [intOf]; omega
       replace N : 16 ≤ i := by omega
       rw [Q52 N] at hS
       go_upto_region 19 with fail
       refine RL hS ?_
       clear hS
       refine MV ?_
       refine MW ?_ (v := .bool false)
       refine MZ fun W hS => ?_
       go_upto_region 24 with fail
       refine RS hS ?_
       clear hS
       refine MV ?_
       refine MW ?_ (v := .int .i64 (((i - 15 : Nat) : Int))) (hv := by intro W; go_simp; (try simp only [IntKind.wrap_u64, IntKind.wrap_i64]); (try omega))
       refine MW ?_ (v := .pointer (some ⟨G, 0 + (i - 15), none⟩)) (hv := fun _ => J5 (m := 80) (by decide) (by omega) Tryz.underlying187 (by kernel_rfl) rfl rfl rfl)
       refine MG 0 ?_ (j := 0 + (i - 15)) (v := .int .u64 ((Z5 (bt (List.drop (128 * j) (Z3 l))) i) (i - 15))) (hj := by rw [Nat.zero_add]; exact J3 _ _ _ _ (by omega))
       refine MV ?_
       refine MW ?_ (v := .int .i64 (((i - 2 : Nat) : Int))) (hv := by intro W; go_simp; (try simp only [IntKind.wrap_u64, IntKind.wrap_i64]); (try omega))
       refine MW ?_ (v := .pointer (some ⟨G, 0 + (i - 2), none⟩)) (hv := fun _ => J5 (m := 80) (by decide) (by omega) Tryz.underlying187 (by kernel_rfl) rfl rfl rfl)
       refine MG 0 ?_ (j := 0 + (i - 2)) (v := .int .u64 ((Z5 (bt (List.drop (128 * j) (Z3 l))) i) (i - 2))) (hj := by rw [Nat.zero_add]; exact J3 _ _ _ _ (by omega))
       refine MV ?_
       refine MV ?_
       refine MZx fun W hS => ?_
       go_upto_region 25 with fail
       refine RX 29 hS ?_
       clear hS
       refine MV ?_
       refine MV ?_
       refine MW ?_ (v := .int .i64 (((i - 16 : Nat) : Int))) (hv := by intro W; go_simp; (try simp only [IntKind.wrap_u64, IntKind.wrap_i64]); (try omega))
       refine MW ?_ (v := .pointer (some ⟨G, 0 + (i - 16), none⟩)) (hv := fun _ => J5 (m := 80) (by decide) (by omega) Tryz.underlying187 (by kernel_rfl) rfl rfl rfl)
       refine MG 0 ?_ (j := 0 + (i - 16)) (v := .int .u64 ((Z5 (bt (List.drop (128 * j) (Z3 l))) i) (i - 16))) (hj := by rw [Nat.zero_add]; exact J3 _ _ _ _ (by omega))
       refine MV ?_
       refine MC (v := .int .u64 (rt ((Z5 (bt (List.drop (128 * j) (Z3 l))) i) (i - 15)) 1)) (fun W hS => J3x ((Z5 (bt (List.drop (128 * j) (Z3 l))) i) (i - 15)) 1 (by decide) (by decide) W) ?_
       refine MV ?_
       refine MC (v := .int .u64 (rt ((Z5 (bt (List.drop (128 * j) (Z3 l))) i) (i - 15)) 8)) (fun W hS => J3x ((Z5 (bt (List.drop (128 * j) (Z3 l))) i) (i - 15)) 8 (by decide) (by decide) W) ?_
       refine MW ?_ (v := .int .u64 (xo (rt ((Z5 (bt (List.drop (128 * j) (Z3 l))) i) (i - 15)) 1) (rt ((Z5 (bt (List.drop (128 * j) (Z3 l))) i) (i - 15)) 8))) (hv := fun _ => J0n rfl rfl rfl)
       refine MV ?_
       refine MW ?_ (v := .int .u64 (sr ((Z5 (bt (List.drop (128 * j) (Z3 l))) i) (i - 15)) 7)) (hv := fun _ => J09 (n := 7) (by decide) rfl rfl rfl)
       refine MW ?_ (v := .int .u64 (xo (xo (rt ((Z5 (bt (List.drop (128 * j) (Z3 l))) i) (i - 15)) 1) (rt ((Z5 (bt (List.drop (128 * j) (Z3 l))) i) (i - 15)) 8)) (sr ((Z5 (bt (List.drop (128 * j) (Z3 l))) i) (i - 15)) 7))) (hv := fun _ => J0n rfl rfl rfl)
       refine MW ?_ (v := .int .u64 (ad ((Z5 (bt (List.drop (128 * j) (Z3 l))) i) (i - 16)) (xo (xo (rt ((Z5 (bt (List.drop (128 * j) (Z3 l))) i) (i - 15)) 1) (rt ((Z5 (bt (List.drop (128 * j) (Z3 l))) i) (i - 15)) 8)) (sr ((Z5 (bt (List.drop (128 * j) (Z3 l))) i) (i - 15)) 7)))) (hv := fun _ => J1f rfl rfl rfl)
       refine MV ?_
       refine MW ?_ (v := .int .i64 (((i - 7 : Nat) : Int))) (hv := by intro W; go_simp; (try simp only [IntKind.wrap_u64, IntKind.wrap_i64]); (try omega))
       refine MW ?_ (v := .pointer (some ⟨G, 0 + (i - 7), none⟩)) (hv := fun _ => J5 (m := 80) (by decide) (by omega) Tryz.underlying187 (by kernel_rfl) rfl rfl rfl)
       refine MG 0 ?_ (j := 0 + (i - 7)) (v := .int .u64 ((Z5 (bt (List.drop (128 * j) (Z3 l))) i) (i - 7))) (hj := by rw [Nat.zero_add]; exact J3 _ _ _ _ (by omega))
       refine MW ?_ (v := .int .u64 (ad (ad ((Z5 (bt (List.drop (128 * j) (Z3 l))) i) (i - 16)) (xo (xo (rt ((Z5 (bt (List.drop (128 * j) (Z3 l))) i) (i - 15)) 1) (rt ((Z5 (bt (List.drop (128 * j) (Z3 l))) i) (i - 15)) 8)) (sr ((Z5 (bt (List.drop (128 * j) (Z3 l))) i) (i - 15)) 7))) ((Z5 (bt (List.drop (128 * j) (Z3 l))) i) (i - 7)))) (hv := fun _ => J1f rfl rfl rfl)
       refine MV ?_
       refine MC (v := .int .u64 (rt ((Z5 (bt (List.drop (128 * j) (Z3 l))) i) (i - 2)) 19)) (fun W hS => J3x ((Z5 (bt (List.drop (128 * j) (Z3 l))) i) (i - 2)) 19 (by decide) (by decide) W) ?_
       refine MV ?_
       refine MC (v := .int .u64 (rt ((Z5 (bt (List.drop (128 * j) (Z3 l))) i) (i - 2)) 61)) (fun W hS => J3x ((Z5 (bt (List.drop (128 * j) (Z3 l))) i) (i - 2)) 61 (by decide) (by decide) W) ?_
       refine MW ?_ (v := .int .u64 (xo (rt ((Z5 (bt (List.drop (128 * j) (Z3 l))) i) (i - 2)) 19) (rt ((Z5 (bt (List.drop (128 * j) (Z3 l))) i) (i - 2)) 61))) (hv := fun _ => J0n rfl rfl rfl)
       refine MV ?_
       refine MW ?_ (v := .int .u64 (sr ((Z5 (bt (List.drop (128 * j) (Z3 l))) i) (i - 2)) 6)) (hv := fun _ => J09 (n := 6) (by decide) rfl rfl rfl)
       refine MW ?_ (v := .int .u64 (xo (xo (rt ((Z5 (bt (List.drop (128 * j) (Z3 l))) i) (i - 2)) 19) (rt ((Z5 (bt (List.drop (128 * j) (Z3 l))) i) (i - 2)) 61)) (sr ((Z5 (bt (List.drop (128 * j) (Z3 l))) i) (i - 2)) 6))) (hv := fun _ => J0n rfl rfl rfl)
       refine MW ?_ (v := .int .u64 (ad (ad (ad ((Z5 (bt (List.drop (128 * j) (Z3 l))) i) (i - 16)) (xo (xo (rt ((Z5 (bt (List.drop (128 * j) (Z3 l))) i) (i - 15)) 1) (rt ((Z5 (bt (List.drop (128 * j) (Z3 l))) i) (i - 15)) 8)) (sr ((Z5 (bt (List.drop (128 * j) (Z3 l))) i) (i - 15)) 7))) ((Z5 (bt (List.drop (128 * j) (Z3 l))) i) (i - 7))) (xo (xo (rt ((Z5 (bt (List.drop (128 * j) (Z3 l))) i) (i - 2)) 19) (rt ((Z5 (bt (List.drop (128 * j) (Z3 l))) i) (i - 2)) 61)) (sr ((Z5 (bt (List.drop (128 * j) (Z3 l))) i) (i - 2)) 6)))) (hv := fun _ => J1f rfl rfl rfl)
       refine MW ?_ (v := .pointer (some ⟨G, 0 + i, none⟩)) (hv := fun _ => J5 (m := 80) (by decide) (by omega) Tryz.underlying187 (by kernel_rfl) rfl rfl rfl)
       refine MZt ?_
       refine MP 0 (v := .int .u64 (ad (ad (ad ((Z5 (bt (List.drop (128 * j) (Z3 l))) i) (i - 16)) (xo (xo (rt ((Z5 (bt (List.drop (128 * j) (Z3 l))) i) (i - 15)) 1) (rt ((Z5 (bt (List.drop (128 * j) (Z3 l))) i) (i - 15)) 8)) (sr ((Z5 (bt (List.drop (128 * j) (Z3 l))) i) (i - 15)) 7))) ((Z5 (bt (List.drop (128 * j) (Z3 l))) i) (i - 7))) (xo (xo (rt ((Z5 (bt (List.drop (128 * j) (Z3 l))) i) (i - 2)) 19) (rt ((Z5 (bt (List.drop (128 * j) (Z3 l))) i) (i - 2)) 61)) (sr ((Z5 (bt (List.drop (128 * j) (Z3 l))) i) (i - 2)) 6)))) (cs' := J0 .u64 80 (upd (Z5 (bt (List.drop (128 * j) (Z3 l))) i) i (ad (ad (ad ((Z5 (bt (List.drop (128 * j) (Z3 l))) i) (i - 16)) (xo (xo (rt ((Z5 (bt (List.drop (128 * j) (Z3 l))) i) (i - 15)) 1) (rt ((Z5 (bt (List.drop (128 * j) (Z3 l))) i) (i - 15)) 8)) (sr ((Z5 (bt (List.drop (128 * j) (Z3 l))) i) (i - 15)) 7))) ((Z5 (bt (List.drop (128 * j) (Z3 l))) i) (i - 7))) (xo (xo (rt ((Z5 (bt (List.drop (128 * j) (Z3 l))) i) (i - 2)) 19) (rt ((Z5 (bt (List.drop (128 * j) (Z3 l))) i) (i - 2)) 61)) (sr ((Z5 (bt (List.drop (128 * j) (Z3 l))) i) (i - 2)) 6))))) ?_ (hs := by rw [J1, Nat.zero_add]; omega) (hc := by rw [Nat.zero_add]; exact V4 _ _ _ _ _)
       refine MZn fun W hS => ?_
       go_wp2
       go_roundw
       case rel => exact ⟨i + 1, by omega, by go_num, (by rw [Q52 (by omega), ← Z5h N]; exact hS)⟩
       case measure => simp [intOf]; omega
      obtain rfl : i = 80 := by omega
      rw [Q52 (by decide)] at hS
      go_upto_region 17 with fail
      refine RL hS ?_
      clear hS
      refine MV ?_
      refine MW ?_ (v := .bool false)
      refine MZ fun W hS => ?_
      go_upto_region 26 with fail
      refine RL hS ?_
      clear hS
      refine ML 1 ?_
      refine MN (z := J0 .u64 8 (fun _ => 0)) (t := 186) ?_
      intro D
      refine MR 0 ?_ 
      refine MZ fun W hS => ?_
      go_wp2_with fail
      go_loopw [14] (fun ii wr => ∃ (i : Nat), (i ≤ 80) ∧ (ii = .int .i64 (i : Int)) ∧ SH [] w wr [.b D (J0 .u64 8 (Q9 kf (Z5 (bt (List.drop (128 * j) (Z3 l))) 80) (Hs (Z3 l) j) i)) 186, .b G (J0 .u64 80 (Z5 (bt (List.drop (128 * j) (Z3 l))) 80)) 187, .b M (J0 .u64 8 (Hs (Z3 l) j)) 186, .s bv (Z3 l)])
       (fun ii _ => 80 - (intOf ii).toNat)
      case atStart => exact ⟨0, Nat.zero_le _, rfl, hS⟩
      clear hS
      case round =>
       obtain ⟨i, hi, rfl, hS⟩ := hrel
       by_cases S : i < 80
       ·
        go_upto_region 28 with fail
        refine RL hS ?_
        clear hS
        refine MV ?_
        refine MW ?_ (v := .bool true)
        refine MZ fun W hS => ?_
        go_upto_region 30 with fail
        refine RS hS ?_
        clear hS
        refine MW ?_ (v := .pointer (some ⟨D, 0 + 7, none⟩)) (hv := fun _ => J5 (m := 8) (by decide) (by omega) Tryz.underlying186 (by kernel_rfl) rfl rfl rfl)
        refine MG 0 ?_ (j := 0 + 7) (v := .int .u64 ((Q9 kf (Z5 (bt (List.drop (128 * j) (Z3 l))) 80) (Hs (Z3 l) j) i) 7)) (hj := by rw [Nat.zero_add]; exact J3 _ _ _ _ (by omega))
        refine MW ?_ (v := .pointer (some ⟨D, 0 + 4, none⟩)) (hv := fun _ => J5 (m := 8) (by decide) (by omega) Tryz.underlying186 (by kernel_rfl) rfl rfl rfl)
        refine MG 0 ?_ (j := 0 + 4) (v := .int .u64 ((Q9 kf (Z5 (bt (List.drop (128 * j) (Z3 l))) 80) (Hs (Z3 l) j) i) 4)) (hj := by rw [Nat.zero_add]; exact J3 _ _ _ _ (by omega))
        refine MC (v := .int .u64 (rt ((Q9 kf (Z5 (bt (List.drop (128 * j) (Z3 l))) 80) (Hs (Z3 l) j) i) 4) 14)) (fun W hS => J3x ((Q9 kf (Z5 (bt (List.drop (128 * j) (Z3 l))) 80) (Hs (Z3 l) j) i) 4) 14 (by decide) (by decide) W) ?_
        refine MW ?_ (v := .pointer (some ⟨D, 0 + 4, none⟩)) (hv := fun _ => J5 (m := 8) (by decide) (by omega) Tryz.underlying186 (by kernel_rfl) rfl rfl rfl)
        refine MG 0 ?_ (j := 0 + 4) (v := .int .u64 ((Q9 kf (Z5 (bt (List.drop (128 * j) (Z3 l))) 80) (Hs (Z3 l) j) i) 4)) (hj := by rw [Nat.zero_add]; exact J3 _ _ _ _ (by omega))
        refine MC (v := .int .u64 (rt ((Q9 kf (Z5 (bt (List.drop (128 * j) (Z3 l))) 80) (Hs (Z3 l) j) i) 4) 18)) (fun W hS => J3x ((Q9 kf (Z5 (bt (List.drop (128 * j) (Z3 l))) 80) (Hs (Z3 l) j) i) 4) 18 (by decide) (by decide) W) ?_
        refine MW ?_ (v := .int .u64 (xo (rt ((Q9 kf (Z5 (bt (List.drop (128 * j) (Z3 l))) 80) (Hs (Z3 l) j) i) 4) 14) (rt ((Q9 kf (Z5 (bt (List.drop (128 * j) (Z3 l))) 80) (Hs (Z3 l) j) i) 4) 18))) (hv := fun _ => J0n rfl rfl rfl)
        refine MW ?_ (v := .pointer (some ⟨D, 0 + 4, none⟩)) (hv := fun _ => J5 (m := 8) (by decide) (by omega) Tryz.underlying186 (by kernel_rfl) rfl rfl rfl)
        refine MG 0 ?_ (j := 0 + 4) (v := .int .u64 ((Q9 kf (Z5 (bt (List.drop (128 * j) (Z3 l))) 80) (Hs (Z3 l) j) i) 4)) (hj := by rw [Nat.zero_add]; exact J3 _ _ _ _ (by omega))
        refine MC (v := .int .u64 (rt ((Q9 kf (Z5 (bt (List.drop (128 * j) (Z3 l))) 80) (Hs (Z3 l) j) i) 4) 41)) (fun W hS => J3x ((Q9 kf (Z5 (bt (List.drop (128 * j) (Z3 l))) 80) (Hs (Z3 l) j) i) 4) 41 (by decide) (by decide) W) ?_
        refine MW ?_ (v := .int .u64 (xo (xo (rt ((Q9 kf (Z5 (bt (List.drop (128 * j) (Z3 l))) 80) (Hs (Z3 l) j) i) 4) 14) (rt ((Q9 kf (Z5 (bt (List.drop (128 * j) (Z3 l))) 80) (Hs (Z3 l) j) i) 4) 18)) (rt ((Q9 kf (Z5 (bt (List.drop (128 * j) (Z3 l))) 80) (Hs (Z3 l) j) i) 4) 41))) (hv := fun _ => J0n rfl rfl rfl)
        refine MW ?_ (v := .int .u64 (ad ((Q9 kf (Z5 (bt (List.drop (128 * j) (Z3 l))) 80) (Hs (Z3 l) j) i) 7) (xo (xo (rt ((Q9 kf (Z5 (bt (List.drop (128 * j) (Z3 l))) 80) (Hs (Z3 l) j) i) 4) 14) (rt ((Q9 kf (Z5 (bt (List.drop (128 * j) (Z3 l))) 80) (Hs (Z3 l) j) i) 4) 18)) (rt ((Q9 kf (Z5 (bt (List.drop (128 * j) (Z3 l))) 80) (Hs (Z3 l) j) i) 4) 41)))) (hv := fun _ => J1f rfl rfl rfl)
        refine MW ?_ (v := .pointer (some ⟨D, 0 + 4, none⟩)) (hv := fun _ => J5 (m := 8) (by decide) (by omega) Tryz.underlying186 (by kernel_rfl) rfl rfl rfl)
        refine MG 0 ?_ (j := 0 + 4) (v := .int .u64 ((Q9 kf (Z5 (bt (List.drop (128 * j) (Z3 l))) 80) (Hs (Z3 l) j) i) 4)) (hj := by rw [Nat.zero_add]; exact J3 _ _ _ _ (by omega))
        refine MW ?_ (v := .pointer (some ⟨D, 0 + 5, none⟩)) (hv := fun _ => J5 (m := 8) (by decide) (by omega) Tryz.underlying186 (by kernel_rfl) rfl rfl rfl)
        refine MG 0 ?_ (j := 0 + 5) (v := .int .u64 ((Q9 kf (Z5 (bt (List.drop (128 * j) (Z3 l))) 80) (Hs (Z3 l) j) i) 5)) (hj := by rw [Nat.zero_add]; exact J3 _ _ _ _ (by omega))
        refine MW ?_ (v := .int .u64 (an ((Q9 kf (Z5 (bt (List.drop (128 * j) (Z3 l))) 80) (Hs (Z3 l) j) i) 4) ((Q9 kf (Z5 (bt (List.drop (128 * j) (Z3 l))) 80) (Hs (Z3 l) j) i) 5))) (hv := fun _ => J3w rfl rfl rfl)
        refine MW ?_ (v := .pointer (some ⟨D, 0 + 4, none⟩)) (hv := fun _ => J5 (m := 8) (by decide) (by omega) Tryz.underlying186 (by kernel_rfl) rfl rfl rfl)
        refine MG 0 ?_ (j := 0 + 4) (v := .int .u64 ((Q9 kf (Z5 (bt (List.drop (128 * j) (Z3 l))) 80) (Hs (Z3 l) j) i) 4)) (hj := by rw [Nat.zero_add]; exact J3 _ _ _ _ (by omega))
        refine MW ?_ (v := .int .u64 (nt ((Q9 kf (Z5 (bt (List.drop (128 * j) (Z3 l))) 80) (Hs (Z3 l) j) i) 4))) (hv := fun _ => Z0l rfl rfl)
        refine MW ?_ (v := .pointer (some ⟨D, 0 + 6, none⟩)) (hv := fun _ => J5 (m := 8) (by decide) (by omega) Tryz.underlying186 (by kernel_rfl) rfl rfl rfl)
        refine MG 0 ?_ (j := 0 + 6) (v := .int .u64 ((Q9 kf (Z5 (bt (List.drop (128 * j) (Z3 l))) 80) (Hs (Z3 l) j) i) 6)) (hj := by rw [Nat.zero_add]; exact J3 _ _ _ _ (by omega))
        refine MW ?_ (v := .int .u64 (an (nt ((Q9 kf (Z5 (bt (List.drop (128 * j) (Z3 l))) 80) (Hs (Z3 l) j) i) 4)) ((Q9 kf (Z5 (bt (List.drop (128 * j) (Z3 l))) 80) (Hs (Z3 l) j) i) 6))) (hv := fun _ => J3w rfl rfl rfl)
        refine MW ?_ (v := .int .u64 (xo (an ((Q9 kf (Z5 (bt (List.drop (128 * j) (Z3 l))) 80) (Hs (Z3 l) j) i) 4) ((Q9 kf (Z5 (bt (List.drop (128 * j) (Z3 l))) 80) (Hs (Z3 l) j) i) 5)) (an (nt ((Q9 kf (Z5 (bt (List.drop (128 * j) (Z3 l))) 80) (Hs (Z3 l) j) i) 4)) ((Q9 kf (Z5 (bt (List.drop (128 * j) (Z3 l))) 80) (Hs (Z3 l) j) i) 6)))) (hv := fun _ => J0n rfl rfl rfl)
        refine MW ?_ (v := .int .u64 (ad (ad ((Q9 kf (Z5 (bt (List.drop (128 * j) (Z3 l))) 80) (Hs (Z3 l) j) i) 7) (xo (xo (rt ((Q9 kf (Z5 (bt (List.drop (128 * j) (Z3 l))) 80) (Hs (Z3 l) j) i) 4) 14) (rt ((Q9 kf (Z5 (bt (List.drop (128 * j) (Z3 l))) 80) (Hs (Z3 l) j) i) 4) 18)) (rt ((Q9 kf (Z5 (bt (List.drop (128 * j) (Z3 l))) 80) (Hs (Z3 l) j) i) 4) 41))) (xo (an ((Q9 kf (Z5 (bt (List.drop (128 * j) (Z3 l))) 80) (Hs (Z3 l) j) i) 4) ((Q9 kf (Z5 (bt (List.drop (128 * j) (Z3 l))) 80) (Hs (Z3 l) j) i) 5)) (an (nt ((Q9 kf (Z5 (bt (List.drop (128 * j) (Z3 l))) 80) (Hs (Z3 l) j) i) 4)) ((Q9 kf (Z5 (bt (List.drop (128 * j) (Z3 l))) 80) (Hs (Z3 l) j) i) 6))))) (hv := fun _ => J1f rfl rfl rfl)
        refine MV ?_
        refine MW ?_ (v := .pointer (some ⟨3, 0 + i, none⟩)) (hv := fun _ => J5 (m := 80) (by decide) (by omega) Tryz.underlying187 (by kernel_rfl) rfl rfl rfl)
        refine MF (v := .int .u64 (kf i)) (fun W hS => X8 rfl rfl (((GR_ext HG.out hS.ext).1).1 _ _ (by rw [Nat.zero_add]; exact J3 _ _ _ _ (by omega))) (by kernel_rfl)) ?_
        refine MW ?_ (v := .int .u64 (ad (ad (ad ((Q9 kf (Z5 (bt (List.drop (128 * j) (Z3 l))) 80) (Hs (Z3 l) j) i) 7) (xo (xo (rt ((Q9 kf (Z5 (bt (List.drop (128 * j) (Z3 l))) 80) (Hs (Z3 l) j) i) 4) 14) (rt ((Q9 kf (Z5 (bt (List.drop (128 * j) (Z3 l))) 80) (Hs (Z3 l) j) i) 4) 18)) (rt ((Q9 kf (Z5 (bt (List.drop (128 * j) (Z3 l))) 80) (Hs (Z3 l) j) i) 4) 41))) (xo (an ((Q9 kf (Z5 (bt (List.drop (128 * j) (Z3 l))) 80) (Hs (Z3 l) j) i) 4) ((Q9 kf (Z5 (bt (List.drop (128 * j) (Z3 l))) 80) (Hs (Z3 l) j) i) 5)) (an (nt ((Q9 kf (Z5 (bt (List.drop (128 * j) (Z3 l))) 80) (Hs (Z3 l) j) i) 4)) ((Q9 kf (Z5 (bt (List.drop (128 * j) (Z3 l))) 80) (Hs (Z3 l) j) i) 6)))) (kf i))) (hv := fun _ => J1f rfl rfl rfl)
        refine MV ?_
        refine MW ?_ (v := .pointer (some ⟨G, 0 + i, none⟩)) (hv := fun _ => J5 (m := 80) (by decide) (by omega) Tryz.underlying187 (by kernel_rfl) rfl rfl rfl)
        refine MG 1 ?_ (j := 0 + i) (v := .int .u64 ((Z5 (bt (List.drop (128 * j) (Z3 l))) 80) i)) (hj := by rw [Nat.zero_add]; exact J3 _ _ _ _ (by omega))
        refine MW ?_ (v := .int .u64 (rT kf (Z5 (bt (List.drop (128 * j) (Z3 l))) 80) i (Q9 kf (Z5 (bt (List.drop (128 * j) (Z3 l))) 80) (Hs (Z3 l) j) i)))
        refine MV ?_
        refine MZx fun W hS => ?_
        go_upto_region 31 with fail
        refine RS hS ?_
        clear hS
        refine MW ?_ (v := .pointer (some ⟨D, 0 + 0, none⟩)) (hv := fun _ => J5 (m := 8) (by decide) (by omega) Tryz.underlying186 (by kernel_rfl) rfl rfl rfl)
        refine MG 0 ?_ (j := 0 + 0) (v := .int .u64 ((Q9 kf (Z5 (bt (List.drop (128 * j) (Z3 l))) 80) (Hs (Z3 l) j) i) 0)) (hj := by rw [Nat.zero_add]; exact J3 _ _ _ _ (by omega))
        refine MC (v := .int .u64 (rt ((Q9 kf (Z5 (bt (List.drop (128 * j) (Z3 l))) 80) (Hs (Z3 l) j) i) 0) 28)) (fun W hS => J3x ((Q9 kf (Z5 (bt (List.drop (128 * j) (Z3 l))) 80) (Hs (Z3 l) j) i) 0) 28 (by decide) (by decide) W) ?_
        refine MW ?_ (v := .pointer (some ⟨D, 0 + 0, none⟩)) (hv := fun _ => J5 (m := 8) (by decide) (by omega) Tryz.underlying186 (by kernel_rfl) rfl rfl rfl)
        refine MG 0 ?_ (j := 0 + 0) (v := .int .u64 ((Q9 kf (Z5 (bt (List.drop (128 * j) (Z3 l))) 80) (Hs (Z3 l) j) i) 0)) (hj := by rw [Nat.zero_add]; exact J3 _ _ _ _ (by omega))
        refine MC (v := .int .u64 (rt ((Q9 kf (Z5 (bt (List.drop (128 * j) (Z3 l))) 80) (Hs (Z3 l) j) i) 0) 34)) (fun W hS => J3x ((Q9 kf (Z5 (bt (List.drop (128 * j) (Z3 l))) 80) (Hs (Z3 l) j) i) 0) 34 (by decide) (by decide) W) ?_
        refine MW ?_ (v := .int .u64 (xo (rt ((Q9 kf (Z5 (bt (List.drop (128 * j) (Z3 l))) 80) (Hs (Z3 l) j) i) 0) 28) (rt ((Q9 kf (Z5 (bt (List.drop (128 * j) (Z3 l))) 80) (Hs (Z3 l) j) i) 0) 34))) (hv := fun _ => J0n rfl rfl rfl)
        refine MW ?_ (v := .pointer (some ⟨D, 0 + 0, none⟩)) (hv := fun _ => J5 (m := 8) (by decide) (by omega) Tryz.underlying186 (by kernel_rfl) rfl rfl rfl)
        refine MG 0 ?_ (j := 0 + 0) (v := .int .u64 ((Q9 kf (Z5 (bt (List.drop (128 * j) (Z3 l))) 80) (Hs (Z3 l) j) i) 0)) (hj := by rw [Nat.zero_add]; exact J3 _ _ _ _ (by omega))
        refine MC (v := .int .u64 (rt ((Q9 kf (Z5 (bt (List.drop (128 * j) (Z3 l))) 80) (Hs (Z3 l) j) i) 0) 39)) (fun W hS => J3x ((Q9 kf (Z5 (bt (List.drop (128 * j) (Z3 l))) 80) (Hs (Z3 l) j) i) 0) 39 (by decide) (by decide) W) ?_
        refine MW ?_ (v := .int .u64 (xo (xo (rt ((Q9 kf (Z5 (bt (List.drop (128 * j) (Z3 l))) 80) (Hs (Z3 l) j) i) 0) 28) (rt ((Q9 kf (Z5 (bt (List.drop (128 * j) (Z3 l))) 80) (Hs (Z3 l) j) i) 0) 34)) (rt ((Q9 kf (Z5 (bt (List.drop (128 * j) (Z3 l))) 80) (Hs (Z3 l) j) i) 0) 39))) (hv := fun _ => J0n rfl rfl rfl)
        refine MW ?_ (v := .pointer (some ⟨D, 0 + 0, none⟩)) (hv := fun _ => J5 (m := 8) (by decide) (by omega) Tryz.underlying186 (by kernel_rfl) rfl rfl rfl)
        refine MG 0 ?_ (j := 0 + 0) (v := .int .u64 ((Q9 kf (Z5 (bt (List.drop (128 * j) (Z3 l))) 80) (Hs (Z3 l) j) i) 0)) (hj := by rw [Nat.zero_add]; exact J3 _ _ _ _ (by omega))
        refine MW ?_ (v := .pointer (some ⟨D, 0 + 1, none⟩)) (hv := fun _ => J5 (m := 8) (by decide) (by omega) Tryz.underlying186 (by kernel_rfl) rfl rfl rfl)
        refine MG 0 ?_ (j := 0 + 1) (v := .int .u64 ((Q9 kf (Z5 (bt (List.drop (128 * j) (Z3 l))) 80) (Hs (Z3 l) j) i) 1)) (hj := by rw [Nat.zero_add]; exact J3 _ _ _ _ (by omega))
        refine MW ?_ (v := .int .u64 (an ((Q9 kf (Z5 (bt (List.drop (128 * j) (Z3 l))) 80) (Hs (Z3 l) j) i) 0) ((Q9 kf (Z5 (bt (List.drop (128 * j) (Z3 l))) 80) (Hs (Z3 l) j) i) 1))) (hv := fun _ => J3w rfl rfl rfl)
        refine MW ?_ (v := .pointer (some ⟨D, 0 + 0, none⟩)) (hv := fun _ => J5 (m := 8) (by decide) (by omega) Tryz.underlying186 (by kernel_rfl) rfl rfl rfl)
        refine MG 0 ?_ (j := 0 + 0) (v := .int .u64 ((Q9 kf (Z5 (bt (List.drop (128 * j) (Z3 l))) 80) (Hs (Z3 l) j) i) 0)) (hj := by rw [Nat.zero_add]; exact J3 _ _ _ _ (by omega))
        refine MW ?_ (v := .pointer (some ⟨D, 0 + 2, none⟩)) (hv := fun _ => J5 (m := 8) (by decide) (by omega) Tryz.underlying186 (by kernel_rfl) rfl rfl rfl)
        refine MG 0 ?_ (j := 0 + 2) (v := .int .u64 ((Q9 kf (Z5 (bt (List.drop (128 * j) (Z3 l))) 80) (Hs (Z3 l) j) i) 2)) (hj := by rw [Nat.zero_add]; exact J3 _ _ _ _ (by omega))
        refine MW ?_ (v := .int .u64 (an ((Q9 kf (Z5 (bt (List.drop (128 * j) (Z3 l))) 80) (Hs (Z3 l) j) i) 0) ((Q9 kf (Z5 (bt (List.drop (128 * j) (Z3 l))) 80) (Hs (Z3 l) j) i) 2))) (hv := fun _ => J3w rfl rfl rfl)
        refine MW ?_ (v := .int .u64 (xo (an ((Q9 kf (Z5 (bt (List.drop (128 * j) (Z3 l))) 80) (Hs (Z3 l) j) i) 0) ((Q9 kf (Z5 (bt (List.drop (128 * j) (Z3 l))) 80) (Hs (Z3 l) j) i) 1)) (an ((Q9 kf (Z5 (bt (List.drop (128 * j) (Z3 l))) 80) (Hs (Z3 l) j) i) 0) ((Q9 kf (Z5 (bt (List.drop (128 * j) (Z3 l))) 80) (Hs (Z3 l) j) i) 2)))) (hv := fun _ => J0n rfl rfl rfl)
        refine MW ?_ (v := .pointer (some ⟨D, 0 + 1, none⟩)) (hv := fun _ => J5 (m := 8) (by decide) (by omega) Tryz.underlying186 (by kernel_rfl) rfl rfl rfl)
        refine MG 0 ?_ (j := 0 + 1) (v := .int .u64 ((Q9 kf (Z5 (bt (List.drop (128 * j) (Z3 l))) 80) (Hs (Z3 l) j) i) 1)) (hj := by rw [Nat.zero_add]; exact J3 _ _ _ _ (by omega))
        refine MW ?_ (v := .pointer (some ⟨D, 0 + 2, none⟩)) (hv := fun _ => J5 (m := 8) (by decide) (by omega) Tryz.underlying186 (by kernel_rfl) rfl rfl rfl)
        refine MG 0 ?_ (j := 0 + 2) (v := .int .u64 ((Q9 kf (Z5 (bt (List.drop (128 * j) (Z3 l))) 80) (Hs (Z3 l) j) i) 2)) (hj := by rw [Nat.zero_add]; exact J3 _ _ _ _ (by omega))
        refine MW ?_ (v := .int .u64 (an ((Q9 kf (Z5 (bt (List.drop (128 * j) (Z3 l))) 80) (Hs (Z3 l) j) i) 1) ((Q9 kf (Z5 (bt (List.drop (128 * j) (Z3 l))) 80) (Hs (Z3 l) j) i) 2))) (hv := fun _ => J3w rfl rfl rfl)
        refine MW ?_ (v := .int .u64 (xo (xo (an ((Q9 kf (Z5 (bt (List.drop (128 * j) (Z3 l))) 80) (Hs (Z3 l) j) i) 0) ((Q9 kf (Z5 (bt (List.drop (128 * j) (Z3 l))) 80) (Hs (Z3 l) j) i) 1)) (an ((Q9 kf (Z5 (bt (List.drop (128 * j) (Z3 l))) 80) (Hs (Z3 l) j) i) 0) ((Q9 kf (Z5 (bt (List.drop (128 * j) (Z3 l))) 80) (Hs (Z3 l) j) i) 2))) (an ((Q9 kf (Z5 (bt (List.drop (128 * j) (Z3 l))) 80) (Hs (Z3 l) j) i) 1) ((Q9 kf (Z5 (bt (List.drop (128 * j) (Z3 l))) 80) (Hs (Z3 l) j) i) 2)))) (hv := fun _ => J0n rfl rfl rfl)
        refine MW ?_ (v := .int .u64 (rU (Q9 kf (Z5 (bt (List.drop (128 * j) (Z3 l))) 80) (Hs (Z3 l) j) i)))
        refine MV ?_
        refine MZx fun W hS => ?_
        go_upto_region 32 with fail
        refine RL hS ?_
        clear hS
        refine MV ?_
        refine MV ?_
        refine MW ?_ (v := .int .u64 (ad (rT kf (Z5 (bt (List.drop (128 * j) (Z3 l))) 80) i (Q9 kf (Z5 (bt (List.drop (128 * j) (Z3 l))) 80) (Hs (Z3 l) j) i)) (rU (Q9 kf (Z5 (bt (List.drop (128 * j) (Z3 l))) 80) (Hs (Z3 l) j) i)))) (hv := fun _ => J1f rfl rfl rfl)
        refine MW ?_ (v := .pointer (some ⟨D, 0 + 0, none⟩)) (hv := fun _ => J5 (m := 8) (by decide) (by omega) Tryz.underlying186 (by kernel_rfl) rfl rfl rfl)
        refine MG 0 ?_ (j := 0 + 0) (v := .int .u64 ((Q9 kf (Z5 (bt (List.drop (128 * j) (Z3 l))) 80) (Hs (Z3 l) j) i) 0)) (hj := by rw [Nat.zero_add]; exact J3 _ _ _ _ (by omega))
        refine MW ?_ (v := .pointer (some ⟨D, 0 + 1, none⟩)) (hv := fun _ => J5 (m := 8) (by decide) (by omega) Tryz.underlying186 (by kernel_rfl) rfl rfl rfl)
        refine MG 0 ?_ (j := 0 + 1) (v := .int .u64 ((Q9 kf (Z5 (bt (List.drop (128 * j) (Z3 l))) 80) (Hs (Z3 l) j) i) 1)) (hj := by rw [Nat.zero_add]; exact J3 _ _ _ _ (by omega))
        refine MW ?_ (v := .pointer (some ⟨D, 0 + 2, none⟩)) (hv := fun _ => J5 (m := 8) (by decide) (by omega) Tryz.underlying186 (by kernel_rfl) rfl rfl rfl)
        refine MG 0 ?_ (j := 0 + 2) (v := .int .u64 ((Q9 kf (Z5 (bt (List.drop (128 * j) (Z3 l))) 80) (Hs (Z3 l) j) i) 2)) (hj := by rw [Nat.zero_add]; exact J3 _ _ _ _ (by omega))
        refine MW ?_ (v := .pointer (some ⟨D, 0 + 3, none⟩)) (hv := fun _ => J5 (m := 8) (by decide) (by omega) Tryz.underlying186 (by kernel_rfl) rfl rfl rfl)
        refine MG 0 ?_ (j := 0 + 3) (v := .int .u64 ((Q9 kf (Z5 (bt (List.drop (128 * j) (Z3 l))) 80) (Hs (Z3 l) j) i) 3)) (hj := by rw [Nat.zero_add]; exact J3 _ _ _ _ (by omega))
        refine MV ?_
        refine MW ?_ (v := .int .u64 (ad ((Q9 kf (Z5 (bt (List.drop (128 * j) (Z3 l))) 80) (Hs (Z3 l) j) i) 3) (rT kf (Z5 (bt (List.drop (128 * j) (Z3 l))) 80) i (Q9 kf (Z5 (bt (List.drop (128 * j) (Z3 l))) 80) (Hs (Z3 l) j) i)))) (hv := fun _ => J1f rfl rfl rfl)
        refine MW ?_ (v := .pointer (some ⟨D, 0 + 4, none⟩)) (hv := fun _ => J5 (m := 8) (by decide) (by omega) Tryz.underlying186 (by kernel_rfl) rfl rfl rfl)
        refine MG 0 ?_ (j := 0 + 4) (v := .int .u64 ((Q9 kf (Z5 (bt (List.drop (128 * j) (Z3 l))) 80) (Hs (Z3 l) j) i) 4)) (hj := by rw [Nat.zero_add]; exact J3 _ _ _ _ (by omega))
        refine MW ?_ (v := .pointer (some ⟨D, 0 + 5, none⟩)) (hv := fun _ => J5 (m := 8) (by decide) (by omega) Tryz.underlying186 (by kernel_rfl) rfl rfl rfl)
        refine MG 0 ?_ (j := 0 + 5) (v := .int .u64 ((Q9 kf (Z5 (bt (List.drop (128 * j) (Z3 l))) 80) (Hs (Z3 l) j) i) 5)) (hj := by rw [Nat.zero_add]; exact J3 _ _ _ _ (by omega))
        refine MW ?_ (v := .pointer (some ⟨D, 0 + 6, none⟩)) (hv := fun _ => J5 (m := 8) (by decide) (by omega) Tryz.underlying186 (by kernel_rfl) rfl rfl rfl)
        refine MG 0 ?_ (j := 0 + 6) (v := .int .u64 ((Q9 kf (Z5 (bt (List.drop (128 * j) (Z3 l))) 80) (Hs (Z3 l) j) i) 6)) (hj := by rw [Nat.zero_add]; exact J3 _ _ _ _ (by omega))
        refine MW ?_ (v := .agg (J0 .u64 8 (Q9 kf (Z5 (bt (List.drop (128 * j) (Z3 l))) 80) (Hs (Z3 l) j) (i + 1)))) (hv := by intro W; first | rfl | (go_simp; rfl))
        refine MR 0 ?_ 
        refine MZ fun W hS => ?_
        go_wp2
        go_roundw
        case rel => exact ⟨i + 1, by omega, by go_num, hS⟩
        case measure => simp [intOf]; omega
       obtain rfl : i = 80 := by omega
       go_upto_region 28 with fail
       refine RL hS ?_
       clear hS
       refine MV ?_
       refine MW ?_ (v := .bool false)
       refine MZ fun W hS => ?_
       go_wp2_with fail
       go_loopw [17] (fun ii wr => ∃ (i : Nat), (i ≤ 8) ∧ (ii = .int .i64 (i : Int)) ∧ SH [] w wr [.b D (J0 .u64 8 (Q9 kf (Z5 (bt (List.drop (128 * j) (Z3 l))) 80) (Hs (Z3 l) j) 80)) 186, .b M (J0 .u64 8 (mx (Hs (Z3 l) j) (Q9 kf (Z5 (bt (List.drop (128 * j) (Z3 l))) 80) (Hs (Z3 l) j) 80) i)) 186, .s bv (Z3 l)])
        (fun ii _ => 8 - (intOf ii).toNat)
       case atStart => exact ⟨0, Nat.zero_le _, rfl, (by rw [Z0o]; exact (hS.pick [0, 2, 3]))⟩
       clear hS
       case round =>
        obtain ⟨i, hi, rfl, hS⟩ := hrel
        by_cases h8 : i < 8
        ·
         go_upto_region 34 with fail
         refine RL hS ?_
         clear hS
         refine MV ?_
         refine MW ?_ (v := .bool true)
         refine MZ fun W hS => ?_
         go_upto_region 36 with fail
         refine RX 9 hS ?_
         clear hS
         refine MV ?_
         refine MV ?_
         refine MW ?_ (v := .pointer (some ⟨M, 0 + i, none⟩)) (hv := fun _ => J5 (m := 8) (by decide) (by omega) Tryz.underlying186 (by kernel_rfl) rfl rfl rfl)
         refine MG 1 ?_ (j := 0 + i) (v := .int .u64 ((mx (Hs (Z3 l) j) (Q9 kf (Z5 (bt (List.drop (128 * j) (Z3 l))) 80) (Hs (Z3 l) j) 80) i) i)) (hj := by rw [Nat.zero_add]; exact J3 _ _ _ _ (by omega))
         refine MV ?_
         refine MW ?_ (v := .pointer (some ⟨D, 0 + i, none⟩)) (hv := fun _ => J5 (m := 8) (by decide) (by omega) Tryz.underlying186 (by kernel_rfl) rfl rfl rfl)
         refine MG 0 ?_ (j := 0 + i) (v := .int .u64 ((Q9 kf (Z5 (bt (List.drop (128 * j) (Z3 l))) 80) (Hs (Z3 l) j) 80) i)) (hj := by rw [Nat.zero_add]; exact J3 _ _ _ _ (by omega))
         refine MW ?_ (v := .int .u64 (ad ((mx (Hs (Z3 l) j) (Q9 kf (Z5 (bt (List.drop (128 * j) (Z3 l))) 80) (Hs (Z3 l) j) 80) i) i) ((Q9 kf (Z5 (bt (List.drop (128 * j) (Z3 l))) 80) (Hs (Z3 l) j) 80) i))) (hv := fun _ => J1f rfl rfl rfl)
         refine MW ?_ (v := .pointer (some ⟨M, 0 + i, none⟩)) (hv := fun _ => J5 (m := 8) (by decide) (by omega) Tryz.underlying186 (by kernel_rfl) rfl rfl rfl)
         refine MZt ?_
         refine MP 1 (v := .int .u64 (ad ((mx (Hs (Z3 l) j) (Q9 kf (Z5 (bt (List.drop (128 * j) (Z3 l))) 80) (Hs (Z3 l) j) 80) i) i) ((Q9 kf (Z5 (bt (List.drop (128 * j) (Z3 l))) 80) (Hs (Z3 l) j) 80) i))) (cs' := J0 .u64 8 (upd (mx (Hs (Z3 l) j) (Q9 kf (Z5 (bt (List.drop (128 * j) (Z3 l))) 80) (Hs (Z3 l) j) 80) i) i (ad ((mx (Hs (Z3 l) j) (Q9 kf (Z5 (bt (List.drop (128 * j) (Z3 l))) 80) (Hs (Z3 l) j) 80) i) i) ((Q9 kf (Z5 (bt (List.drop (128 * j) (Z3 l))) 80) (Hs (Z3 l) j) 80) i)))) ?_ (hs := by rw [J1, Nat.zero_add]; omega) (hc := by rw [Nat.zero_add]; exact V4 _ _ _ _ _)
         refine MZn fun W hS => ?_
         go_wp2
         go_roundw
         case rel => exact ⟨i + 1, by omega, by go_num, (by rw [← Z0n]; exact hS)⟩
         case measure => simp [intOf]; omega
        obtain rfl : i = 8 := by omega
        rw [Z5k] at hS
        go_upto_region 34 with fail
        refine RL hS ?_
        clear hS
        refine MV ?_
        refine MW ?_ (v := .bool false)
        refine MZ fun W hS => ?_
        go_wp2
        go_roundw
        case rel => exact ⟨j + 1, by omega, by first | go_num | (go_simp; omega), (hS.pick [1, 2])⟩
        case measure => simp [intOf]; omega
    obtain rfl : j = nb l.length := by omega
    go_upto_region 13 with fail
    refine RL hS ?_
    clear hS
    refine MV ?_
    refine MV ?_
    refine MF (v := .int .i64 ((Z3 l).length : Int)) (fun W hS => J1u (hS.sl (i := 1) rfl) rfl rfl) ?_
    refine MW ?_ (v := .bool false) (hv := by intro W; first | (go_simp; done) | (go_simp; (try simp only [X]); omega))
    refine MZ fun W hS => ?_
    go_upto_region 37 with fail
    refine RL hS ?_
    clear hS
    refine MO (m := []) (n := 0) (z := #[]) ?_
    intro ε
    refine MV ?_
    refine MZ fun W hS => ?_
    go_wp2_with fail
    go_loopw [18, 19] (fun sv ii wr => ∃ (i : Nat) (bv : Value), (i ≤ 8) ∧ (bv = sv) ∧ (ii = .int .i64 (i : Int)) ∧ SH [] w wr [.o bv (wb (Hs (Z3 l) (nb l.length)) (8 * i)), .b M (J0 .u64 8 (Hs (Z3 l) (nb l.length))) 186])
     (fun sv ii _ => 8 - (intOf ii).toNat)
    case atStart => exact ⟨0, _, Nat.zero_le _, rfl, rfl, (hS.pick [0, 1])⟩
    clear hS
    case round =>
     obtain ⟨i, bv, hi, rfl, rfl, hS⟩ := hrel
     by_cases h8 : i < 8
     ·
      go_upto_region 39 with fail
      refine RL hS ?_
      clear hS
      refine MV ?_
      refine MW ?_ (v := .bool true)
      refine MZ fun W hS => ?_
      go_wp2_with fail
      go_loopw [18, 20] (fun sv ss wr => ∃ (k : Nat) (bv : Value), (k ≤ 8) ∧ (bv = sv) ∧ (ss = .int .i64 ((56 : Int) - 8 * (k : Int))) ∧ SH [] w wr [.o bv (wb (Hs (Z3 l) (nb l.length)) (8 * i + k)), .b M (J0 .u64 8 (Hs (Z3 l) (nb l.length))) 186])
       (fun sv ss _ => (intOf ss + 8).toNat)
      case atStart => exact ⟨0, _, Nat.zero_le _, rfl, rfl, hS⟩
      clear hS
      case round =>
       obtain ⟨k, bv, hk, rfl, rfl, hS⟩ := hrel
       by_cases R : k < 8
       ·
        go_upto_region 42 with fail
        refine RL hS ?_
        clear hS
        refine MV ?_
        refine MW ?_ (v := .bool true) (hv := by intro W; go_simp; (try omega))
        refine MZ fun W hS => ?_
        go_upto_region 44 with fail
        refine RL hS ?_
        clear hS
        refine MV ?_
        refine MV ?_
        refine MW ?_ (v := .pointer (some ⟨M, 0 + i, none⟩)) (hv := fun _ => J5 (m := 8) (by decide) (by omega) Tryz.underlying186 (by kernel_rfl) rfl rfl rfl)
        refine MG 1 ?_ (j := 0 + i) (v := .int .u64 ((Hs (Z3 l) (nb l.length)) i)) (hj := by rw [Nat.zero_add]; exact J3 _ _ _ _ (by omega))
        refine MW ?_ (v := .int .i64 (((8 * (7 - k) : Nat) : Int))) (hv := by intro W; go_simp; (try omega))
        refine MW ?_ (v := .int .u64 (sr (Hs (Z3 l) (nb l.length) i) (8 * (7 - k)))) (hv := by intro W; exact J09 (n := 8 * (7 - k)) (by omega) rfl rfl rfl)
        refine MW ?_ (v := .int .u8 ((bo (Hs (Z3 l) (nb l.length)) (8 * i + k)).toNat : Int)) (hv := by intro W; rw [← Y0c _ i k R]; exact J27 rfl rfl)
        refine MO (m := [bo (Hs (Z3 l) (nb l.length)) (8 * i + k)]) (n := 1) (z := #[.int .u8 ((bo (Hs (Z3 l) (nb l.length)) (8 * i + k)).toNat : Int)]) ?_
        intro κ
        refine MA 1 (xs := (wb (Hs (Z3 l) (nb l.length)) (8 * i + k))) (ys := [bo (Hs (Z3 l) (nb l.length)) (8 * i + k)]) (fun W hS => (hS.osl (i := 0) rfl)) (by first | omega | (simp only [List.length_append, List.length_cons, List.length_nil, List.length_replicate, List.length_take, J3r, J3s]; omega)) ?_
        intro ν
        refine MV ?_
        refine MZ fun W hS => ?_
        go_wp2
        go_roundw
        case rel => exact ⟨k + 1, _, by omega, rfl, by go_num, (by rw [show 8 * i + (k + 1) = (8 * i + k) + 1 by omega, Y09]; exact (hS.pick [1, 2]))⟩
        case measure => simp [intOf]; omega
       obtain rfl : k = 8 := by omega
       go_upto_region 42 with fail
       refine RL hS ?_
       clear hS
       refine MV ?_
       refine MW ?_ (v := .bool false) (hv := by intro W; go_simp; (try omega))
       refine MZ fun W hS => ?_
       go_wp2
       go_roundw
       case rel => exact ⟨i + 1, _, by omega, rfl, by go_num, (by rw [show 8 * (i + 1) = 8 * i + 8 by omega]; exact hS)⟩
       case measure => simp [intOf]; omega
     obtain rfl : i = 8 := by omega
     go_upto_region 39 with fail
     refine RL hS ?_
     clear hS
     refine MV ?_
     refine MW ?_ (v := .bool false)
     refine MZ fun W hS => ?_
     go_upto_region 45 with fail
     refine RL hS ?_
     clear hS
     refine MV ?_
     refine MF (v := str (wb (Hs (Z3 l) (nb l.length)) (8 * 8))) (fun W hS => J2j (hS.osl (i := 0) rfl) rfl rfl) ?_
     refine MV ?_
     refine MZ fun W hS => ?_
     go_wp2
     exact bodyPost_ret (v := str (wb (Hs (Z3 l) (nb l.length)) (8 * 8))) (by simp only [results, Tryz.results65]; go_simp) rfl ⟨rfl, hS.ext⟩
end Go.Proofs.YtejkmhgkkibafaaGreatDoor.S8

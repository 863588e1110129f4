/- Trees: a tree of two leaves, a leaf more. Conditions: the tables hold their numbers; the keys and values have 256 bits. -/
import Derived.Test.YtejkmhgkkibafaaGreatDoorTsD
set_option linter.unusedSimpArgs false
set_option linter.unusedVariables false
namespace Go.Proofs.YtejkmhgkkibafaaGreatDoor
set_option maxHeartbeats 3000000
set_option maxRecDepth 100000
open Go.RowKit
attribute [local irreducible] wpList wpTr wpX
set_option linter.unusedSimpArgs false
/-- one-sided nodes above T, from depth m down to depth d; K is a key in T -/
def chain (K : Nat) (d : Nat) : Nat → TR → TR
 | 0, T => T
 | m + 1, T => if d ≤ m then chain K d m (if kb K m = 0 then .node m T .nil else .node m .nil T) else T
/-- the tree of two leaves of unlike keys, from a depth on -/
def partT (a x b y d : Nat) : TR :=
 if kb a (kcom (byt a) (byt b)) = 1 then chain b d (kcom (byt a) (byt b)) (.node (kcom (byt a) (byt b)) (.leaf b y) (.leaf a x))
 else chain a d (kcom (byt a) (byt b)) (.node (kcom (byt a) (byt b)) (.leaf a x) (.leaf b y))
/-- a leaf more -/
def putT (k v : Nat) : TR → Nat → TR
 | .nil, _ => .leaf k v
 | .leaf a x, d => if a = k then .leaf k v else partT a x k v d
 | .node _ l r, d => if kb k d = 0 then .node d (putT k v l (d + 1)) r else .node d l (putT k v r (d + 1))
theorem chain_1 {K d m : Nat} {T : TR} (h : d ≤ m) : chain K d (m + 1) T = chain K d m (if kb K m = 0 then .node m T .nil else .node m .nil T) := by
 show (if d ≤ m then _ else _) = _
 rw [if_pos h]
theorem chain_0 {K d m : Nat} {T : TR} (h : m ≤ d) : chain K d m T = T := by
 cases m with
 | zero => rfl
 | succ m => show (if d ≤ m then _ else _) = _; rw [if_neg (by omega)]
theorem chain_cnt (K d : Nat) : ∀ (m : Nat) (T : TR), cnt (chain K d m T) = cnt T
 | 0, _ => rfl
 | m + 1, T => by
  unfold chain
  split
  ·
   rw [chain_cnt]; split <;> simp [cnt]
  ·
   rfl
theorem partT_cnt (a x b y d : Nat) : cnt (partT a x b y d) = 2 := by unfold partT; split <;> rw [chain_cnt] <;> rfl
theorem putT_cnt (k v : Nat) : ∀ (T : TR) (d : Nat), cnt (putT k v T d) ≤ cnt T + 1
 | .nil, _ => by show 1 ≤ 0 + 1; omega
 | .leaf a x, d => by
  show cnt (if a = k then TR.leaf k v else partT a x k v d) ≤ 1 + 1
  split
  ·
   show 1 ≤ 2; omega
  ·
   rw [partT_cnt]; omega
 | .node e l r, d => by
  have h1 := putT_cnt k v l (d + 1)
  have h2 := putT_cnt k v r (d + 1)
  show cnt (if kb k d = 0 then TR.node d (putT k v l (d + 1)) r else TR.node d l (putT k v r (d + 1))) ≤ cnt l + cnt r + 1
  split
  ·
   show cnt (putT k v l (d + 1)) + cnt r ≤ _; omega
  ·
   show cnt l + cnt (putT k v r (d + 1)) ≤ _; omega
theorem TA.leaf' {w : World} {k v b : Nat} (h : Blk w b (ndc k v nlp nlp false (sL k v) 1) 151) (hk : k < 2 ^ 256) (hv : v < 2 ^ 256) : TA w (.leaf k v) (ptr b) := ⟨b, rfl, h, hk, hv⟩
attribute [local irreducible] hs4 sE sL sN

theorem part_c {q : Prop} {a x c y b1 b2 : Nat} (ha : a < 2 ^ 256) (hx : x < 2 ^ 256) (hc : c < 2 ^ 256) (hy : y < 2 ^ 256) (d : Nat) (hd_ : d < 4611686018427387904) (w : World) (hG : GT q w) (hB1 : Blk w b1 (ndc a x nlp nlp false (sL a x) 1) 151) (hB2 : Blk w b2 (ndc c y nlp nlp false (sL c y) 1) 151) :
  Calls Tryz.prog 162 #[ptr b1, ptr b2, .int .i64 (d : Int)] w fun e w' => TRet (partT a x c y d) w w' e := by
 have hS := SH.nil [] w
 have h3 := kcom_le (byt a) (byt c)
 have hA : TA w (.leaf a x) (ptr b1) := TA.leaf' hB1 ha hx
 have hC : TA w (.leaf c y) (ptr b2) := TA.leaf' hB2 hc hy
 go_enter Tryz.func162, Tryz.ntmps162
 go_upto_region 1 with fail
 refine RTh (.q 0 (.q 1 (.q 2 (.q 3 (.q 4 (.q 5 (.q 6 (.q 7 (.q 8 (.q 9 (.e 10 (.q 11 .z)))))))))))) hS ?_
 clear hS
 refine TV ?_
 refine TV ?_
 refine TV ?_
 refine TV ?_
 refine TF (v := .agg (arrK .u8 32 (byt a))) rfl (fun W hS => run_atrow (vs := (arrK .u8 32 (byt a)).toList) rfl rfl (fun i v hv => by rw [blk_cell (blk_step hB1 hS.ext)]; exact nd_key i v (by simpa using hv)) (by kernel_rfl) (by first | kernel_rfl | (simp only [Array.length_toList]; rw [arrK_size]; kernel_rfl))) ?_
 refine TV ?_
 refine TV ?_
 refine TV ?_
 refine TV ?_
 refine TF (v := .agg (arrK .u8 32 (byt c))) rfl (fun W hS => run_atrow (vs := (arrK .u8 32 (byt c)).toList) rfl rfl (fun i v hv => by rw [blk_cell (blk_step hB2 hS.ext)]; exact nd_key i v (by simpa using hv)) (by kernel_rfl) (by first | kernel_rfl | (simp only [Array.length_toList]; rw [arrK_size]; kernel_rfl))) ?_
 refine TE (fun _ h => h) ?_
 refine MC (v := .int .i64 ((kcom (byt a) (byt c) : Nat) : Int)) (fun W hS => kcommon_c a c W) ?_
 refine TNh (fun W hS => hS) ?_
 refine TV ?_
 refine TZ (fun _ h => h) fun W hS => ?_
 by_cases hb : kb a (kcom (byt a) (byt c)) = 1
 ·
  have _f := hb
  go_upto_region 2 with fail
  refine RL hS ?_
  clear hS
  refine MV ?_
  refine MV ?_
  refine MV ?_
  refine MV ?_
  refine MF (v := .agg (arrK .u8 32 (byt a))) (fun W hS => run_atrow (vs := (arrK .u8 32 (byt a)).toList) rfl rfl (fun i v hv => by rw [blk_cell (blk_step hB1 hS.ext)]; exact nd_key i v (by simpa using hv)) (by kernel_rfl) (by first | kernel_rfl | (simp only [Array.length_toList]; rw [arrK_size]; kernel_rfl))) ?_
  refine MV ?_
  refine MC (v := .int .i64 ((kb a (kcom (byt a) (byt c)) : Nat) : Int)) (fun W hS => bit_c a (kcom (byt a) (byt c)) (by omega) W) ?_
  refine MW ?_ (v := .bool true) (hv := by intro W; go_simp; (try simp [hb]))
  refine MZ fun W hS => ?_
  go_upto_region 4 with fail
  refine RL hS ?_
  clear hS
  refine MV ?_
  refine MV ?_
  refine MV ?_
  refine ME (fun W hS => tcall hS (join_c (kcom (byt a) (byt c)) (by simp only [cnt]; omega) W (GT_ext hG hS.ext) (TA.ext hC hS.ext) (TA.ext hA hS.ext)) rfl) ?_
  intro u_tj1
  refine MV ?_
  refine MZ fun W hS => ?_
  go_upto_region 5 with fail
  refine RL hS ?_
  clear hS
  refine MV ?_
  refine MW ?_ (v := .int .i64 (((kcom (byt a) (byt c) : Nat) : Int) - 1)) (hv := by intro W; go_simp; (try simp only [IntKind.wrap_i64]); (try omega))
  refine MV ?_
  refine MZ fun W hS => ?_
  go_wp2_with fail
  go_loopw [8, 9] (fun uv ii wr => ∃ (T1 : TR) (u : Value) (m : Nat), (m ≤ kcom (byt a) (byt c)) ∧ (chain c d m T1 = chain c d (kcom (byt a) (byt c)) (.node (kcom (byt a) (byt c)) (.leaf c y) (.leaf a x))) ∧ (full T1) ∧ (anyK T1 = c) ∧ (cnt T1 = 2) ∧ (u = uv) ∧ (ii = .int .i64 ((m : Int) - 1)) ∧ SH [] w wr [.t 151 (fun W => TA W T1 u)])
   (fun uv ii _ => (intOf ii + 1).toNat)
  case atStart => exact ⟨(.node (kcom (byt a) (byt c)) (.leaf c y) (.leaf a x)), u_tj1, kcom (byt a) (byt c), Nat.le_refl _, rfl, trivial, rfl, rfl, rfl, by go_num, hS⟩
  clear hS
  case round =>
   obtain ⟨T1, u, m, hm, hch, hf, hk, hc2, rfl, rfl, hS⟩ := hrel
   by_cases hmd : d < m
   ·
    have _f := hmd
    obtain ⟨m, rfl⟩ : ∃ m1, m = m1 + 1 := ⟨m - 1, by omega⟩
    go_upto_region 6 with fail
    refine RL hS ?_
    clear hS
    refine MV ?_
    refine MV ?_
    refine MW ?_ (v := .bool true) (hv := by intro W; go_simp; omega)
    refine MZ fun W hS => ?_
    by_cases hz : kb c m = 0
    ·
     have _f := hz
     go_upto_region 8 with fail
     refine RL hS ?_
     clear hS
     refine MV ?_
     refine MC (v := .agg (arrK .u8 32 (byt c))) (fun W hS => (hk ▸ any_c hf W (hS.tt (i := 0) rfl))) ?_
     refine MW ?_ (v := .int .i64 ((m : Nat) : Int)) (hv := by intro W; go_simp; (try omega))
     refine MC (v := .int .i64 ((kb c m : Nat) : Int)) (fun W hS => bit_c c m (by omega) W) ?_
     refine MW ?_ (v := .bool true) (hv := by intro W; go_simp; (try simp [hz]))
     refine MZ fun W hS => ?_
     go_upto_region 9 with fail
     refine RL hS ?_
     clear hS
     refine MW ?_ (v := .int .i64 ((m : Nat) : Int)) (hv := by intro W; go_simp; (try omega))
     refine MV ?_
     refine ME (fun W hS => tcall hS (join_c m (by simp only [cnt]; omega) W (GT_ext hG hS.ext) (hS.tt (i := 0) rfl) (show TA W .nil nlp from rfl)) rfl) ?_
     intro u_tj2
     refine MV ?_
     refine MZ fun W hS => ?_
     go_upto_region 7 with fail
     refine RL hS ?_
     clear hS
     refine MV ?_
     refine MW ?_ (v := .int .i64 ((m : Int) - 1)) (hv := by intro W; go_simp; (try simp only [IntKind.wrap_i64]); (try omega))
     refine MV ?_
     refine MZ fun W hS => ?_
     go_wp2
     go_roundw
     case rel => exact ⟨(.node m T1 .nil), u_tj2, m, by omega, (by rw [← hch, chain_1 (by omega), if_pos hz]), (by rw [full_l (full_ne hf)]; exact hf), (by rw [anyK_l (full_ne hf)]; exact hk), (by show cnt T1 + 0 = 2; omega), rfl, by go_num, (hS.pick [0])⟩
     case measure => first | (simp [intOf]; done) | (simp [intOf]; omega)
    ·
     have _f := hz
     go_upto_region 8 with fail
     refine RL hS ?_
     clear hS
     refine MV ?_
     refine MC (v := .agg (arrK .u8 32 (byt c))) (fun W hS => (hk ▸ any_c hf W (hS.tt (i := 0) rfl))) ?_
     refine MW ?_ (v := .int .i64 ((m : Nat) : Int)) (hv := by intro W; go_simp; (try omega))
     refine MC (v := .int .i64 ((kb c m : Nat) : Int)) (fun W hS => bit_c c m (by omega) W) ?_
     refine MW ?_ (v := .bool false) (hv := by intro W; go_simp; (try omega))
     refine MZ fun W hS => ?_
     go_upto_region 10 with fail
     refine RL hS ?_
     clear hS
     refine MW ?_ (v := .int .i64 ((m : Nat) : Int)) (hv := by intro W; go_simp; (try omega))
     refine MV ?_
     refine ME (fun W hS => tcall hS (join_c m (by simp only [cnt]; omega) W (GT_ext hG hS.ext) (show TA W .nil nlp from rfl) (hS.tt (i := 0) rfl)) rfl) ?_
     intro u_tj3
     refine MV ?_
     refine MZ fun W hS => ?_
     go_upto_region 7 with fail
     refine RL hS ?_
     clear hS
     refine MV ?_
     refine MW ?_ (v := .int .i64 ((m : Int) - 1)) (hv := by intro W; go_simp; (try simp only [IntKind.wrap_i64]); (try omega))
     refine MV ?_
     refine MZ fun W hS => ?_
     go_wp2
     go_roundw
     case rel => exact ⟨(.node m .nil T1), u_tj3, m, by omega, (by rw [← hch, chain_1 (by omega), if_neg hz]), hf, hk, (by show 0 + cnt T1 = 2; omega), rfl, by go_num, (hS.pick [0])⟩
     case measure => first | (simp [intOf]; done) | (simp [intOf]; omega)
   ·
    have _f := hmd
    go_upto_region 6 with fail
    refine RL hS ?_
    clear hS
    refine MV ?_
    refine MV ?_
    refine MW ?_ (v := .bool false) (hv := by intro W; go_simp; omega)
    refine MZ fun W hS => ?_
    go_wp2
    exact bodyPost_ret (v := u) (by simp only [results, Tryz.results162]; go_simp) rfl ⟨_, rfl, hS.ext, (by have h_ := hS.tt (i := 0) rfl; rw [show partT a x c y d = T1 from (by unfold partT; rw [if_pos hb]; rw [← hch, chain_0 (by omega)])]; exact h_)⟩
 ·
  have _f := hb
  go_upto_region 2 with fail
  refine RL hS ?_
  clear hS
  refine MV ?_
  refine MV ?_
  refine MV ?_
  refine MV ?_
  refine MF (v := .agg (arrK .u8 32 (byt a))) (fun W hS => run_atrow (vs := (arrK .u8 32 (byt a)).toList) rfl rfl (fun i v hv => by rw [blk_cell (blk_step hB1 hS.ext)]; exact nd_key i v (by simpa using hv)) (by kernel_rfl) (by first | kernel_rfl | (simp only [Array.length_toList]; rw [arrK_size]; kernel_rfl))) ?_
  refine MV ?_
  refine MC (v := .int .i64 ((kb a (kcom (byt a) (byt c)) : Nat) : Int)) (fun W hS => bit_c a (kcom (byt a) (byt c)) (by omega) W) ?_
  refine MW ?_ (v := .bool false) (hv := by intro W; go_simp; (try omega))
  refine MZ fun W hS => ?_
  go_upto_region 4 with fail
  refine RL hS ?_
  clear hS
  refine MV ?_
  refine MV ?_
  refine MV ?_
  refine ME (fun W hS => tcall hS (join_c (kcom (byt a) (byt c)) (by simp only [cnt]; omega) W (GT_ext hG hS.ext) (TA.ext hA hS.ext) (TA.ext hC hS.ext)) rfl) ?_
  intro u_tj4
  refine MV ?_
  refine MZ fun W hS => ?_
  go_upto_region 5 with fail
  refine RL hS ?_
  clear hS
  refine MV ?_
  refine MW ?_ (v := .int .i64 (((kcom (byt a) (byt c) : Nat) : Int) - 1)) (hv := by intro W; go_simp; (try simp only [IntKind.wrap_i64]); (try omega))
  refine MV ?_
  refine MZ fun W hS => ?_
  go_wp2_with fail
  go_loopw [8, 9] (fun uv ii wr => ∃ (T1 : TR) (u : Value) (m : Nat), (m ≤ kcom (byt a) (byt c)) ∧ (chain a d m T1 = chain a d (kcom (byt a) (byt c)) (.node (kcom (byt a) (byt c)) (.leaf a x) (.leaf c y))) ∧ (full T1) ∧ (anyK T1 = a) ∧ (cnt T1 = 2) ∧ (u = uv) ∧ (ii = .int .i64 ((m : Int) - 1)) ∧ SH [] w wr [.t 151 (fun W => TA W T1 u)])
   (fun uv ii _ => (intOf ii + 1).toNat)
  case atStart => exact ⟨(.node (kcom (byt a) (byt c)) (.leaf a x) (.leaf c y)), u_tj4, kcom (byt a) (byt c), Nat.le_refl _, rfl, trivial, rfl, rfl, rfl, by go_num, hS⟩
  clear hS
  case round =>
   obtain ⟨T1, u, m, hm, hch, hf, hk, hc2, rfl, rfl, hS⟩ := hrel
   by_cases hmd : d < m
   ·
    have _f := hmd
    obtain ⟨m, rfl⟩ : ∃ m1, m = m1 + 1 := ⟨m - 1, by omega⟩
    go_upto_region 6 with fail
    refine RL hS ?_
    clear hS
    refine MV ?_
    refine MV ?_
    refine MW ?_ (v := .bool true) (hv := by intro W; go_simp; omega)
    refine MZ fun W hS => ?_
    by_cases hz : kb a m = 0
    ·
     have _f := hz
     go_upto_region 8 with fail
     refine RL hS ?_
     clear hS
     refine MV ?_
     refine MC (v := .agg (arrK .u8 32 (byt a))) (fun W hS => (hk ▸ any_c hf W (hS.tt (i := 0) rfl))) ?_
     refine MW ?_ (v := .int .i64 ((m : Nat) : Int)) (hv := by intro W; go_simp; (try omega))
     refine MC (v := .int .i64 ((kb a m : Nat) : Int)) (fun W hS => bit_c a m (by omega) W) ?_
     refine MW ?_ (v := .bool true) (hv := by intro W; go_simp; (try simp [hz]))
     refine MZ fun W hS => ?_
     go_upto_region 9 with fail
     refine RL hS ?_
     clear hS
     refine MW ?_ (v := .int .i64 ((m : Nat) : Int)) (hv := by intro W; go_simp; (try omega))
     refine MV ?_
     refine ME (fun W hS => tcall hS (join_c m (by simp only [cnt]; omega) W (GT_ext hG hS.ext) (hS.tt (i := 0) rfl) (show TA W .nil nlp from rfl)) rfl) ?_
     intro u_tj5
     refine MV ?_
     refine MZ fun W hS => ?_
     go_upto_region 7 with fail
     refine RL hS ?_
     clear hS
     refine MV ?_
     refine MW ?_ (v := .int .i64 ((m : Int) - 1)) (hv := by intro W; go_simp; (try simp only [IntKind.wrap_i64]); (try omega))
     refine MV ?_
     refine MZ fun W hS => ?_
     go_wp2
     go_roundw
     case rel => exact ⟨(.node m T1 .nil), u_tj5, m, by omega, (by rw [← hch, chain_1 (by omega), if_pos hz]), (by rw [full_l (full_ne hf)]; exact hf), (by rw [anyK_l (full_ne hf)]; exact hk), (by show cnt T1 + 0 = 2; omega), rfl, by go_num, (hS.pick [0])⟩
     case measure => first | (simp [intOf]; done) | (simp [intOf]; omega)
    ·
     have _f := hz
     go_upto_region 8 with fail
     refine RL hS ?_
     clear hS
     refine MV ?_
     refine MC (v := .agg (arrK .u8 32 (byt a))) (fun W hS => (hk ▸ any_c hf W (hS.tt (i := 0) rfl))) ?_
     refine MW ?_ (v := .int .i64 ((m : Nat) : Int)) (hv := by intro W; go_simp; (try omega))
     refine MC (v := .int .i64 ((kb a m : Nat) : Int)) (fun W hS => bit_c a m (by omega) W) ?_
     refine MW ?_ (v := .bool false) (hv := by intro W; go_simp; (try omega))
     refine MZ fun W hS => ?_
     go_upto_region 10 with fail
     refine RL hS ?_
     clear hS
     refine MW ?_ (v := .int .i64 ((m : Nat) : Int)) (hv := by intro W; go_simp; (try omega))
     refine MV ?_
     refine ME (fun W hS => tcall hS (join_c m (by simp only [cnt]; omega) W (GT_ext hG hS.ext) (show TA W .nil nlp from rfl) (hS.tt (i := 0) rfl)) rfl) ?_
     intro u_tj6
     refine MV ?_
     refine MZ fun W hS => ?_
     go_upto_region 7 with fail
     refine RL hS ?_
     clear hS
     refine MV ?_
     refine MW ?_ (v := .int .i64 ((m : Int) - 1)) (hv := by intro W; go_simp; (try simp only [IntKind.wrap_i64]); (try omega))
     refine MV ?_
     refine MZ fun W hS => ?_
     go_wp2
     go_roundw
     case rel => exact ⟨(.node m .nil T1), u_tj6, m, by omega, (by rw [← hch, chain_1 (by omega), if_neg hz]), hf, hk, (by show 0 + cnt T1 = 2; omega), rfl, by go_num, (hS.pick [0])⟩
     case measure => first | (simp [intOf]; done) | (simp [intOf]; omega)
   ·
    have _f := hmd
    go_upto_region 6 with fail
    refine RL hS ?_
    clear hS
    refine MV ?_
    refine MV ?_
    refine MW ?_ (v := .bool false) (hv := by intro W; go_simp; omega)
    refine MZ fun W hS => ?_
    go_wp2
    exact bodyPost_ret (v := u) (by simp only [results, Tryz.results162]; go_simp) rfl ⟨_, rfl, hS.ext, (by have h_ := hS.tt (i := 0) rfl; rw [show partT a x c y d = T1 from (by unfold partT; rw [if_neg hb]; rw [← hch, chain_0 (by omega)])]; exact h_)⟩
end Go.Proofs.YtejkmhgkkibafaaGreatDoor

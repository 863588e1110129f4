/- Trees: a leaf more, leaf by leaf. Conditions: the tables hold their numbers; the keys and values have 256 bits; the depth and the count are below 2^60. Trees of leaves; whether a tree of one leaf has its sum; TreeSums. Conditions: the tables hold their numbers; the keys and values have 256 bits. -/
import Derived.Test.YtejkmhgkkibafaaGreatDoorTsE
import Derived.Test.YtejkmhgkkibafaaGreatDoorJ7
set_option linter.unusedSimpArgs false
set_option linter.unusedVariables false
namespace Go.Proofs.YtejkmhgkkibafaaGreatDoor
set_option maxHeartbeats 3000000
set_option maxRecDepth 100000
open Go.RowKit
attribute [local irreducible] wpList wpTr wpX
set_option linter.unusedSimpArgs false
theorem eqKey (A B : Nat) (hA : A < 2 ^ 256) (hB : B < 2 ^ 256) (w : World) : (Op.equalIn 10000 31 (.agg (arrK .u8 32 (byt A))) (.agg (arrK .u8 32 (byt B)))).run Tryz.prog w = .ok (decide (A = B)) w := by
 have h := run_equalIn_arr (P := Tryz.prog) w 9998 31 5 32 .u8 (arrK .u8 32 (byt A)) (arrK .u8 32 (byt B)) (byt A) (byt B) Tryz.underlying31 Tryz.underlying5 (by kernel_rfl)
  (fun i hi => arrK_get _ _ _ _ hi) (fun i hi => arrK_get _ _ _ _ hi)
 rw [h]
 congr 1
 rw [Bool.eq_iff_iff, eqArr_true, decide_eq_true_iff]
 exact ⟨byt_inj hA hB, fun h => by subst h; intro _ _; rfl⟩
theorem part_t {q : Prop} {a x c y : Nat} {u1 u2 : Value} (d : Nat) (hd_ : d < 4611686018427387904) (w : World) (hG : GT q w) (h1 : TA w (.leaf a x) u1) (h2 : TA w (.leaf c y) u2) :
  Calls Tryz.prog 162 #[u1, u2, .int .i64 (d : Int)] w fun e w' => TRet (partT a x c y d) w w' e := by
 obtain ⟨b1, rfl, hB1, ha, hx⟩ := h1
 obtain ⟨b2, rfl, hB2, hc, hy⟩ := h2
 exact part_c ha hx hc hy d hd_ w hG hB1 hB2
attribute [local irreducible] hs4 sE sL sN

theorem put_nil {q : Prop} {k v : Nat} (hk : k < 2 ^ 256) (hv : v < 2 ^ 256) (d : Nat) (w : World) (hG : GT q w) :
  Calls Tryz.prog 129 #[nlp, .agg (lf k v), .int .i64 (d : Int)] w fun e w' => TRet (putT k v .nil d) w w' e := by
 have hS := SH.nil [] w
 go_enter Tryz.func129, Tryz.ntmps129
 go_upto_region 0 with fail
 refine RL hS ?_
 clear hS
 refine MN (z := lf k v) (t := 51) ?_
 intro p4_1
 refine MV ?_
 refine MZ fun W hS => ?_
 go_upto_region 3 with fail
 refine RL hS ?_
 clear hS
 refine ML 0 ?_ (hs := by rw [lf_size]; kernel_rfl)
 refine ME (fun W hS => tcall hS (one_c hk hv W (GT_ext hG hS.ext)) rfl) ?_
 intro u_to2
 refine MV ?_
 refine MZ fun W hS => ?_
 go_wp2
 exact bodyPost_ret (v := u_to2) (by simp only [results, Tryz.results129]; go_simp) rfl ⟨_, rfl, hS.ext, (by exact hS.tt (i := 0) rfl)⟩
theorem put_eq {q : Prop} {k v : Nat} (hk : k < 2 ^ 256) (hv : v < 2 ^ 256) {a x b1 : Nat} (ha : a < 2 ^ 256) (hx : x < 2 ^ 256) (hak : a = k) (d : Nat) (w : World) (hG : GT q w) (hB1 : Blk w b1 (ndc a x nlp nlp false (sL a x) 1) 151) :
  Calls Tryz.prog 129 #[ptr b1, .agg (lf k v), .int .i64 (d : Int)] w fun e w' => TRet (putT k v (.leaf a x) d) w w' e := by
 have hS := SH.nil [] w
 have hA : TA w (.leaf a x) (ptr b1) := TA.leaf' hB1 ha hx
 go_enter Tryz.func129, Tryz.ntmps129
 go_upto_region 0 with fail
 refine RL hS ?_
 clear hS
 refine MN (z := lf k v) (t := 51) ?_
 intro p4_1
 refine MV ?_
 refine MZ fun W hS => ?_
 go_upto_region 2 with fail
 refine RTh (.q 0 (.q 1 (.q 2 (.q 3 (.q 4 (.q 5 (.q 6 (.q 7 (.q 8 (.q 9 (.q 10 (.q 11 (.q 12 (.q 13 (.q 14 (.q 15 .z)))))))))))))))) hS ?_
 clear hS
 refine TV ?_
 refine TV ?_
 refine TV ?_
 refine TF (v := .bool false) rfl (fun W hS => run_at rfl rfl (by rw [blk_cell (blk_step hB1 hS.ext)]; exact nd_sp) (by kernel_rfl)) ?_
 refine TW ?_ (v := .bool true)
 refine TW ?_ (v := .bool true)
 refine TV ?_
 refine TV ?_
 refine TV ?_
 refine TV ?_
 refine TF (v := .agg (arrK .u8 32 (byt a))) rfl (fun W hS => run_atrow (vs := (arrK .u8 32 (byt a)).toList) rfl rfl (fun i v hv => by rw [blk_cell (blk_step hB1 hS.ext)]; exact nd_key i v (by simpa using hv)) (by kernel_rfl) (by first | kernel_rfl | (simp only [Array.length_toList]; rw [arrK_size]; kernel_rfl))) ?_
 refine TV ?_
 refine Tl 0 lf_k ?_
 refine TW ?_ (v := .bool true) (hv := fun _ => run_eqlA ((fun w => (eqKey a k ha hk w).trans (by rw [decide_eq_true hak])) _) (by kernel_rfl) rfl rfl rfl)
 refine TW ?_ (v := .bool true)
 refine TW ?_ (v := .bool true)
 refine TZ (fun _ h => h) fun W hS => ?_
 go_upto_region 3 with fail
 refine RL hS ?_
 clear hS
 refine ML 0 ?_ (hs := by rw [lf_size]; kernel_rfl)
 refine ME (fun W hS => tcall hS (one_c hk hv W (GT_ext hG hS.ext)) rfl) ?_
 intro u_to2
 refine MV ?_
 refine MZ fun W hS => ?_
 go_wp2
 exact bodyPost_ret (v := u_to2) (by simp only [results, Tryz.results129]; go_simp) rfl ⟨_, rfl, hS.ext, (by rw [show putT k v (.leaf a x) d = .leaf k v from if_pos hak]; exact hS.tt (i := 0) rfl)⟩
theorem put_ne {q : Prop} {k v : Nat} (hk : k < 2 ^ 256) (hv : v < 2 ^ 256) {a x b1 : Nat} (ha : a < 2 ^ 256) (hx : x < 2 ^ 256) (hak : ¬ a = k) (d : Nat) (hdl : d < 4611686018427387904) (w : World) (hG : GT q w) (hB1 : Blk w b1 (ndc a x nlp nlp false (sL a x) 1) 151) :
  Calls Tryz.prog 129 #[ptr b1, .agg (lf k v), .int .i64 (d : Int)] w fun e w' => TRet (putT k v (.leaf a x) d) w w' e := by
 have hS := SH.nil [] w
 have hA : TA w (.leaf a x) (ptr b1) := TA.leaf' hB1 ha hx
 go_enter Tryz.func129, Tryz.ntmps129
 go_upto_region 0 with fail
 refine RL hS ?_
 clear hS
 refine MN (z := lf k v) (t := 51) ?_
 intro p4_1
 refine MV ?_
 refine MZ fun W hS => ?_
 go_upto_region 2 with fail
 refine RTh (.q 0 (.q 1 (.q 2 (.q 3 (.q 4 (.q 5 (.q 6 (.q 7 (.q 8 (.q 9 (.q 10 (.q 11 (.q 12 (.q 13 (.q 14 (.q 15 .z)))))))))))))))) hS ?_
 clear hS
 refine TV ?_
 refine TV ?_
 refine TV ?_
 refine TF (v := .bool false) rfl (fun W hS => run_at rfl rfl (by rw [blk_cell (blk_step hB1 hS.ext)]; exact nd_sp) (by kernel_rfl)) ?_
 refine TW ?_ (v := .bool true)
 refine TW ?_ (v := .bool true)
 refine TV ?_
 refine TV ?_
 refine TV ?_
 refine TV ?_
 refine TF (v := .agg (arrK .u8 32 (byt a))) rfl (fun W hS => run_atrow (vs := (arrK .u8 32 (byt a)).toList) rfl rfl (fun i v hv => by rw [blk_cell (blk_step hB1 hS.ext)]; exact nd_key i v (by simpa using hv)) (by kernel_rfl) (by first | kernel_rfl | (simp only [Array.length_toList]; rw [arrK_size]; kernel_rfl))) ?_
 refine TV ?_
 refine Tl 0 lf_k ?_
 refine TW ?_ (v := .bool false) (hv := fun _ => run_eqlA ((fun w => (eqKey a k ha hk w).trans (by rw [decide_eq_false hak])) _) (by kernel_rfl) rfl rfl rfl)
 refine TW ?_ (v := .bool false)
 refine TW ?_ (v := .bool false)
 refine TZ (fun _ h => h) fun W hS => ?_
 go_upto_region 4 with fail
 refine RL hS ?_
 clear hS
 refine MV ?_
 refine MV ?_
 refine MV ?_
 refine MF (v := .bool false) (fun W hS => run_at rfl rfl (by rw [blk_cell (blk_step hB1 hS.ext)]; exact nd_sp) (by kernel_rfl)) ?_
 refine MW ?_ (v := .bool true)
 refine MW ?_ (v := .bool true)
 refine MZ fun W hS => ?_
 go_upto_region 5 with fail
 refine RL hS ?_
 clear hS
 refine MV ?_
 refine ML 0 ?_ (hs := by rw [lf_size]; kernel_rfl)
 refine ME (fun W hS => tcall hS (one_c hk hv W (GT_ext hG hS.ext)) rfl) ?_
 intro u_to2
 refine MV ?_
 refine ME (fun W hS => tcall hS (part_t d hdl W (GT_ext hG hS.ext) (TA.ext hA hS.ext) (hS.tt (i := 0) rfl)) rfl) ?_
 intro u_tp3
 refine MV ?_
 refine MZ fun W hS => ?_
 go_wp2
 exact bodyPost_ret (v := u_tp3) (by simp only [results, Tryz.results129]; go_simp) rfl ⟨_, rfl, hS.ext, (by rw [show putT k v (.leaf a x) d = partT a x k v d from if_neg hak]; exact hS.tt (i := 0) rfl)⟩
theorem put_0 {q : Prop} {k v : Nat} (hk : k < 2 ^ 256) (hv : v < 2 ^ 256) {e0 b : Nat} {l r : TR} {p0 p1 : Option Addr} (d : Nat) (hdl : d < 4611686018427387904) (hn : cnt l + cnt r < 2305843009213693952) (hb : kb k d = 0) (w : World) (hG : GT q w) (hB : Blk w b (ndc 0 0 (.pointer p0) (.pointer p1) true (rs (.node e0 l r)) (cnt l + cnt r)) 151) (hl : TA w l (.pointer p0)) (hr : TA w r (.pointer p1)) (ih : ∀ W, GT q W → TA W l (.pointer p0) → Calls Tryz.prog 129 #[.pointer p0, .agg (lf k v), .int .i64 ((d + 1 : Nat) : Int)] W fun e w' => TRet (putT k v l (d + 1)) W w' e) :
  Calls Tryz.prog 129 #[ptr b, .agg (lf k v), .int .i64 (d : Int)] w fun e w' => TRet (putT k v (.node e0 l r) d) w w' e := by
 have hS := SH.nil [] w
 go_enter Tryz.func129, Tryz.ntmps129
 go_upto_region 0 with fail
 refine RL hS ?_
 clear hS
 refine MN (z := lf k v) (t := 51) ?_
 intro p4_1
 refine MV ?_
 refine MZ fun W hS => ?_
 go_upto_region 2 with fail
 refine RTh (.q 0 (.q 1 (.q 2 (.q 3 (.q 4 (.q 5 (.q 6 (.q 7 (.q 8 (.q 9 (.q 10 (.q 11 (.q 12 (.q 13 (.q 14 (.q 15 .z)))))))))))))))) hS ?_
 clear hS
 refine TV ?_
 refine TV ?_
 refine TV ?_
 refine TF (v := .bool true) rfl (fun W hS => run_at rfl rfl (by rw [blk_cell (blk_step hB hS.ext)]; exact nd_sp) (by kernel_rfl)) ?_
 refine TW ?_ (v := .bool false)
 refine TW ?_ (v := .bool false)
 refine TS ?_
 refine TS ?_
 refine TS ?_
 refine TS ?_
 refine TS ?_
 refine TS ?_
 refine TS ?_
 refine TS ?_
 refine TW ?_ (v := .bool false)
 refine TW ?_ (v := .bool false)
 refine TZ (fun _ h => h) fun W hS => ?_
 go_upto_region 4 with fail
 refine RL hS ?_
 clear hS
 refine MV ?_
 refine MV ?_
 refine MV ?_
 refine MF (v := .bool true) (fun W hS => run_at rfl rfl (by rw [blk_cell (blk_step hB hS.ext)]; exact nd_sp) (by kernel_rfl)) ?_
 refine MW ?_ (v := .bool false)
 refine MW ?_ (v := .bool false)
 refine MZ fun W hS => ?_
 go_upto_region 6 with fail
 refine RL hS ?_
 clear hS
 refine MV ?_
 refine MV ?_
 refine MV ?_
 refine MF (v := .agg #[(.pointer p0), (.pointer p1)]) (fun W hS => run_atrow (vs := (#[(.pointer p0), (.pointer p1)]).toList) rfl rfl (fun i v hv => by rw [blk_cell (blk_step hB hS.ext)]; exact nd_sides i v (by simpa using hv)) (by kernel_rfl) (by kernel_rfl)) ?_
 refine MN (z := #[.pointer none, .pointer none]) (t := 149) ?_
 intro p7_2
 refine MR 0 ?_ 
 refine MZ fun W hS => ?_
 go_upto_region 7 with fail
 refine RL hS ?_
 clear hS
 refine MV ?_
 refine Ml 1 lf_k ?_
 refine MV ?_
 refine MC (v := .int .i64 0) (fun W hS => (hb ▸ bit_c k d hdl W)) ?_
 refine MW ?_ (v := .int .i64 0)
 refine MZ fun W hS => ?_
 go_upto_region 8 with fail
 refine RTp [1] (.q 0 (.q 1 (.q 2 (.q 4 (.q 5 (.q 6 (.e 3 (.e 7 (.q 8 (.e 9 .z)))))))))) hS ?_
 clear hS
 refine TW ?_ (v := .int .i64 0)
 refine TW ?_ (v := .int .i64 0)
 refine TW ?_ (v := .pointer (some ⟨p7_2, 0, none⟩)) (hv := fun _ => run_ixarrn (m := 2) (k := 1) (j := 0) (off := 0) (by decide) Tryz.underlying149 (by kernel_rfl) rfl rfl rfl)
 refine TL 0 ?_ (hs := by rw [lf_size]; kernel_rfl)
 refine TV ?_
 refine TW ?_ (v := .int .i64 ((d + 1 : Nat) : Int)) (hv := by intro W; go_simp; (try simp only [IntKind.wrap_i64]); omega)
 refine TE (fun _ h => h.pick [1]) ?_
 refine MG 0 ?_ (v := .pointer p0)
 refine TNp [1] [0] ?_
 refine TE (fun _ h => h.pick [1]) ?_
 refine ME (fun W hS => tcall hS (ih W (GT_ext hG hS.ext) (TA.ext hl hS.ext)) rfl) ?_
 intro u_tq3
 refine TNp [0, 2] [1] ?_
 refine TW ?_ (v := .pointer (some ⟨p7_2, 0, none⟩)) (hv := fun _ => run_ixarrn (m := 2) (k := 1) (j := 0) (off := 0) (by decide) Tryz.underlying149 (by kernel_rfl) rfl rfl rfl)
 refine TE (fun _ h => h.pick [0, 2]) ?_
 refine MP 1 (v := u_tq3) ?_ (hv := fun W hS => TA.one (hS.tt (i := 0) rfl))
 refine TNp [0, 2] [0, 1] ?_
 refine TZ (fun _ h => h.pick [0, 2]) fun W hS => ?_
 go_upto_region 9 with fail
 refine RL hS ?_
 clear hS
 refine MV ?_
 refine MW ?_ (v := .pointer (some ⟨p7_2, 0, none⟩)) (hv := fun _ => run_ixarrn (m := 2) (k := 1) (j := 0) (off := 0) (by decide) Tryz.underlying149 (by kernel_rfl) rfl rfl rfl)
 refine MG 1 ?_ (v := u_tq3)
 refine MW ?_ (v := .pointer (some ⟨p7_2, 1, none⟩)) (hv := fun _ => run_ixarrn (m := 2) (k := 1) (j := 1) (off := 0) (by decide) Tryz.underlying149 (by kernel_rfl) rfl rfl rfl)
 refine MG 1 ?_ (v := .pointer p1)
 refine ME (fun W hS => tcall hS (join_c d (by have h1_ := putT_cnt k v l (d + 1); have h2_ := putT_cnt k v r (d + 1); omega) W (GT_ext hG hS.ext) (hS.tt (i := 0) rfl) (TA.ext hr hS.ext)) rfl) ?_
 intro u_tj4
 refine MV ?_
 refine MZ fun W hS => ?_
 go_wp2
 exact bodyPost_ret (v := u_tj4) (by simp only [results, Tryz.results129]; go_simp) rfl ⟨_, rfl, hS.ext, (by rw [show putT k v (.node e0 l r) d = .node d (putT k v l (d + 1)) r from if_pos hb]; exact hS.tt (i := 0) rfl)⟩
theorem put_1 {q : Prop} {k v : Nat} (hk : k < 2 ^ 256) (hv : v < 2 ^ 256) {e0 b : Nat} {l r : TR} {p0 p1 : Option Addr} (d : Nat) (hdl : d < 4611686018427387904) (hn : cnt l + cnt r < 2305843009213693952) (hb : kb k d = 1) (w : World) (hG : GT q w) (hB : Blk w b (ndc 0 0 (.pointer p0) (.pointer p1) true (rs (.node e0 l r)) (cnt l + cnt r)) 151) (hl : TA w l (.pointer p0)) (hr : TA w r (.pointer p1)) (ih : ∀ W, GT q W → TA W r (.pointer p1) → Calls Tryz.prog 129 #[.pointer p1, .agg (lf k v), .int .i64 ((d + 1 : Nat) : Int)] W fun e w' => TRet (putT k v r (d + 1)) W w' e) :
  Calls Tryz.prog 129 #[ptr b, .agg (lf k v), .int .i64 (d : Int)] w fun e w' => TRet (putT k v (.node e0 l r) d) w w' e := by
 have hS := SH.nil [] w
 go_enter Tryz.func129, Tryz.ntmps129
 go_upto_region 0 with fail
 refine RL hS ?_
 clear hS
 refine MN (z := lf k v) (t := 51) ?_
 intro p4_1
 refine MV ?_
 refine MZ fun W hS => ?_
 go_upto_region 2 with fail
 refine RTh (.q 0 (.q 1 (.q 2 (.q 3 (.q 4 (.q 5 (.q 6 (.q 7 (.q 8 (.q 9 (.q 10 (.q 11 (.q 12 (.q 13 (.q 14 (.q 15 .z)))))))))))))))) hS ?_
 clear hS
 refine TV ?_
 refine TV ?_
 refine TV ?_
 refine TF (v := .bool true) rfl (fun W hS => run_at rfl rfl (by rw [blk_cell (blk_step hB hS.ext)]; exact nd_sp) (by kernel_rfl)) ?_
 refine TW ?_ (v := .bool false)
 refine TW ?_ (v := .bool false)
 refine TS ?_
 refine TS ?_
 refine TS ?_
 refine TS ?_
 refine TS ?_
 refine TS ?_
 refine TS ?_
 refine TS ?_
 refine TW ?_ (v := .bool false)
 refine TW ?_ (v := .bool false)
 refine TZ (fun _ h => h) fun W hS => ?_
 go_upto_region 4 with fail
 refine RL hS ?_
 clear hS
 refine MV ?_
 refine MV ?_
 refine MV ?_
 refine MF (v := .bool true) (fun W hS => run_at rfl rfl (by rw [blk_cell (blk_step hB hS.ext)]; exact nd_sp) (by kernel_rfl)) ?_
 refine MW ?_ (v := .bool false)
 refine MW ?_ (v := .bool false)
 refine MZ fun W hS => ?_
 go_upto_region 6 with fail
 refine RL hS ?_
 clear hS
 refine MV ?_
 refine MV ?_
 refine MV ?_
 refine MF (v := .agg #[(.pointer p0), (.pointer p1)]) (fun W hS => run_atrow (vs := (#[(.pointer p0), (.pointer p1)]).toList) rfl rfl (fun i v hv => by rw [blk_cell (blk_step hB hS.ext)]; exact nd_sides i v (by simpa using hv)) (by kernel_rfl) (by kernel_rfl)) ?_
 refine MN (z := #[.pointer none, .pointer none]) (t := 149) ?_
 intro p7_2
 refine MR 0 ?_ 
 refine MZ fun W hS => ?_
 go_upto_region 7 with fail
 refine RL hS ?_
 clear hS
 refine MV ?_
 refine Ml 1 lf_k ?_
 refine MV ?_
 refine MC (v := .int .i64 1) (fun W hS => (hb ▸ bit_c k d hdl W)) ?_
 refine MW ?_ (v := .int .i64 1)
 refine MZ fun W hS => ?_
 go_upto_region 8 with fail
 refine RTp [1] (.q 0 (.q 1 (.q 2 (.q 4 (.q 5 (.q 6 (.e 3 (.e 7 (.q 8 (.e 9 .z)))))))))) hS ?_
 clear hS
 refine TW ?_ (v := .int .i64 1)
 refine TW ?_ (v := .int .i64 1)
 refine TW ?_ (v := .pointer (some ⟨p7_2, 1, none⟩)) (hv := fun _ => run_ixarrn (m := 2) (k := 1) (j := 1) (off := 0) (by decide) Tryz.underlying149 (by kernel_rfl) rfl rfl rfl)
 refine TL 0 ?_ (hs := by rw [lf_size]; kernel_rfl)
 refine TV ?_
 refine TW ?_ (v := .int .i64 ((d + 1 : Nat) : Int)) (hv := by intro W; go_simp; (try simp only [IntKind.wrap_i64]); omega)
 refine TE (fun _ h => h.pick [1]) ?_
 refine MG 0 ?_ (v := .pointer p1)
 refine TNp [1] [0] ?_
 refine TE (fun _ h => h.pick [1]) ?_
 refine ME (fun W hS => tcall hS (ih W (GT_ext hG hS.ext) (TA.ext hr hS.ext)) rfl) ?_
 intro u_tq3
 refine TNp [0, 2] [1] ?_
 refine TW ?_ (v := .pointer (some ⟨p7_2, 1, none⟩)) (hv := fun _ => run_ixarrn (m := 2) (k := 1) (j := 1) (off := 0) (by decide) Tryz.underlying149 (by kernel_rfl) rfl rfl rfl)
 refine TE (fun _ h => h.pick [0, 2]) ?_
 refine MP 1 (v := u_tq3) ?_ (hv := fun W hS => TA.one (hS.tt (i := 0) rfl))
 refine TNp [0, 2] [0, 1] ?_
 refine TZ (fun _ h => h.pick [0, 2]) fun W hS => ?_
 go_upto_region 9 with fail
 refine RL hS ?_
 clear hS
 refine MV ?_
 refine MW ?_ (v := .pointer (some ⟨p7_2, 0, none⟩)) (hv := fun _ => run_ixarrn (m := 2) (k := 1) (j := 0) (off := 0) (by decide) Tryz.underlying149 (by kernel_rfl) rfl rfl rfl)
 refine MG 1 ?_ (v := .pointer p0)
 refine MW ?_ (v := .pointer (some ⟨p7_2, 1, none⟩)) (hv := fun _ => run_ixarrn (m := 2) (k := 1) (j := 1) (off := 0) (by decide) Tryz.underlying149 (by kernel_rfl) rfl rfl rfl)
 refine MG 1 ?_ (v := u_tq3)
 refine ME (fun W hS => tcall hS (join_c d (by have h1_ := putT_cnt k v l (d + 1); have h2_ := putT_cnt k v r (d + 1); omega) W (GT_ext hG hS.ext) (TA.ext hl hS.ext) (hS.tt (i := 0) rfl)) rfl) ?_
 intro u_tj4
 refine MV ?_
 refine MZ fun W hS => ?_
 go_wp2
 exact bodyPost_ret (v := u_tj4) (by simp only [results, Tryz.results129]; go_simp) rfl ⟨_, rfl, hS.ext, (by rw [show putT k v (.node e0 l r) d = .node d l (putT k v r (d + 1)) from if_neg (by rw [hb]; decide)]; exact hS.tt (i := 0) rfl)⟩
theorem put_c {q : Prop} {k v : Nat} (hk : k < 2 ^ 256) (hv : v < 2 ^ 256) : ∀ {T : TR} {u : Value} (d : Nat), d + tsz T < 4611686018427387904 → cnt T < 2305843009213693952 → ∀ (w : World), GT q w → TA w T u → Calls Tryz.prog 129 #[u, .agg (lf k v), .int .i64 (d : Int)] w fun e w' => TRet (putT k v T d) w w' e
 | .nil, _, d, _, _, w, hG, h => by rw [show _ = nlp from h]; exact put_nil hk hv d w hG
 | .leaf a x, _, d, hd_, _, w, hG, ⟨b1, h1, hB1, ha, hx⟩ => by
  subst h1
  by_cases hak : a = k
  ·
   exact put_eq hk hv ha hx hak d w hG hB1
  ·
   exact put_ne hk hv ha hx hak d (by omega) w hG hB1
 | .node e l r, _, d, hd_, hn, w, hG, ⟨b, s0, s1, h1, hB, hl, hr⟩ => by
  subst h1
  obtain ⟨p0, rfl⟩ := hl.pt
  obtain ⟨p1, rfl⟩ := hr.pt
  have hd2 : d + (1 + tsz l + tsz r) < 4611686018427387904 := hd_
  have hn2 : cnt l + cnt r < 2305843009213693952 := hn
  have hb2 := kb_le k d
  rcases Nat.lt_or_ge 0 (kb k d) with hb | hb
  ·
   exact put_1 hk hv d (by omega) hn2 (by omega) w hG hB hl hr fun W hG' h' => put_c hk hv (T := r) (d + 1) (by omega) (by omega) W hG' h'
  ·
   exact put_0 hk hv d (by omega) hn2 (by omega) w hG hB hl hr fun W hG' h' => put_c hk hv (T := l) (d + 1) (by omega) (by omega) W hG' h'
end Go.Proofs.YtejkmhgkkibafaaGreatDoor

set_option linter.unusedSimpArgs false
set_option linter.unusedVariables false
namespace Go.Proofs.YtejkmhgkkibafaaGreatDoor
set_option maxHeartbeats 3000000
set_option maxRecDepth 100000
open Go.RowKit
attribute [local irreducible] wpList wpTr wpX
set_option linter.unusedSimpArgs false
abbrev lfl (x : Nat × Nat) : List Value := (lf x.1 x.2).toList
/-- the tree of leaves -/
def ofT (ls : List (Nat × Nat)) : TR := ls.foldl (fun T x => putT x.1 x.2 T 0) .nil
theorem ofT_snoc (ls : List (Nat × Nat)) (x : Nat × Nat) : ofT (ls ++ [x]) = putT x.1 x.2 (ofT ls) 0 := by unfold ofT; rw [List.foldl_append]; rfl
theorem ofT_take {ls : List (Nat × Nat)} {i : Nat} {x : Nat × Nat} (h : ls[i]? = some x) : ofT (ls.take (i + 1)) = putT x.1 x.2 (ofT (ls.take i)) 0 := by
 rw [List.take_add_one, h]; exact ofT_snoc _ _
theorem chain_tsz (K d : Nat) : ∀ (m : Nat) (T : TR), tsz (chain K d m T) ≤ m + tsz T
 | 0, T => by show tsz T ≤ 0 + tsz T; omega
 | m + 1, T => by
  unfold chain
  split
  ·
   refine Nat.le_trans (chain_tsz K d m _) ?_
   split
   ·
    show m + (1 + tsz T + 0) ≤ _; omega
   ·
    show m + (1 + 0 + tsz T) ≤ _; omega
  ·
   omega
theorem partT_tsz (a x b y d : Nat) : tsz (partT a x b y d) ≤ 259 := by
 have h := kcom_le (byt a) (byt b)
 unfold partT
 split
 ·
  refine Nat.le_trans (chain_tsz _ _ _ _) ?_; show _ + (1 + 1 + 1) ≤ 259; omega
 ·
  refine Nat.le_trans (chain_tsz _ _ _ _) ?_; show _ + (1 + 1 + 1) ≤ 259; omega
theorem putT_tsz (k v : Nat) : ∀ (T : TR) (d : Nat), tsz (putT k v T d) ≤ tsz T + 260
 | .nil, _ => by show 1 ≤ 0 + 260; omega
 | .leaf a x, d => by
  show tsz (if a = k then TR.leaf k v else partT a x k v d) ≤ 1 + 260
  split
  ·
   show 1 ≤ 261; omega
  ·
   have := partT_tsz a x k v d; omega
 | .node e l r, d => by
  have h1 := putT_tsz k v l (d + 1)
  have h2 := putT_tsz k v r (d + 1)
  show tsz (if kb k d = 0 then TR.node d (putT k v l (d + 1)) r else TR.node d l (putT k v r (d + 1))) ≤ 1 + tsz l + tsz r + 260
  split
  ·
   show 1 + tsz (putT k v l (d + 1)) + tsz r ≤ _; omega
  ·
   show 1 + tsz l + tsz (putT k v r (d + 1)) ≤ _; omega
theorem ofT_le : ∀ (n : Nat) (ls : List (Nat × Nat)), tsz (ofT (ls.take n)) ≤ 260 * n ∧ cnt (ofT (ls.take n)) ≤ n
 | 0, ls => by rw [List.take_zero]; exact ⟨Nat.le_refl _, Nat.le_refl _⟩
 | n + 1, ls => by
  have ih := ofT_le n ls
  cases h : ls[n]? with
  | none => rw [List.take_add_one, h]; simp only [Option.toList_none, List.append_nil]; omega
  | some x =>
   rw [ofT_take h]
   have h1 := putT_tsz x.1 x.2 (ofT (ls.take n)) 0
   have h2 := putT_cnt x.1 x.2 (ofT (ls.take n)) 0
   omega
attribute [local irreducible] hs4 sE sL sN

theorem Put_c {q : Prop} {k v : Nat} (hk : k < 2 ^ 256) (hv : v < 2 ^ 256) {T : TR} {u : Value} (hz : tsz T < 4611686018427387904) (hcn : cnt T < 2305843009213693952) (w : World) (hG : GT q w) (h : TA w T u) :
  Calls Tryz.prog 87 #[u, .agg (lf k v)] w fun e w' => TRet (putT k v T 0) w w' e := by
 have hS := SH.nil [] w
 go_enter Tryz.func87, Tryz.ntmps87
 go_upto_region 0 with fail
 refine RL hS ?_
 clear hS
 refine MN (z := lf k v) (t := 51) ?_
 intro p3_1
 refine MV ?_
 refine MZ fun W hS => ?_
 go_upto_region 1 with fail
 refine RL hS ?_
 clear hS
 refine MV ?_
 refine ML 0 ?_ (hs := by rw [lf_size]; kernel_rfl)
 refine ME (fun W hS => tcall hS (put_c hk hv 0 (by omega) hcn W (GT_ext hG hS.ext) (TA.ext h hS.ext)) rfl) ?_
 intro u_tq2
 refine MV ?_
 refine MZ fun W hS => ?_
 go_wp2
 exact bodyPost_ret (v := u_tq2) (by simp only [results, Tryz.results87]; go_simp) rfl ⟨_, rfl, hS.ext, (by exact hS.tt (i := 0) rfl)⟩
end Go.Proofs.YtejkmhgkkibafaaGreatDoor

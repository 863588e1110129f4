/- A key's value; TreeStays. Conditions: keys and values have 256 bits; the tables hold their numbers. -/
import Derived.Test.YtndnlbinnhdmbaaDoorTsT
import Derived.Test.YtndnlbinnhdmbaaDoorTsU
import Derived.Test.YtndnlbinnhdmbaaDoorTsV
set_option linter.unusedSimpArgs false
set_option linter.unusedVariables false
namespace Go.Proofs.YtndnlbinnhdmbaaDoor
set_option maxHeartbeats 3000000
set_option maxRecDepth 100000
open Go.RowKit
attribute [local irreducible] wpList wpTr wpX
set_option linter.unusedSimpArgs false
/-- what Get answers, by the end of the way -/
def getR (E : TR) (n k : Nat) : Nat × Bool × Nat := match E with
 | .leaf a x => if a = k then (x, true, n + 1) else (0, false, n + 1)
 | _ => (0, false, n)
theorem way_can {k v : Nat} : ∀ (f d : Nat) {ws : List Lf}, f + d = 256 → Srt ws → Pre ws d → (k, v) ∈ ws → wayE (can f ws d) k d = .leaf k v
 | f, d, [], _, _, _, h => by cases h
 | f, d, [x], _, _, _, h => by rw [can_one, ← List.mem_singleton.1 h]; rfl
 | 0, d, x :: y :: r, hd, hs, hp, _ => by
  obtain rfl : d = 256 := by omega
  exact (no_256 hs hp).elim
 | f + 1, d, x :: y :: r, hd, hs, hp, h => by
  rw [can_two (by simp)]
  show (if kb k d = 0 then wayE _ k (d + 1) else wayE _ k (d + 1)) = _
  have hb := kb_le k d
  by_cases h0 : kb k d = 0
  ·
   rw [if_pos h0]; exact way_can f (d + 1) (by omega) (srt_side hs) (pre_side hp) (mem_rside.2 ⟨h, h0⟩)
  ·
   rw [if_neg h0]; exact way_can f (d + 1) (by omega) (srt_side hs) (pre_side hp) (mem_rside.2 ⟨h, by show kb k d = 1; omega⟩)
theorem way_put {X : List Lf} {x : Lf} (h : ok256 (X ++ [x])) : wayE (ofT (X ++ [x])) x.1 0 = .leaf x.1 x.2 := by
 rw [ofT_can h]
 refine way_can 256 0 rfl (rlist_spec h).2 (pre_0 _) ?_
 unfold rlist; rw [List.foldl_append]
 exact mem_rput_iff.2 (.inl rfl)
attribute [local irreducible] hs4 sE sL sN

theorem us_le {T : TR} {k : Nat} {us : List Value} (h : us.length = (wayN T k 0).length) (hz : tsz T ≤ 1099511627775) : us.length ≤ 1099511627775 := by have := wayN_len T k 0; omega
theorem get_c {T : TR} {u : Value} {k : Nat} (hk : k < 2 ^ 256) (hzT : tsz T ≤ 1099511627775) (w : World) (h : TA w T u) :
  Calls Tryd.prog 34 #[u, .agg (arrK .u8 32 (byt k))] w fun e w' => Ret (.tuple #[.agg (arrK .u8 32 (byt (getR (wayE T k 0) (wayN T k 0).length k).1)), .bool (getR (wayE T k 0) (wayN T k 0).length k).2.1, .int .i64 ((getR (wayE T k 0) (wayN T k 0).length k).2.2 : Nat)]) w w' e := by
 have hS := SH.nil [] w
 go_enter Tryd.func34, Tryd.ntmps34
 go_upto_region 0 with fail
 refine RL hS ?_
 clear hS
 refine MN (z := arrK .u8 32 (byt k)) (t := 28) ?_
 intro p3_1
 refine MN (z := arrK .u8 32 (byt 0)) (t := 22) ?_
 intro p4_2
 refine MW ?_ (v := .bool false)
 refine MW ?_ (v := .int .i64 0)
 refine MZ fun W hS => ?_
 go_upto_region 1 with fail
 refine RL hS ?_
 clear hS
 refine MV ?_
 refine ML 1 ?_
 refine ME (V := fun p : WP w T k => .tuple #[p.v, p.u]) (fun W hS => wcall hS (way_c w W hS.ext hzT h) rfl) ?_
 rintro ⟨nv, nu, us, hTe, hul, hus⟩
 dsimp only
 refine MV ?_
 refine MV ?_
 refine MV ?_
 refine MV ?_
 refine MV ?_
 refine MZ fun W hS => ?_
 rcases wayE_or T k 0 with he | ⟨a, x, he⟩
 ·
  have _f := True.intro
  have hle_ := us_le hul hzT
  rw [he] at hTe
  obtain rfl : _ = nlp := hTe
  go_upto_region 3 with fail
  refine RL hS ?_
  clear hS
  refine MW ?_ (v := .agg (arrK .u8 32 (byt 0))) (hv := by intro W; kernel_rfl)
  refine MV ?_
  refine MF (v := .int .i64 ((List.map one1 us).length : Int)) (fun W hS => run_lenR (hS.row (i := 0) rfl) rfl rfl Tryd.underlying107) ?_
  refine MR 1 ?_ 
  refine MW ?_ (v := .bool false)
  refine MV ?_
  refine MZ fun W hS => ?_
  go_wp2
  exact bodyPost_ret (res_c3 rfl rfl rfl rfl (hS.blk (i := 1) rfl) (by kernel_rfl) (by rw [arrK_size]; kernel_rfl)) rfl ⟨by rw [he, ← hul, show getR .nil us.length k = (0, false, us.length) from rfl]; rfl, hS.ext⟩
 ·
  have _f := True.intro
  have hle_ := us_le hul hzT
  rw [he] at hTe
  obtain ⟨b1, rfl, hB1, ha, hx⟩ := hTe
  by_cases hak : a = k
  ·
   have _f := hak
   go_upto_region 4 with fail
   refine RTh (.q 0 (.q 1 (.q 2 (.q 3 (.q 4 (.q 5 (.q 6 (.q 7 .z)))))))) hS ?_
   clear hS
   refine TV ?_
   refine TV ?_
   refine TV ?_
   refine TV ?_
   refine TF (v := .agg (arrK .u8 32 (byt a))) rfl (fun W hS => run_atsub rfl rfl (fun i v hv => by rw [blk_cell (blk_step hB1 hS.ext)]; exact nd_key i v hv) (by kernel_rfl) (by first | kernel_rfl | (rw [arrK_size]; kernel_rfl))) ?_
   refine TL 2 ?_
   refine TW ?_ (v := .bool false) (hv := fun _ => run_neqA ((fun w => (eqKey a k ha hk w).trans (by rw [decide_eq_true hak])) _) (by kernel_rfl) rfl rfl rfl)
   refine TW ?_ (v := .bool false)
   refine TZ (fun _ h => h) fun W hS => ?_
   go_upto_region 6 with fail
   refine RL hS ?_
   clear hS
   refine MV ?_
   refine MV ?_
   refine MV ?_
   refine MV ?_
   refine MF (v := .agg (arrK .u8 32 (byt x))) (fun W hS => run_atsub rfl rfl (fun i v hv => by rw [blk_cell (blk_step hB1 hS.ext)]; exact nd_val i v hv) (by kernel_rfl) (by first | kernel_rfl | (rw [arrK_size]; kernel_rfl))) ?_
   refine MV ?_
   refine MF (v := .int .i64 ((List.map one1 us).length : Int)) (fun W hS => run_lenR (hS.row (i := 0) rfl) rfl rfl Tryd.underlying107) ?_
   refine MW ?_ (v := .int .i64 ((us.length + 1 : Nat) : Int)) (hv := by intro W; go_simp; (try simp only [IntKind.wrap_i64]); omega)
   refine MR 1 ?_ 
   refine MW ?_ (v := .bool true)
   refine MV ?_
   refine MZ fun W hS => ?_
   go_wp2
   exact bodyPost_ret (res_c3 rfl rfl rfl rfl (hS.blk (i := 1) rfl) (by kernel_rfl) (by rw [arrK_size]; kernel_rfl)) rfl ⟨by rw [he, ← hul, show getR (.leaf a x) us.length k = (x, true, us.length + 1) from if_pos hak]; rfl, hS.ext⟩
  ·
   have _f := hak
   go_upto_region 4 with fail
   refine RTh (.q 0 (.q 1 (.q 2 (.q 3 (.q 4 (.q 5 (.q 6 (.q 7 .z)))))))) hS ?_
   clear hS
   refine TV ?_
   refine TV ?_
   refine TV ?_
   refine TV ?_
   refine TF (v := .agg (arrK .u8 32 (byt a))) rfl (fun W hS => run_atsub rfl rfl (fun i v hv => by rw [blk_cell (blk_step hB1 hS.ext)]; exact nd_key i v hv) (by kernel_rfl) (by first | kernel_rfl | (rw [arrK_size]; kernel_rfl))) ?_
   refine TL 2 ?_
   refine TW ?_ (v := .bool true) (hv := fun _ => run_neqA ((fun w => (eqKey a k ha hk w).trans (by rw [decide_eq_false hak])) _) (by kernel_rfl) rfl rfl rfl)
   refine TW ?_ (v := .bool true)
   refine TZ (fun _ h => h) fun W hS => ?_
   go_upto_region 5 with fail
   refine RL hS ?_
   clear hS
   refine MW ?_ (v := .agg (arrK .u8 32 (byt 0))) (hv := by intro W; kernel_rfl)
   refine MV ?_
   refine MF (v := .int .i64 ((List.map one1 us).length : Int)) (fun W hS => run_lenR (hS.row (i := 0) rfl) rfl rfl Tryd.underlying107) ?_
   refine MW ?_ (v := .int .i64 ((us.length + 1 : Nat) : Int)) (hv := by intro W; go_simp; (try simp only [IntKind.wrap_i64]); omega)
   refine MR 1 ?_ 
   refine MW ?_ (v := .bool false)
   refine MV ?_
   refine MZ fun W hS => ?_
   go_wp2
   exact bodyPost_ret (res_c3 rfl rfl rfl rfl (hS.blk (i := 1) rfl) (by kernel_rfl) (by rw [arrK_size]; kernel_rfl)) rfl ⟨by rw [he, ← hul, show getR (.leaf a x) us.length k = (0, false, us.length + 1) from if_neg hak]; rfl, hS.ext⟩
end Go.Proofs.YtndnlbinnhdmbaaDoor

/- wire: Seen. Conditions: memory holds what is written. -/
import Derived.Test.YtlbgelbhhibikaaWt
set_option linter.unusedSimpArgs false
set_option linter.unusedVariables false
namespace Go.Proofs.Ytlbgelbhhibikaa.Ww
set_option maxHeartbeats 6000000
set_option maxRecDepth 100000
open Go.RowKit
attribute [local irreducible] wpList wpTr wpX
set_option linter.unusedSimpArgs false
/-- no look -/
abbrev zFo : Fo := ⟨0, 0, 0, false, 0, [], 0, 0, [], false, 0, 0, 0, 0, 0, 0⟩
/-- are the bytes a look's? -/
def rok (l : List UInt8) : Bool := !rFB (l, 0) false && decide (enV (rFS (l, 0)) = 0)
theorem wright_a {r p : Nat} {v : Value} {s : RSt} {bad : Bool} (w : World) (hr : Blk w r #[.pointer (some ⟨p, 0, none⟩), .bool bad] 115) (hrd : Rdr w p v s.1 s.2) : Calls Try.prog 41 #[.pointer (some ⟨r, 0, none⟩)] w fun e w' => Ret (.bool (!bad && decide (enV s = 0))) w w' e := by
 cases bad with
 | true => exact wright_b w hr hrd
 | false => rw [Bool.not_false, Bool.true_and]; exact wright_c w hr hrd
/-- Seen's answer -/
def SnR (l : List UInt8) (w w' : World) (e : Ending) : Prop := (rok l = false ∧ Ret (.tuple #[.agg (foF zFo (.slice none 0 0) (.slice none 0 0)), .int .i64 2]) w w' e) ∨ (rok l = true ∧ ∃ x : Value × Value, e = .returned (.tuple #[.agg (foF (rFo (l, 0)) x.1 x.2), .int .i64 0]) ∧ SH [] w w' [.o x.1 (rFo (l, 0)).val, .r 27 32 x.2 ((rFo (l, 0)).ss.map b32l)])
attribute [local irreducible] lb be8 eI tB txL txB txV txS tkS byV nuV suV enV takeM flV flS rawV rawB pB2 rFS rFB

theorem zer_direct_Found : zer Try.prog 64 = some (some (agF [.c (.int .i64 0), .a 32 0, .a 80 0, .c (.bool false), .c (.int .i64 0), .c (.slice none 0 0), .a 32 0, .a 32 0, .c (.slice none 0 0), .c (.bool false), .a 32 0, .a 32 0, .a 32 0, .a 32 0, .a 32 0, .c (.int .i64 0)])) := by kernel_rfl
theorem plc_direct_Found : plc Try.prog 64 = some [(0, 1), (1, 32), (33, 80), (113, 1), (114, 1), (115, 1), (116, 32), (148, 32), (180, 66), (246, 32), (278, 32), (310, 32), (342, 1)] := by kernel_rfl
theorem seen_c {u : Value} {l : List UInt8} (hl : l.length ≤ 1000000) (w : World) (hs : Sl w u l) :
  Calls Try.prog 20 #[u] w fun e w' => SnR l w w' e := by
 have hb0 : ((l, 0) : RSt).1.length ≤ 1000000 := hl
 have hS := SH.nil [] w
 go_enter Try.func20, Try.ntmps20
 go_upto_region 0 with fail
 refine RL hS ?_
 clear hS
 refine MN (z := agF [.c (.int .i64 0), .a 32 0, .a 80 0, .c (.bool false), .c (.int .i64 0), .c (.slice none 0 0), .a 32 0, .a 32 0, .c (.slice none 0 0), .c (.bool false), .a 32 0, .a 32 0, .a 32 0, .a 32 0, .a 32 0, .c (.int .i64 0)]) (t := 64) ?_
 intro p2_1
 refine MW ?_ (v := .int .i64 0)
 refine MZ fun W hS => ?_
 go_upto_region 1 with fail
 refine RL hS ?_
 clear hS
 refine MV ?_
 refine ME (V := fun x : Nat × Nat × Value => .pointer (some ⟨x.1, 0, none⟩)) (fun W hS => ncallL hS (wread_c (by omega) W (sl_e hs hS.ext)) (fun _ => rfl)) ?_
 rintro ⟨r, p, rv⟩
 dsimp only
 refine MV ?_
 refine MZ fun W hS => ?_
 go_upto_region 2 with fail
 refine RL hS ?_
 clear hS
 refine MV ?_
 refine ME (V := fun x : { y : (Value × Value) × Value // Sub y.2 (rFS (l, 0)).1 (sb rv ((l, 0)).1) } => .agg (foF (rFo (l, 0)) x.1.1.1 x.1.1.2)) (fun W hS => wrcall (V := fun y : Value × Value => .agg (foF (rFo (l, 0)) y.1 y.2)) (X := fun y : Value × Value => [.o y.1 (txV 64 (rF5 (l, 0))), .r 27 32 y.2 (List.map b32l (takeM (rF8 (l, 0))).1.1)]) [0, 1, 2] [3] hS (fun hT => wrfound_c hb0 W hT) (fun _ _ => ⟨.inr ⟨rfl, rfl⟩, .inr ⟨rfl, rfl⟩, ⟨.inr ⟨rfl, rfl⟩, ⟨.inr ⟨rfl, rfl⟩, trivial⟩⟩⟩)) ?_
 rintro ⟨⟨⟨vv2, sv2⟩, rv2⟩, hs_2⟩
 dsimp only
 have hb_3 : (rFS (l, 0)).1.length ≤ 1000000 := Nat.le_trans (rFS_len _) hb0
 refine MT (H' := [.s rv2 ((rFS (l, 0)).1), .b r #[.pointer (some ⟨p, 0, none⟩), .bool (rFB (l, 0) false)] 115, .b p #[rv2, .int .i64 (rFS (l, 0)).2] 141, .o vv2 ((rFo (l, 0)).val), .r 27 32 sv2 (List.map b32l (rFo (l, 0)).ss), .b p2_1 (agF [.c (.int .i64 0), .a 32 0, .a 80 0, .c (.bool false), .c (.int .i64 0), .c (.slice none 0 0), .a 32 0, .a 32 0, .c (.slice none 0 0), .c (.bool false), .a 32 0, .a 32 0, .a 32 0, .a 32 0, .a 32 0, .c (.int .i64 0)]) 64]) (fun W hS => hS) ?_
 refine MFact (fun W hS => (hS.row (i := 4) rfl).cells) ?_
 intro hsc2
 refine MFact (fun W hS => sl_cells (hS.osl (i := 3) rfl)) ?_
 intro hvc2
 refine MN (z := agF [.c (.int .i64 0), .a 32 0, .a 80 0, .c (.bool false), .c (.int .i64 0), .c (.slice none 0 0), .a 32 0, .a 32 0, .c (.slice none 0 0), .c (.bool false), .a 32 0, .a 32 0, .a 32 0, .a 32 0, .a 32 0, .c (.int .i64 0)]) (t := 64) ?_
 intro p5_4
 refine MR 0 ?_ (hz := by rw [agF_size]; kernel_rfl) (hs := by first | (rw [agF_size, agF_size]; rfl) | rfl) (h1 := by exact (agF_one ⟨rfl, rfl, rfl, hvc2.2, hsc2.2, rfl, rfl, trivial⟩))
 refine MZ fun W hS => ?_
 rcases bool_or (rok l) with hr | hr
 ·
  have _f := True.intro
  go_upto_region 3 with fail
  refine RL hS ?_
  clear hS
  refine MV ?_
  refine MC (v := .bool (rok l)) (fun W hS => wright_a (s := rFS (l, 0)) (bad := rFB (l, 0) false) W (hS.blk (i := 2) rfl) (rdr_at hS (i := 3) rfl (j := 1) rfl)) ?_
  refine MW ?_ (v := .bool false) (hv := by intro W; go_simp; first | done | simp [hr])
  refine MZ fun W hS => ?_
  go_upto_region 5 with fail
  refine RL hS ?_
  clear hS
  refine ML 0 ?_ (hs := by rw [agF_size]; kernel_rfl)
  refine MR 6 ?_ (hz := by rw [agF_size]; kernel_rfl) (hs := by first | (rw [agF_size, agF_size]; rfl) | rfl) (h1 := by exact (agF_one ⟨rfl, rfl, rfl, hvc2.2, hsc2.2, rfl, rfl, trivial⟩))
  refine MW ?_ (v := .int .i64 0)
  refine MZ fun W hS => ?_
  go_wp2
  exact bodyPost_ret (res_c2 rfl rfl rfl (hS.blk (i := 6) rfl) (by kernel_rfl) (by rw [agF_size]; kernel_rfl)) rfl (show SnR _ _ _ _ from .inr ⟨hr, (vv2, sv2), rfl, hS.pick [4, 5]⟩)
 ·
  have _f := True.intro
  go_upto_region 3 with fail
  refine RL hS ?_
  clear hS
  refine MV ?_
  refine MC (v := .bool (rok l)) (fun W hS => wright_a (s := rFS (l, 0)) (bad := rFB (l, 0) false) W (hS.blk (i := 2) rfl) (rdr_at hS (i := 3) rfl (j := 1) rfl)) ?_
  refine MW ?_ (v := .bool true) (hv := by intro W; go_simp; first | done | simp [hr])
  refine MZ fun W hS => ?_
  go_upto_region 4 with fail
  refine RL hS ?_
  clear hS
  refine MF (v := .agg (agF [.c (.int .i64 0), .a 32 0, .a 80 0, .c (.bool false), .c (.int .i64 0), .c (.slice none 0 0), .a 32 0, .a 32 0, .c (.slice none 0 0), .c (.bool false), .a 32 0, .a 32 0, .a 32 0, .a 32 0, .a 32 0, .c (.int .i64 0)])) (fun W hS => run_bld rfl rfl zer_direct_Found plc_direct_Found fill_n) ?_
  refine MR 6 ?_ (hz := by rw [agF_size]; kernel_rfl) (hs := by first | (rw [agF_size, agF_size]; rfl) | rfl) (h1 := by exact (agF_one ⟨rfl, rfl, rfl, rfl, rfl, rfl, rfl, trivial⟩))
  refine MW ?_ (v := .int .i64 2)
  refine MZ fun W hS => ?_
  go_wp2
  exact bodyPost_ret (res_c2 rfl rfl rfl (hS.blk (i := 6) rfl) (by kernel_rfl) (by rw [agF_size]; kernel_rfl)) rfl (show SnR _ _ _ _ from .inl ⟨hr, rfl, hS.ext⟩)
end Go.Proofs.Ytlbgelbhhibikaa.Ww

/- wire: the program's Asked. Conditions: memory holds what is written. -/
import Derived.Test.YtlbgelbhhibikaaJ18
set_option linter.unusedSimpArgs false
set_option linter.unusedVariables false
namespace Go.Proofs.Ytlbgelbhhibikaa.Ww
set_option maxHeartbeats 1500000
set_option maxRecDepth 100000
open Go.RowKit
attribute [local irreducible] wpList wpTr wpX
set_option linter.unusedSimpArgs false
/-- no request -/
abbrev zRQ : Array Value := rqF (zQ 0) (.slice none 0 0) (.slice none 0 0) (.slice none 0 0) (.slice none 0 0)
def AkR (l : List UInt8) (w w' : World) (e : Ending) : Prop := (enV (aQ l).2 ≠ 0 ∧ Ret (.tuple #[.agg zRQ, .int .i64 2]) w w' e) ∨ (enV (aQ l).2 = 0 ∧ ∃ x : Value × Value × Value × Value, e = .returned (.tuple #[.agg (rqF (aQ l).1 x.1 x.2.1 x.2.2.1 x.2.2.2), .int .i64 0]) ∧ SH [] w w' [.o x.1 (aQ l).1.id, .o x.2.1 (aQ l).1.lab, .o x.2.2.1 (aQ l).1.val, .o x.2.2.2 (aQ l).1.bun])
attribute [local irreducible] lb be8 eI tB txL txB dtx dok txV txS tkS byV nuV suV enV

theorem asked_1 {u : Value} {l : List UInt8} (hl : l.length ≤ 1000000) (hk : byV (l, 0) = 1) (w : World) (hs : Sl w u l) :
  Calls Try.prog 14 #[u] w fun e w' => AkR l w w' e := by
 have hb0 : ((l, 0) : RSt).1.length ≤ 1000000 := hl
 have Hk := Lib.hid hk
 have hk1 : byV (l, 0) ≤ 1 := by omega
 have hk2 : 1 ≤ byV (l, 0) := by omega
 clear hk
 have hS := SH.nil [] w
 go_enter Try.func14, Try.ntmps14
 go_upto_region 0 with fail
 refine RL hS ?_
 clear hS
 refine MN (z := agF [.c (.int .i64 0), .c (.slice none 0 0), .a 32 0, .a 32 0, .c (.int .i64 0), .c (.int .i64 0), .c (.int .i64 0), .c (.int .i64 0), .c (.slice none 0 0), .c (.slice none 0 0), .c (.int .i64 0), .c (.int .i64 0), .c (.slice none 0 0)]) (t := 33) ?_
 intro p2_1
 refine MW ?_ (v := .int .i64 0)
 refine MZ fun W hS => ?_
 go_upto_region 1 with fail
 refine RL hS ?_
 clear hS
 refine MV ?_
 refine ME (V := fun x : Nat × Nat × Value => .pointer (some ⟨x.1, 0, none⟩)) (fun W hS => ncallL hS (wread_c (by omega) W (sl_e hs hS.ext)) (fun _ => rfl)) ?_
 rintro ⟨r, p, rv⟩
 dsimp only
 refine MV ?_
 refine MZ fun W hS => ?_
 go_upto_region 2 with fail
 refine RL hS ?_
 clear hS
 refine MV ?_
 refine MV ?_
 refine MV ?_
 refine MG 0 ?_ (v := .pointer (some ⟨p, 0, none⟩))
 refine ME (V := fun _ => .int .i64 (byV (l, 0) : Int)) (fun W hS => rdcall (i := 1) (j := 2) hS rfl rfl (fun hr => rbyte_t (s := (l, 0)) hr (by have := hb0; omega))) ?_
 rintro ⟨rv2, _⟩
 dsimp only
 refine MD 3 ?_
 have hb_3 : (tkS 1 (l, 0)).1.length ≤ 1000000 := Nat.le_trans (tkS_len _ _) hb0
 refine MF (v := .agg (agF [.c (.int .i64 (byV (l, 0) : Int)), .c (.slice none 0 0), .a 32 0, .a 32 0, .c (.int .i64 0), .c (.int .i64 0), .c (.int .i64 0), .c (.int .i64 0), .c (.slice none 0 0), .c (.slice none 0 0), .c (.int .i64 0), .c (.int .i64 0), .c (.slice none 0 0)])) (fun W hS => run_bld rfl rfl zer_wire_Request plc_wire_Request (fill_c fill_n (l' := [.c (.int .i64 (byV (l, 0) : Int)), .c (.slice none 0 0), .a 32 0, .a 32 0, .c (.int .i64 0), .c (.int .i64 0), .c (.int .i64 0), .c (.int .i64 0), .c (.slice none 0 0), .c (.slice none 0 0), .c (.int .i64 0), .c (.int .i64 0), .c (.slice none 0 0)]) (m := [.c (.int .i64 (byV (l, 0) : Int))]) (hv := rfl) (hs := agF_setp 0 1) (hp := rfl) (hn := rfl) (hb := by show 0 + 1 ≤ 75; decide))) ?_
 refine MN (z := agF [.c (.int .i64 0), .c (.slice none 0 0), .a 32 0, .a 32 0, .c (.int .i64 0), .c (.int .i64 0), .c (.int .i64 0), .c (.int .i64 0), .c (.slice none 0 0), .c (.slice none 0 0), .c (.int .i64 0), .c (.int .i64 0), .c (.slice none 0 0)]) (t := 33) ?_
 intro p5_4
 refine MR 0 ?_ (hz := by rw [agF_size]; kernel_rfl) (hs := by first | (rw [agF_size, agF_size]; rfl) | rfl) (h1 := by exact (agF_one ⟨rfl, rfl, rfl, rfl, rfl, rfl, rfl, rfl, rfl, rfl, rfl, trivial⟩))
 refine MZ fun W hS => ?_
 go_upto_region 3 with fail
 refine RL hS ?_
 clear hS
 refine MV ?_
 refine MG 0 ?_ (v := .int .i64 (byV (l, 0) : Int)) (hj := (agF_cel 0))
 refine MW ?_ (v := .bool false) (hv := by intro W; go_simp; first | done | omega | assumption)
 refine MW ?_ (v := .bool false)
 refine MV ?_
 refine MG 0 ?_ (v := .int .i64 (byV (l, 0) : Int)) (hj := (agF_cel 0))
 refine MW ?_ (v := .bool false) (hv := by intro W; go_simp; first | done | omega | assumption)
 refine MW ?_ (v := .bool false)
 refine MZ fun W hS => ?_
 go_upto_region 5 with fail
 refine RL hS ?_
 clear hS
 refine MV ?_
 refine MG 0 ?_ (v := .int .i64 (byV (l, 0) : Int)) (hj := (agF_cel 0))
 refine MW ?_ (v := .bool true) (hv := by intro W; go_simp; first | done | omega | assumption)
 refine MW ?_ (v := .bool true)
 refine MV ?_
 refine MG 0 ?_ (v := .int .i64 (byV (l, 0) : Int)) (hj := (agF_cel 0))
 refine MW ?_ (v := .bool true) (hv := by intro W; go_simp; first | done | omega | assumption)
 refine MW ?_ (v := .bool true)
 refine MZ fun W hS => ?_
 go_upto_region 6 with fail
 refine RL hS ?_
 clear hS
 refine MV ?_
 refine MV ?_
 refine MV ?_
 refine MG 2 ?_ (v := .pointer (some ⟨p, 0, none⟩))
 refine ME (V := fun x : Value × { u : Value // Sub u (txS 16 (tkS 1 (l, 0))).1 (sb rv2 (tkS 1 (l, 0)).1) } => x.1) (fun W hS => rdcallT (i := 3) (j := 1) (t := txV 16 (tkS 1 (l, 0))) hS rfl rfl (fun hr => rtext_t (s := tkS 1 (l, 0)) 16 hr (by have := hb_3; omega)) (fun _ _ => rfl)) ?_
 rintro ⟨ut5, rv5, _⟩
 dsimp only
 refine MD 3 ?_
 have hb_6 : (txS 16 (tkS 1 (l, 0))).1.length ≤ 1000000 := Nat.le_trans (txS_len _ _) hb_3
 refine MV ?_
 refine MFact (fun W hS => (sl_cells (hS.osl (i := 0) rfl)).2) ?_
 intro oc_tx57
 refine MP 2 (v := ut5) (cs' := agF [.c (.int .i64 (byV (l, 0) : Int)), .c ut5, .a 32 0, .a 32 0, .c (.int .i64 0), .c (.int .i64 0), .c (.int .i64 0), .c (.int .i64 0), .c (.slice none 0 0), .c (.slice none 0 0), .c (.int .i64 0), .c (.int .i64 0), .c (.slice none 0 0)]) ?_ (hs := by rw [agF_size]; show 1 < 75; decide) (hc := agF_setc 1) (hv := fun W hS => sl_cells (hS.osl (i := 0) rfl))
 refine MZ fun W hS => ?_
 go_upto_region 7 with fail
 refine RL hS ?_
 clear hS
 refine MV ?_
 refine MG 2 ?_ (v := .int .i64 (byV (l, 0) : Int)) (hj := (agF_cel 0))
 refine MZ fun W hS => ?_
 go_upto_region 8 with fail
 refine RL hS ?_
 clear hS
 refine MW ?_ (v := .bool true) (hv := by intro W; go_simp; first | done | omega | assumption)
 refine MW ?_ (v := .bool true)
 refine MZ fun W hS => ?_
 go_upto_region 9 with fail
 refine RTp [0, 3, 5] (.q 0 (.q 1 (.q 2 (.q 3 (.q 5 (.q 6 (.q 7 (.q 8 (.e 4 (.e 9 (.q 10 (.q 11 (.e 12 .z))))))))))))) hS ?_
 clear hS
 refine TV ?_
 refine TV ?_
 refine TV ?_
 refine TG 1 ?_ (v := .pointer (some ⟨p, 0, none⟩))
 refine TV ?_
 refine TV ?_
 refine TV ?_
 refine TG 1 ?_ (v := .pointer (some ⟨p, 0, none⟩))
 refine TE (fun _ h => h.pick [0, 3, 5]) ?_
 refine ME (V := fun _ => .agg (arrK .u8 32 (byt (suV (txS 16 (tkS 1 (l, 0))))))) (fun W hS => rdcall (i := 4) (j := 1) hS rfl rfl (fun hr => rsum_t (s := txS 16 (tkS 1 (l, 0))) hr (by have := hb_6; omega))) ?_
 rintro ⟨rv8, _⟩
 dsimp only
 refine MD 2 ?_
 have hb_9 : (tkS 32 (txS 16 (tkS 1 (l, 0)))).1.length ≤ 1000000 := Nat.le_trans (tkS_len _ _) hb_6
 refine TNp [1, 3, 5] [0, 1, 2] ?_
 refine TE (fun _ h => h.pick [1, 3, 5]) ?_
 refine ME (V := fun _ => .agg (arrK .u8 32 (byt (suV (tkS 32 (txS 16 (tkS 1 (l, 0)))))))) (fun W hS => rdcall (i := 4) (j := 0) hS rfl rfl (fun hr => rsum_t (s := tkS 32 (txS 16 (tkS 1 (l, 0)))) hr (by have := hb_9; omega))) ?_
 rintro ⟨rv10, _⟩
 dsimp only
 refine MD 1 ?_
 have hb_11 : (tkS 32 (tkS 32 (txS 16 (tkS 1 (l, 0))))).1.length ≤ 1000000 := Nat.le_trans (tkS_len _ _) hb_9
 refine TNp [1, 3, 5] [0, 1, 2] ?_
 refine TF (v := .agg (agF [.a 32 (suV (txS 16 (tkS 1 (l, 0)))), .a 32 (suV (tkS 32 (txS 16 (tkS 1 (l, 0)))))])) rfl (fun W hS => run_bld rfl rfl zer_direct_Keys plc_direct_Keys (fill_c (fill_c fill_n (l' := [.a 32 (suV (txS 16 (tkS 1 (l, 0)))), .a 32 (suV (tkS 32 (txS 16 (tkS 1 (l, 0)))))]) (m := [.a 32 (suV (tkS 32 (txS 16 (tkS 1 (l, 0)))))]) (hv := (agF_a _ _).symm) (hs := agF_setp 1 1) (hp := rfl) (hn := rfl) (hb := by show 32 + 32 ≤ 64; decide)) (l' := [.a 32 (suV (txS 16 (tkS 1 (l, 0)))), .a 32 0]) (m := [.a 32 (suV (txS 16 (tkS 1 (l, 0))))]) (hv := (agF_a _ _).symm) (hs := agF_setp 0 1) (hp := rfl) (hn := rfl) (hb := by show 0 + 32 ≤ 64; decide))) ?_
 refine TV ?_
 refine TE (fun _ h => h.pick [1, 3, 5]) ?_
 refine Mq 2 (new := agF [.c (.int .i64 (byV (l, 0) : Int)), .c ut5, .a 32 (suV (txS 16 (tkS 1 (l, 0)))), .a 32 (suV (tkS 32 (txS 16 (tkS 1 (l, 0))))), .c (.int .i64 0), .c (.int .i64 0), .c (.int .i64 0), .c (.int .i64 0), .c (.slice none 0 0), .c (.slice none 0 0), .c (.int .i64 0), .c (.int .i64 0), .c (.slice none 0 0)]) ?_ (hc := agF_setp 2 2) (hs := by rw [agF_size, agF_size]; show 2 + 64 ≤ 75; decide) (h1 := by exact (agF_one trivial))
 refine TNp [1, 3, 5] [0, 1, 2] ?_
 refine TZ (fun _ h => h.pick [1, 3, 5]) fun W hS => ?_
 go_upto_region 10 with fail
 refine RTp [1, 3, 5] (.q 0 (.q 1 (.q 2 (.q 3 (.q 5 (.q 6 (.q 7 (.q 8 (.q 10 (.q 11 (.q 12 (.q 13 (.e 4 (.e 9 (.e 14 (.q 15 (.q 16 (.e 17 .z)))))))))))))))))) hS ?_
 clear hS
 refine TV ?_
 refine TV ?_
 refine TV ?_
 refine TG 1 ?_ (v := .pointer (some ⟨p, 0, none⟩))
 refine TV ?_
 refine TV ?_
 refine TV ?_
 refine TG 1 ?_ (v := .pointer (some ⟨p, 0, none⟩))
 refine TV ?_
 refine TV ?_
 refine TV ?_
 refine TG 1 ?_ (v := .pointer (some ⟨p, 0, none⟩))
 refine TE (fun _ h => h.pick [1, 3, 5]) ?_
 refine ME (V := fun _ => .int .i64 (nuV (tkS 32 (tkS 32 (txS 16 (tkS 1 (l, 0))))))) (fun W hS => rdcall (i := 4) (j := 0) hS rfl rfl (fun hr => rnum_t (s := tkS 32 (tkS 32 (txS 16 (tkS 1 (l, 0))))) hr (by have := hb_11; omega))) ?_
 rintro ⟨rv12, _⟩
 dsimp only
 refine MD 1 ?_
 have hb_13 : (tkS 8 (tkS 32 (tkS 32 (txS 16 (tkS 1 (l, 0)))))).1.length ≤ 1000000 := Nat.le_trans (tkS_len _ _) hb_11
 refine TNp [1, 3, 5] [0, 1, 2] ?_
 refine TE (fun _ h => h.pick [1, 3, 5]) ?_
 refine ME (V := fun _ => .int .i64 (nuV (tkS 8 (tkS 32 (tkS 32 (txS 16 (tkS 1 (l, 0)))))))) (fun W hS => rdcall (i := 4) (j := 0) hS rfl rfl (fun hr => rnum_t (s := tkS 8 (tkS 32 (tkS 32 (txS 16 (tkS 1 (l, 0)))))) hr (by have := hb_13; omega))) ?_
 rintro ⟨rv14, _⟩
 dsimp only
 refine MD 1 ?_
 have hb_15 : (tkS 8 (tkS 8 (tkS 32 (tkS 32 (txS 16 (tkS 1 (l, 0))))))).1.length ≤ 1000000 := Nat.le_trans (tkS_len _ _) hb_13
 refine TNp [1, 3, 5] [0, 1, 2] ?_
 refine TE (fun _ h => h.pick [1, 3, 5]) ?_
 refine ME (V := fun _ => .int .i64 (nuV (tkS 8 (tkS 8 (tkS 32 (tkS 32 (txS 16 (tkS 1 (l, 0))))))))) (fun W hS => rdcall (i := 4) (j := 0) hS rfl rfl (fun hr => rnum_t (s := tkS 8 (tkS 8 (tkS 32 (tkS 32 (txS 16 (tkS 1 (l, 0))))))) hr (by have := hb_15; omega))) ?_
 rintro ⟨rv16, _⟩
 dsimp only
 refine MD 1 ?_
 have hb_17 : (tkS 8 (tkS 8 (tkS 8 (tkS 32 (tkS 32 (txS 16 (tkS 1 (l, 0)))))))).1.length ≤ 1000000 := Nat.le_trans (tkS_len _ _) hb_15
 refine TNp [1, 3, 5] [0, 1, 2] ?_
 refine TF (v := .agg (agF [.c (.int .i64 (nuV (tkS 32 (tkS 32 (txS 16 (tkS 1 (l, 0))))))), .c (.int .i64 (nuV (tkS 8 (tkS 32 (tkS 32 (txS 16 (tkS 1 (l, 0)))))))), .c (.int .i64 (nuV (tkS 8 (tkS 8 (tkS 32 (tkS 32 (txS 16 (tkS 1 (l, 0)))))))))])) rfl (fun W hS => run_bld rfl rfl zer_direct_Limits plc_direct_Limits (fill_c (fill_c (fill_c fill_n (l' := [.c (.int .i64 (nuV (tkS 32 (tkS 32 (txS 16 (tkS 1 (l, 0))))))), .c (.int .i64 (nuV (tkS 8 (tkS 32 (tkS 32 (txS 16 (tkS 1 (l, 0)))))))), .c (.int .i64 (nuV (tkS 8 (tkS 8 (tkS 32 (tkS 32 (txS 16 (tkS 1 (l, 0)))))))))]) (m := [.c (.int .i64 (nuV (tkS 8 (tkS 8 (tkS 32 (tkS 32 (txS 16 (tkS 1 (l, 0)))))))))]) (hv := rfl) (hs := agF_setp 2 1) (hp := rfl) (hn := rfl) (hb := by show 2 + 1 ≤ 3; decide)) (l' := [.c (.int .i64 (nuV (tkS 32 (tkS 32 (txS 16 (tkS 1 (l, 0))))))), .c (.int .i64 (nuV (tkS 8 (tkS 32 (tkS 32 (txS 16 (tkS 1 (l, 0)))))))), .c (.int .i64 0)]) (m := [.c (.int .i64 (nuV (tkS 8 (tkS 32 (tkS 32 (txS 16 (tkS 1 (l, 0))))))))]) (hv := rfl) (hs := agF_setp 1 1) (hp := rfl) (hn := rfl) (hb := by show 1 + 1 ≤ 3; decide)) (l' := [.c (.int .i64 (nuV (tkS 32 (tkS 32 (txS 16 (tkS 1 (l, 0))))))), .c (.int .i64 0), .c (.int .i64 0)]) (m := [.c (.int .i64 (nuV (tkS 32 (tkS 32 (txS 16 (tkS 1 (l, 0)))))))]) (hv := rfl) (hs := agF_setp 0 1) (hp := rfl) (hn := rfl) (hb := by show 0 + 1 ≤ 3; decide))) ?_
 refine TV ?_
 refine TE (fun _ h => h.pick [1, 3, 5]) ?_
 refine Mq 2 (new := agF [.c (.int .i64 (byV (l, 0) : Int)), .c ut5, .a 32 (suV (txS 16 (tkS 1 (l, 0)))), .a 32 (suV (tkS 32 (txS 16 (tkS 1 (l, 0))))), .c (.int .i64 (nuV (tkS 32 (tkS 32 (txS 16 (tkS 1 (l, 0))))))), .c (.int .i64 (nuV (tkS 8 (tkS 32 (tkS 32 (txS 16 (tkS 1 (l, 0)))))))), .c (.int .i64 (nuV (tkS 8 (tkS 8 (tkS 32 (tkS 32 (txS 16 (tkS 1 (l, 0))))))))), .c (.int .i64 0), .c (.slice none 0 0), .c (.slice none 0 0), .c (.int .i64 0), .c (.int .i64 0), .c (.slice none 0 0)]) ?_ (hc := agF_setp 4 3) (hs := by rw [agF_size, agF_size]; show 66 + 3 ≤ 75; decide) (h1 := by exact (agF_one ⟨rfl, rfl, rfl, trivial⟩))
 refine TNp [1, 3, 5] [0, 1, 2] ?_
 refine TZ (fun _ h => h.pick [1, 3, 5]) fun W hS => ?_
 go_upto_region 11 with fail
 refine RL hS ?_
 clear hS
 refine MV ?_
 refine MV ?_
 refine MV ?_
 refine MG 3 ?_ (v := .pointer (some ⟨p, 0, none⟩))
 refine ME (V := fun _ => .int .i64 (nuV (tkS 8 (tkS 8 (tkS 8 (tkS 32 (tkS 32 (txS 16 (tkS 1 (l, 0)))))))))) (fun W hS => rdcall (i := 4) (j := 0) hS rfl rfl (fun hr => rnum_t (s := tkS 8 (tkS 8 (tkS 8 (tkS 32 (tkS 32 (txS 16 (tkS 1 (l, 0)))))))) hr (by have := hb_17; omega))) ?_
 rintro ⟨rv18, _⟩
 dsimp only
 refine MD 1 ?_
 have hb_19 : (tkS 8 (tkS 8 (tkS 8 (tkS 8 (tkS 32 (tkS 32 (txS 16 (tkS 1 (l, 0))))))))).1.length ≤ 1000000 := Nat.le_trans (tkS_len _ _) hb_17
 refine MV ?_
 refine MP 2 (v := .int .i64 (nuV (tkS 8 (tkS 8 (tkS 8 (tkS 32 (tkS 32 (txS 16 (tkS 1 (l, 0)))))))))) (cs' := agF [.c (.int .i64 (byV (l, 0) : Int)), .c ut5, .a 32 (suV (txS 16 (tkS 1 (l, 0)))), .a 32 (suV (tkS 32 (txS 16 (tkS 1 (l, 0))))), .c (.int .i64 (nuV (tkS 32 (tkS 32 (txS 16 (tkS 1 (l, 0))))))), .c (.int .i64 (nuV (tkS 8 (tkS 32 (tkS 32 (txS 16 (tkS 1 (l, 0)))))))), .c (.int .i64 (nuV (tkS 8 (tkS 8 (tkS 32 (tkS 32 (txS 16 (tkS 1 (l, 0))))))))), .c (.int .i64 (nuV (tkS 8 (tkS 8 (tkS 8 (tkS 32 (tkS 32 (txS 16 (tkS 1 (l, 0)))))))))), .c (.slice none 0 0), .c (.slice none 0 0), .c (.int .i64 0), .c (.int .i64 0), .c (.slice none 0 0)]) ?_ (hs := by rw [agF_size]; show 69 < 75; decide) (hc := agF_setc 7)
 refine MZ fun W hS => ?_
 go_upto_region 18 with fail
 refine RL hS ?_
 clear hS
 refine MV ?_
 refine MG 2 ?_ (v := .int .i64 (byV (l, 0) : Int)) (hj := (agF_cel 0))
 refine MZ fun W hS => ?_
 go_upto_region 19 with fail
 refine RL hS ?_
 clear hS
 refine MW ?_ (v := .bool false) (hv := by intro W; go_simp; first | done | omega | assumption)
 refine MW ?_ (v := .bool false)
 refine MZ fun W hS => ?_
 go_upto_region 21 with fail
 refine RL hS ?_
 clear hS
 refine MW ?_ (v := .bool false) (hv := by intro W; go_simp; first | done | omega | assumption)
 refine MW ?_ (v := .bool false)
 refine MZ fun W hS => ?_
 go_upto_region 23 with fail
 refine RL hS ?_
 clear hS
 refine MW ?_ (v := .bool false) (hv := by intro W; go_simp; first | done | omega | assumption)
 refine MW ?_ (v := .bool false)
 refine MZ fun W hS => ?_
 go_upto_region 24 with fail
 refine RL hS ?_
 clear hS
 refine MW ?_ (v := .bool false) (hv := by intro W; go_simp; first | done | omega | assumption)
 refine MW ?_ (v := .bool false)
 refine MZ fun W hS => ?_
 by_cases h0 : enV (tkS 8 (tkS 8 (tkS 8 (tkS 8 (tkS 32 (tkS 32 (txS 16 (tkS 1 (l, 0))))))))) = 0
 ·
  have _f := h0
  go_upto_region 27 with fail
  refine RL hS ?_
  clear hS
  refine MV ?_
  refine MC (v := .bool (decide (enV (tkS 8 (tkS 8 (tkS 8 (tkS 8 (tkS 32 (tkS 32 (txS 16 (tkS 1 (l, 0))))))))) = 0))) (fun W hS => wright_c (s := tkS 8 (tkS 8 (tkS 8 (tkS 8 (tkS 32 (tkS 32 (txS 16 (tkS 1 (l, 0))))))))) W (hS.blk (i := 3) rfl) (rdr_at hS (i := 4) rfl (j := 0) rfl)) ?_
  refine MW ?_ (v := .bool false) (hv := by intro W; go_simp; first | done | simp [h0])
  refine MZ fun W hS => ?_
  go_upto_region 29 with fail
  refine RL hS ?_
  clear hS
  refine ML 2 ?_ (hs := by rw [agF_size]; kernel_rfl)
  refine MR 5 ?_ (hz := by rw [agF_size]; kernel_rfl) (hs := by first | (rw [agF_size, agF_size]; rfl) | rfl) (h1 := by exact (agF_one ⟨rfl, oc_tx57, rfl, rfl, rfl, rfl, rfl, rfl, rfl, rfl, rfl, trivial⟩))
  refine MW ?_ (v := .int .i64 0)
  refine MZ fun W hS => ?_
  have hk := Hk.out
  have hS := hS.onil rfl
  have hS := hS.onil rfl
  have hS := hS.onil rfl
  go_wp2
  clear hk
  exact bodyPost_ret (res_c2 rfl rfl rfl (hS.blk (i := 8) rfl) (by kernel_rfl) (by rw [agF_size]; kernel_rfl)) rfl (show AkR _ _ _ _ from (have hk := Hk.out; .inr ⟨by unfold aQ; rw [rdQ_1 hk]; exact h0, (ut5, .slice none 0 0, .slice none 0 0, .slice none 0 0), by unfold aQ; rw [rdQ_1 hk]; rfl, by unfold aQ; rw [rdQ_1 hk]; exact hS.pick [4, 2, 1, 0]⟩))
 ·
  have _f := h0
  go_upto_region 27 with fail
  refine RL hS ?_
  clear hS
  refine MV ?_
  refine MC (v := .bool (decide (enV (tkS 8 (tkS 8 (tkS 8 (tkS 8 (tkS 32 (tkS 32 (txS 16 (tkS 1 (l, 0))))))))) = 0))) (fun W hS => wright_c (s := tkS 8 (tkS 8 (tkS 8 (tkS 8 (tkS 32 (tkS 32 (txS 16 (tkS 1 (l, 0))))))))) W (hS.blk (i := 3) rfl) (rdr_at hS (i := 4) rfl (j := 0) rfl)) ?_
  refine MW ?_ (v := .bool true) (hv := by intro W; go_simp; first | done | simp [h0])
  refine MZ fun W hS => ?_
  go_upto_region 28 with fail
  refine RL hS ?_
  clear hS
  refine MF (v := .agg (agF [.c (.int .i64 0), .c (.slice none 0 0), .a 32 0, .a 32 0, .c (.int .i64 0), .c (.int .i64 0), .c (.int .i64 0), .c (.int .i64 0), .c (.slice none 0 0), .c (.slice none 0 0), .c (.int .i64 0), .c (.int .i64 0), .c (.slice none 0 0)])) (fun W hS => run_bld rfl rfl zer_wire_Request plc_wire_Request fill_n) ?_
  refine MR 5 ?_ (hz := by rw [agF_size]; kernel_rfl) (hs := by first | (rw [agF_size, agF_size]; rfl) | rfl) (h1 := by exact (agF_one ⟨rfl, rfl, rfl, rfl, rfl, rfl, rfl, rfl, rfl, rfl, rfl, trivial⟩))
  refine MW ?_ (v := .int .i64 2)
  refine MZ fun W hS => ?_
  have hk := Hk.out
  go_wp2
  clear hk
  exact bodyPost_ret (res_c2 rfl rfl rfl (hS.blk (i := 5) rfl) (by kernel_rfl) (by rw [agF_size]; kernel_rfl)) rfl (show AkR _ _ _ _ from (have hk := Hk.out; .inl ⟨by unfold aQ; rw [rdQ_1 hk]; exact h0, rfl, hS.ext⟩))
theorem asked_5 {u : Value} {l : List UInt8} (hl : l.length ≤ 1000000) (hk : byV (l, 0) = 5) (w : World) (hs : Sl w u l) :
  Calls Try.prog 14 #[u] w fun e w' => AkR l w w' e := by
 have hb0 : ((l, 0) : RSt).1.length ≤ 1000000 := hl
 have Hk := Lib.hid hk
 have hk1 : byV (l, 0) ≤ 5 := by omega
 have hk2 : 5 ≤ byV (l, 0) := by omega
 clear hk
 have hS := SH.nil [] w
 go_enter Try.func14, Try.ntmps14
 go_upto_region 0 with fail
 refine RL hS ?_
 clear hS
 refine MN (z := agF [.c (.int .i64 0), .c (.slice none 0 0), .a 32 0, .a 32 0, .c (.int .i64 0), .c (.int .i64 0), .c (.int .i64 0), .c (.int .i64 0), .c (.slice none 0 0), .c (.slice none 0 0), .c (.int .i64 0), .c (.int .i64 0), .c (.slice none 0 0)]) (t := 33) ?_
 intro p2_1
 refine MW ?_ (v := .int .i64 0)
 refine MZ fun W hS => ?_
 go_upto_region 1 with fail
 refine RL hS ?_
 clear hS
 refine MV ?_
 refine ME (V := fun x : Nat × Nat × Value => .pointer (some ⟨x.1, 0, none⟩)) (fun W hS => ncallL hS (wread_c (by omega) W (sl_e hs hS.ext)) (fun _ => rfl)) ?_
 rintro ⟨r, p, rv⟩
 dsimp only
 refine MV ?_
 refine MZ fun W hS => ?_
 go_upto_region 2 with fail
 refine RL hS ?_
 clear hS
 refine MV ?_
 refine MV ?_
 refine MV ?_
 refine MG 0 ?_ (v := .pointer (some ⟨p, 0, none⟩))
 refine ME (V := fun _ => .int .i64 (byV (l, 0) : Int)) (fun W hS => rdcall (i := 1) (j := 2) hS rfl rfl (fun hr => rbyte_t (s := (l, 0)) hr (by have := hb0; omega))) ?_
 rintro ⟨rv2, _⟩
 dsimp only
 refine MD 3 ?_
 have hb_3 : (tkS 1 (l, 0)).1.length ≤ 1000000 := Nat.le_trans (tkS_len _ _) hb0
 refine MF (v := .agg (agF [.c (.int .i64 (byV (l, 0) : Int)), .c (.slice none 0 0), .a 32 0, .a 32 0, .c (.int .i64 0), .c (.int .i64 0), .c (.int .i64 0), .c (.int .i64 0), .c (.slice none 0 0), .c (.slice none 0 0), .c (.int .i64 0), .c (.int .i64 0), .c (.slice none 0 0)])) (fun W hS => run_bld rfl rfl zer_wire_Request plc_wire_Request (fill_c fill_n (l' := [.c (.int .i64 (byV (l, 0) : Int)), .c (.slice none 0 0), .a 32 0, .a 32 0, .c (.int .i64 0), .c (.int .i64 0), .c (.int .i64 0), .c (.int .i64 0), .c (.slice none 0 0), .c (.slice none 0 0), .c (.int .i64 0), .c (.int .i64 0), .c (.slice none 0 0)]) (m := [.c (.int .i64 (byV (l, 0) : Int))]) (hv := rfl) (hs := agF_setp 0 1) (hp := rfl) (hn := rfl) (hb := by show 0 + 1 ≤ 75; decide))) ?_
 refine MN (z := agF [.c (.int .i64 0), .c (.slice none 0 0), .a 32 0, .a 32 0, .c (.int .i64 0), .c (.int .i64 0), .c (.int .i64 0), .c (.int .i64 0), .c (.slice none 0 0), .c (.slice none 0 0), .c (.int .i64 0), .c (.int .i64 0), .c (.slice none 0 0)]) (t := 33) ?_
 intro p5_4
 refine MR 0 ?_ (hz := by rw [agF_size]; kernel_rfl) (hs := by first | (rw [agF_size, agF_size]; rfl) | rfl) (h1 := by exact (agF_one ⟨rfl, rfl, rfl, rfl, rfl, rfl, rfl, rfl, rfl, rfl, rfl, trivial⟩))
 refine MZ fun W hS => ?_
 go_upto_region 3 with fail
 refine RL hS ?_
 clear hS
 refine MV ?_
 refine MG 0 ?_ (v := .int .i64 (byV (l, 0) : Int)) (hj := (agF_cel 0))
 refine MW ?_ (v := .bool false) (hv := by intro W; go_simp; first | done | omega | assumption)
 refine MW ?_ (v := .bool false)
 refine MV ?_
 refine MG 0 ?_ (v := .int .i64 (byV (l, 0) : Int)) (hj := (agF_cel 0))
 refine MW ?_ (v := .bool false) (hv := by intro W; go_simp; first | done | omega | assumption)
 refine MW ?_ (v := .bool false)
 refine MZ fun W hS => ?_
 go_upto_region 5 with fail
 refine RL hS ?_
 clear hS
 refine MV ?_
 refine MG 0 ?_ (v := .int .i64 (byV (l, 0) : Int)) (hj := (agF_cel 0))
 refine MW ?_ (v := .bool true) (hv := by intro W; go_simp; first | done | omega | assumption)
 refine MW ?_ (v := .bool true)
 refine MV ?_
 refine MG 0 ?_ (v := .int .i64 (byV (l, 0) : Int)) (hj := (agF_cel 0))
 refine MW ?_ (v := .bool true) (hv := by intro W; go_simp; first | done | omega | assumption)
 refine MW ?_ (v := .bool true)
 refine MZ fun W hS => ?_
 go_upto_region 6 with fail
 refine RL hS ?_
 clear hS
 refine MV ?_
 refine MV ?_
 refine MV ?_
 refine MG 2 ?_ (v := .pointer (some ⟨p, 0, none⟩))
 refine ME (V := fun x : Value × { u : Value // Sub u (txS 16 (tkS 1 (l, 0))).1 (sb rv2 (tkS 1 (l, 0)).1) } => x.1) (fun W hS => rdcallT (i := 3) (j := 1) (t := txV 16 (tkS 1 (l, 0))) hS rfl rfl (fun hr => rtext_t (s := tkS 1 (l, 0)) 16 hr (by have := hb_3; omega)) (fun _ _ => rfl)) ?_
 rintro ⟨ut5, rv5, _⟩
 dsimp only
 refine MD 3 ?_
 have hb_6 : (txS 16 (tkS 1 (l, 0))).1.length ≤ 1000000 := Nat.le_trans (txS_len _ _) hb_3
 refine MV ?_
 refine MFact (fun W hS => (sl_cells (hS.osl (i := 0) rfl)).2) ?_
 intro oc_tx57
 refine MP 2 (v := ut5) (cs' := agF [.c (.int .i64 (byV (l, 0) : Int)), .c ut5, .a 32 0, .a 32 0, .c (.int .i64 0), .c (.int .i64 0), .c (.int .i64 0), .c (.int .i64 0), .c (.slice none 0 0), .c (.slice none 0 0), .c (.int .i64 0), .c (.int .i64 0), .c (.slice none 0 0)]) ?_ (hs := by rw [agF_size]; show 1 < 75; decide) (hc := agF_setc 1) (hv := fun W hS => sl_cells (hS.osl (i := 0) rfl))
 refine MZ fun W hS => ?_
 go_upto_region 7 with fail
 refine RL hS ?_
 clear hS
 refine MV ?_
 refine MG 2 ?_ (v := .int .i64 (byV (l, 0) : Int)) (hj := (agF_cel 0))
 refine MZ fun W hS => ?_
 go_upto_region 8 with fail
 refine RL hS ?_
 clear hS
 refine MW ?_ (v := .bool false) (hv := by intro W; go_simp; first | done | omega | assumption)
 refine MW ?_ (v := .bool false)
 refine MZ fun W hS => ?_
 go_upto_region 12 with fail
 refine RL hS ?_
 clear hS
 refine MW ?_ (v := .bool true) (hv := by intro W; go_simp; first | done | omega | assumption)
 refine MW ?_ (v := .bool true)
 refine MZ fun W hS => ?_
 go_upto_region 15 with fail
 refine RL hS ?_
 clear hS
 refine MV ?_
 refine MV ?_
 refine MV ?_
 refine MG 3 ?_ (v := .pointer (some ⟨p, 0, none⟩))
 refine ME (V := fun x : Value × { u : Value // Sub u (txS 32 (txS 16 (tkS 1 (l, 0)))).1 (sb rv5 (txS 16 (tkS 1 (l, 0))).1) } => x.1) (fun W hS => rdcallT (i := 4) (j := 1) (t := txV 32 (txS 16 (tkS 1 (l, 0)))) hS rfl rfl (fun hr => rtext_t (s := txS 16 (tkS 1 (l, 0))) 32 hr (by have := hb_6; omega)) (fun _ _ => rfl)) ?_
 rintro ⟨ut8, rv8, _⟩
 dsimp only
 refine MD 3 ?_
 have hb_9 : (txS 32 (txS 16 (tkS 1 (l, 0)))).1.length ≤ 1000000 := Nat.le_trans (txS_len _ _) hb_6
 refine MV ?_
 refine MFact (fun W hS => (sl_cells (hS.osl (i := 0) rfl)).2) ?_
 intro oc_tx810
 refine MP 3 (v := ut8) (cs' := agF [.c (.int .i64 (byV (l, 0) : Int)), .c ut5, .a 32 0, .a 32 0, .c (.int .i64 0), .c (.int .i64 0), .c (.int .i64 0), .c (.int .i64 0), .c ut8, .c (.slice none 0 0), .c (.int .i64 0), .c (.int .i64 0), .c (.slice none 0 0)]) ?_ (hs := by rw [agF_size]; show 70 < 75; decide) (hc := agF_setc 8) (hv := fun W hS => sl_cells (hS.osl (i := 0) rfl))
 refine MZ fun W hS => ?_
 go_upto_region 18 with fail
 refine RL hS ?_
 clear hS
 refine MV ?_
 refine MG 3 ?_ (v := .int .i64 (byV (l, 0) : Int)) (hj := (agF_cel 0))
 refine MZ fun W hS => ?_
 go_upto_region 19 with fail
 refine RL hS ?_
 clear hS
 refine MW ?_ (v := .bool true) (hv := by intro W; go_simp; first | done | omega | assumption)
 refine MW ?_ (v := .bool true)
 refine MZ fun W hS => ?_
 go_upto_region 20 with fail
 refine RL hS ?_
 clear hS
 refine MV ?_
 refine MV ?_
 refine MV ?_
 refine MG 4 ?_ (v := .pointer (some ⟨p, 0, none⟩))
 refine ME (V := fun x : Value × { u : Value // Sub u (txS 64 (txS 32 (txS 16 (tkS 1 (l, 0))))).1 (sb rv8 (txS 32 (txS 16 (tkS 1 (l, 0)))).1) } => x.1) (fun W hS => rdcallT (i := 5) (j := 1) (t := txV 64 (txS 32 (txS 16 (tkS 1 (l, 0))))) hS rfl rfl (fun hr => rtext_t (s := txS 32 (txS 16 (tkS 1 (l, 0)))) 64 hr (by have := hb_9; omega)) (fun _ _ => rfl)) ?_
 rintro ⟨ut11, rv11, _⟩
 dsimp only
 refine MD 3 ?_
 have hb_12 : (txS 64 (txS 32 (txS 16 (tkS 1 (l, 0))))).1.length ≤ 1000000 := Nat.le_trans (txS_len _ _) hb_9
 refine MV ?_
 refine MFact (fun W hS => (sl_cells (hS.osl (i := 0) rfl)).2) ?_
 intro oc_tx1113
 refine MP 4 (v := ut11) (cs' := agF [.c (.int .i64 (byV (l, 0) : Int)), .c ut5, .a 32 0, .a 32 0, .c (.int .i64 0), .c (.int .i64 0), .c (.int .i64 0), .c (.int .i64 0), .c ut8, .c ut11, .c (.int .i64 0), .c (.int .i64 0), .c (.slice none 0 0)]) ?_ (hs := by rw [agF_size]; show 71 < 75; decide) (hc := agF_setc 9) (hv := fun W hS => sl_cells (hS.osl (i := 0) rfl))
 refine MZ fun W hS => ?_
 by_cases h0 : enV (txS 64 (txS 32 (txS 16 (tkS 1 (l, 0))))) = 0
 ·
  have _f := h0
  go_upto_region 27 with fail
  refine RL hS ?_
  clear hS
  refine MV ?_
  refine MC (v := .bool (decide (enV (txS 64 (txS 32 (txS 16 (tkS 1 (l, 0))))) = 0))) (fun W hS => wright_c (s := txS 64 (txS 32 (txS 16 (tkS 1 (l, 0))))) W (hS.blk (i := 5) rfl) (rdr_at hS (i := 6) rfl (j := 1) rfl)) ?_
  refine MW ?_ (v := .bool false) (hv := by intro W; go_simp; first | done | simp [h0])
  refine MZ fun W hS => ?_
  go_upto_region 29 with fail
  refine RL hS ?_
  clear hS
  refine ML 4 ?_ (hs := by rw [agF_size]; kernel_rfl)
  refine MR 7 ?_ (hz := by rw [agF_size]; kernel_rfl) (hs := by first | (rw [agF_size, agF_size]; rfl) | rfl) (h1 := by exact (agF_one ⟨rfl, oc_tx57, rfl, rfl, rfl, rfl, oc_tx810, oc_tx1113, rfl, rfl, rfl, trivial⟩))
  refine MW ?_ (v := .int .i64 0)
  refine MZ fun W hS => ?_
  have hk := Hk.out
  have hS := hS.onil rfl
  go_wp2
  clear hk
  exact bodyPost_ret (res_c2 rfl rfl rfl (hS.blk (i := 8) rfl) (by kernel_rfl) (by rw [agF_size]; kernel_rfl)) rfl (show AkR _ _ _ _ from (have hk := Hk.out; .inr ⟨by unfold aQ; rw [rdQ_5 hk]; exact h0, (ut5, ut8, ut11, .slice none 0 0), by unfold aQ; rw [rdQ_5 hk]; rfl, by unfold aQ; rw [rdQ_5 hk]; exact hS.pick [4, 3, 1, 0]⟩))
 ·
  have _f := h0
  go_upto_region 27 with fail
  refine RL hS ?_
  clear hS
  refine MV ?_
  refine MC (v := .bool (decide (enV (txS 64 (txS 32 (txS 16 (tkS 1 (l, 0))))) = 0))) (fun W hS => wright_c (s := txS 64 (txS 32 (txS 16 (tkS 1 (l, 0))))) W (hS.blk (i := 5) rfl) (rdr_at hS (i := 6) rfl (j := 1) rfl)) ?_
  refine MW ?_ (v := .bool true) (hv := by intro W; go_simp; first | done | simp [h0])
  refine MZ fun W hS => ?_
  go_upto_region 28 with fail
  refine RL hS ?_
  clear hS
  refine MF (v := .agg (agF [.c (.int .i64 0), .c (.slice none 0 0), .a 32 0, .a 32 0, .c (.int .i64 0), .c (.int .i64 0), .c (.int .i64 0), .c (.int .i64 0), .c (.slice none 0 0), .c (.slice none 0 0), .c (.int .i64 0), .c (.int .i64 0), .c (.slice none 0 0)])) (fun W hS => run_bld rfl rfl zer_wire_Request plc_wire_Request fill_n) ?_
  refine MR 7 ?_ (hz := by rw [agF_size]; kernel_rfl) (hs := by first | (rw [agF_size, agF_size]; rfl) | rfl) (h1 := by exact (agF_one ⟨rfl, rfl, rfl, rfl, rfl, rfl, rfl, rfl, rfl, rfl, rfl, trivial⟩))
  refine MW ?_ (v := .int .i64 2)
  refine MZ fun W hS => ?_
  have hk := Hk.out
  go_wp2
  clear hk
  exact bodyPost_ret (res_c2 rfl rfl rfl (hS.blk (i := 7) rfl) (by kernel_rfl) (by rw [agF_size]; kernel_rfl)) rfl (show AkR _ _ _ _ from (have hk := Hk.out; .inl ⟨by unfold aQ; rw [rdQ_5 hk]; exact h0, rfl, hS.ext⟩))
theorem asked_6 {u : Value} {l : List UInt8} (hl : l.length ≤ 1000000) (hk : byV (l, 0) = 6) (w : World) (hs : Sl w u l) :
  Calls Try.prog 14 #[u] w fun e w' => AkR l w w' e := by
 have hb0 : ((l, 0) : RSt).1.length ≤ 1000000 := hl
 have Hk := Lib.hid hk
 have hk1 : byV (l, 0) ≤ 6 := by omega
 have hk2 : 6 ≤ byV (l, 0) := by omega
 clear hk
 have hS := SH.nil [] w
 go_enter Try.func14, Try.ntmps14
 go_upto_region 0 with fail
 refine RL hS ?_
 clear hS
 refine MN (z := agF [.c (.int .i64 0), .c (.slice none 0 0), .a 32 0, .a 32 0, .c (.int .i64 0), .c (.int .i64 0), .c (.int .i64 0), .c (.int .i64 0), .c (.slice none 0 0), .c (.slice none 0 0), .c (.int .i64 0), .c (.int .i64 0), .c (.slice none 0 0)]) (t := 33) ?_
 intro p2_1
 refine MW ?_ (v := .int .i64 0)
 refine MZ fun W hS => ?_
 go_upto_region 1 with fail
 refine RL hS ?_
 clear hS
 refine MV ?_
 refine ME (V := fun x : Nat × Nat × Value => .pointer (some ⟨x.1, 0, none⟩)) (fun W hS => ncallL hS (wread_c (by omega) W (sl_e hs hS.ext)) (fun _ => rfl)) ?_
 rintro ⟨r, p, rv⟩
 dsimp only
 refine MV ?_
 refine MZ fun W hS => ?_
 go_upto_region 2 with fail
 refine RL hS ?_
 clear hS
 refine MV ?_
 refine MV ?_
 refine MV ?_
 refine MG 0 ?_ (v := .pointer (some ⟨p, 0, none⟩))
 refine ME (V := fun _ => .int .i64 (byV (l, 0) : Int)) (fun W hS => rdcall (i := 1) (j := 2) hS rfl rfl (fun hr => rbyte_t (s := (l, 0)) hr (by have := hb0; omega))) ?_
 rintro ⟨rv2, _⟩
 dsimp only
 refine MD 3 ?_
 have hb_3 : (tkS 1 (l, 0)).1.length ≤ 1000000 := Nat.le_trans (tkS_len _ _) hb0
 refine MF (v := .agg (agF [.c (.int .i64 (byV (l, 0) : Int)), .c (.slice none 0 0), .a 32 0, .a 32 0, .c (.int .i64 0), .c (.int .i64 0), .c (.int .i64 0), .c (.int .i64 0), .c (.slice none 0 0), .c (.slice none 0 0), .c (.int .i64 0), .c (.int .i64 0), .c (.slice none 0 0)])) (fun W hS => run_bld rfl rfl zer_wire_Request plc_wire_Request (fill_c fill_n (l' := [.c (.int .i64 (byV (l, 0) : Int)), .c (.slice none 0 0), .a 32 0, .a 32 0, .c (.int .i64 0), .c (.int .i64 0), .c (.int .i64 0), .c (.int .i64 0), .c (.slice none 0 0), .c (.slice none 0 0), .c (.int .i64 0), .c (.int .i64 0), .c (.slice none 0 0)]) (m := [.c (.int .i64 (byV (l, 0) : Int))]) (hv := rfl) (hs := agF_setp 0 1) (hp := rfl) (hn := rfl) (hb := by show 0 + 1 ≤ 75; decide))) ?_
 refine MN (z := agF [.c (.int .i64 0), .c (.slice none 0 0), .a 32 0, .a 32 0, .c (.int .i64 0), .c (.int .i64 0), .c (.int .i64 0), .c (.int .i64 0), .c (.slice none 0 0), .c (.slice none 0 0), .c (.int .i64 0), .c (.int .i64 0), .c (.slice none 0 0)]) (t := 33) ?_
 intro p5_4
 refine MR 0 ?_ (hz := by rw [agF_size]; kernel_rfl) (hs := by first | (rw [agF_size, agF_size]; rfl) | rfl) (h1 := by exact (agF_one ⟨rfl, rfl, rfl, rfl, rfl, rfl, rfl, rfl, rfl, rfl, rfl, trivial⟩))
 refine MZ fun W hS => ?_
 go_upto_region 3 with fail
 refine RL hS ?_
 clear hS
 refine MV ?_
 refine MG 0 ?_ (v := .int .i64 (byV (l, 0) : Int)) (hj := (agF_cel 0))
 refine MW ?_ (v := .bool false) (hv := by intro W; go_simp; first | done | omega | assumption)
 refine MW ?_ (v := .bool false)
 refine MV ?_
 refine MG 0 ?_ (v := .int .i64 (byV (l, 0) : Int)) (hj := (agF_cel 0))
 refine MW ?_ (v := .bool false) (hv := by intro W; go_simp; first | done | omega | assumption)
 refine MW ?_ (v := .bool false)
 refine MZ fun W hS => ?_
 go_upto_region 5 with fail
 refine RL hS ?_
 clear hS
 refine MV ?_
 refine MG 0 ?_ (v := .int .i64 (byV (l, 0) : Int)) (hj := (agF_cel 0))
 refine MW ?_ (v := .bool true) (hv := by intro W; go_simp; first | done | omega | assumption)
 refine MW ?_ (v := .bool true)
 refine MV ?_
 refine MG 0 ?_ (v := .int .i64 (byV (l, 0) : Int)) (hj := (agF_cel 0))
 refine MW ?_ (v := .bool true) (hv := by intro W; go_simp; first | done | omega | assumption)
 refine MW ?_ (v := .bool true)
 refine MZ fun W hS => ?_
 go_upto_region 6 with fail
 refine RL hS ?_
 clear hS
 refine MV ?_
 refine MV ?_
 refine MV ?_
 refine MG 2 ?_ (v := .pointer (some ⟨p, 0, none⟩))
 refine ME (V := fun x : Value × { u : Value // Sub u (txS 16 (tkS 1 (l, 0))).1 (sb rv2 (tkS 1 (l, 0)).1) } => x.1) (fun W hS => rdcallT (i := 3) (j := 1) (t := txV 16 (tkS 1 (l, 0))) hS rfl rfl (fun hr => rtext_t (s := tkS 1 (l, 0)) 16 hr (by have := hb_3; omega)) (fun _ _ => rfl)) ?_
 rintro ⟨ut5, rv5, _⟩
 dsimp only
 refine MD 3 ?_
 have hb_6 : (txS 16 (tkS 1 (l, 0))).1.length ≤ 1000000 := Nat.le_trans (txS_len _ _) hb_3
 refine MV ?_
 refine MFact (fun W hS => (sl_cells (hS.osl (i := 0) rfl)).2) ?_
 intro oc_tx57
 refine MP 2 (v := ut5) (cs' := agF [.c (.int .i64 (byV (l, 0) : Int)), .c ut5, .a 32 0, .a 32 0, .c (.int .i64 0), .c (.int .i64 0), .c (.int .i64 0), .c (.int .i64 0), .c (.slice none 0 0), .c (.slice none 0 0), .c (.int .i64 0), .c (.int .i64 0), .c (.slice none 0 0)]) ?_ (hs := by rw [agF_size]; show 1 < 75; decide) (hc := agF_setc 1) (hv := fun W hS => sl_cells (hS.osl (i := 0) rfl))
 refine MZ fun W hS => ?_
 go_upto_region 7 with fail
 refine RL hS ?_
 clear hS
 refine MV ?_
 refine MG 2 ?_ (v := .int .i64 (byV (l, 0) : Int)) (hj := (agF_cel 0))
 refine MZ fun W hS => ?_
 go_upto_region 8 with fail
 refine RL hS ?_
 clear hS
 refine MW ?_ (v := .bool false) (hv := by intro W; go_simp; first | done | omega | assumption)
 refine MW ?_ (v := .bool false)
 refine MZ fun W hS => ?_
 go_upto_region 12 with fail
 refine RL hS ?_
 clear hS
 refine MW ?_ (v := .bool false) (hv := by intro W; go_simp; first | done | omega | assumption)
 refine MW ?_ (v := .bool false)
 refine MZ fun W hS => ?_
 go_upto_region 13 with fail
 refine RL hS ?_
 clear hS
 refine MW ?_ (v := .bool true) (hv := by intro W; go_simp; first | done | omega | assumption)
 refine MW ?_ (v := .bool true)
 refine MZ fun W hS => ?_
 go_upto_region 15 with fail
 refine RL hS ?_
 clear hS
 refine MV ?_
 refine MV ?_
 refine MV ?_
 refine MG 3 ?_ (v := .pointer (some ⟨p, 0, none⟩))
 refine ME (V := fun x : Value × { u : Value // Sub u (txS 32 (txS 16 (tkS 1 (l, 0)))).1 (sb rv5 (txS 16 (tkS 1 (l, 0))).1) } => x.1) (fun W hS => rdcallT (i := 4) (j := 1) (t := txV 32 (txS 16 (tkS 1 (l, 0)))) hS rfl rfl (fun hr => rtext_t (s := txS 16 (tkS 1 (l, 0))) 32 hr (by have := hb_6; omega)) (fun _ _ => rfl)) ?_
 rintro ⟨ut8, rv8, _⟩
 dsimp only
 refine MD 3 ?_
 have hb_9 : (txS 32 (txS 16 (tkS 1 (l, 0)))).1.length ≤ 1000000 := Nat.le_trans (txS_len _ _) hb_6
 refine MV ?_
 refine MFact (fun W hS => (sl_cells (hS.osl (i := 0) rfl)).2) ?_
 intro oc_tx810
 refine MP 3 (v := ut8) (cs' := agF [.c (.int .i64 (byV (l, 0) : Int)), .c ut5, .a 32 0, .a 32 0, .c (.int .i64 0), .c (.int .i64 0), .c (.int .i64 0), .c (.int .i64 0), .c ut8, .c (.slice none 0 0), .c (.int .i64 0), .c (.int .i64 0), .c (.slice none 0 0)]) ?_ (hs := by rw [agF_size]; show 70 < 75; decide) (hc := agF_setc 8) (hv := fun W hS => sl_cells (hS.osl (i := 0) rfl))
 refine MZ fun W hS => ?_
 go_upto_region 18 with fail
 refine RL hS ?_
 clear hS
 refine MV ?_
 refine MG 3 ?_ (v := .int .i64 (byV (l, 0) : Int)) (hj := (agF_cel 0))
 refine MZ fun W hS => ?_
 go_upto_region 19 with fail
 refine RL hS ?_
 clear hS
 refine MW ?_ (v := .bool false) (hv := by intro W; go_simp; first | done | omega | assumption)
 refine MW ?_ (v := .bool false)
 refine MZ fun W hS => ?_
 go_upto_region 21 with fail
 refine RL hS ?_
 clear hS
 refine MW ?_ (v := .bool true) (hv := by intro W; go_simp; first | done | omega | assumption)
 refine MW ?_ (v := .bool true)
 refine MZ fun W hS => ?_
 go_upto_region 22 with fail
 refine RL hS ?_
 clear hS
 refine MV ?_
 refine MV ?_
 refine MV ?_
 refine MG 4 ?_ (v := .pointer (some ⟨p, 0, none⟩))
 refine ME (V := fun _ => .int .i64 (nuV (txS 32 (txS 16 (tkS 1 (l, 0)))))) (fun W hS => rdcall (i := 5) (j := 1) hS rfl rfl (fun hr => rnum_t (s := txS 32 (txS 16 (tkS 1 (l, 0)))) hr (by have := hb_9; omega))) ?_
 rintro ⟨rv11, _⟩
 dsimp only
 refine MD 2 ?_
 have hb_12 : (tkS 8 (txS 32 (txS 16 (tkS 1 (l, 0))))).1.length ≤ 1000000 := Nat.le_trans (tkS_len _ _) hb_9
 refine MV ?_
 refine MP 3 (v := .int .i64 (nuV (txS 32 (txS 16 (tkS 1 (l, 0)))))) (cs' := agF [.c (.int .i64 (byV (l, 0) : Int)), .c ut5, .a 32 0, .a 32 0, .c (.int .i64 0), .c (.int .i64 0), .c (.int .i64 0), .c (.int .i64 0), .c ut8, .c (.slice none 0 0), .c (.int .i64 (nuV (txS 32 (txS 16 (tkS 1 (l, 0)))))), .c (.int .i64 0), .c (.slice none 0 0)]) ?_ (hs := by rw [agF_size]; show 72 < 75; decide) (hc := agF_setc 10)
 refine MZ fun W hS => ?_
 by_cases h0 : enV (tkS 8 (txS 32 (txS 16 (tkS 1 (l, 0))))) = 0
 ·
  have _f := h0
  go_upto_region 27 with fail
  refine RL hS ?_
  clear hS
  refine MV ?_
  refine MC (v := .bool (decide (enV (tkS 8 (txS 32 (txS 16 (tkS 1 (l, 0))))) = 0))) (fun W hS => wright_c (s := tkS 8 (txS 32 (txS 16 (tkS 1 (l, 0))))) W (hS.blk (i := 4) rfl) (rdr_at hS (i := 5) rfl (j := 0) rfl)) ?_
  refine MW ?_ (v := .bool false) (hv := by intro W; go_simp; first | done | simp [h0])
  refine MZ fun W hS => ?_
  go_upto_region 29 with fail
  refine RL hS ?_
  clear hS
  refine ML 3 ?_ (hs := by rw [agF_size]; kernel_rfl)
  refine MR 6 ?_ (hz := by rw [agF_size]; kernel_rfl) (hs := by first | (rw [agF_size, agF_size]; rfl) | rfl) (h1 := by exact (agF_one ⟨rfl, oc_tx57, rfl, rfl, rfl, rfl, oc_tx810, rfl, rfl, rfl, rfl, trivial⟩))
  refine MW ?_ (v := .int .i64 0)
  refine MZ fun W hS => ?_
  have hk := Hk.out
  have hS := hS.onil rfl
  have hS := hS.onil rfl
  go_wp2
  clear hk
  exact bodyPost_ret (res_c2 rfl rfl rfl (hS.blk (i := 8) rfl) (by kernel_rfl) (by rw [agF_size]; kernel_rfl)) rfl (show AkR _ _ _ _ from (have hk := Hk.out; .inr ⟨by unfold aQ; rw [rdQ_6 hk]; exact h0, (ut5, ut8, .slice none 0 0, .slice none 0 0), by unfold aQ; rw [rdQ_6 hk]; rfl, by unfold aQ; rw [rdQ_6 hk]; exact hS.pick [4, 3, 1, 0]⟩))
 ·
  have _f := h0
  go_upto_region 27 with fail
  refine RL hS ?_
  clear hS
  refine MV ?_
  refine MC (v := .bool (decide (enV (tkS 8 (txS 32 (txS 16 (tkS 1 (l, 0))))) = 0))) (fun W hS => wright_c (s := tkS 8 (txS 32 (txS 16 (tkS 1 (l, 0))))) W (hS.blk (i := 4) rfl) (rdr_at hS (i := 5) rfl (j := 0) rfl)) ?_
  refine MW ?_ (v := .bool true) (hv := by intro W; go_simp; first | done | simp [h0])
  refine MZ fun W hS => ?_
  go_upto_region 28 with fail
  refine RL hS ?_
  clear hS
  refine MF (v := .agg (agF [.c (.int .i64 0), .c (.slice none 0 0), .a 32 0, .a 32 0, .c (.int .i64 0), .c (.int .i64 0), .c (.int .i64 0), .c (.int .i64 0), .c (.slice none 0 0), .c (.slice none 0 0), .c (.int .i64 0), .c (.int .i64 0), .c (.slice none 0 0)])) (fun W hS => run_bld rfl rfl zer_wire_Request plc_wire_Request fill_n) ?_
  refine MR 6 ?_ (hz := by rw [agF_size]; kernel_rfl) (hs := by first | (rw [agF_size, agF_size]; rfl) | rfl) (h1 := by exact (agF_one ⟨rfl, rfl, rfl, rfl, rfl, rfl, rfl, rfl, rfl, rfl, rfl, trivial⟩))
  refine MW ?_ (v := .int .i64 2)
  refine MZ fun W hS => ?_
  have hk := Hk.out
  go_wp2
  clear hk
  exact bodyPost_ret (res_c2 rfl rfl rfl (hS.blk (i := 6) rfl) (by kernel_rfl) (by rw [agF_size]; kernel_rfl)) rfl (show AkR _ _ _ _ from (have hk := Hk.out; .inl ⟨by unfold aQ; rw [rdQ_6 hk]; exact h0, rfl, hS.ext⟩))
theorem asked_7 {u : Value} {l : List UInt8} (hl : l.length ≤ 1000000) (hk : byV (l, 0) = 7) (w : World) (hs : Sl w u l) :
  Calls Try.prog 14 #[u] w fun e w' => AkR l w w' e := by
 have hb0 : ((l, 0) : RSt).1.length ≤ 1000000 := hl
 have Hk := Lib.hid hk
 have hk1 : byV (l, 0) ≤ 7 := by omega
 have hk2 : 7 ≤ byV (l, 0) := by omega
 clear hk
 have hS := SH.nil [] w
 go_enter Try.func14, Try.ntmps14
 go_upto_region 0 with fail
 refine RL hS ?_
 clear hS
 refine MN (z := agF [.c (.int .i64 0), .c (.slice none 0 0), .a 32 0, .a 32 0, .c (.int .i64 0), .c (.int .i64 0), .c (.int .i64 0), .c (.int .i64 0), .c (.slice none 0 0), .c (.slice none 0 0), .c (.int .i64 0), .c (.int .i64 0), .c (.slice none 0 0)]) (t := 33) ?_
 intro p2_1
 refine MW ?_ (v := .int .i64 0)
 refine MZ fun W hS => ?_
 go_upto_region 1 with fail
 refine RL hS ?_
 clear hS
 refine MV ?_
 refine ME (V := fun x : Nat × Nat × Value => .pointer (some ⟨x.1, 0, none⟩)) (fun W hS => ncallL hS (wread_c (by omega) W (sl_e hs hS.ext)) (fun _ => rfl)) ?_
 rintro ⟨r, p, rv⟩
 dsimp only
 refine MV ?_
 refine MZ fun W hS => ?_
 go_upto_region 2 with fail
 refine RL hS ?_
 clear hS
 refine MV ?_
 refine MV ?_
 refine MV ?_
 refine MG 0 ?_ (v := .pointer (some ⟨p, 0, none⟩))
 refine ME (V := fun _ => .int .i64 (byV (l, 0) : Int)) (fun W hS => rdcall (i := 1) (j := 2) hS rfl rfl (fun hr => rbyte_t (s := (l, 0)) hr (by have := hb0; omega))) ?_
 rintro ⟨rv2, _⟩
 dsimp only
 refine MD 3 ?_
 have hb_3 : (tkS 1 (l, 0)).1.length ≤ 1000000 := Nat.le_trans (tkS_len _ _) hb0
 refine MF (v := .agg (agF [.c (.int .i64 (byV (l, 0) : Int)), .c (.slice none 0 0), .a 32 0, .a 32 0, .c (.int .i64 0), .c (.int .i64 0), .c (.int .i64 0), .c (.int .i64 0), .c (.slice none 0 0), .c (.slice none 0 0), .c (.int .i64 0), .c (.int .i64 0), .c (.slice none 0 0)])) (fun W hS => run_bld rfl rfl zer_wire_Request plc_wire_Request (fill_c fill_n (l' := [.c (.int .i64 (byV (l, 0) : Int)), .c (.slice none 0 0), .a 32 0, .a 32 0, .c (.int .i64 0), .c (.int .i64 0), .c (.int .i64 0), .c (.int .i64 0), .c (.slice none 0 0), .c (.slice none 0 0), .c (.int .i64 0), .c (.int .i64 0), .c (.slice none 0 0)]) (m := [.c (.int .i64 (byV (l, 0) : Int))]) (hv := rfl) (hs := agF_setp 0 1) (hp := rfl) (hn := rfl) (hb := by show 0 + 1 ≤ 75; decide))) ?_
 refine MN (z := agF [.c (.int .i64 0), .c (.slice none 0 0), .a 32 0, .a 32 0, .c (.int .i64 0), .c (.int .i64 0), .c (.int .i64 0), .c (.int .i64 0), .c (.slice none 0 0), .c (.slice none 0 0), .c (.int .i64 0), .c (.int .i64 0), .c (.slice none 0 0)]) (t := 33) ?_
 intro p5_4
 refine MR 0 ?_ (hz := by rw [agF_size]; kernel_rfl) (hs := by first | (rw [agF_size, agF_size]; rfl) | rfl) (h1 := by exact (agF_one ⟨rfl, rfl, rfl, rfl, rfl, rfl, rfl, rfl, rfl, rfl, rfl, trivial⟩))
 refine MZ fun W hS => ?_
 go_upto_region 3 with fail
 refine RL hS ?_
 clear hS
 refine MV ?_
 refine MG 0 ?_ (v := .int .i64 (byV (l, 0) : Int)) (hj := (agF_cel 0))
 refine MW ?_ (v := .bool false) (hv := by intro W; go_simp; first | done | omega | assumption)
 refine MW ?_ (v := .bool false)
 refine MV ?_
 refine MG 0 ?_ (v := .int .i64 (byV (l, 0) : Int)) (hj := (agF_cel 0))
 refine MW ?_ (v := .bool false) (hv := by intro W; go_simp; first | done | omega | assumption)
 refine MW ?_ (v := .bool false)
 refine MZ fun W hS => ?_
 go_upto_region 5 with fail
 refine RL hS ?_
 clear hS
 refine MV ?_
 refine MG 0 ?_ (v := .int .i64 (byV (l, 0) : Int)) (hj := (agF_cel 0))
 refine MW ?_ (v := .bool true) (hv := by intro W; go_simp; first | done | omega | assumption)
 refine MW ?_ (v := .bool true)
 refine MV ?_
 refine MG 0 ?_ (v := .int .i64 (byV (l, 0) : Int)) (hj := (agF_cel 0))
 refine MW ?_ (v := .bool true) (hv := by intro W; go_simp; first | done | omega | assumption)
 refine MW ?_ (v := .bool true)
 refine MZ fun W hS => ?_
 go_upto_region 6 with fail
 refine RL hS ?_
 clear hS
 refine MV ?_
 refine MV ?_
 refine MV ?_
 refine MG 2 ?_ (v := .pointer (some ⟨p, 0, none⟩))
 refine ME (V := fun x : Value × { u : Value // Sub u (txS 16 (tkS 1 (l, 0))).1 (sb rv2 (tkS 1 (l, 0)).1) } => x.1) (fun W hS => rdcallT (i := 3) (j := 1) (t := txV 16 (tkS 1 (l, 0))) hS rfl rfl (fun hr => rtext_t (s := tkS 1 (l, 0)) 16 hr (by have := hb_3; omega)) (fun _ _ => rfl)) ?_
 rintro ⟨ut5, rv5, _⟩
 dsimp only
 refine MD 3 ?_
 have hb_6 : (txS 16 (tkS 1 (l, 0))).1.length ≤ 1000000 := Nat.le_trans (txS_len _ _) hb_3
 refine MV ?_
 refine MFact (fun W hS => (sl_cells (hS.osl (i := 0) rfl)).2) ?_
 intro oc_tx57
 refine MP 2 (v := ut5) (cs' := agF [.c (.int .i64 (byV (l, 0) : Int)), .c ut5, .a 32 0, .a 32 0, .c (.int .i64 0), .c (.int .i64 0), .c (.int .i64 0), .c (.int .i64 0), .c (.slice none 0 0), .c (.slice none 0 0), .c (.int .i64 0), .c (.int .i64 0), .c (.slice none 0 0)]) ?_ (hs := by rw [agF_size]; show 1 < 75; decide) (hc := agF_setc 1) (hv := fun W hS => sl_cells (hS.osl (i := 0) rfl))
 refine MZ fun W hS => ?_
 go_upto_region 7 with fail
 refine RL hS ?_
 clear hS
 refine MV ?_
 refine MG 2 ?_ (v := .int .i64 (byV (l, 0) : Int)) (hj := (agF_cel 0))
 refine MZ fun W hS => ?_
 go_upto_region 8 with fail
 refine RL hS ?_
 clear hS
 refine MW ?_ (v := .bool false) (hv := by intro W; go_simp; first | done | omega | assumption)
 refine MW ?_ (v := .bool false)
 refine MZ fun W hS => ?_
 go_upto_region 12 with fail
 refine RL hS ?_
 clear hS
 refine MW ?_ (v := .bool false) (hv := by intro W; go_simp; first | done | omega | assumption)
 refine MW ?_ (v := .bool false)
 refine MZ fun W hS => ?_
 go_upto_region 13 with fail
 refine RL hS ?_
 clear hS
 refine MW ?_ (v := .bool false) (hv := by intro W; go_simp; first | done | omega | assumption)
 refine MW ?_ (v := .bool false)
 refine MZ fun W hS => ?_
 go_upto_region 14 with fail
 refine RL hS ?_
 clear hS
 refine MW ?_ (v := .bool true) (hv := by intro W; go_simp; first | done | omega | assumption)
 refine MW ?_ (v := .bool true)
 refine MZ fun W hS => ?_
 go_upto_region 15 with fail
 refine RL hS ?_
 clear hS
 refine MV ?_
 refine MV ?_
 refine MV ?_
 refine MG 3 ?_ (v := .pointer (some ⟨p, 0, none⟩))
 refine ME (V := fun x : Value × { u : Value // Sub u (txS 32 (txS 16 (tkS 1 (l, 0)))).1 (sb rv5 (txS 16 (tkS 1 (l, 0))).1) } => x.1) (fun W hS => rdcallT (i := 4) (j := 1) (t := txV 32 (txS 16 (tkS 1 (l, 0)))) hS rfl rfl (fun hr => rtext_t (s := txS 16 (tkS 1 (l, 0))) 32 hr (by have := hb_6; omega)) (fun _ _ => rfl)) ?_
 rintro ⟨ut8, rv8, _⟩
 dsimp only
 refine MD 3 ?_
 have hb_9 : (txS 32 (txS 16 (tkS 1 (l, 0)))).1.length ≤ 1000000 := Nat.le_trans (txS_len _ _) hb_6
 refine MV ?_
 refine MFact (fun W hS => (sl_cells (hS.osl (i := 0) rfl)).2) ?_
 intro oc_tx810
 refine MP 3 (v := ut8) (cs' := agF [.c (.int .i64 (byV (l, 0) : Int)), .c ut5, .a 32 0, .a 32 0, .c (.int .i64 0), .c (.int .i64 0), .c (.int .i64 0), .c (.int .i64 0), .c ut8, .c (.slice none 0 0), .c (.int .i64 0), .c (.int .i64 0), .c (.slice none 0 0)]) ?_ (hs := by rw [agF_size]; show 70 < 75; decide) (hc := agF_setc 8) (hv := fun W hS => sl_cells (hS.osl (i := 0) rfl))
 refine MZ fun W hS => ?_
 go_upto_region 18 with fail
 refine RL hS ?_
 clear hS
 refine MV ?_
 refine MG 3 ?_ (v := .int .i64 (byV (l, 0) : Int)) (hj := (agF_cel 0))
 refine MZ fun W hS => ?_
 go_upto_region 19 with fail
 refine RL hS ?_
 clear hS
 refine MW ?_ (v := .bool false) (hv := by intro W; go_simp; first | done | omega | assumption)
 refine MW ?_ (v := .bool false)
 refine MZ fun W hS => ?_
 go_upto_region 21 with fail
 refine RL hS ?_
 clear hS
 refine MW ?_ (v := .bool false) (hv := by intro W; go_simp; first | done | omega | assumption)
 refine MW ?_ (v := .bool false)
 refine MZ fun W hS => ?_
 go_upto_region 23 with fail
 refine RL hS ?_
 clear hS
 refine MW ?_ (v := .bool false) (hv := by intro W; go_simp; first | done | omega | assumption)
 refine MW ?_ (v := .bool false)
 refine MZ fun W hS => ?_
 go_upto_region 24 with fail
 refine RL hS ?_
 clear hS
 refine MW ?_ (v := .bool false) (hv := by intro W; go_simp; first | done | omega | assumption)
 refine MW ?_ (v := .bool false)
 refine MZ fun W hS => ?_
 by_cases h0 : enV (txS 32 (txS 16 (tkS 1 (l, 0)))) = 0
 ·
  have _f := h0
  go_upto_region 27 with fail
  refine RL hS ?_
  clear hS
  refine MV ?_
  refine MC (v := .bool (decide (enV (txS 32 (txS 16 (tkS 1 (l, 0)))) = 0))) (fun W hS => wright_c (s := txS 32 (txS 16 (tkS 1 (l, 0)))) W (hS.blk (i := 4) rfl) (rdr_at hS (i := 5) rfl (j := 1) rfl)) ?_
  refine MW ?_ (v := .bool false) (hv := by intro W; go_simp; first | done | simp [h0])
  refine MZ fun W hS => ?_
  go_upto_region 29 with fail
  refine RL hS ?_
  clear hS
  refine ML 3 ?_ (hs := by rw [agF_size]; kernel_rfl)
  refine MR 6 ?_ (hz := by rw [agF_size]; kernel_rfl) (hs := by first | (rw [agF_size, agF_size]; rfl) | rfl) (h1 := by exact (agF_one ⟨rfl, oc_tx57, rfl, rfl, rfl, rfl, oc_tx810, rfl, rfl, rfl, rfl, trivial⟩))
  refine MW ?_ (v := .int .i64 0)
  refine MZ fun W hS => ?_
  have hk := Hk.out
  have hS := hS.onil rfl
  have hS := hS.onil rfl
  go_wp2
  clear hk
  exact bodyPost_ret (res_c2 rfl rfl rfl (hS.blk (i := 8) rfl) (by kernel_rfl) (by rw [agF_size]; kernel_rfl)) rfl (show AkR _ _ _ _ from (have hk := Hk.out; .inr ⟨by unfold aQ; rw [rdQ_7 hk]; exact h0, (ut5, ut8, .slice none 0 0, .slice none 0 0), by unfold aQ; rw [rdQ_7 hk]; rfl, by unfold aQ; rw [rdQ_7 hk]; exact hS.pick [4, 2, 1, 0]⟩))
 ·
  have _f := h0
  go_upto_region 27 with fail
  refine RL hS ?_
  clear hS
  refine MV ?_
  refine MC (v := .bool (decide (enV (txS 32 (txS 16 (tkS 1 (l, 0)))) = 0))) (fun W hS => wright_c (s := txS 32 (txS 16 (tkS 1 (l, 0)))) W (hS.blk (i := 4) rfl) (rdr_at hS (i := 5) rfl (j := 1) rfl)) ?_
  refine MW ?_ (v := .bool true) (hv := by intro W; go_simp; first | done | simp [h0])
  refine MZ fun W hS => ?_
  go_upto_region 28 with fail
  refine RL hS ?_
  clear hS
  refine MF (v := .agg (agF [.c (.int .i64 0), .c (.slice none 0 0), .a 32 0, .a 32 0, .c (.int .i64 0), .c (.int .i64 0), .c (.int .i64 0), .c (.int .i64 0), .c (.slice none 0 0), .c (.slice none 0 0), .c (.int .i64 0), .c (.int .i64 0), .c (.slice none 0 0)])) (fun W hS => run_bld rfl rfl zer_wire_Request plc_wire_Request fill_n) ?_
  refine MR 6 ?_ (hz := by rw [agF_size]; kernel_rfl) (hs := by first | (rw [agF_size, agF_size]; rfl) | rfl) (h1 := by exact (agF_one ⟨rfl, rfl, rfl, rfl, rfl, rfl, rfl, rfl, rfl, rfl, rfl, trivial⟩))
  refine MW ?_ (v := .int .i64 2)
  refine MZ fun W hS => ?_
  have hk := Hk.out
  go_wp2
  clear hk
  exact bodyPost_ret (res_c2 rfl rfl rfl (hS.blk (i := 6) rfl) (by kernel_rfl) (by rw [agF_size]; kernel_rfl)) rfl (show AkR _ _ _ _ from (have hk := Hk.out; .inl ⟨by unfold aQ; rw [rdQ_7 hk]; exact h0, rfl, hS.ext⟩))
theorem asked_8 {u : Value} {l : List UInt8} (hl : l.length ≤ 1000000) (hk : byV (l, 0) = 8) (w : World) (hs : Sl w u l) :
  Calls Try.prog 14 #[u] w fun e w' => AkR l w w' e := by
 have hb0 : ((l, 0) : RSt).1.length ≤ 1000000 := hl
 have Hk := Lib.hid hk
 have hk1 : byV (l, 0) ≤ 8 := by omega
 have hk2 : 8 ≤ byV (l, 0) := by omega
 clear hk
 have hS := SH.nil [] w
 go_enter Try.func14, Try.ntmps14
 go_upto_region 0 with fail
 refine RL hS ?_
 clear hS
 refine MN (z := agF [.c (.int .i64 0), .c (.slice none 0 0), .a 32 0, .a 32 0, .c (.int .i64 0), .c (.int .i64 0), .c (.int .i64 0), .c (.int .i64 0), .c (.slice none 0 0), .c (.slice none 0 0), .c (.int .i64 0), .c (.int .i64 0), .c (.slice none 0 0)]) (t := 33) ?_
 intro p2_1
 refine MW ?_ (v := .int .i64 0)
 refine MZ fun W hS => ?_
 go_upto_region 1 with fail
 refine RL hS ?_
 clear hS
 refine MV ?_
 refine ME (V := fun x : Nat × Nat × Value => .pointer (some ⟨x.1, 0, none⟩)) (fun W hS => ncallL hS (wread_c (by omega) W (sl_e hs hS.ext)) (fun _ => rfl)) ?_
 rintro ⟨r, p, rv⟩
 dsimp only
 refine MV ?_
 refine MZ fun W hS => ?_
 go_upto_region 2 with fail
 refine RL hS ?_
 clear hS
 refine MV ?_
 refine MV ?_
 refine MV ?_
 refine MG 0 ?_ (v := .pointer (some ⟨p, 0, none⟩))
 refine ME (V := fun _ => .int .i64 (byV (l, 0) : Int)) (fun W hS => rdcall (i := 1) (j := 2) hS rfl rfl (fun hr => rbyte_t (s := (l, 0)) hr (by have := hb0; omega))) ?_
 rintro ⟨rv2, _⟩
 dsimp only
 refine MD 3 ?_
 have hb_3 : (tkS 1 (l, 0)).1.length ≤ 1000000 := Nat.le_trans (tkS_len _ _) hb0
 refine MF (v := .agg (agF [.c (.int .i64 (byV (l, 0) : Int)), .c (.slice none 0 0), .a 32 0, .a 32 0, .c (.int .i64 0), .c (.int .i64 0), .c (.int .i64 0), .c (.int .i64 0), .c (.slice none 0 0), .c (.slice none 0 0), .c (.int .i64 0), .c (.int .i64 0), .c (.slice none 0 0)])) (fun W hS => run_bld rfl rfl zer_wire_Request plc_wire_Request (fill_c fill_n (l' := [.c (.int .i64 (byV (l, 0) : Int)), .c (.slice none 0 0), .a 32 0, .a 32 0, .c (.int .i64 0), .c (.int .i64 0), .c (.int .i64 0), .c (.int .i64 0), .c (.slice none 0 0), .c (.slice none 0 0), .c (.int .i64 0), .c (.int .i64 0), .c (.slice none 0 0)]) (m := [.c (.int .i64 (byV (l, 0) : Int))]) (hv := rfl) (hs := agF_setp 0 1) (hp := rfl) (hn := rfl) (hb := by show 0 + 1 ≤ 75; decide))) ?_
 refine MN (z := agF [.c (.int .i64 0), .c (.slice none 0 0), .a 32 0, .a 32 0, .c (.int .i64 0), .c (.int .i64 0), .c (.int .i64 0), .c (.int .i64 0), .c (.slice none 0 0), .c (.slice none 0 0), .c (.int .i64 0), .c (.int .i64 0), .c (.slice none 0 0)]) (t := 33) ?_
 intro p5_4
 refine MR 0 ?_ (hz := by rw [agF_size]; kernel_rfl) (hs := by first | (rw [agF_size, agF_size]; rfl) | rfl) (h1 := by exact (agF_one ⟨rfl, rfl, rfl, rfl, rfl, rfl, rfl, rfl, rfl, rfl, rfl, trivial⟩))
 refine MZ fun W hS => ?_
 go_upto_region 3 with fail
 refine RL hS ?_
 clear hS
 refine MV ?_
 refine MG 0 ?_ (v := .int .i64 (byV (l, 0) : Int)) (hj := (agF_cel 0))
 refine MW ?_ (v := .bool false) (hv := by intro W; go_simp; first | done | omega | assumption)
 refine MW ?_ (v := .bool false)
 refine MV ?_
 refine MG 0 ?_ (v := .int .i64 (byV (l, 0) : Int)) (hj := (agF_cel 0))
 refine MW ?_ (v := .bool false) (hv := by intro W; go_simp; first | done | omega | assumption)
 refine MW ?_ (v := .bool false)
 refine MZ fun W hS => ?_
 go_upto_region 5 with fail
 refine RL hS ?_
 clear hS
 refine MV ?_
 refine MG 0 ?_ (v := .int .i64 (byV (l, 0) : Int)) (hj := (agF_cel 0))
 refine MW ?_ (v := .bool true) (hv := by intro W; go_simp; first | done | omega | assumption)
 refine MW ?_ (v := .bool true)
 refine MV ?_
 refine MG 0 ?_ (v := .int .i64 (byV (l, 0) : Int)) (hj := (agF_cel 0))
 refine MW ?_ (v := .bool true) (hv := by intro W; go_simp; first | done | omega | assumption)
 refine MW ?_ (v := .bool true)
 refine MZ fun W hS => ?_
 go_upto_region 6 with fail
 refine RL hS ?_
 clear hS
 refine MV ?_
 refine MV ?_
 refine MV ?_
 refine MG 2 ?_ (v := .pointer (some ⟨p, 0, none⟩))
 refine ME (V := fun x : Value × { u : Value // Sub u (txS 16 (tkS 1 (l, 0))).1 (sb rv2 (tkS 1 (l, 0)).1) } => x.1) (fun W hS => rdcallT (i := 3) (j := 1) (t := txV 16 (tkS 1 (l, 0))) hS rfl rfl (fun hr => rtext_t (s := tkS 1 (l, 0)) 16 hr (by have := hb_3; omega)) (fun _ _ => rfl)) ?_
 rintro ⟨ut5, rv5, _⟩
 dsimp only
 refine MD 3 ?_
 have hb_6 : (txS 16 (tkS 1 (l, 0))).1.length ≤ 1000000 := Nat.le_trans (txS_len _ _) hb_3
 refine MV ?_
 refine MFact (fun W hS => (sl_cells (hS.osl (i := 0) rfl)).2) ?_
 intro oc_tx57
 refine MP 2 (v := ut5) (cs' := agF [.c (.int .i64 (byV (l, 0) : Int)), .c ut5, .a 32 0, .a 32 0, .c (.int .i64 0), .c (.int .i64 0), .c (.int .i64 0), .c (.int .i64 0), .c (.slice none 0 0), .c (.slice none 0 0), .c (.int .i64 0), .c (.int .i64 0), .c (.slice none 0 0)]) ?_ (hs := by rw [agF_size]; show 1 < 75; decide) (hc := agF_setc 1) (hv := fun W hS => sl_cells (hS.osl (i := 0) rfl))
 refine MZ fun W hS => ?_
 go_upto_region 7 with fail
 refine RL hS ?_
 clear hS
 refine MV ?_
 refine MG 2 ?_ (v := .int .i64 (byV (l, 0) : Int)) (hj := (agF_cel 0))
 refine MZ fun W hS => ?_
 go_upto_region 8 with fail
 refine RL hS ?_
 clear hS
 refine MW ?_ (v := .bool false) (hv := by intro W; go_simp; first | done | omega | assumption)
 refine MW ?_ (v := .bool false)
 refine MZ fun W hS => ?_
 go_upto_region 12 with fail
 refine RL hS ?_
 clear hS
 refine MW ?_ (v := .bool false) (hv := by intro W; go_simp; first | done | omega | assumption)
 refine MW ?_ (v := .bool false)
 refine MZ fun W hS => ?_
 go_upto_region 13 with fail
 refine RL hS ?_
 clear hS
 refine MW ?_ (v := .bool false) (hv := by intro W; go_simp; first | done | omega | assumption)
 refine MW ?_ (v := .bool false)
 refine MZ fun W hS => ?_
 go_upto_region 14 with fail
 refine RL hS ?_
 clear hS
 refine MW ?_ (v := .bool false) (hv := by intro W; go_simp; first | done | omega | assumption)
 refine MW ?_ (v := .bool false)
 refine MZ fun W hS => ?_
 go_upto_region 16 with fail
 refine RL hS ?_
 clear hS
 refine MW ?_ (v := .bool false) (hv := by intro W; go_simp; first | done | omega | assumption)
 refine MW ?_ (v := .bool false)
 refine MZ fun W hS => ?_
 go_upto_region 18 with fail
 refine RL hS ?_
 clear hS
 refine MV ?_
 refine MG 2 ?_ (v := .int .i64 (byV (l, 0) : Int)) (hj := (agF_cel 0))
 refine MZ fun W hS => ?_
 go_upto_region 19 with fail
 refine RL hS ?_
 clear hS
 refine MW ?_ (v := .bool false) (hv := by intro W; go_simp; first | done | omega | assumption)
 refine MW ?_ (v := .bool false)
 refine MZ fun W hS => ?_
 go_upto_region 21 with fail
 refine RL hS ?_
 clear hS
 refine MW ?_ (v := .bool false) (hv := by intro W; go_simp; first | done | omega | assumption)
 refine MW ?_ (v := .bool false)
 refine MZ fun W hS => ?_
 go_upto_region 23 with fail
 refine RL hS ?_
 clear hS
 refine MW ?_ (v := .bool true) (hv := by intro W; go_simp; first | done | omega | assumption)
 refine MW ?_ (v := .bool true)
 refine MZ fun W hS => ?_
 go_upto_region 25 with fail
 refine RL hS ?_
 clear hS
 refine MV ?_
 refine MV ?_
 refine MV ?_
 refine MG 3 ?_ (v := .pointer (some ⟨p, 0, none⟩))
 refine ME (V := fun _ => .int .i64 (nuV (txS 16 (tkS 1 (l, 0))))) (fun W hS => rdcall (i := 4) (j := 1) hS rfl rfl (fun hr => rnum_t (s := txS 16 (tkS 1 (l, 0))) hr (by have := hb_6; omega))) ?_
 rintro ⟨rv8, _⟩
 dsimp only
 refine MD 2 ?_
 have hb_9 : (tkS 8 (txS 16 (tkS 1 (l, 0)))).1.length ≤ 1000000 := Nat.le_trans (tkS_len _ _) hb_6
 refine MV ?_
 refine MP 2 (v := .int .i64 (nuV (txS 16 (tkS 1 (l, 0))))) (cs' := agF [.c (.int .i64 (byV (l, 0) : Int)), .c ut5, .a 32 0, .a 32 0, .c (.int .i64 0), .c (.int .i64 0), .c (.int .i64 0), .c (.int .i64 0), .c (.slice none 0 0), .c (.slice none 0 0), .c (.int .i64 (nuV (txS 16 (tkS 1 (l, 0))))), .c (.int .i64 0), .c (.slice none 0 0)]) ?_ (hs := by rw [agF_size]; show 72 < 75; decide) (hc := agF_setc 10)
 refine MZ fun W hS => ?_
 go_upto_region 26 with fail
 refine RL hS ?_
 clear hS
 refine MV ?_
 refine MV ?_
 refine MV ?_
 refine MG 3 ?_ (v := .pointer (some ⟨p, 0, none⟩))
 refine ME (V := fun _ => .int .i64 (nuV (tkS 8 (txS 16 (tkS 1 (l, 0)))))) (fun W hS => rdcall (i := 4) (j := 0) hS rfl rfl (fun hr => rnum_t (s := tkS 8 (txS 16 (tkS 1 (l, 0)))) hr (by have := hb_9; omega))) ?_
 rintro ⟨rv10, _⟩
 dsimp only
 refine MD 1 ?_
 have hb_11 : (tkS 8 (tkS 8 (txS 16 (tkS 1 (l, 0))))).1.length ≤ 1000000 := Nat.le_trans (tkS_len _ _) hb_9
 refine MV ?_
 refine MP 2 (v := .int .i64 (nuV (tkS 8 (txS 16 (tkS 1 (l, 0)))))) (cs' := agF [.c (.int .i64 (byV (l, 0) : Int)), .c ut5, .a 32 0, .a 32 0, .c (.int .i64 0), .c (.int .i64 0), .c (.int .i64 0), .c (.int .i64 0), .c (.slice none 0 0), .c (.slice none 0 0), .c (.int .i64 (nuV (txS 16 (tkS 1 (l, 0))))), .c (.int .i64 (nuV (tkS 8 (txS 16 (tkS 1 (l, 0)))))), .c (.slice none 0 0)]) ?_ (hs := by rw [agF_size]; show 73 < 75; decide) (hc := agF_setc 11)
 refine MZ fun W hS => ?_
 by_cases h0 : enV (tkS 8 (tkS 8 (txS 16 (tkS 1 (l, 0))))) = 0
 ·
  have _f := h0
  go_upto_region 27 with fail
  refine RL hS ?_
  clear hS
  refine MV ?_
  refine MC (v := .bool (decide (enV (tkS 8 (tkS 8 (txS 16 (tkS 1 (l, 0))))) = 0))) (fun W hS => wright_c (s := tkS 8 (tkS 8 (txS 16 (tkS 1 (l, 0))))) W (hS.blk (i := 3) rfl) (rdr_at hS (i := 4) rfl (j := 0) rfl)) ?_
  refine MW ?_ (v := .bool false) (hv := by intro W; go_simp; first | done | simp [h0])
  refine MZ fun W hS => ?_
  go_upto_region 29 with fail
  refine RL hS ?_
  clear hS
  refine ML 2 ?_ (hs := by rw [agF_size]; kernel_rfl)
  refine MR 5 ?_ (hz := by rw [agF_size]; kernel_rfl) (hs := by first | (rw [agF_size, agF_size]; rfl) | rfl) (h1 := by exact (agF_one ⟨rfl, oc_tx57, rfl, rfl, rfl, rfl, rfl, rfl, rfl, rfl, rfl, trivial⟩))
  refine MW ?_ (v := .int .i64 0)
  refine MZ fun W hS => ?_
  have hk := Hk.out
  have hS := hS.onil rfl
  have hS := hS.onil rfl
  have hS := hS.onil rfl
  go_wp2
  clear hk
  exact bodyPost_ret (res_c2 rfl rfl rfl (hS.blk (i := 8) rfl) (by kernel_rfl) (by rw [agF_size]; kernel_rfl)) rfl (show AkR _ _ _ _ from (have hk := Hk.out; .inr ⟨by unfold aQ; rw [rdQ_8 hk]; exact h0, (ut5, .slice none 0 0, .slice none 0 0, .slice none 0 0), by unfold aQ; rw [rdQ_8 hk]; rfl, by unfold aQ; rw [rdQ_8 hk]; exact hS.pick [4, 2, 1, 0]⟩))
 ·
  have _f := h0
  go_upto_region 27 with fail
  refine RL hS ?_
  clear hS
  refine MV ?_
  refine MC (v := .bool (decide (enV (tkS 8 (tkS 8 (txS 16 (tkS 1 (l, 0))))) = 0))) (fun W hS => wright_c (s := tkS 8 (tkS 8 (txS 16 (tkS 1 (l, 0))))) W (hS.blk (i := 3) rfl) (rdr_at hS (i := 4) rfl (j := 0) rfl)) ?_
  refine MW ?_ (v := .bool true) (hv := by intro W; go_simp; first | done | simp [h0])
  refine MZ fun W hS => ?_
  go_upto_region 28 with fail
  refine RL hS ?_
  clear hS
  refine MF (v := .agg (agF [.c (.int .i64 0), .c (.slice none 0 0), .a 32 0, .a 32 0, .c (.int .i64 0), .c (.int .i64 0), .c (.int .i64 0), .c (.int .i64 0), .c (.slice none 0 0), .c (.slice none 0 0), .c (.int .i64 0), .c (.int .i64 0), .c (.slice none 0 0)])) (fun W hS => run_bld rfl rfl zer_wire_Request plc_wire_Request fill_n) ?_
  refine MR 5 ?_ (hz := by rw [agF_size]; kernel_rfl) (hs := by first | (rw [agF_size, agF_size]; rfl) | rfl) (h1 := by exact (agF_one ⟨rfl, rfl, rfl, rfl, rfl, rfl, rfl, rfl, rfl, rfl, rfl, trivial⟩))
  refine MW ?_ (v := .int .i64 2)
  refine MZ fun W hS => ?_
  have hk := Hk.out
  go_wp2
  clear hk
  exact bodyPost_ret (res_c2 rfl rfl rfl (hS.blk (i := 5) rfl) (by kernel_rfl) (by rw [agF_size]; kernel_rfl)) rfl (show AkR _ _ _ _ from (have hk := Hk.out; .inl ⟨by unfold aQ; rw [rdQ_8 hk]; exact h0, rfl, hS.ext⟩))
theorem asked_10 {u : Value} {l : List UInt8} (hl : l.length ≤ 1000000) (hk : byV (l, 0) = 10) (w : World) (hs : Sl w u l) :
  Calls Try.prog 14 #[u] w fun e w' => AkR l w w' e := by
 have hb0 : ((l, 0) : RSt).1.length ≤ 1000000 := hl
 have Hk := Lib.hid hk
 have hk1 : byV (l, 0) ≤ 10 := by omega
 have hk2 : 10 ≤ byV (l, 0) := by omega
 clear hk
 have hS := SH.nil [] w
 go_enter Try.func14, Try.ntmps14
 go_upto_region 0 with fail
 refine RL hS ?_
 clear hS
 refine MN (z := agF [.c (.int .i64 0), .c (.slice none 0 0), .a 32 0, .a 32 0, .c (.int .i64 0), .c (.int .i64 0), .c (.int .i64 0), .c (.int .i64 0), .c (.slice none 0 0), .c (.slice none 0 0), .c (.int .i64 0), .c (.int .i64 0), .c (.slice none 0 0)]) (t := 33) ?_
 intro p2_1
 refine MW ?_ (v := .int .i64 0)
 refine MZ fun W hS => ?_
 go_upto_region 1 with fail
 refine RL hS ?_
 clear hS
 refine MV ?_
 refine ME (V := fun x : Nat × Nat × Value => .pointer (some ⟨x.1, 0, none⟩)) (fun W hS => ncallL hS (wread_c (by omega) W (sl_e hs hS.ext)) (fun _ => rfl)) ?_
 rintro ⟨r, p, rv⟩
 dsimp only
 refine MV ?_
 refine MZ fun W hS => ?_
 go_upto_region 2 with fail
 refine RL hS ?_
 clear hS
 refine MV ?_
 refine MV ?_
 refine MV ?_
 refine MG 0 ?_ (v := .pointer (some ⟨p, 0, none⟩))
 refine ME (V := fun _ => .int .i64 (byV (l, 0) : Int)) (fun W hS => rdcall (i := 1) (j := 2) hS rfl rfl (fun hr => rbyte_t (s := (l, 0)) hr (by have := hb0; omega))) ?_
 rintro ⟨rv2, _⟩
 dsimp only
 refine MD 3 ?_
 have hb_3 : (tkS 1 (l, 0)).1.length ≤ 1000000 := Nat.le_trans (tkS_len _ _) hb0
 refine MF (v := .agg (agF [.c (.int .i64 (byV (l, 0) : Int)), .c (.slice none 0 0), .a 32 0, .a 32 0, .c (.int .i64 0), .c (.int .i64 0), .c (.int .i64 0), .c (.int .i64 0), .c (.slice none 0 0), .c (.slice none 0 0), .c (.int .i64 0), .c (.int .i64 0), .c (.slice none 0 0)])) (fun W hS => run_bld rfl rfl zer_wire_Request plc_wire_Request (fill_c fill_n (l' := [.c (.int .i64 (byV (l, 0) : Int)), .c (.slice none 0 0), .a 32 0, .a 32 0, .c (.int .i64 0), .c (.int .i64 0), .c (.int .i64 0), .c (.int .i64 0), .c (.slice none 0 0), .c (.slice none 0 0), .c (.int .i64 0), .c (.int .i64 0), .c (.slice none 0 0)]) (m := [.c (.int .i64 (byV (l, 0) : Int))]) (hv := rfl) (hs := agF_setp 0 1) (hp := rfl) (hn := rfl) (hb := by show 0 + 1 ≤ 75; decide))) ?_
 refine MN (z := agF [.c (.int .i64 0), .c (.slice none 0 0), .a 32 0, .a 32 0, .c (.int .i64 0), .c (.int .i64 0), .c (.int .i64 0), .c (.int .i64 0), .c (.slice none 0 0), .c (.slice none 0 0), .c (.int .i64 0), .c (.int .i64 0), .c (.slice none 0 0)]) (t := 33) ?_
 intro p5_4
 refine MR 0 ?_ (hz := by rw [agF_size]; kernel_rfl) (hs := by first | (rw [agF_size, agF_size]; rfl) | rfl) (h1 := by exact (agF_one ⟨rfl, rfl, rfl, rfl, rfl, rfl, rfl, rfl, rfl, rfl, rfl, trivial⟩))
 refine MZ fun W hS => ?_
 go_upto_region 3 with fail
 refine RL hS ?_
 clear hS
 refine MV ?_
 refine MG 0 ?_ (v := .int .i64 (byV (l, 0) : Int)) (hj := (agF_cel 0))
 refine MW ?_ (v := .bool false) (hv := by intro W; go_simp; first | done | omega | assumption)
 refine MW ?_ (v := .bool false)
 refine MV ?_
 refine MG 0 ?_ (v := .int .i64 (byV (l, 0) : Int)) (hj := (agF_cel 0))
 refine MW ?_ (v := .bool false) (hv := by intro W; go_simp; first | done | omega | assumption)
 refine MW ?_ (v := .bool false)
 refine MZ fun W hS => ?_
 go_upto_region 5 with fail
 refine RL hS ?_
 clear hS
 refine MV ?_
 refine MG 0 ?_ (v := .int .i64 (byV (l, 0) : Int)) (hj := (agF_cel 0))
 refine MW ?_ (v := .bool false) (hv := by intro W; go_simp; first | done | omega | assumption)
 refine MW ?_ (v := .bool false)
 refine MS ?_
 refine MS ?_
 refine MS ?_
 refine MW ?_ (v := .bool false)
 refine MZ fun W hS => ?_
 go_upto_region 7 with fail
 refine RL hS ?_
 clear hS
 refine MV ?_
 refine MG 0 ?_ (v := .int .i64 (byV (l, 0) : Int)) (hj := (agF_cel 0))
 refine MZ fun W hS => ?_
 go_upto_region 8 with fail
 refine RL hS ?_
 clear hS
 refine MW ?_ (v := .bool false) (hv := by intro W; go_simp; first | done | omega | assumption)
 refine MW ?_ (v := .bool false)
 refine MZ fun W hS => ?_
 go_upto_region 12 with fail
 refine RL hS ?_
 clear hS
 refine MW ?_ (v := .bool false) (hv := by intro W; go_simp; first | done | omega | assumption)
 refine MW ?_ (v := .bool false)
 refine MZ fun W hS => ?_
 go_upto_region 13 with fail
 refine RL hS ?_
 clear hS
 refine MW ?_ (v := .bool false) (hv := by intro W; go_simp; first | done | omega | assumption)
 refine MW ?_ (v := .bool false)
 refine MZ fun W hS => ?_
 go_upto_region 14 with fail
 refine RL hS ?_
 clear hS
 refine MW ?_ (v := .bool false) (hv := by intro W; go_simp; first | done | omega | assumption)
 refine MW ?_ (v := .bool false)
 refine MZ fun W hS => ?_
 go_upto_region 16 with fail
 refine RL hS ?_
 clear hS
 refine MW ?_ (v := .bool true) (hv := by intro W; go_simp; first | done | omega | assumption)
 refine MW ?_ (v := .bool true)
 refine MZ fun W hS => ?_
 go_upto_region 17 with fail
 refine RL hS ?_
 clear hS
 refine MV ?_
 refine MV ?_
 refine MV ?_
 refine MG 2 ?_ (v := .pointer (some ⟨p, 0, none⟩))
 refine ME (V := fun x : Value × { u : Value // Sub u (txS 65535 (tkS 1 (l, 0))).1 (sb rv2 (tkS 1 (l, 0)).1) } => x.1) (fun W hS => rdcallT (i := 3) (j := 1) (t := txV 65535 (tkS 1 (l, 0))) hS rfl rfl (fun hr => rtext_t (s := tkS 1 (l, 0)) 65535 hr (by have := hb_3; omega)) (fun _ _ => rfl)) ?_
 rintro ⟨ut5, rv5, _⟩
 dsimp only
 refine MD 3 ?_
 have hb_6 : (txS 65535 (tkS 1 (l, 0))).1.length ≤ 1000000 := Nat.le_trans (txS_len _ _) hb_3
 refine MV ?_
 refine MFact (fun W hS => (sl_cells (hS.osl (i := 0) rfl)).2) ?_
 intro oc_tx57
 refine MP 2 (v := ut5) (cs' := agF [.c (.int .i64 (byV (l, 0) : Int)), .c (.slice none 0 0), .a 32 0, .a 32 0, .c (.int .i64 0), .c (.int .i64 0), .c (.int .i64 0), .c (.int .i64 0), .c (.slice none 0 0), .c (.slice none 0 0), .c (.int .i64 0), .c (.int .i64 0), .c ut5]) ?_ (hs := by rw [agF_size]; show 74 < 75; decide) (hc := agF_setc 12) (hv := fun W hS => sl_cells (hS.osl (i := 0) rfl))
 refine MZ fun W hS => ?_
 go_upto_region 18 with fail
 refine RL hS ?_
 clear hS
 refine MV ?_
 refine MG 2 ?_ (v := .int .i64 (byV (l, 0) : Int)) (hj := (agF_cel 0))
 refine MZ fun W hS => ?_
 go_upto_region 19 with fail
 refine RL hS ?_
 clear hS
 refine MW ?_ (v := .bool false) (hv := by intro W; go_simp; first | done | omega | assumption)
 refine MW ?_ (v := .bool false)
 refine MZ fun W hS => ?_
 go_upto_region 21 with fail
 refine RL hS ?_
 clear hS
 refine MW ?_ (v := .bool false) (hv := by intro W; go_simp; first | done | omega | assumption)
 refine MW ?_ (v := .bool false)
 refine MZ fun W hS => ?_
 go_upto_region 23 with fail
 refine RL hS ?_
 clear hS
 refine MW ?_ (v := .bool false) (hv := by intro W; go_simp; first | done | omega | assumption)
 refine MW ?_ (v := .bool false)
 refine MZ fun W hS => ?_
 go_upto_region 24 with fail
 refine RL hS ?_
 clear hS
 refine MW ?_ (v := .bool false) (hv := by intro W; go_simp; first | done | omega | assumption)
 refine MW ?_ (v := .bool false)
 refine MZ fun W hS => ?_
 by_cases h0 : enV (txS 65535 (tkS 1 (l, 0))) = 0
 ·
  have _f := h0
  go_upto_region 27 with fail
  refine RL hS ?_
  clear hS
  refine MV ?_
  refine MC (v := .bool (decide (enV (txS 65535 (tkS 1 (l, 0))) = 0))) (fun W hS => wright_c (s := txS 65535 (tkS 1 (l, 0))) W (hS.blk (i := 3) rfl) (rdr_at hS (i := 4) rfl (j := 1) rfl)) ?_
  refine MW ?_ (v := .bool false) (hv := by intro W; go_simp; first | done | simp [h0])
  refine MZ fun W hS => ?_
  go_upto_region 29 with fail
  refine RL hS ?_
  clear hS
  refine ML 2 ?_ (hs := by rw [agF_size]; kernel_rfl)
  refine MR 5 ?_ (hz := by rw [agF_size]; kernel_rfl) (hs := by first | (rw [agF_size, agF_size]; rfl) | rfl) (h1 := by exact (agF_one ⟨rfl, rfl, rfl, rfl, rfl, rfl, rfl, rfl, rfl, rfl, oc_tx57, trivial⟩))
  refine MW ?_ (v := .int .i64 0)
  refine MZ fun W hS => ?_
  have hk := Hk.out
  have hS := hS.onil rfl
  have hS := hS.onil rfl
  have hS := hS.onil rfl
  go_wp2
  clear hk
  exact bodyPost_ret (res_c2 rfl rfl rfl (hS.blk (i := 8) rfl) (by kernel_rfl) (by rw [agF_size]; kernel_rfl)) rfl (show AkR _ _ _ _ from (have hk := Hk.out; .inr ⟨by unfold aQ; rw [rdQ_10 hk]; exact h0, (.slice none 0 0, .slice none 0 0, .slice none 0 0, ut5), by unfold aQ; rw [rdQ_10 hk]; rfl, by unfold aQ; rw [rdQ_10 hk]; exact hS.pick [2, 1, 0, 3]⟩))
 ·
  have _f := h0
  go_upto_region 27 with fail
  refine RL hS ?_
  clear hS
  refine MV ?_
  refine MC (v := .bool (decide (enV (txS 65535 (tkS 1 (l, 0))) = 0))) (fun W hS => wright_c (s := txS 65535 (tkS 1 (l, 0))) W (hS.blk (i := 3) rfl) (rdr_at hS (i := 4) rfl (j := 1) rfl)) ?_
  refine MW ?_ (v := .bool true) (hv := by intro W; go_simp; first | done | simp [h0])
  refine MZ fun W hS => ?_
  go_upto_region 28 with fail
  refine RL hS ?_
  clear hS
  refine MF (v := .agg (agF [.c (.int .i64 0), .c (.slice none 0 0), .a 32 0, .a 32 0, .c (.int .i64 0), .c (.int .i64 0), .c (.int .i64 0), .c (.int .i64 0), .c (.slice none 0 0), .c (.slice none 0 0), .c (.int .i64 0), .c (.int .i64 0), .c (.slice none 0 0)])) (fun W hS => run_bld rfl rfl zer_wire_Request plc_wire_Request fill_n) ?_
  refine MR 5 ?_ (hz := by rw [agF_size]; kernel_rfl) (hs := by first | (rw [agF_size, agF_size]; rfl) | rfl) (h1 := by exact (agF_one ⟨rfl, rfl, rfl, rfl, rfl, rfl, rfl, rfl, rfl, rfl, rfl, trivial⟩))
  refine MW ?_ (v := .int .i64 2)
  refine MZ fun W hS => ?_
  have hk := Hk.out
  go_wp2
  clear hk
  exact bodyPost_ret (res_c2 rfl rfl rfl (hS.blk (i := 5) rfl) (by kernel_rfl) (by rw [agF_size]; kernel_rfl)) rfl (show AkR _ _ _ _ from (have hk := Hk.out; .inl ⟨by unfold aQ; rw [rdQ_10 hk]; exact h0, rfl, hS.ext⟩))
theorem asked_12 {u : Value} {l : List UInt8} (hl : l.length ≤ 1000000) (hk : byV (l, 0) = 12) (w : World) (hs : Sl w u l) :
  Calls Try.prog 14 #[u] w fun e w' => AkR l w w' e := by
 have hb0 : ((l, 0) : RSt).1.length ≤ 1000000 := hl
 have Hk := Lib.hid hk
 have hk1 : byV (l, 0) ≤ 12 := by omega
 have hk2 : 12 ≤ byV (l, 0) := by omega
 clear hk
 have hS := SH.nil [] w
 go_enter Try.func14, Try.ntmps14
 go_upto_region 0 with fail
 refine RL hS ?_
 clear hS
 refine MN (z := agF [.c (.int .i64 0), .c (.slice none 0 0), .a 32 0, .a 32 0, .c (.int .i64 0), .c (.int .i64 0), .c (.int .i64 0), .c (.int .i64 0), .c (.slice none 0 0), .c (.slice none 0 0), .c (.int .i64 0), .c (.int .i64 0), .c (.slice none 0 0)]) (t := 33) ?_
 intro p2_1
 refine MW ?_ (v := .int .i64 0)
 refine MZ fun W hS => ?_
 go_upto_region 1 with fail
 refine RL hS ?_
 clear hS
 refine MV ?_
 refine ME (V := fun x : Nat × Nat × Value => .pointer (some ⟨x.1, 0, none⟩)) (fun W hS => ncallL hS (wread_c (by omega) W (sl_e hs hS.ext)) (fun _ => rfl)) ?_
 rintro ⟨r, p, rv⟩
 dsimp only
 refine MV ?_
 refine MZ fun W hS => ?_
 go_upto_region 2 with fail
 refine RL hS ?_
 clear hS
 refine MV ?_
 refine MV ?_
 refine MV ?_
 refine MG 0 ?_ (v := .pointer (some ⟨p, 0, none⟩))
 refine ME (V := fun _ => .int .i64 (byV (l, 0) : Int)) (fun W hS => rdcall (i := 1) (j := 2) hS rfl rfl (fun hr => rbyte_t (s := (l, 0)) hr (by have := hb0; omega))) ?_
 rintro ⟨rv2, _⟩
 dsimp only
 refine MD 3 ?_
 have hb_3 : (tkS 1 (l, 0)).1.length ≤ 1000000 := Nat.le_trans (tkS_len _ _) hb0
 refine MF (v := .agg (agF [.c (.int .i64 (byV (l, 0) : Int)), .c (.slice none 0 0), .a 32 0, .a 32 0, .c (.int .i64 0), .c (.int .i64 0), .c (.int .i64 0), .c (.int .i64 0), .c (.slice none 0 0), .c (.slice none 0 0), .c (.int .i64 0), .c (.int .i64 0), .c (.slice none 0 0)])) (fun W hS => run_bld rfl rfl zer_wire_Request plc_wire_Request (fill_c fill_n (l' := [.c (.int .i64 (byV (l, 0) : Int)), .c (.slice none 0 0), .a 32 0, .a 32 0, .c (.int .i64 0), .c (.int .i64 0), .c (.int .i64 0), .c (.int .i64 0), .c (.slice none 0 0), .c (.slice none 0 0), .c (.int .i64 0), .c (.int .i64 0), .c (.slice none 0 0)]) (m := [.c (.int .i64 (byV (l, 0) : Int))]) (hv := rfl) (hs := agF_setp 0 1) (hp := rfl) (hn := rfl) (hb := by show 0 + 1 ≤ 75; decide))) ?_
 refine MN (z := agF [.c (.int .i64 0), .c (.slice none 0 0), .a 32 0, .a 32 0, .c (.int .i64 0), .c (.int .i64 0), .c (.int .i64 0), .c (.int .i64 0), .c (.slice none 0 0), .c (.slice none 0 0), .c (.int .i64 0), .c (.int .i64 0), .c (.slice none 0 0)]) (t := 33) ?_
 intro p5_4
 refine MR 0 ?_ (hz := by rw [agF_size]; kernel_rfl) (hs := by first | (rw [agF_size, agF_size]; rfl) | rfl) (h1 := by exact (agF_one ⟨rfl, rfl, rfl, rfl, rfl, rfl, rfl, rfl, rfl, rfl, rfl, trivial⟩))
 refine MZ fun W hS => ?_
 go_upto_region 3 with fail
 refine RL hS ?_
 clear hS
 refine MV ?_
 refine MG 0 ?_ (v := .int .i64 (byV (l, 0) : Int)) (hj := (agF_cel 0))
 refine MW ?_ (v := .bool false) (hv := by intro W; go_simp; first | done | omega | assumption)
 refine MW ?_ (v := .bool false)
 refine MV ?_
 refine MG 0 ?_ (v := .int .i64 (byV (l, 0) : Int)) (hj := (agF_cel 0))
 refine MW ?_ (v := .bool false) (hv := by intro W; go_simp; first | done | omega | assumption)
 refine MW ?_ (v := .bool false)
 refine MZ fun W hS => ?_
 go_upto_region 5 with fail
 refine RL hS ?_
 clear hS
 refine MV ?_
 refine MG 0 ?_ (v := .int .i64 (byV (l, 0) : Int)) (hj := (agF_cel 0))
 refine MW ?_ (v := .bool true) (hv := by intro W; go_simp; first | done | omega | assumption)
 refine MW ?_ (v := .bool true)
 refine MV ?_
 refine MG 0 ?_ (v := .int .i64 (byV (l, 0) : Int)) (hj := (agF_cel 0))
 refine MW ?_ (v := .bool false) (hv := by intro W; go_simp; first | done | omega | assumption)
 refine MW ?_ (v := .bool false)
 refine MZ fun W hS => ?_
 go_upto_region 7 with fail
 refine RL hS ?_
 clear hS
 refine MV ?_
 refine MG 0 ?_ (v := .int .i64 (byV (l, 0) : Int)) (hj := (agF_cel 0))
 refine MZ fun W hS => ?_
 go_upto_region 8 with fail
 refine RL hS ?_
 clear hS
 refine MW ?_ (v := .bool false) (hv := by intro W; go_simp; first | done | omega | assumption)
 refine MW ?_ (v := .bool false)
 refine MZ fun W hS => ?_
 go_upto_region 12 with fail
 refine RL hS ?_
 clear hS
 refine MW ?_ (v := .bool false) (hv := by intro W; go_simp; first | done | omega | assumption)
 refine MW ?_ (v := .bool false)
 refine MZ fun W hS => ?_
 go_upto_region 13 with fail
 refine RL hS ?_
 clear hS
 refine MW ?_ (v := .bool false) (hv := by intro W; go_simp; first | done | omega | assumption)
 refine MW ?_ (v := .bool false)
 refine MZ fun W hS => ?_
 go_upto_region 14 with fail
 refine RL hS ?_
 clear hS
 refine MW ?_ (v := .bool false) (hv := by intro W; go_simp; first | done | omega | assumption)
 refine MW ?_ (v := .bool false)
 refine MZ fun W hS => ?_
 go_upto_region 16 with fail
 refine RL hS ?_
 clear hS
 refine MW ?_ (v := .bool false) (hv := by intro W; go_simp; first | done | omega | assumption)
 refine MW ?_ (v := .bool false)
 refine MZ fun W hS => ?_
 go_upto_region 18 with fail
 refine RL hS ?_
 clear hS
 refine MV ?_
 refine MG 0 ?_ (v := .int .i64 (byV (l, 0) : Int)) (hj := (agF_cel 0))
 refine MZ fun W hS => ?_
 go_upto_region 19 with fail
 refine RL hS ?_
 clear hS
 refine MW ?_ (v := .bool false) (hv := by intro W; go_simp; first | done | omega | assumption)
 refine MW ?_ (v := .bool false)
 refine MZ fun W hS => ?_
 go_upto_region 21 with fail
 refine RL hS ?_
 clear hS
 refine MW ?_ (v := .bool false) (hv := by intro W; go_simp; first | done | omega | assumption)
 refine MW ?_ (v := .bool false)
 refine MZ fun W hS => ?_
 go_upto_region 23 with fail
 refine RL hS ?_
 clear hS
 refine MW ?_ (v := .bool false) (hv := by intro W; go_simp; first | done | omega | assumption)
 refine MW ?_ (v := .bool false)
 refine MZ fun W hS => ?_
 go_upto_region 24 with fail
 refine RL hS ?_
 clear hS
 refine MW ?_ (v := .bool true) (hv := by intro W; go_simp; first | done | omega | assumption)
 refine MW ?_ (v := .bool true)
 refine MZ fun W hS => ?_
 go_upto_region 25 with fail
 refine RL hS ?_
 clear hS
 refine MV ?_
 refine MV ?_
 refine MV ?_
 refine MG 2 ?_ (v := .pointer (some ⟨p, 0, none⟩))
 refine ME (V := fun _ => .int .i64 (nuV (tkS 1 (l, 0)))) (fun W hS => rdcall (i := 3) (j := 1) hS rfl rfl (fun hr => rnum_t (s := tkS 1 (l, 0)) hr (by have := hb_3; omega))) ?_
 rintro ⟨rv5, _⟩
 dsimp only
 refine MD 2 ?_
 have hb_6 : (tkS 8 (tkS 1 (l, 0))).1.length ≤ 1000000 := Nat.le_trans (tkS_len _ _) hb_3
 refine MV ?_
 refine MP 1 (v := .int .i64 (nuV (tkS 1 (l, 0)))) (cs' := agF [.c (.int .i64 (byV (l, 0) : Int)), .c (.slice none 0 0), .a 32 0, .a 32 0, .c (.int .i64 0), .c (.int .i64 0), .c (.int .i64 0), .c (.int .i64 0), .c (.slice none 0 0), .c (.slice none 0 0), .c (.int .i64 (nuV (tkS 1 (l, 0)))), .c (.int .i64 0), .c (.slice none 0 0)]) ?_ (hs := by rw [agF_size]; show 72 < 75; decide) (hc := agF_setc 10)
 refine MZ fun W hS => ?_
 go_upto_region 26 with fail
 refine RL hS ?_
 clear hS
 refine MV ?_
 refine MV ?_
 refine MV ?_
 refine MG 2 ?_ (v := .pointer (some ⟨p, 0, none⟩))
 refine ME (V := fun _ => .int .i64 (nuV (tkS 8 (tkS 1 (l, 0))))) (fun W hS => rdcall (i := 3) (j := 0) hS rfl rfl (fun hr => rnum_t (s := tkS 8 (tkS 1 (l, 0))) hr (by have := hb_6; omega))) ?_
 rintro ⟨rv7, _⟩
 dsimp only
 refine MD 1 ?_
 have hb_8 : (tkS 8 (tkS 8 (tkS 1 (l, 0)))).1.length ≤ 1000000 := Nat.le_trans (tkS_len _ _) hb_6
 refine MV ?_
 refine MP 1 (v := .int .i64 (nuV (tkS 8 (tkS 1 (l, 0))))) (cs' := agF [.c (.int .i64 (byV (l, 0) : Int)), .c (.slice none 0 0), .a 32 0, .a 32 0, .c (.int .i64 0), .c (.int .i64 0), .c (.int .i64 0), .c (.int .i64 0), .c (.slice none 0 0), .c (.slice none 0 0), .c (.int .i64 (nuV (tkS 1 (l, 0)))), .c (.int .i64 (nuV (tkS 8 (tkS 1 (l, 0))))), .c (.slice none 0 0)]) ?_ (hs := by rw [agF_size]; show 73 < 75; decide) (hc := agF_setc 11)
 refine MZ fun W hS => ?_
 by_cases h0 : enV (tkS 8 (tkS 8 (tkS 1 (l, 0)))) = 0
 ·
  have _f := h0
  go_upto_region 27 with fail
  refine RL hS ?_
  clear hS
  refine MV ?_
  refine MC (v := .bool (decide (enV (tkS 8 (tkS 8 (tkS 1 (l, 0)))) = 0))) (fun W hS => wright_c (s := tkS 8 (tkS 8 (tkS 1 (l, 0)))) W (hS.blk (i := 2) rfl) (rdr_at hS (i := 3) rfl (j := 0) rfl)) ?_
  refine MW ?_ (v := .bool false) (hv := by intro W; go_simp; first | done | simp [h0])
  refine MZ fun W hS => ?_
  go_upto_region 29 with fail
  refine RL hS ?_
  clear hS
  refine ML 1 ?_ (hs := by rw [agF_size]; kernel_rfl)
  refine MR 4 ?_ (hz := by rw [agF_size]; kernel_rfl) (hs := by first | (rw [agF_size, agF_size]; rfl) | rfl) (h1 := by exact (agF_one ⟨rfl, rfl, rfl, rfl, rfl, rfl, rfl, rfl, rfl, rfl, rfl, trivial⟩))
  refine MW ?_ (v := .int .i64 0)
  refine MZ fun W hS => ?_
  have hk := Hk.out
  have hS := hS.onil rfl
  have hS := hS.onil rfl
  have hS := hS.onil rfl
  have hS := hS.onil rfl
  go_wp2
  clear hk
  exact bodyPost_ret (res_c2 rfl rfl rfl (hS.blk (i := 8) rfl) (by kernel_rfl) (by rw [agF_size]; kernel_rfl)) rfl (show AkR _ _ _ _ from (have hk := Hk.out; .inr ⟨by unfold aQ; rw [rdQ_12 hk]; exact h0, (.slice none 0 0, .slice none 0 0, .slice none 0 0, .slice none 0 0), by unfold aQ; rw [rdQ_12 hk]; rfl, by unfold aQ; rw [rdQ_12 hk]; exact hS.pick [3, 2, 1, 0]⟩))
 ·
  have _f := h0
  go_upto_region 27 with fail
  refine RL hS ?_
  clear hS
  refine MV ?_
  refine MC (v := .bool (decide (enV (tkS 8 (tkS 8 (tkS 1 (l, 0)))) = 0))) (fun W hS => wright_c (s := tkS 8 (tkS 8 (tkS 1 (l, 0)))) W (hS.blk (i := 2) rfl) (rdr_at hS (i := 3) rfl (j := 0) rfl)) ?_
  refine MW ?_ (v := .bool true) (hv := by intro W; go_simp; first | done | simp [h0])
  refine MZ fun W hS => ?_
  go_upto_region 28 with fail
  refine RL hS ?_
  clear hS
  refine MF (v := .agg (agF [.c (.int .i64 0), .c (.slice none 0 0), .a 32 0, .a 32 0, .c (.int .i64 0), .c (.int .i64 0), .c (.int .i64 0), .c (.int .i64 0), .c (.slice none 0 0), .c (.slice none 0 0), .c (.int .i64 0), .c (.int .i64 0), .c (.slice none 0 0)])) (fun W hS => run_bld rfl rfl zer_wire_Request plc_wire_Request fill_n) ?_
  refine MR 4 ?_ (hz := by rw [agF_size]; kernel_rfl) (hs := by first | (rw [agF_size, agF_size]; rfl) | rfl) (h1 := by exact (agF_one ⟨rfl, rfl, rfl, rfl, rfl, rfl, rfl, rfl, rfl, rfl, rfl, trivial⟩))
  refine MW ?_ (v := .int .i64 2)
  refine MZ fun W hS => ?_
  have hk := Hk.out
  go_wp2
  clear hk
  exact bodyPost_ret (res_c2 rfl rfl rfl (hS.blk (i := 4) rfl) (by kernel_rfl) (by rw [agF_size]; kernel_rfl)) rfl (show AkR _ _ _ _ from (have hk := Hk.out; .inl ⟨by unfold aQ; rw [rdQ_12 hk]; exact h0, rfl, hS.ext⟩))
theorem asked_0 {u : Value} {l : List UInt8} (hl : l.length ≤ 1000000) (hk : 1 ≤ byV (l, 0) ∧ byV (l, 0) ≤ 12 ∧ byV (l, 0) ≠ 1 ∧ byV (l, 0) ≠ 5 ∧ byV (l, 0) ≠ 6 ∧ byV (l, 0) ≠ 7 ∧ byV (l, 0) ≠ 8 ∧ byV (l, 0) ≠ 10 ∧ byV (l, 0) ≠ 12) (w : World) (hs : Sl w u l) :
  Calls Try.prog 14 #[u] w fun e w' => AkR l w w' e := by
 have hb0 : ((l, 0) : RSt).1.length ≤ 1000000 := hl
 have hS := SH.nil [] w
 go_enter Try.func14, Try.ntmps14
 go_upto_region 0 with fail
 refine RL hS ?_
 clear hS
 refine MN (z := agF [.c (.int .i64 0), .c (.slice none 0 0), .a 32 0, .a 32 0, .c (.int .i64 0), .c (.int .i64 0), .c (.int .i64 0), .c (.int .i64 0), .c (.slice none 0 0), .c (.slice none 0 0), .c (.int .i64 0), .c (.int .i64 0), .c (.slice none 0 0)]) (t := 33) ?_
 intro p2_1
 refine MW ?_ (v := .int .i64 0)
 refine MZ fun W hS => ?_
 go_upto_region 1 with fail
 refine RL hS ?_
 clear hS
 refine MV ?_
 refine ME (V := fun x : Nat × Nat × Value => .pointer (some ⟨x.1, 0, none⟩)) (fun W hS => ncallL hS (wread_c (by omega) W (sl_e hs hS.ext)) (fun _ => rfl)) ?_
 rintro ⟨r, p, rv⟩
 dsimp only
 refine MV ?_
 refine MZ fun W hS => ?_
 go_upto_region 2 with fail
 refine RL hS ?_
 clear hS
 refine MV ?_
 refine MV ?_
 refine MV ?_
 refine MG 0 ?_ (v := .pointer (some ⟨p, 0, none⟩))
 refine ME (V := fun _ => .int .i64 (byV (l, 0) : Int)) (fun W hS => rdcall (i := 1) (j := 2) hS rfl rfl (fun hr => rbyte_t (s := (l, 0)) hr (by have := hb0; omega))) ?_
 rintro ⟨rv2, _⟩
 dsimp only
 refine MD 3 ?_
 have hb_3 : (tkS 1 (l, 0)).1.length ≤ 1000000 := Nat.le_trans (tkS_len _ _) hb0
 refine MF (v := .agg (agF [.c (.int .i64 (byV (l, 0) : Int)), .c (.slice none 0 0), .a 32 0, .a 32 0, .c (.int .i64 0), .c (.int .i64 0), .c (.int .i64 0), .c (.int .i64 0), .c (.slice none 0 0), .c (.slice none 0 0), .c (.int .i64 0), .c (.int .i64 0), .c (.slice none 0 0)])) (fun W hS => run_bld rfl rfl zer_wire_Request plc_wire_Request (fill_c fill_n (l' := [.c (.int .i64 (byV (l, 0) : Int)), .c (.slice none 0 0), .a 32 0, .a 32 0, .c (.int .i64 0), .c (.int .i64 0), .c (.int .i64 0), .c (.int .i64 0), .c (.slice none 0 0), .c (.slice none 0 0), .c (.int .i64 0), .c (.int .i64 0), .c (.slice none 0 0)]) (m := [.c (.int .i64 (byV (l, 0) : Int))]) (hv := rfl) (hs := agF_setp 0 1) (hp := rfl) (hn := rfl) (hb := by show 0 + 1 ≤ 75; decide))) ?_
 refine MN (z := agF [.c (.int .i64 0), .c (.slice none 0 0), .a 32 0, .a 32 0, .c (.int .i64 0), .c (.int .i64 0), .c (.int .i64 0), .c (.int .i64 0), .c (.slice none 0 0), .c (.slice none 0 0), .c (.int .i64 0), .c (.int .i64 0), .c (.slice none 0 0)]) (t := 33) ?_
 intro p5_4
 refine MR 0 ?_ (hz := by rw [agF_size]; kernel_rfl) (hs := by first | (rw [agF_size, agF_size]; rfl) | rfl) (h1 := by exact (agF_one ⟨rfl, rfl, rfl, rfl, rfl, rfl, rfl, rfl, rfl, rfl, rfl, trivial⟩))
 refine MZ fun W hS => ?_
 go_upto_region 3 with fail
 refine RL hS ?_
 clear hS
 refine MV ?_
 refine MG 0 ?_ (v := .int .i64 (byV (l, 0) : Int)) (hj := (agF_cel 0))
 refine MW ?_ (v := .bool false) (hv := by intro W; go_simp; first | done | omega | assumption)
 refine MW ?_ (v := .bool false)
 refine MV ?_
 refine MG 0 ?_ (v := .int .i64 (byV (l, 0) : Int)) (hj := (agF_cel 0))
 refine MW ?_ (v := .bool false) (hv := by intro W; go_simp; first | done | omega | assumption)
 refine MW ?_ (v := .bool false)
 refine MZ fun W hS => ?_
 go_upto_region 5 with fail
 refine RL hS ?_
 clear hS
 refine MV ?_
 refine MG 0 ?_ (v := .int .i64 (byV (l, 0) : Int)) (hj := (agF_cel 0))
 refine MW ?_ (v := .bool true) (hv := by intro W; go_simp; first | done | omega | assumption)
 refine MW ?_ (v := .bool true)
 refine MV ?_
 refine MG 0 ?_ (v := .int .i64 (byV (l, 0) : Int)) (hj := (agF_cel 0))
 refine MW ?_ (v := .bool true) (hv := by intro W; go_simp; first | done | omega | assumption)
 refine MW ?_ (v := .bool true)
 refine MZ fun W hS => ?_
 go_upto_region 6 with fail
 refine RL hS ?_
 clear hS
 refine MV ?_
 refine MV ?_
 refine MV ?_
 refine MG 2 ?_ (v := .pointer (some ⟨p, 0, none⟩))
 refine ME (V := fun x : Value × { u : Value // Sub u (txS 16 (tkS 1 (l, 0))).1 (sb rv2 (tkS 1 (l, 0)).1) } => x.1) (fun W hS => rdcallT (i := 3) (j := 1) (t := txV 16 (tkS 1 (l, 0))) hS rfl rfl (fun hr => rtext_t (s := tkS 1 (l, 0)) 16 hr (by have := hb_3; omega)) (fun _ _ => rfl)) ?_
 rintro ⟨ut5, rv5, _⟩
 dsimp only
 refine MD 3 ?_
 have hb_6 : (txS 16 (tkS 1 (l, 0))).1.length ≤ 1000000 := Nat.le_trans (txS_len _ _) hb_3
 refine MV ?_
 refine MFact (fun W hS => (sl_cells (hS.osl (i := 0) rfl)).2) ?_
 intro oc_tx57
 refine MP 2 (v := ut5) (cs' := agF [.c (.int .i64 (byV (l, 0) : Int)), .c ut5, .a 32 0, .a 32 0, .c (.int .i64 0), .c (.int .i64 0), .c (.int .i64 0), .c (.int .i64 0), .c (.slice none 0 0), .c (.slice none 0 0), .c (.int .i64 0), .c (.int .i64 0), .c (.slice none 0 0)]) ?_ (hs := by rw [agF_size]; show 1 < 75; decide) (hc := agF_setc 1) (hv := fun W hS => sl_cells (hS.osl (i := 0) rfl))
 refine MZ fun W hS => ?_
 go_upto_region 7 with fail
 refine RL hS ?_
 clear hS
 refine MV ?_
 refine MG 2 ?_ (v := .int .i64 (byV (l, 0) : Int)) (hj := (agF_cel 0))
 refine MZ fun W hS => ?_
 go_upto_region 8 with fail
 refine RL hS ?_
 clear hS
 refine MW ?_ (v := .bool false) (hv := by intro W; go_simp; first | done | omega | assumption)
 refine MW ?_ (v := .bool false)
 refine MZ fun W hS => ?_
 go_upto_region 12 with fail
 refine RL hS ?_
 clear hS
 refine MW ?_ (v := .bool false) (hv := by intro W; go_simp; first | done | omega | assumption)
 refine MW ?_ (v := .bool false)
 refine MZ fun W hS => ?_
 go_upto_region 13 with fail
 refine RL hS ?_
 clear hS
 refine MW ?_ (v := .bool false) (hv := by intro W; go_simp; first | done | omega | assumption)
 refine MW ?_ (v := .bool false)
 refine MZ fun W hS => ?_
 go_upto_region 14 with fail
 refine RL hS ?_
 clear hS
 refine MW ?_ (v := .bool false) (hv := by intro W; go_simp; first | done | omega | assumption)
 refine MW ?_ (v := .bool false)
 refine MZ fun W hS => ?_
 go_upto_region 16 with fail
 refine RL hS ?_
 clear hS
 refine MW ?_ (v := .bool false) (hv := by intro W; go_simp; first | done | omega | assumption)
 refine MW ?_ (v := .bool false)
 refine MZ fun W hS => ?_
 go_upto_region 18 with fail
 refine RL hS ?_
 clear hS
 refine MV ?_
 refine MG 2 ?_ (v := .int .i64 (byV (l, 0) : Int)) (hj := (agF_cel 0))
 refine MZ fun W hS => ?_
 go_upto_region 19 with fail
 refine RL hS ?_
 clear hS
 refine MW ?_ (v := .bool false) (hv := by intro W; go_simp; first | done | omega | assumption)
 refine MW ?_ (v := .bool false)
 refine MZ fun W hS => ?_
 go_upto_region 21 with fail
 refine RL hS ?_
 clear hS
 refine MW ?_ (v := .bool false) (hv := by intro W; go_simp; first | done | omega | assumption)
 refine MW ?_ (v := .bool false)
 refine MZ fun W hS => ?_
 go_upto_region 23 with fail
 refine RL hS ?_
 clear hS
 refine MW ?_ (v := .bool false) (hv := by intro W; go_simp; first | done | omega | assumption)
 refine MW ?_ (v := .bool false)
 refine MZ fun W hS => ?_
 go_upto_region 24 with fail
 refine RL hS ?_
 clear hS
 refine MW ?_ (v := .bool false) (hv := by intro W; go_simp; first | done | omega | assumption)
 refine MW ?_ (v := .bool false)
 refine MZ fun W hS => ?_
 by_cases h0 : enV (txS 16 (tkS 1 (l, 0))) = 0
 ·
  have _f := h0
  go_upto_region 27 with fail
  refine RL hS ?_
  clear hS
  refine MV ?_
  refine MC (v := .bool (decide (enV (txS 16 (tkS 1 (l, 0))) = 0))) (fun W hS => wright_c (s := txS 16 (tkS 1 (l, 0))) W (hS.blk (i := 3) rfl) (rdr_at hS (i := 4) rfl (j := 1) rfl)) ?_
  refine MW ?_ (v := .bool false) (hv := by intro W; go_simp; first | done | simp [h0])
  refine MZ fun W hS => ?_
  go_upto_region 29 with fail
  refine RL hS ?_
  clear hS
  refine ML 2 ?_ (hs := by rw [agF_size]; kernel_rfl)
  refine MR 5 ?_ (hz := by rw [agF_size]; kernel_rfl) (hs := by first | (rw [agF_size, agF_size]; rfl) | rfl) (h1 := by exact (agF_one ⟨rfl, oc_tx57, rfl, rfl, rfl, rfl, rfl, rfl, rfl, rfl, rfl, trivial⟩))
  refine MW ?_ (v := .int .i64 0)
  refine MZ fun W hS => ?_
  have hS := hS.onil rfl
  have hS := hS.onil rfl
  have hS := hS.onil rfl
  go_wp2
  exact bodyPost_ret (res_c2 rfl rfl rfl (hS.blk (i := 8) rfl) (by kernel_rfl) (by rw [agF_size]; kernel_rfl)) rfl (show AkR _ _ _ _ from (.inr ⟨by unfold aQ; rw [rdQ_0 hk.2.2]; exact h0, (ut5, .slice none 0 0, .slice none 0 0, .slice none 0 0), by unfold aQ; rw [rdQ_0 hk.2.2]; rfl, by unfold aQ; rw [rdQ_0 hk.2.2]; exact hS.pick [3, 2, 1, 0]⟩))
 ·
  have _f := h0
  go_upto_region 27 with fail
  refine RL hS ?_
  clear hS
  refine MV ?_
  refine MC (v := .bool (decide (enV (txS 16 (tkS 1 (l, 0))) = 0))) (fun W hS => wright_c (s := txS 16 (tkS 1 (l, 0))) W (hS.blk (i := 3) rfl) (rdr_at hS (i := 4) rfl (j := 1) rfl)) ?_
  refine MW ?_ (v := .bool true) (hv := by intro W; go_simp; first | done | simp [h0])
  refine MZ fun W hS => ?_
  go_upto_region 28 with fail
  refine RL hS ?_
  clear hS
  refine MF (v := .agg (agF [.c (.int .i64 0), .c (.slice none 0 0), .a 32 0, .a 32 0, .c (.int .i64 0), .c (.int .i64 0), .c (.int .i64 0), .c (.int .i64 0), .c (.slice none 0 0), .c (.slice none 0 0), .c (.int .i64 0), .c (.int .i64 0), .c (.slice none 0 0)])) (fun W hS => run_bld rfl rfl zer_wire_Request plc_wire_Request fill_n) ?_
  refine MR 5 ?_ (hz := by rw [agF_size]; kernel_rfl) (hs := by first | (rw [agF_size, agF_size]; rfl) | rfl) (h1 := by exact (agF_one ⟨rfl, rfl, rfl, rfl, rfl, rfl, rfl, rfl, rfl, rfl, rfl, trivial⟩))
  refine MW ?_ (v := .int .i64 2)
  refine MZ fun W hS => ?_
  go_wp2
  exact bodyPost_ret (res_c2 rfl rfl rfl (hS.blk (i := 5) rfl) (by kernel_rfl) (by rw [agF_size]; kernel_rfl)) rfl (show AkR _ _ _ _ from (.inl ⟨by unfold aQ; rw [rdQ_0 hk.2.2]; exact h0, rfl, hS.ext⟩))
theorem asked_none {u : Value} {l : List UInt8} (hl : l.length ≤ 1000000) (hk : byV (l, 0) < 1 ∨ 12 < byV (l, 0)) (w : World) (hs : Sl w u l) :
  Calls Try.prog 14 #[u] w fun e w' => Ret (.tuple #[.agg zRQ, .int .i64 2]) w w' e := by
 have hb0 : ((l, 0) : RSt).1.length ≤ 1000000 := hl
 have hS := SH.nil [] w
 go_enter Try.func14, Try.ntmps14
 go_upto_region 0 with fail
 refine RL hS ?_
 clear hS
 refine MN (z := agF [.c (.int .i64 0), .c (.slice none 0 0), .a 32 0, .a 32 0, .c (.int .i64 0), .c (.int .i64 0), .c (.int .i64 0), .c (.int .i64 0), .c (.slice none 0 0), .c (.slice none 0 0), .c (.int .i64 0), .c (.int .i64 0), .c (.slice none 0 0)]) (t := 33) ?_
 intro p2_1
 refine MW ?_ (v := .int .i64 0)
 refine MZ fun W hS => ?_
 go_upto_region 1 with fail
 refine RL hS ?_
 clear hS
 refine MV ?_
 refine ME (V := fun x : Nat × Nat × Value => .pointer (some ⟨x.1, 0, none⟩)) (fun W hS => ncallL hS (wread_c (by omega) W (sl_e hs hS.ext)) (fun _ => rfl)) ?_
 rintro ⟨r, p, rv⟩
 dsimp only
 refine MV ?_
 refine MZ fun W hS => ?_
 go_upto_region 2 with fail
 refine RL hS ?_
 clear hS
 refine MV ?_
 refine MV ?_
 refine MV ?_
 refine MG 0 ?_ (v := .pointer (some ⟨p, 0, none⟩))
 refine ME (V := fun _ => .int .i64 (byV (l, 0) : Int)) (fun W hS => rdcall (i := 1) (j := 2) hS rfl rfl (fun hr => rbyte_t (s := (l, 0)) hr (by have := hb0; omega))) ?_
 rintro ⟨rv2, _⟩
 dsimp only
 refine MD 3 ?_
 have hb_3 : (tkS 1 (l, 0)).1.length ≤ 1000000 := Nat.le_trans (tkS_len _ _) hb0
 refine MF (v := .agg (agF [.c (.int .i64 (byV (l, 0) : Int)), .c (.slice none 0 0), .a 32 0, .a 32 0, .c (.int .i64 0), .c (.int .i64 0), .c (.int .i64 0), .c (.int .i64 0), .c (.slice none 0 0), .c (.slice none 0 0), .c (.int .i64 0), .c (.int .i64 0), .c (.slice none 0 0)])) (fun W hS => run_bld rfl rfl zer_wire_Request plc_wire_Request (fill_c fill_n (l' := [.c (.int .i64 (byV (l, 0) : Int)), .c (.slice none 0 0), .a 32 0, .a 32 0, .c (.int .i64 0), .c (.int .i64 0), .c (.int .i64 0), .c (.int .i64 0), .c (.slice none 0 0), .c (.slice none 0 0), .c (.int .i64 0), .c (.int .i64 0), .c (.slice none 0 0)]) (m := [.c (.int .i64 (byV (l, 0) : Int))]) (hv := rfl) (hs := agF_setp 0 1) (hp := rfl) (hn := rfl) (hb := by show 0 + 1 ≤ 75; decide))) ?_
 refine MN (z := agF [.c (.int .i64 0), .c (.slice none 0 0), .a 32 0, .a 32 0, .c (.int .i64 0), .c (.int .i64 0), .c (.int .i64 0), .c (.int .i64 0), .c (.slice none 0 0), .c (.slice none 0 0), .c (.int .i64 0), .c (.int .i64 0), .c (.slice none 0 0)]) (t := 33) ?_
 intro p5_4
 refine MR 0 ?_ (hz := by rw [agF_size]; kernel_rfl) (hs := by first | (rw [agF_size, agF_size]; rfl) | rfl) (h1 := by exact (agF_one ⟨rfl, rfl, rfl, rfl, rfl, rfl, rfl, rfl, rfl, rfl, rfl, trivial⟩))
 refine MZ fun W hS => ?_
 by_cases hlt : byV (l, 0) < 1
 ·
  have _f := hlt
  go_upto_region 3 with fail
  refine RL hS ?_
  clear hS
  refine MV ?_
  refine MG 0 ?_ (v := .int .i64 (byV (l, 0) : Int)) (hj := (agF_cel 0))
  refine MW ?_ (v := .bool true) (hv := by intro W; go_simp; first | done | omega | assumption)
  refine MW ?_ (v := .bool true)
  refine MS ?_
  refine MS ?_
  refine MS ?_
  refine MW ?_ (v := .bool true)
  refine MZ fun W hS => ?_
  go_upto_region 4 with fail
  refine RL hS ?_
  clear hS
  refine MF (v := .agg (agF [.c (.int .i64 0), .c (.slice none 0 0), .a 32 0, .a 32 0, .c (.int .i64 0), .c (.int .i64 0), .c (.int .i64 0), .c (.int .i64 0), .c (.slice none 0 0), .c (.slice none 0 0), .c (.int .i64 0), .c (.int .i64 0), .c (.slice none 0 0)])) (fun W hS => run_bld rfl rfl zer_wire_Request plc_wire_Request fill_n) ?_
  refine MR 4 ?_ (hz := by rw [agF_size]; kernel_rfl) (hs := by first | (rw [agF_size, agF_size]; rfl) | rfl) (h1 := by exact (agF_one ⟨rfl, rfl, rfl, rfl, rfl, rfl, rfl, rfl, rfl, rfl, rfl, trivial⟩))
  refine MW ?_ (v := .int .i64 2)
  refine MZ fun W hS => ?_
  go_wp2
  exact bodyPost_ret (res_c2 rfl rfl rfl (hS.blk (i := 4) rfl) (by kernel_rfl) (by rw [agF_size]; kernel_rfl)) rfl ⟨rfl, hS.ext⟩
 ·
  have _f := hlt
  go_upto_region 3 with fail
  refine RL hS ?_
  clear hS
  refine MV ?_
  refine MG 0 ?_ (v := .int .i64 (byV (l, 0) : Int)) (hj := (agF_cel 0))
  refine MW ?_ (v := .bool false) (hv := by intro W; go_simp; first | done | omega | assumption)
  refine MW ?_ (v := .bool false)
  refine MV ?_
  refine MG 0 ?_ (v := .int .i64 (byV (l, 0) : Int)) (hj := (agF_cel 0))
  refine MW ?_ (v := .bool true) (hv := by intro W; go_simp; first | done | omega | assumption)
  refine MW ?_ (v := .bool true)
  refine MZ fun W hS => ?_
  go_upto_region 4 with fail
  refine RL hS ?_
  clear hS
  refine MF (v := .agg (agF [.c (.int .i64 0), .c (.slice none 0 0), .a 32 0, .a 32 0, .c (.int .i64 0), .c (.int .i64 0), .c (.int .i64 0), .c (.int .i64 0), .c (.slice none 0 0), .c (.slice none 0 0), .c (.int .i64 0), .c (.int .i64 0), .c (.slice none 0 0)])) (fun W hS => run_bld rfl rfl zer_wire_Request plc_wire_Request fill_n) ?_
  refine MR 4 ?_ (hz := by rw [agF_size]; kernel_rfl) (hs := by first | (rw [agF_size, agF_size]; rfl) | rfl) (h1 := by exact (agF_one ⟨rfl, rfl, rfl, rfl, rfl, rfl, rfl, rfl, rfl, rfl, rfl, trivial⟩))
  refine MW ?_ (v := .int .i64 2)
  refine MZ fun W hS => ?_
  go_wp2
  exact bodyPost_ret (res_c2 rfl rfl rfl (hS.blk (i := 4) rfl) (by kernel_rfl) (by rw [agF_size]; kernel_rfl)) rfl ⟨rfl, hS.ext⟩
theorem asked_c {u : Value} {l : List UInt8} (hl : l.length ≤ 1000000) (w : World) (hs : Sl w u l) : Calls Try.prog 14 #[u] w fun e w' => (askedM l = none ∧ Ret (.tuple #[.agg zRQ, .int .i64 2]) w w' e) ∨ (∃ q, askedM l = some q ∧ ∃ x : Value × Value × Value × Value, e = .returned (.tuple #[.agg (rqF q x.1 x.2.1 x.2.2.1 x.2.2.2), .int .i64 0]) ∧ SH [] w w' [.o x.1 q.id, .o x.2.1 q.lab, .o x.2.2.1 q.val, .o x.2.2.2 q.bun]) := by
 have lift : 1 ≤ byV (l, 0) → byV (l, 0) ≤ 12 → ∀ {e w'}, (AkR l w w' e) → (askedM l = none ∧ Ret (.tuple #[.agg zRQ, .int .i64 2]) w w' e) ∨ (∃ q, askedM l = some q ∧ ∃ x : Value × Value × Value × Value, e = .returned (.tuple #[.agg (rqF q x.1 x.2.1 x.2.2.1 x.2.2.2), .int .i64 0]) ∧ SH [] w w' [.o x.1 q.id, .o x.2.1 q.lab, .o x.2.2.1 q.val, .o x.2.2.2 q.bun]) := by
  rintro h1 h2 e w' (⟨h3, h4⟩ | ⟨h3, h4⟩)
  ·
   exact .inl ⟨if_neg fun h => h3 h.2, h4⟩
  ·
   exact .inr ⟨_, if_pos ⟨⟨h1, h2⟩, h3⟩, h4⟩
 by_cases hK : 1 ≤ byV (l, 0) ∧ byV (l, 0) ≤ 12
 ·
  by_cases h1 : byV (l, 0) = 1
  ·
   exact (asked_1 hl h1 w hs).mono fun _ _ => lift hK.1 hK.2
  by_cases h5 : byV (l, 0) = 5
  ·
   exact (asked_5 hl h5 w hs).mono fun _ _ => lift hK.1 hK.2
  by_cases h6 : byV (l, 0) = 6
  ·
   exact (asked_6 hl h6 w hs).mono fun _ _ => lift hK.1 hK.2
  by_cases h7 : byV (l, 0) = 7
  ·
   exact (asked_7 hl h7 w hs).mono fun _ _ => lift hK.1 hK.2
  by_cases h8 : byV (l, 0) = 8
  ·
   exact (asked_8 hl h8 w hs).mono fun _ _ => lift hK.1 hK.2
  by_cases h10 : byV (l, 0) = 10
  ·
   exact (asked_10 hl h10 w hs).mono fun _ _ => lift hK.1 hK.2
  by_cases h12 : byV (l, 0) = 12
  ·
   exact (asked_12 hl h12 w hs).mono fun _ _ => lift hK.1 hK.2
  exact (asked_0 hl ⟨hK.1, hK.2, h1, h5, h6, h7, h8, h10, h12⟩ w hs).mono fun _ _ => lift hK.1 hK.2
 ·
  exact (asked_none hl (by omega) w hs).mono fun _ _ h => .inl ⟨if_neg fun h => hK h.1, h⟩
end Go.Proofs.Ytlbgelbhhibikaa.Ww

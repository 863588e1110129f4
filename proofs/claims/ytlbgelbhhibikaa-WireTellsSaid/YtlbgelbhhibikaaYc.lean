/- wire's writer: rows of versions and of marks. Conditions: memory holds what is written. -/
import Derived.Test.YtlbgelbhhibikaaYb
set_option linter.unusedSimpArgs false
set_option linter.unusedVariables false
namespace Go.Proofs.Ytlbgelbhhibikaa.Ww
set_option maxHeartbeats 6000000
set_option maxRecDepth 100000
open Go.RowKit
attribute [local irreducible] wpList wpTr wpX
set_option linter.unusedSimpArgs false
attribute [local irreducible] lb be8 eI tB txL txB dtx dok pB smL smB pfL mkB enB

theorem zer_direct_Entry : zer Try.prog 125 = some (some (agF [.c (.int .i64 0), .c (.int .i64 0), .c (.slice none 0 0)])) := by kernel_rfl
theorem plc_direct_Entry : plc Try.prog 125 = some [(0, 1), (1, 1), (2, 1)] := by kernel_rfl
theorem zer_direct_Mark : zer Try.prog 127 = some (some (agF [.c (.int .i64 0), .a 32 0, .a 32 0])) := by kernel_rfl
theorem plc_direct_Mark : plc Try.prog 127 = some [(0, 1), (1, 32), (33, 32)] := by kernel_rfl
theorem wmarks_n {ms : List Mrk} {mv : Value} {p : Nat} {v : Value} {l : List UInt8} {bad : Bool} (hn : ms.length ≤ 1000000) (hl : l.length ≤ 800000) (w : World) (h_ : SH (SH.feet [.b p #[v, .bool false, .bool bad] 96, .o v l, mkT mv ms]) w w [.b p #[v, .bool false, .bool bad] 96, .o v l, mkT mv ms]) :
  Calls Try.prog 52 #[.pointer (some ⟨p, 0, none⟩), mv] w fun e w' => ∃ v', e = .returned (.tuple #[]) ∧ SH (SH.feet [.b p #[v, .bool false, .bool bad] 96, .o v l, mkT mv ms]) w w' [.b p #[v', .bool false, .bool (mksB ms bad)] 96, .o v' (mksL ms l), mkT mv ms] := by
 obtain ⟨Ap, cp, rfl, hlc_mk, HR_mk⟩ := RR.opf (h_.pp (i := 2) rfl)
 have hS := h_
 go_enter Try.func52, Try.ntmps52
 by_cases hbg : 1024 < ms.length
 ·
  have _f := hbg
  go_upto_region 0 with fail
  refine RL hS ?_
  clear hS
  refine MV ?_
  refine MV ?_
  refine MV ?_
  refine ME (V := fun _ => .bool false) (fun W hS => callX [0, 1] [2] hS (fun hT => wrows_b (n := ms.length) (by omega) (by first | omega | (simp only [List.length_append, List.length_cons, List.length_nil, lb_length, be8_len, eI_len, flat32, flatt]; omega)) W hT) (fun _ => ⟨.inr ⟨rfl, rfl⟩, .inr ⟨rfl, rfl⟩, trivial⟩)) ?_
  intro w1
  refine MT (H' := [.b p #[w1, .bool false, .bool true] 96, .o w1 l, mkT (.slice Ap ms.length cp) ms]) (fun W hS => hS) ?_
  refine MW ?_ (v := .bool true)
  refine MZ fun W hS => ?_
  go_wp2
  first | exact bodyPost_end (v := .tuple #[]) (by simp only [results, Try.results52]; go_simp) rfl ⟨_, rfl, by unfold mksL mksB rwB; rw [if_pos hbg, if_pos hbg]; exact hS.pick [0, 1, 2]⟩ | exact bodyPost_ret (v := .tuple #[]) (by simp only [results, Try.results52]; go_simp) rfl ⟨_, rfl, by unfold mksL mksB rwB; rw [if_pos hbg, if_pos hbg]; exact hS.pick [0, 1, 2]⟩
 ·
  have _f := hbg
  go_upto_region 0 with fail
  refine RL hS ?_
  clear hS
  refine MV ?_
  refine MV ?_
  refine MV ?_
  refine ME (V := fun _ => .bool true) (fun W hS => callX [0, 1] [2] hS (fun hT => wrows_s (n := ms.length) (by omega) (by first | omega | (simp only [List.length_append, List.length_cons, List.length_nil, lb_length, be8_len, eI_len, flat32, flatt]; omega)) W hT) (fun _ => ⟨.inr ⟨rfl, rfl⟩, .inr ⟨rfl, rfl⟩, trivial⟩)) ?_
  intro w2
  refine MT (H' := [.b p #[w2, .bool false, .bool bad] 96, .o w2 (l ++ be8 ms.length), mkT (.slice Ap ms.length cp) ms]) (fun W hS => hS) ?_
  have hb_3 : (l ++ be8 ms.length).length ≤ 800008 := (by rw [List.length_append]; simp only [be8_len]; omega)
  refine MW ?_ (v := .bool false)
  refine MZ fun W hS => ?_
  go_upto_region 1 with fail
  refine RL hS ?_
  clear hS
  refine MV ?_
  refine MV ?_
  refine MW ?_ (v := .int .i64 0)
  refine MZ fun W hS => ?_
  go_wp2_with fail
  go_loopw [5, 13] (fun x5 ii wr => ∃ (i : Nat) (bv : Value), (i ≤ ms.length) ∧ (ii = .int .i64 (i : Int)) ∧ SH (SH.feet [.b p #[v, .bool false, .bool bad] 96, .o v l, mkT (.slice Ap ms.length cp) ms]) w wr [.b p #[bv, .bool false, .bool bad] 96, .o bv (l ++ be8 ms.length ++ ((ms.map mkB).take i).flatten), mkT (.slice Ap ms.length cp) ms])
   (fun x5 ii _ => ms.length - (intOf ii).toNat)
  case atStart => exact ⟨0, w2, Nat.zero_le _, rfl, (by rw [List.take_zero, List.flatten_nil, List.append_nil]; exact hS)⟩
  clear hS
  case round =>
   obtain ⟨i, bv, hi, rfl, hS⟩ := hrel
   have hbl : (l ++ be8 ms.length ++ ((ms.map mkB).take i).flatten).length ≤ 100000000 := by simp only [List.length_append, be8_len, flatmt]; omega
   by_cases hlt : i < ms.length
   ·
    have _f := hlt
    obtain ⟨y, yh⟩ : ∃ x, ms[i]? = some x := ⟨_, List.getElem?_eq_getElem hlt⟩
    obtain ⟨gp, op, A0p, _⟩ := HR_mk.out i y yh
    have HAp := Lib.hid A0p
    clear A0p
    go_upto_region 2 with fail
    refine RL hS ?_
    clear hS
    refine MW ?_ (v := .bool true)
    refine MZ fun W hS => ?_
    go_upto_region 3 with fail
    refine RL hS ?_
    clear hS
    refine MW ?_ (v := .pointer (some ⟨gp, op + i * 65, none⟩)) (hv := fun _ => run_ixRA HAp.out hlt rfl rfl rfl Try.underlying81 (by kernel_rfl))
    refine MF (v := .agg (agF [.c (.int .i64 y.ep), .a 32 y.ro, .a 32 y.li])) (fun W hS => run_atsub rfl rfl (fun i_ v hv => (fun i_ v_ h_ => RR.cellat (hS.pp (i := 2) rfl) (by rw [List.getElem?_map, yh]; rfl) HAp.out i_ v_ (by unfold mkC; rw [← agF_list, Array.getElem?_toList]; exact h_)) i_ v (by simpa using hv)) (by kernel_rfl) (by rw [agF_size]; kernel_rfl)) ?_
    refine MN (z := agF [.c (.int .i64 0), .a 32 0, .a 32 0]) (t := 127) ?_
    intro p5_4
    refine MR 0 ?_ (hz := by rw [agF_size]; kernel_rfl) (hs := by first | (rw [agF_size, agF_size]; rfl) | rfl) (h1 := by exact (agF_one ⟨rfl, trivial⟩))
    refine MZ fun W hS => ?_
    go_upto_region 4 with fail
    refine RTp [0, 3] (.q 0 (.q 1 (.q 2 (.q 3 (.q 4 (.e 5 .z)))))) hS ?_
    clear hS
    refine TV ?_
    refine TV ?_
    refine TV ?_
    refine TV ?_
    refine TG 0 ?_ (v := .int .i64 y.ep) (hj := (agF_cel (off := 0) 0))
    refine TE (fun _ h => h.pick [0, 3]) ?_
    refine ME (V := fun _ => .tuple #[]) (fun W hS => callX [1, 2] [0, 3] hS (fun hT => wr_call hT (fun hw => wnum_i y.ep p bv (l ++ be8 ms.length ++ ((ms.map mkB).take i).flatten) false W hw (by first | omega | (simp only [List.length_append, List.length_cons, List.length_nil, lb_length, be8_len, eI_len, flat32, flatt]; omega)))) (fun _ => ⟨.inr ⟨rfl, rfl⟩, .inr ⟨rfl, rfl⟩, trivial⟩)) ?_
    intro w5
    have hb_6 : ((l ++ be8 ms.length ++ ((ms.map mkB).take i).flatten) ++ (eI y.ep)).length ≤ 100000008 := (by rw [List.length_append]; simp only [List.length_cons, List.length_nil, lb_length, be8_len, eI_len, tB_len]; omega)
    refine TNp [2, 3] [0, 1] ?_
    refine TZ (fun _ h => h.pick [2, 3]) fun W hS => ?_
    go_upto_region 5 with fail
    refine RTp [2, 3] (.q 0 (.q 1 (.q 2 (.q 3 (.q 4 (.e 5 .z)))))) hS ?_
    clear hS
    refine TV ?_
    refine TV ?_
    refine TV ?_
    refine TV ?_
    refine Tk 0 ?_ (sub := arrK .u8 32 (byt y.ro)) (hs := (agF_arr (off := 1) 1))
    refine TE (fun _ h => h.pick [2, 3]) ?_
    refine ME (V := fun _ => .tuple #[]) (fun W hS => callX [0, 1] [2, 3] hS (fun hT => wr_call hT (fun hw => wsum_n y.ro p w5 ((l ++ be8 ms.length ++ ((ms.map mkB).take i).flatten) ++ (eI y.ep)) false W hw (by first | omega | (simp only [List.length_append, List.length_cons, List.length_nil, lb_length, be8_len, eI_len, flat32, flatt]; omega)))) (fun _ => ⟨.inr ⟨rfl, rfl⟩, .inr ⟨rfl, rfl⟩, trivial⟩)) ?_
    intro w7
    have hb_8 : (((l ++ be8 ms.length ++ ((ms.map mkB).take i).flatten) ++ (eI y.ep)) ++ (lb 32 y.ro)).length ≤ 100000040 := (by rw [List.length_append]; simp only [List.length_cons, List.length_nil, lb_length, be8_len, eI_len, tB_len]; omega)
    refine TNp [2, 3] [0, 1] ?_
    refine TZ (fun _ h => h.pick [2, 3]) fun W hS => ?_
    go_upto_region 6 with fail
    refine RTp [2, 3] (.q 0 (.q 1 (.q 2 (.q 3 (.q 4 (.e 5 .z)))))) hS ?_
    clear hS
    refine TV ?_
    refine TV ?_
    refine TV ?_
    refine TV ?_
    refine Tk 0 ?_ (sub := arrK .u8 32 (byt y.li)) (hs := (agF_arr (off := 33) 2))
    refine TE (fun _ h => h.pick [2, 3]) ?_
    refine ME (V := fun _ => .tuple #[]) (fun W hS => callX [0, 1] [2, 3] hS (fun hT => wr_call hT (fun hw => wsum_n y.li p w7 (((l ++ be8 ms.length ++ ((ms.map mkB).take i).flatten) ++ (eI y.ep)) ++ (lb 32 y.ro)) false W hw (by first | omega | (simp only [List.length_append, List.length_cons, List.length_nil, lb_length, be8_len, eI_len, flat32, flatt]; omega)))) (fun _ => ⟨.inr ⟨rfl, rfl⟩, .inr ⟨rfl, rfl⟩, trivial⟩)) ?_
    intro w9
    have hb_10 : ((((l ++ be8 ms.length ++ ((ms.map mkB).take i).flatten) ++ (eI y.ep)) ++ (lb 32 y.ro)) ++ (lb 32 y.li)).length ≤ 100000072 := (by rw [List.length_append]; simp only [List.length_cons, List.length_nil, lb_length, be8_len, eI_len, tB_len]; omega)
    refine TNp [2, 3] [0, 1] ?_
    refine TZ (fun _ h => h.pick [2, 3]) fun W hS => ?_
    go_wp2
    go_roundw
    case rel => exact ⟨i + 1, w9, by omega, by go_num, (by rw [flatm_step yh]; exact (hS.pick [0, 1, 3]))⟩
    case measure => simp [intOf]; omega
   ·
    have _f := hlt
    obtain rfl : i = ms.length := by omega
    rw [takem_all] at hS
    go_upto_region 2 with fail
    refine RL hS ?_
    clear hS
    refine MW ?_ (v := .bool false)
    refine MZ fun W hS => ?_
    go_wp2
    first | exact bodyPost_end (v := .tuple #[]) (by simp only [results, Try.results52]; go_simp) rfl ⟨_, rfl, by unfold mksL mksB rwB; rw [if_neg hbg, if_neg hbg]; exact hS.pick [0, 1, 2]⟩ | exact bodyPost_ret (v := .tuple #[]) (by simp only [results, Try.results52]; go_simp) rfl ⟨_, rfl, by unfold mksL mksB rwB; rw [if_neg hbg, if_neg hbg]; exact hS.pick [0, 1, 2]⟩
theorem wentries_n {q : List En} {ev : Value} {p : Nat} {v : Value} {l : List UInt8} {bad : Bool} (hn : q.length ≤ 1000000) (hl : l.length ≤ 800000) (w : World) (h_ : SH (SH.feet [.b p #[v, .bool false, .bool bad] 96, .o v l, enT ev q]) w w [.b p #[v, .bool false, .bool bad] 96, .o v l, enT ev q]) :
  Calls Try.prog 51 #[.pointer (some ⟨p, 0, none⟩), ev] w fun e w' => ∃ v', e = .returned (.tuple #[]) ∧ SH (SH.feet [.b p #[v, .bool false, .bool bad] 96, .o v l, enT ev q]) w w' [.b p #[v', .bool false, .bool (esB q bad)] 96, .o v' (esL q l), enT ev q] := by
 obtain ⟨Ap, cp, rfl, hlc_en, HR_en⟩ := RR.opf ((h_.pp (i := 2) rfl : EnR ev q w).1)
 have hS := h_
 go_enter Try.func51, Try.ntmps51
 by_cases hbg : 1024 < q.length
 ·
  have _f := hbg
  go_upto_region 0 with fail
  refine RL hS ?_
  clear hS
  refine MV ?_
  refine MV ?_
  refine MV ?_
  refine ME (V := fun _ => .bool false) (fun W hS => callX [0, 1] [2] hS (fun hT => wrows_b (n := q.length) (by omega) (by first | omega | (simp only [List.length_append, List.length_cons, List.length_nil, lb_length, be8_len, eI_len, flat32, flatt]; omega)) W hT) (fun _ => ⟨.inr ⟨rfl, rfl⟩, .inr ⟨rfl, rfl⟩, trivial⟩)) ?_
  intro w1
  refine MT (H' := [.b p #[w1, .bool false, .bool true] 96, .o w1 l, enT (.slice Ap q.length cp) q]) (fun W hS => hS) ?_
  refine MW ?_ (v := .bool true)
  refine MZ fun W hS => ?_
  go_wp2
  first | exact bodyPost_end (v := .tuple #[]) (by simp only [results, Try.results51]; go_simp) rfl ⟨_, rfl, by unfold esL esB; rw [if_pos hbg, if_pos hbg]; exact hS.pick [0, 1, 2]⟩ | exact bodyPost_ret (v := .tuple #[]) (by simp only [results, Try.results51]; go_simp) rfl ⟨_, rfl, by unfold esL esB; rw [if_pos hbg, if_pos hbg]; exact hS.pick [0, 1, 2]⟩
 ·
  have _f := hbg
  go_upto_region 0 with fail
  refine RL hS ?_
  clear hS
  refine MV ?_
  refine MV ?_
  refine MV ?_
  refine ME (V := fun _ => .bool true) (fun W hS => callX [0, 1] [2] hS (fun hT => wrows_s (n := q.length) (by omega) (by first | omega | (simp only [List.length_append, List.length_cons, List.length_nil, lb_length, be8_len, eI_len, flat32, flatt]; omega)) W hT) (fun _ => ⟨.inr ⟨rfl, rfl⟩, .inr ⟨rfl, rfl⟩, trivial⟩)) ?_
  intro w2
  refine MT (H' := [.b p #[w2, .bool false, .bool bad] 96, .o w2 (l ++ be8 q.length), enT (.slice Ap q.length cp) q]) (fun W hS => hS) ?_
  have hb_3 : (l ++ be8 q.length).length ≤ 800008 := (by rw [List.length_append]; simp only [be8_len]; omega)
  refine MW ?_ (v := .bool false)
  refine MZ fun W hS => ?_
  go_upto_region 1 with fail
  refine RL hS ?_
  clear hS
  refine MV ?_
  refine MV ?_
  refine MW ?_ (v := .int .i64 0)
  refine MZ fun W hS => ?_
  go_wp2_with fail
  go_loopw [5, 13] (fun x5 ii wr => ∃ (i : Nat) (bv : Value), (i ≤ q.length) ∧ (ii = .int .i64 (i : Int)) ∧ SH (SH.feet [.b p #[v, .bool false, .bool bad] 96, .o v l, enT (.slice Ap q.length cp) q]) w wr [.b p #[bv, .bool false, .bool (ensB (q.take i) bad)] 96, .o bv (ensL (q.take i) (l ++ be8 q.length)), enT (.slice Ap q.length cp) q])
   (fun x5 ii _ => q.length - (intOf ii).toNat)
  case atStart => exact ⟨0, w2, Nat.zero_le _, rfl, (by rw [List.take_zero]; exact hS)⟩
  clear hS
  case round =>
   obtain ⟨i, bv, hi, rfl, hS⟩ := hrel
   have hbl : (ensL (q.take i) (l ++ be8 q.length)).length ≤ 100000000 := by have h_ := ensL_le (q.take i) (l ++ be8 q.length); simp only [List.length_append, be8_len, List.length_take] at h_; omega
   by_cases hlt : i < q.length
   ·
    have _f := hlt
    obtain ⟨y, yh⟩ : ∃ x, q[i]? = some x := ⟨_, List.getElem?_eq_getElem hlt⟩
    obtain ⟨gp, op, A0p, _⟩ := HR_en.out i y yh
    have HAp := Lib.hid A0p
    clear A0p
    replace hS := SH.part hS (i := 2) rfl ((hS.pp (i := 2) rfl : EnR _ q _).2 y (List.mem_of_getElem? yh)) (fun k_ hk_ => List.mem_append.2 (.inr (List.mem_flatMap.2 ⟨y, List.mem_of_getElem? yh, by rw [hk_]; simp⟩)))
    have huc := (sl_cells (hS.sl (i := 0) rfl))
    go_upto_region 2 with fail
    refine RL hS ?_
    clear hS
    refine MW ?_ (v := .bool true)
    refine MZ fun W hS => ?_
    go_upto_region 3 with fail
    refine RL hS ?_
    clear hS
    refine MW ?_ (v := .pointer (some ⟨gp, op + i * 3, none⟩)) (hv := fun _ => run_ixRA HAp.out hlt rfl rfl rfl Try.underlying80 (by kernel_rfl))
    refine MF (v := .agg (agF [.c (.int .i64 y.ep), .c (.int .i64 y.ver), .c y.u])) (fun W hS => run_atsub rfl rfl (fun i_ v hv => (fun i_ v_ h_ => RR.cellat (hS.pp (i := 3) rfl : EnR _ q _).1 (by rw [List.getElem?_map, yh]; rfl) HAp.out i_ v_ (by unfold enC; rw [← agF_list, Array.getElem?_toList]; exact h_)) i_ v (by simpa using hv)) (by kernel_rfl) (by rw [agF_size]; kernel_rfl)) ?_
    refine MN (z := agF [.c (.int .i64 0), .c (.int .i64 0), .c (.slice none 0 0)]) (t := 125) ?_
    intro p5_4
    refine MR 0 ?_ (hz := by rw [agF_size]; kernel_rfl) (hs := by first | (rw [agF_size, agF_size]; rfl) | rfl) (h1 := by exact (agF_one ⟨rfl, rfl, huc.2, trivial⟩))
    refine MZ fun W hS => ?_
    go_upto_region 4 with fail
    refine RTp [0, 1, 4] (.q 0 (.q 1 (.q 2 (.q 3 (.q 4 (.e 5 .z)))))) hS ?_
    clear hS
    refine TV ?_
    refine TV ?_
    refine TV ?_
    refine TV ?_
    refine TG 0 ?_ (v := .int .i64 y.ep) (hj := (agF_cel (off := 0) 0))
    refine TE (fun _ h => h.pick [0, 1, 4]) ?_
    refine ME (V := fun _ => .tuple #[]) (fun W hS => callX [2, 3] [0, 1, 4] hS (fun hT => wr_call hT (fun hw => wnum_i y.ep p bv (ensL (q.take i) (l ++ be8 q.length)) false W hw (by first | omega | (simp only [List.length_append, List.length_cons, List.length_nil, lb_length, be8_len, eI_len, flat32, flatt]; omega)))) (fun _ => ⟨.inr ⟨rfl, rfl⟩, .inr ⟨rfl, rfl⟩, trivial⟩)) ?_
    intro w5
    have hb_6 : ((ensL (q.take i) (l ++ be8 q.length)) ++ (eI y.ep)).length ≤ 100000008 := (by rw [List.length_append]; simp only [List.length_cons, List.length_nil, lb_length, be8_len, eI_len, tB_len]; omega)
    refine TNp [2, 3, 4] [0, 1, 2] ?_
    refine TZ (fun _ h => h.pick [2, 3, 4]) fun W hS => ?_
    go_upto_region 5 with fail
    refine RTp [2, 3, 4] (.q 0 (.q 1 (.q 2 (.q 3 (.q 4 (.e 5 .z)))))) hS ?_
    clear hS
    refine TV ?_
    refine TV ?_
    refine TV ?_
    refine TV ?_
    refine TG 0 ?_ (v := .int .i64 y.ver) (hj := (agF_cel (off := 1) 1))
    refine TE (fun _ h => h.pick [2, 3, 4]) ?_
    refine ME (V := fun _ => .tuple #[]) (fun W hS => callX [0, 1] [2, 3, 4] hS (fun hT => wr_call hT (fun hw => wnum_i y.ver p w5 ((ensL (q.take i) (l ++ be8 q.length)) ++ (eI y.ep)) false W hw (by first | omega | (simp only [List.length_append, List.length_cons, List.length_nil, lb_length, be8_len, eI_len, flat32, flatt]; omega)))) (fun _ => ⟨.inr ⟨rfl, rfl⟩, .inr ⟨rfl, rfl⟩, trivial⟩)) ?_
    intro w7
    have hb_8 : (((ensL (q.take i) (l ++ be8 q.length)) ++ (eI y.ep)) ++ (eI y.ver)).length ≤ 100000016 := (by rw [List.length_append]; simp only [List.length_cons, List.length_nil, lb_length, be8_len, eI_len, tB_len]; omega)
    refine TNp [2, 3, 4] [0, 1, 2] ?_
    refine TZ (fun _ h => h.pick [2, 3, 4]) fun W hS => ?_
    go_upto_region 6 with fail
    refine RL hS ?_
    clear hS
    refine MV ?_
    refine MV ?_
    refine MG 2 ?_ (v := y.u) (hj := (agF_cel (off := 2) 2))
    refine ME (V := fun _ => .tuple #[]) (fun W hS => callX [0, 1, 3] [2, 4] hS (fun hT => wtext_n (p := p) (v := w7) (l := ((ensL (q.take i) (l ++ be8 q.length)) ++ (eI y.ep)) ++ (eI y.ver)) (bad := (ensB (q.take i) bad)) (u := y.u) (t := y.val) 64 (by decide) (by first | omega | (simp only [List.length_append, List.length_cons, List.length_nil, lb_length, be8_len, eI_len, flat32, flatt]; omega)) W hT) (fun _ => ⟨.inr ⟨rfl, rfl⟩, .inr ⟨rfl, rfl⟩, .inl (by simp), trivial⟩)) ?_
    intro w9
    have hb_10 : (txL 64 y.val (((ensL (q.take i) (l ++ be8 q.length)) ++ (eI y.ep)) ++ (eI y.ver))).length ≤ 100000082 := Nat.le_trans (txL_le (m := 64) rfl) (by omega)
    refine MZ fun W hS => ?_
    go_wp2
    go_roundw
    case rel => exact ⟨i + 1, w9, by omega, by go_num, (by rw [(ens_step yh _ bad).1, (ens_step yh l bad).2]; unfold enB; exact (hS.pick [0, 1, 4]))⟩
    case measure => simp [intOf]; omega
   ·
    have _f := hlt
    obtain rfl : i = q.length := by omega
    rw [List.take_length] at hS
    go_upto_region 2 with fail
    refine RL hS ?_
    clear hS
    refine MW ?_ (v := .bool false)
    refine MZ fun W hS => ?_
    go_wp2
    first | exact bodyPost_end (v := .tuple #[]) (by simp only [results, Try.results51]; go_simp) rfl ⟨_, rfl, by unfold esL esB; rw [if_neg hbg, if_neg hbg]; exact hS.pick [0, 1, 2]⟩ | exact bodyPost_ret (v := .tuple #[]) (by simp only [results, Try.results51]; go_simp) rfl ⟨_, rfl, by unfold esL esB; rw [if_neg hbg, if_neg hbg]; exact hS.pick [0, 1, 2]⟩
end Go.Proofs.Ytlbgelbhhibikaa.Ww

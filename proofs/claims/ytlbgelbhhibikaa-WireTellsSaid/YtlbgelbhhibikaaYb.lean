/- wire's writer: what stands under a root, members, rows of versions and of marks. Conditions: memory holds what is written. -/
import Derived.Test.YtlbgelbhhibikaaYa
set_option linter.unusedSimpArgs false
set_option linter.unusedVariables false
namespace Go.Proofs.Ytlbgelbhhibikaa.Ww
set_option maxHeartbeats 12000000
set_option maxRecDepth 100000
open Go.RowKit
attribute [local irreducible] wpList wpTr wpX
set_option linter.unusedSimpArgs false
attribute [local irreducible] lb be8 eI tB txL txB dtx dok pB smL smB pfL mkB enB

theorem zer_wire_Under : zer Try.prog 79 = some (some (agF [.c (.slice none 0 0), .c (.bool false), .a 32 0, .a 32 0, .c (.int .i64 0), .a 32 0, .a 64 0, .a 32 0, .c (.slice none 0 0)])) := by kernel_rfl
theorem plc_wire_Under : plc Try.prog 79 = some [(0, 66), (66, 97), (163, 32), (195, 1)] := by kernel_rfl
theorem wunder_n {u : Un} {sv uv : Value} {p : Nat} {v : Value} {l : List UInt8} {bad : Bool} (hn : u.ss.length ≤ 1000000) (hm : u.us.length ≤ 1000000) (hl : l.length ≤ 800000) (w : World) (h_ : SH (SH.feet [.b p #[v, .bool false, .bool bad] 96, .o v l, smT sv u.ss, smT uv u.us]) w w [.b p #[v, .bool false, .bool bad] 96, .o v l, smT sv u.ss, smT uv u.us]) :
  Calls Try.prog 50 #[.pointer (some ⟨p, 0, none⟩), .agg (unF u sv uv)] w fun e w' => ∃ v', e = .returned (.tuple #[]) ∧ SH (SH.feet [.b p #[v, .bool false, .bool bad] 96, .o v l, smT sv u.ss, smT uv u.us]) w w' [.b p #[v', .bool false, .bool (unB u bad)] 96, .o v' (unL u l), smT sv u.ss, smT uv u.us] := by
 have hS := h_
 go_enter Try.func50, Try.ntmps50
 go_upto_region 0 with fail
 refine RL hS ?_
 clear hS
 refine MN (z := agF [.c sv, .c (.bool u.th), .a 32 u.a, .a 32 u.x, .c (.int .i64 u.ep), .a 32 u.ro, .a 64 u.sig, .a 32 u.lo, .c uv]) (t := 79) ?_
 intro p3_1
 refine MZ fun W hS => ?_
 go_upto_region 1 with fail
 refine RL hS ?_
 clear hS
 refine MV ?_
 refine MV ?_
 refine Mk 0 ?_ (sub := agF [.c sv, .c (.bool u.th), .a 32 u.a, .a 32 u.x]) (hs := (agF_part (off := 0) 0 4))
 refine ME (V := fun _ => .tuple #[]) (fun W hS => callX [1, 2, 3] [0, 4] hS (fun hT => wproof_n (p := p) (v := v) (l := l) (bad := bad) (sv := sv) (ss := u.ss) u.th u.a u.x (by first | omega | (simp only [List.length_append, List.length_cons, List.length_nil, lb_length, be8_len, eI_len, flat32, flatt]; omega)) (by first | omega | (simp only [List.length_append, List.length_cons, List.length_nil, lb_length, be8_len, eI_len, flat32, flatt]; omega)) W hT) (fun _ => ⟨.inr ⟨rfl, rfl⟩, .inr ⟨rfl, rfl⟩, .inl (by simp), trivial⟩)) ?_
 intro w2
 have hb_3 : (pfL u.ss u.th u.a u.x l).length ≤ 808265 := Nat.le_trans pfL_le (by omega)
 refine MZ fun W hS => ?_
 go_upto_region 2 with fail
 refine RTp [2, 3, 4] (.q 0 (.q 1 (.q 2 (.q 3 (.q 4 (.q 5 (.e 6 .z))))))) hS ?_
 clear hS
 refine TV ?_
 refine TV ?_
 refine TV ?_
 refine TV ?_
 refine TV ?_
 refine TG 1 ?_ (v := .int .i64 u.ep) (hj := (agF_cel (off := 66) 4))
 refine TE (fun _ h => h.pick [2, 3, 4]) ?_
 refine ME (V := fun _ => .tuple #[]) (fun W hS => callX [0, 1] [2, 3, 4] hS (fun hT => wr_call hT (fun hw => wnum_i u.ep p w2 (pfL u.ss u.th u.a u.x l) false W hw (by first | omega | (simp only [List.length_append, List.length_cons, List.length_nil, lb_length, be8_len, eI_len, flat32, flatt]; omega)))) (fun _ => ⟨.inr ⟨rfl, rfl⟩, .inr ⟨rfl, rfl⟩, trivial⟩)) ?_
 intro w4
 have hb_5 : ((pfL u.ss u.th u.a u.x l) ++ (eI u.ep)).length ≤ 808273 := (by rw [List.length_append]; simp only [List.length_cons, List.length_nil, lb_length, be8_len, eI_len, tB_len]; omega)
 refine TNp [2, 3, 4] [0, 1, 2] ?_
 refine TZ (fun _ h => h.pick [2, 3, 4]) fun W hS => ?_
 go_upto_region 3 with fail
 refine RTp [2, 3, 4] (.q 0 (.q 1 (.q 2 (.q 3 (.q 4 (.q 5 (.e 6 .z))))))) hS ?_
 clear hS
 refine TV ?_
 refine TV ?_
 refine TV ?_
 refine TV ?_
 refine TV ?_
 refine Tk 1 ?_ (sub := arrK .u8 32 (byt u.ro)) (hs := (agF_arr (off := 67) 5))
 refine TE (fun _ h => h.pick [2, 3, 4]) ?_
 refine ME (V := fun _ => .tuple #[]) (fun W hS => callX [0, 1] [2, 3, 4] hS (fun hT => wr_call hT (fun hw => wsum_n u.ro p w4 ((pfL u.ss u.th u.a u.x l) ++ (eI u.ep)) false W hw (by first | omega | (simp only [List.length_append, List.length_cons, List.length_nil, lb_length, be8_len, eI_len, flat32, flatt]; omega)))) (fun _ => ⟨.inr ⟨rfl, rfl⟩, .inr ⟨rfl, rfl⟩, trivial⟩)) ?_
 intro w6
 have hb_7 : (((pfL u.ss u.th u.a u.x l) ++ (eI u.ep)) ++ (lb 32 u.ro)).length ≤ 808305 := (by rw [List.length_append]; simp only [List.length_cons, List.length_nil, lb_length, be8_len, eI_len, tB_len]; omega)
 refine TNp [2, 3, 4] [0, 1, 2] ?_
 refine TZ (fun _ h => h.pick [2, 3, 4]) fun W hS => ?_
 go_upto_region 4 with fail
 refine RTp [2, 3, 4] (.q 0 (.q 1 (.q 2 (.q 3 (.q 4 (.q 5 (.e 6 .z))))))) hS ?_
 clear hS
 refine TV ?_
 refine TV ?_
 refine TV ?_
 refine TV ?_
 refine TV ?_
 refine TW ?_ (v := .slice (some ⟨p3_1, 99, none⟩) 64 64)
 refine TE (fun _ h => h.pick [2, 3, 4]) ?_
 refine ME (V := fun _ => .tuple #[]) (fun W hS => callX [0, 1] [2, 3, 4] hS (fun hT => wr_call hT (fun hw => wtext_b p w6 (((pfL u.ss u.th u.a u.x l) ++ (eI u.ep)) ++ (lb 32 u.ro)) W hw (.slice (some ⟨p3_1, 99, none⟩) 64 64) (lb 64 u.sig) (sl_part (V := u.sig) (n := 64) (off := 99) (c := 64) (hS.blk (i := 3) rfl) (agF_arr (off := 99) 6) (by decide) (by decide)) (by rw [lb_length]; decide) (sb_blk (ap_bb hS (i := 0) rfl (j := 3) rfl (by decide))) (sb_own2 (ap_ob hS (i := 1) rfl (j := 3) rfl)) (by first | omega | (simp only [List.length_append, List.length_cons, List.length_nil, lb_length, be8_len, eI_len, flat32, flatt]; omega)))) (fun _ => ⟨.inr ⟨rfl, rfl⟩, .inr ⟨rfl, rfl⟩, trivial⟩)) ?_
 intro w8
 have hb_9 : ((((pfL u.ss u.th u.a u.x l) ++ (eI u.ep)) ++ (lb 32 u.ro)) ++ tB (lb 64 u.sig)).length ≤ 808371 := (by rw [List.length_append]; simp only [tB_len, lb_length]; omega)
 refine TNp [2, 3, 4] [0, 1, 2] ?_
 refine TZ (fun _ h => h.pick [2, 3, 4]) fun W hS => ?_
 go_upto_region 5 with fail
 refine RTp [2, 3, 4] (.q 0 (.q 1 (.q 2 (.q 3 (.q 4 (.e 5 .z)))))) hS ?_
 clear hS
 refine TV ?_
 refine TV ?_
 refine TV ?_
 refine TV ?_
 refine Tk 1 ?_ (sub := arrK .u8 32 (byt u.lo)) (hs := (agF_arr (off := 163) 7))
 refine TE (fun _ h => h.pick [2, 3, 4]) ?_
 refine ME (V := fun _ => .tuple #[]) (fun W hS => callX [0, 1] [2, 3, 4] hS (fun hT => wr_call hT (fun hw => wsum_n u.lo p w8 ((((pfL u.ss u.th u.a u.x l) ++ (eI u.ep)) ++ (lb 32 u.ro)) ++ tB (lb 64 u.sig)) false W hw (by first | omega | (simp only [List.length_append, List.length_cons, List.length_nil, lb_length, be8_len, eI_len, flat32, flatt]; omega)))) (fun _ => ⟨.inr ⟨rfl, rfl⟩, .inr ⟨rfl, rfl⟩, trivial⟩)) ?_
 intro w10
 have hb_11 : (((((pfL u.ss u.th u.a u.x l) ++ (eI u.ep)) ++ (lb 32 u.ro)) ++ tB (lb 64 u.sig)) ++ (lb 32 u.lo)).length ≤ 808403 := (by rw [List.length_append]; simp only [List.length_cons, List.length_nil, lb_length, be8_len, eI_len, tB_len]; omega)
 refine TNp [2, 3, 4] [0, 1, 2] ?_
 refine TZ (fun _ h => h.pick [2, 3, 4]) fun W hS => ?_
 go_upto_region 6 with fail
 refine RL hS ?_
 clear hS
 refine MV ?_
 refine MV ?_
 refine MG 3 ?_ (v := uv) (hj := (agF_cel (off := 195) 8))
 refine ME (V := fun _ => .tuple #[]) (fun W hS => callX [0, 1, 4] [2, 3] hS (fun hT => wsums_n (p := p) (v := w10) (l := ((((pfL u.ss u.th u.a u.x l) ++ (eI u.ep)) ++ (lb 32 u.ro)) ++ tB (lb 64 u.sig)) ++ (lb 32 u.lo)) (bad := (smB u.ss bad)) (sv := uv) (ss := u.us)  (by first | omega | (simp only [List.length_append, List.length_cons, List.length_nil, lb_length, be8_len, eI_len, flat32, flatt]; omega)) (by first | omega | (simp only [List.length_append, List.length_cons, List.length_nil, lb_length, be8_len, eI_len, flat32, flatt]; omega)) W hT) (fun _ => ⟨.inr ⟨rfl, rfl⟩, .inr ⟨rfl, rfl⟩, .inl (by simp), trivial⟩)) ?_
 intro w12
 have hb_13 : (smL u.us (((((pfL u.ss u.th u.a u.x l) ++ (eI u.ep)) ++ (lb 32 u.ro)) ++ tB (lb 64 u.sig)) ++ (lb 32 u.lo))).length ≤ 816603 := Nat.le_trans smL_le (by omega)
 refine MZ fun W hS => ?_
 go_wp2
 first | exact bodyPost_end (v := .tuple #[]) (by simp only [results, Try.results50]; go_simp) rfl ⟨_, rfl, by unfold unL unB; exact hS.pick [0, 1, 3, 2]⟩ | exact bodyPost_ret (v := .tuple #[]) (by simp only [results, Try.results50]; go_simp) rfl ⟨_, rfl, by unfold unL unB; exact hS.pick [0, 1, 3, 2]⟩
theorem wmember_n {m : Mbr} {iv : Value} {p : Nat} {v : Value} {l : List UInt8} {bad : Bool} (hl : l.length ≤ 800000) (w : World) (h_ : SH (SH.feet [.b p #[v, .bool false, .bool bad] 96, .o v l, .s iv m.id]) w w [.b p #[v, .bool false, .bool bad] 96, .o v l, .s iv m.id]) :
  Calls Try.prog 53 #[.pointer (some ⟨p, 0, none⟩), .agg (mbF m iv)] w fun e w' => ∃ v', e = .returned (.tuple #[]) ∧ SH (SH.feet [.b p #[v, .bool false, .bool bad] 96, .o v l, .s iv m.id]) w w' [.b p #[v', .bool false, .bool (mbB m bad)] 96, .o v' (mbL m l), .s iv m.id] := by
 have hS := h_
 go_enter Try.func53, Try.ntmps53
 go_upto_region 0 with fail
 refine RL hS ?_
 clear hS
 refine MN (z := agF [.c iv, .c (.bool m.gone), .c (.int .i64 m.ep), .a 32 m.li]) (t := 83) ?_
 intro p3_1
 refine MZ fun W hS => ?_
 go_upto_region 1 with fail
 refine RL hS ?_
 clear hS
 refine MV ?_
 refine MV ?_
 refine MG 0 ?_ (v := iv) (hj := (agF_cel (off := 0) 0))
 refine ME (V := fun _ => .tuple #[]) (fun W hS => callX [1, 2, 3] [0] hS (fun hT => wtext_n (p := p) (v := v) (l := l) (bad := bad) (u := iv) (t := m.id) 16 (by decide) (by first | omega | (simp only [List.length_append, List.length_cons, List.length_nil, lb_length, be8_len, eI_len, flat32, flatt]; omega)) W hT) (fun _ => ⟨.inr ⟨rfl, rfl⟩, .inr ⟨rfl, rfl⟩, .inl (by simp), trivial⟩)) ?_
 intro w2
 have hb_3 : (txL 16 m.id l).length ≤ 800018 := Nat.le_trans (txL_le (m := 16) rfl) (by omega)
 refine MZ fun W hS => ?_
 go_upto_region 2 with fail
 refine RTp [2, 3] (.q 0 (.q 1 (.q 2 (.q 3 (.q 4 (.e 5 .z)))))) hS ?_
 clear hS
 refine TV ?_
 refine TV ?_
 refine TV ?_
 refine TV ?_
 refine TG 1 ?_ (v := .bool m.gone) (hj := (agF_cel (off := 1) 1))
 refine TE (fun _ h => h.pick [2, 3]) ?_
 refine ME (V := fun _ => .tuple #[]) (fun W hS => callX [0, 1] [2, 3] hS (fun hT => wr_call hT (fun hw => wflag_n m.gone p w2 (txL 16 m.id l) false W hw (by first | omega | (simp only [List.length_append, List.length_cons, List.length_nil, lb_length, be8_len, eI_len, flat32, flatt]; omega)))) (fun _ => ⟨.inr ⟨rfl, rfl⟩, .inr ⟨rfl, rfl⟩, trivial⟩)) ?_
 intro w4
 have hb_5 : ((txL 16 m.id l) ++ [if m.gone then 1 else 0]).length ≤ 800019 := (by rw [List.length_append]; simp only [List.length_cons, List.length_nil, lb_length, be8_len, eI_len, tB_len]; omega)
 refine TNp [2, 3] [0, 1] ?_
 refine TZ (fun _ h => h.pick [2, 3]) fun W hS => ?_
 go_upto_region 3 with fail
 refine RTp [2, 3] (.q 0 (.q 1 (.q 2 (.q 3 (.q 4 (.e 5 .z)))))) hS ?_
 clear hS
 refine TV ?_
 refine TV ?_
 refine TV ?_
 refine TV ?_
 refine TG 1 ?_ (v := .int .i64 m.ep) (hj := (agF_cel (off := 2) 2))
 refine TE (fun _ h => h.pick [2, 3]) ?_
 refine ME (V := fun _ => .tuple #[]) (fun W hS => callX [0, 1] [2, 3] hS (fun hT => wr_call hT (fun hw => wnum_i m.ep p w4 ((txL 16 m.id l) ++ [if m.gone then 1 else 0]) false W hw (by first | omega | (simp only [List.length_append, List.length_cons, List.length_nil, lb_length, be8_len, eI_len, flat32, flatt]; omega)))) (fun _ => ⟨.inr ⟨rfl, rfl⟩, .inr ⟨rfl, rfl⟩, trivial⟩)) ?_
 intro w6
 have hb_7 : (((txL 16 m.id l) ++ [if m.gone then 1 else 0]) ++ (eI m.ep)).length ≤ 800027 := (by rw [List.length_append]; simp only [List.length_cons, List.length_nil, lb_length, be8_len, eI_len, tB_len]; omega)
 refine TNp [2, 3] [0, 1] ?_
 refine TZ (fun _ h => h.pick [2, 3]) fun W hS => ?_
 go_upto_region 4 with fail
 refine RTp [2, 3] (.q 0 (.q 1 (.q 2 (.q 3 (.q 4 (.e 5 .z)))))) hS ?_
 clear hS
 refine TV ?_
 refine TV ?_
 refine TV ?_
 refine TV ?_
 refine Tk 1 ?_ (sub := arrK .u8 32 (byt m.li)) (hs := (agF_arr (off := 3) 3))
 refine TE (fun _ h => h.pick [2, 3]) ?_
 refine ME (V := fun _ => .tuple #[]) (fun W hS => callX [0, 1] [2, 3] hS (fun hT => wr_call hT (fun hw => wsum_n m.li p w6 (((txL 16 m.id l) ++ [if m.gone then 1 else 0]) ++ (eI m.ep)) false W hw (by first | omega | (simp only [List.length_append, List.length_cons, List.length_nil, lb_length, be8_len, eI_len, flat32, flatt]; omega)))) (fun _ => ⟨.inr ⟨rfl, rfl⟩, .inr ⟨rfl, rfl⟩, trivial⟩)) ?_
 intro w8
 have hb_9 : ((((txL 16 m.id l) ++ [if m.gone then 1 else 0]) ++ (eI m.ep)) ++ (lb 32 m.li)).length ≤ 800059 := (by rw [List.length_append]; simp only [List.length_cons, List.length_nil, lb_length, be8_len, eI_len, tB_len]; omega)
 refine TNp [2, 3] [0, 1] ?_
 refine TZ (fun _ h => h.pick [2, 3]) fun W hS => ?_
 go_wp2
 first | exact bodyPost_end (v := .tuple #[]) (by simp only [results, Try.results53]; go_simp) rfl ⟨_, rfl, by unfold mbL mbB; exact hS.pick [0, 1, 2]⟩ | exact bodyPost_ret (v := .tuple #[]) (by simp only [results, Try.results53]; go_simp) rfl ⟨_, rfl, by unfold mbL mbB; exact hS.pick [0, 1, 2]⟩
theorem wrows_b {n : Nat} (h : 1024 < n) {p : Nat} {v : Value} {l : List UInt8} {bad : Bool} (hl : l.length ≤ 800000) (w : World) (h_ : SH (SH.feet [.b p #[v, .bool false, .bool bad] 96, .o v l]) w w [.b p #[v, .bool false, .bool bad] 96, .o v l]) :
  Calls Try.prog 67 #[.pointer (some ⟨p, 0, none⟩), .int .i64 (n : Int)] w fun e w' => ∃ v', e = .returned (.bool false) ∧ SH (SH.feet [.b p #[v, .bool false, .bool bad] 96, .o v l]) w w' [.b p #[v', .bool false, .bool true] 96, .o v' l] := by
 have hS := h_
 go_enter Try.func67, Try.ntmps67
 go_upto_region 1 with fail
 refine RL hS ?_
 clear hS
 refine MV ?_
 refine MW ?_ (v := .bool true) (hv := by intro W; go_simp; first | done | omega)
 refine MZ fun W hS => ?_
 go_upto_region 2 with fail
 refine RL hS ?_
 clear hS
 refine MV ?_
 refine MV ?_
 refine MV ?_
 refine MP 0 (v := .bool true) ?_
 refine MZ fun W hS => ?_
 go_wp2
 first | exact bodyPost_ret (v := .bool false) (by simp only [results, Try.results67]; go_simp) rfl ⟨_, rfl, hS.pick [0, 1]⟩ | exact bodyPost_end (v := .bool false) (by simp only [results, Try.results67]; go_simp) rfl ⟨_, rfl, hS.pick [0, 1]⟩
theorem wrows_s {n : Nat} (h : n ≤ 1024) {p : Nat} {v : Value} {l : List UInt8} {bad : Bool} (hl : l.length ≤ 800000) (w : World) (h_ : SH (SH.feet [.b p #[v, .bool false, .bool bad] 96, .o v l]) w w [.b p #[v, .bool false, .bool bad] 96, .o v l]) :
  Calls Try.prog 67 #[.pointer (some ⟨p, 0, none⟩), .int .i64 (n : Int)] w fun e w' => ∃ v', e = .returned (.bool true) ∧ SH (SH.feet [.b p #[v, .bool false, .bool bad] 96, .o v l]) w w' [.b p #[v', .bool false, .bool bad] 96, .o v' (l ++ be8 n)] := by
 have hS := h_
 go_enter Try.func67, Try.ntmps67
 go_upto_region 1 with fail
 refine RL hS ?_
 clear hS
 refine MV ?_
 refine MW ?_ (v := .bool false) (hv := by intro W; go_simp; first | done | omega)
 refine MZ fun W hS => ?_
 go_upto_region 4 with fail
 refine RL hS ?_
 clear hS
 refine MV ?_
 refine MV ?_
 refine MV ?_
 refine MV ?_
 refine ME (V := fun _ => .tuple #[]) (fun W hS => callX [0, 1] [] hS (fun hT => wr_call hT (fun hw => wnum_i ((n : Int) : Int) p v l false W hw (by first | omega | (simp only [List.length_append, List.length_cons, List.length_nil, lb_length, be8_len, eI_len, flat32, flatt]; omega)))) (fun _ => ⟨.inr ⟨rfl, rfl⟩, .inr ⟨rfl, rfl⟩, trivial⟩)) ?_
 intro w1
 have hb_2 : (l ++ (eI ((n : Int) : Int))).length ≤ 800008 := (by rw [List.length_append]; simp only [List.length_cons, List.length_nil, lb_length, be8_len, eI_len, tB_len]; omega)
 refine MZ fun W hS => ?_
 go_wp2
 first | exact bodyPost_ret (v := .bool true) (by simp only [results, Try.results67]; go_simp) rfl ⟨_, rfl, by rw [← eI_nat (n := n) (by omega)]; exact hS.pick [0, 1]⟩ | exact bodyPost_end (v := .bool true) (by simp only [results, Try.results67]; go_simp) rfl ⟨_, rfl, by rw [← eI_nat (n := n) (by omega)]; exact hS.pick [0, 1]⟩
end Go.Proofs.Ytlbgelbhhibikaa.Ww

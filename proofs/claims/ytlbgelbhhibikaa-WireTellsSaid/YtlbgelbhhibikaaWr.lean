/- wire: what a look told as bytes; the document's. Conditions: memory holds what is written. -/
import Derived.Test.YtlbgelbhhibikaaWq
import Derived.Test.YtlbgelbhhibikaaJ18
set_option linter.unusedSimpArgs false
set_option linter.unusedVariables false
namespace Go.Proofs.Ytlbgelbhhibikaa.Ww
set_option maxHeartbeats 12000000
set_option maxRecDepth 100000
open Go.RowKit
attribute [local irreducible] wpList wpTr wpX
set_option linter.unusedSimpArgs false
/-- what a look told, without memory -/
structure Fo where
 ep : Int
 ix : Nat
 vr : Nat
 pre : Bool
 ver : Int
 val : List UInt8
 bo : Nat
 op : Nat
 ss : List Nat
 th : Bool
 a : Nat
 x : Nat
 ro : Nat
 li : Nat
 ah : Nat
 rd : Int
abbrev foF (f : Fo) (vv sv : Value) : Array Value := agF [.c (.int .i64 f.ep), .a 32 f.ix, .a 80 f.vr, .c (.bool f.pre), .c (.int .i64 f.ver), .c vv, .a 32 f.bo, .a 32 f.op, .c sv, .c (.bool f.th), .a 32 f.a, .a 32 f.x, .a 32 f.ro, .a 32 f.li, .a 32 f.ah, .c (.int .i64 f.rd)]
/-- the document's -/
abbrev dfF (f : Fo) (sv : Value) : Array Value := agF [.c (.int .i64 f.ep), .c (str (lb 32 f.ix)), .c (str (lb 80 f.vr)), .c (.bool f.pre), .c (.int .i64 f.ver), .c (str f.val), .c (str (lb 32 f.bo)), .c (str (lb 32 f.op)), .c sv, .c (.bool f.th), .a 32 f.a, .a 32 f.x, .c (str (lb 32 f.ro)), .c (str (lb 32 f.li)), .c (str (lb 32 f.ah)), .c (.int .i64 f.rd)]
def foL1 (f : Fo) (l : List UInt8) : List UInt8 := l ++ eI f.ep ++ lb 32 f.ix ++ tB (lb 80 f.vr) ++ [if f.pre then 1 else 0] ++ eI f.ver
def foL (f : Fo) (l : List UInt8) : List UInt8 := pfL f.ss f.th f.a f.x (txL 64 f.val (foL1 f l) ++ lb 32 f.bo ++ lb 32 f.op) ++ lb 32 f.ro ++ lb 32 f.li ++ lb 32 f.ah ++ eI f.rd
def foB (f : Fo) (bad : Bool) : Bool := smB f.ss (txB 64 f.val bad)
theorem foL_le {f : Fo} {l : List UInt8} : (foL f l).length ≤ l.length + 8800 := by
 have h1 := pfL_le (ss := f.ss) (th := f.th) (a := f.a) (x := f.x) (l := txL 64 f.val (foL1 f l) ++ lb 32 f.bo ++ lb 32 f.op)
 have h2 := txL_le (most := 64) (m := 64) (t := f.val) (l := foL1 f l) rfl
 have h3 : (foL1 f l).length = l.length + 131 := by unfold foL1; simp only [List.length_append, eI_len, lb_length, tB_len, List.length_cons, List.length_nil]
 unfold foL
 simp only [List.length_append, eI_len, lb_length] at h1 ⊢
 omega
/-- the document's bytes; are there any? -/
def dfL (f : Fo) : List UInt8 := eI f.ep ++ lb 32 f.ix ++ tB (lb 80 f.vr) ++ [if f.pre then 1 else 0] ++ eI f.ver ++ dtx 64 f.val ++ lb 32 f.bo ++ lb 32 f.op ++ pB f.ss f.th f.a f.x ++ lb 32 f.ro ++ lb 32 f.li ++ lb 32 f.ah ++ eI f.rd
def dfB (f : Fo) : Bool := dok 64 f.val && decide (f.ss.length ≤ 256)
theorem df_eq (f : Fo) : dfB f = !foB f false ∧ (foB f false = false → dfL f = foL f []) := by
 have h1 := dok_tx 64 f.val false (foL1 f [])
 unfold dfB foB smB
 rw [h1.1]
 by_cases h2 : 256 < f.ss.length
 ·
  rw [if_pos h2, decide_eq_false (by omega)]; simp
 ·
  rw [if_neg h2, decide_eq_true (by omega)]
  refine ⟨by simp, fun h => ?_⟩
  have h3 : dok 64 f.val = true := by rw [h1.1, h]; rfl
  unfold dfL foL pfL
  rw [if_neg h2, (h1.2.1 h3).1]
  unfold foL1
  simp only [List.append_assoc, List.nil_append]
theorem rpbytes_A {ss : List Nat} {sv : Value} {th : Bool} {a x : Nat} (hn : ss.length ≤ 1000000) (w : World) (hp : RR 32 w sv (ss.map b32l)) : Calls Try.prog 44 #[.agg (pfA sv th a x)] w fun e w' => Ret (str (pB ss th a x)) w w' e := by
 rw [← pfc_A]; exact rpbytes_c hn w hp
attribute [local irreducible] lb be8 eI tB txL txB dtx dok pB

theorem wfound_n {f : Fo} {vv sv : Value} {p : Nat} {v : Value} {l : List UInt8} {bad : Bool} (hn : f.ss.length ≤ 1000000) (hl : l.length ≤ 900000) (w : World) (h_ : SH (SH.feet [.b p #[v, .bool false, .bool bad] 96, .o v l, .s vv f.val, smT sv f.ss]) w w [.b p #[v, .bool false, .bool bad] 96, .o v l, .s vv f.val, smT sv f.ss]) :
  Calls Try.prog 42 #[.pointer (some ⟨p, 0, none⟩), .agg (foF f vv sv)] w fun e w' => ∃ v', e = .returned (.tuple #[]) ∧ SH (SH.feet [.b p #[v, .bool false, .bool bad] 96, .o v l, .s vv f.val, smT sv f.ss]) w w' [.b p #[v', .bool false, .bool (foB f bad)] 96, .o v' (foL f l), .s vv f.val, smT sv f.ss] := by
 have hS := h_
 go_enter Try.func42, Try.ntmps42
 go_upto_region 0 with fail
 refine RL hS ?_
 clear hS
 refine MN (z := agF [.c (.int .i64 f.ep), .a 32 f.ix, .a 80 f.vr, .c (.bool f.pre), .c (.int .i64 f.ver), .c vv, .a 32 f.bo, .a 32 f.op, .c sv, .c (.bool f.th), .a 32 f.a, .a 32 f.x, .a 32 f.ro, .a 32 f.li, .a 32 f.ah, .c (.int .i64 f.rd)]) (t := 64) ?_
 intro p3_1
 refine MZ fun W hS => ?_
 go_upto_region 1 with fail
 refine RTp [0, 3, 4] (.q 0 (.q 1 (.q 2 (.q 3 (.q 4 (.e 5 .z)))))) hS ?_
 clear hS
 refine TV ?_
 refine TV ?_
 refine TV ?_
 refine TV ?_
 refine TG 0 ?_ (v := .int .i64 f.ep) (hj := (agF_cel (off := 0) 0))
 refine TE (fun _ h => h.pick [0, 3, 4]) ?_
 refine ME (V := fun _ => .tuple #[]) (fun W hS => callX [1, 2] [0, 3, 4] hS (fun hT => wr_call hT (fun hw => wnum_i f.ep p v l false W hw (by first | omega | (simp only [List.length_append, List.length_cons, List.length_nil, lb_length, be8_len, eI_len, flat32, flatt]; omega)))) (fun _ => ⟨.inr ⟨rfl, rfl⟩, .inr ⟨rfl, rfl⟩, trivial⟩)) ?_
 intro w2
 have hb_3 : (l ++ (eI f.ep)).length ≤ 900008 := (by rw [List.length_append]; simp only [List.length_cons, List.length_nil, lb_length, be8_len, eI_len, tB_len]; omega)
 refine TNp [2, 3, 4] [0, 1, 2] ?_
 refine TZ (fun _ h => h.pick [2, 3, 4]) fun W hS => ?_
 go_upto_region 2 with fail
 refine RTp [2, 3, 4] (.q 0 (.q 1 (.q 2 (.q 3 (.q 4 (.e 5 .z)))))) hS ?_
 clear hS
 refine TV ?_
 refine TV ?_
 refine TV ?_
 refine TV ?_
 refine Tk 0 ?_ (sub := arrK .u8 32 (byt f.ix)) (hs := (agF_arr (off := 1) 1))
 refine TE (fun _ h => h.pick [2, 3, 4]) ?_
 refine ME (V := fun _ => .tuple #[]) (fun W hS => callX [0, 1] [2, 3, 4] hS (fun hT => wr_call hT (fun hw => wsum_n f.ix p w2 (l ++ (eI f.ep)) false W hw (by first | omega | (simp only [List.length_append, List.length_cons, List.length_nil, lb_length, be8_len, eI_len, flat32, flatt]; omega)))) (fun _ => ⟨.inr ⟨rfl, rfl⟩, .inr ⟨rfl, rfl⟩, trivial⟩)) ?_
 intro w4
 have hb_5 : ((l ++ (eI f.ep)) ++ (lb 32 f.ix)).length ≤ 900040 := (by rw [List.length_append]; simp only [List.length_cons, List.length_nil, lb_length, be8_len, eI_len, tB_len]; omega)
 refine TNp [2, 3, 4] [0, 1, 2] ?_
 refine TZ (fun _ h => h.pick [2, 3, 4]) fun W hS => ?_
 go_upto_region 3 with fail
 refine RTp [2, 3, 4] (.q 0 (.q 1 (.q 2 (.q 3 (.q 4 (.e 5 .z)))))) hS ?_
 clear hS
 refine TV ?_
 refine TV ?_
 refine TV ?_
 refine TV ?_
 refine TW ?_ (v := .slice (some ⟨p3_1, 33, none⟩) 80 80)
 refine TE (fun _ h => h.pick [2, 3, 4]) ?_
 refine ME (V := fun _ => .tuple #[]) (fun W hS => callX [0, 1] [2, 3, 4] hS (fun hT => wr_call hT (fun hw => wtext_b p w4 ((l ++ (eI f.ep)) ++ (lb 32 f.ix)) W hw (.slice (some ⟨p3_1, 33, none⟩) 80 80) (lb 80 f.vr) (sl_part (V := f.vr) (n := 80) (off := 33) (c := 80) (hS.blk (i := 2) rfl) (agF_arr (off := 33) 2) (by decide) (by decide)) (by rw [lb_length]; decide) (sb_blk (ap_bb hS (i := 0) rfl (j := 2) rfl (by decide))) (sb_own2 (ap_ob hS (i := 1) rfl (j := 2) rfl)) (by first | omega | (simp only [List.length_append, List.length_cons, List.length_nil, lb_length, be8_len, eI_len, flat32, flatt]; omega)))) (fun _ => ⟨.inr ⟨rfl, rfl⟩, .inr ⟨rfl, rfl⟩, trivial⟩)) ?_
 intro w6
 have hb_7 : (((l ++ (eI f.ep)) ++ (lb 32 f.ix)) ++ tB (lb 80 f.vr)).length ≤ 900122 := (by rw [List.length_append]; simp only [tB_len, lb_length]; omega)
 refine TNp [2, 3, 4] [0, 1, 2] ?_
 refine TZ (fun _ h => h.pick [2, 3, 4]) fun W hS => ?_
 go_upto_region 4 with fail
 refine RTp [2, 3, 4] (.q 0 (.q 1 (.q 2 (.q 3 (.q 4 (.e 5 .z)))))) hS ?_
 clear hS
 refine TV ?_
 refine TV ?_
 refine TV ?_
 refine TV ?_
 refine TG 0 ?_ (v := .bool f.pre) (hj := (agF_cel (off := 113) 3))
 refine TE (fun _ h => h.pick [2, 3, 4]) ?_
 refine ME (V := fun _ => .tuple #[]) (fun W hS => callX [0, 1] [2, 3, 4] hS (fun hT => wr_call hT (fun hw => wflag_n f.pre p w6 (((l ++ (eI f.ep)) ++ (lb 32 f.ix)) ++ tB (lb 80 f.vr)) false W hw (by first | omega | (simp only [List.length_append, List.length_cons, List.length_nil, lb_length, be8_len, eI_len, flat32, flatt]; omega)))) (fun _ => ⟨.inr ⟨rfl, rfl⟩, .inr ⟨rfl, rfl⟩, trivial⟩)) ?_
 intro w8
 have hb_9 : ((((l ++ (eI f.ep)) ++ (lb 32 f.ix)) ++ tB (lb 80 f.vr)) ++ [if f.pre then 1 else 0]).length ≤ 900123 := (by rw [List.length_append]; simp only [List.length_cons, List.length_nil, lb_length, be8_len, eI_len, tB_len]; omega)
 refine TNp [2, 3, 4] [0, 1, 2] ?_
 refine TZ (fun _ h => h.pick [2, 3, 4]) fun W hS => ?_
 go_upto_region 5 with fail
 refine RTp [2, 3, 4] (.q 0 (.q 1 (.q 2 (.q 3 (.q 4 (.e 5 .z)))))) hS ?_
 clear hS
 refine TV ?_
 refine TV ?_
 refine TV ?_
 refine TV ?_
 refine TG 0 ?_ (v := .int .i64 f.ver) (hj := (agF_cel (off := 114) 4))
 refine TE (fun _ h => h.pick [2, 3, 4]) ?_
 refine ME (V := fun _ => .tuple #[]) (fun W hS => callX [0, 1] [2, 3, 4] hS (fun hT => wr_call hT (fun hw => wnum_i f.ver p w8 ((((l ++ (eI f.ep)) ++ (lb 32 f.ix)) ++ tB (lb 80 f.vr)) ++ [if f.pre then 1 else 0]) false W hw (by first | omega | (simp only [List.length_append, List.length_cons, List.length_nil, lb_length, be8_len, eI_len, flat32, flatt]; omega)))) (fun _ => ⟨.inr ⟨rfl, rfl⟩, .inr ⟨rfl, rfl⟩, trivial⟩)) ?_
 intro w10
 have hb_11 : (((((l ++ (eI f.ep)) ++ (lb 32 f.ix)) ++ tB (lb 80 f.vr)) ++ [if f.pre then 1 else 0]) ++ (eI f.ver)).length ≤ 900131 := (by rw [List.length_append]; simp only [List.length_cons, List.length_nil, lb_length, be8_len, eI_len, tB_len]; omega)
 refine TNp [2, 3, 4] [0, 1, 2] ?_
 refine TZ (fun _ h => h.pick [2, 3, 4]) fun W hS => ?_
 go_upto_region 6 with fail
 refine RL hS ?_
 clear hS
 refine MV ?_
 refine MV ?_
 refine MG 2 ?_ (v := vv) (hj := (agF_cel (off := 115) 5))
 refine ME (V := fun _ => .tuple #[]) (fun W hS => callX [0, 1, 3] [2, 4] hS (fun hT => wtext_n (p := p) (v := w10) (l := ((((l ++ (eI f.ep)) ++ (lb 32 f.ix)) ++ tB (lb 80 f.vr)) ++ [if f.pre then 1 else 0]) ++ (eI f.ver)) (bad := bad) (u := vv) (t := f.val) 64 (by decide) (by first | omega | (simp only [List.length_append, List.length_cons, List.length_nil, lb_length, be8_len, eI_len, flat32, flatt]; omega)) W hT) (fun _ => ⟨.inr ⟨rfl, rfl⟩, .inr ⟨rfl, rfl⟩, .inl (by simp), trivial⟩)) ?_
 intro w12
 have hb_13 : (txL 64 f.val (((((l ++ (eI f.ep)) ++ (lb 32 f.ix)) ++ tB (lb 80 f.vr)) ++ [if f.pre then 1 else 0]) ++ (eI f.ver))).length ≤ 900197 := Nat.le_trans (txL_le (m := 64) rfl) (by omega)
 refine MZ fun W hS => ?_
 go_upto_region 7 with fail
 refine RTp [2, 3, 4] (.q 0 (.q 1 (.q 2 (.q 3 (.q 4 (.e 5 .z)))))) hS ?_
 clear hS
 refine TV ?_
 refine TV ?_
 refine TV ?_
 refine TV ?_
 refine Tk 1 ?_ (sub := arrK .u8 32 (byt f.bo)) (hs := (agF_arr (off := 116) 6))
 refine TE (fun _ h => h.pick [2, 3, 4]) ?_
 refine ME (V := fun _ => .tuple #[]) (fun W hS => callX [0, 1] [2, 3, 4] hS (fun hT => wr_call hT (fun hw => wsum_n f.bo p w12 (txL 64 f.val (((((l ++ (eI f.ep)) ++ (lb 32 f.ix)) ++ tB (lb 80 f.vr)) ++ [if f.pre then 1 else 0]) ++ (eI f.ver))) false W hw (by first | omega | (simp only [List.length_append, List.length_cons, List.length_nil, lb_length, be8_len, eI_len, flat32, flatt]; omega)))) (fun _ => ⟨.inr ⟨rfl, rfl⟩, .inr ⟨rfl, rfl⟩, trivial⟩)) ?_
 intro w14
 have hb_15 : ((txL 64 f.val (((((l ++ (eI f.ep)) ++ (lb 32 f.ix)) ++ tB (lb 80 f.vr)) ++ [if f.pre then 1 else 0]) ++ (eI f.ver))) ++ (lb 32 f.bo)).length ≤ 900229 := (by rw [List.length_append]; simp only [List.length_cons, List.length_nil, lb_length, be8_len, eI_len, tB_len]; omega)
 refine TNp [2, 3, 4] [0, 1, 2] ?_
 refine TZ (fun _ h => h.pick [2, 3, 4]) fun W hS => ?_
 go_upto_region 8 with fail
 refine RTp [2, 3, 4] (.q 0 (.q 1 (.q 2 (.q 3 (.q 4 (.e 5 .z)))))) hS ?_
 clear hS
 refine TV ?_
 refine TV ?_
 refine TV ?_
 refine TV ?_
 refine Tk 1 ?_ (sub := arrK .u8 32 (byt f.op)) (hs := (agF_arr (off := 148) 7))
 refine TE (fun _ h => h.pick [2, 3, 4]) ?_
 refine ME (V := fun _ => .tuple #[]) (fun W hS => callX [0, 1] [2, 3, 4] hS (fun hT => wr_call hT (fun hw => wsum_n f.op p w14 ((txL 64 f.val (((((l ++ (eI f.ep)) ++ (lb 32 f.ix)) ++ tB (lb 80 f.vr)) ++ [if f.pre then 1 else 0]) ++ (eI f.ver))) ++ (lb 32 f.bo)) false W hw (by first | omega | (simp only [List.length_append, List.length_cons, List.length_nil, lb_length, be8_len, eI_len, flat32, flatt]; omega)))) (fun _ => ⟨.inr ⟨rfl, rfl⟩, .inr ⟨rfl, rfl⟩, trivial⟩)) ?_
 intro w16
 have hb_17 : (((txL 64 f.val (((((l ++ (eI f.ep)) ++ (lb 32 f.ix)) ++ tB (lb 80 f.vr)) ++ [if f.pre then 1 else 0]) ++ (eI f.ver))) ++ (lb 32 f.bo)) ++ (lb 32 f.op)).length ≤ 900261 := (by rw [List.length_append]; simp only [List.length_cons, List.length_nil, lb_length, be8_len, eI_len, tB_len]; omega)
 refine TNp [2, 3, 4] [0, 1, 2] ?_
 refine TZ (fun _ h => h.pick [2, 3, 4]) fun W hS => ?_
 go_upto_region 9 with fail
 refine RL hS ?_
 clear hS
 refine MV ?_
 refine MV ?_
 refine Mk 3 ?_ (sub := agF [.c sv, .c (.bool f.th), .a 32 f.a, .a 32 f.x]) (hs := (agF_part (off := 180) 8 4))
 refine ME (V := fun _ => .tuple #[]) (fun W hS => callX [0, 1, 4] [2, 3] hS (fun hT => wproof_n (p := p) (v := w16) (l := ((txL 64 f.val (((((l ++ (eI f.ep)) ++ (lb 32 f.ix)) ++ tB (lb 80 f.vr)) ++ [if f.pre then 1 else 0]) ++ (eI f.ver))) ++ (lb 32 f.bo)) ++ (lb 32 f.op)) (bad := (txB 64 f.val bad)) (sv := sv) (ss := f.ss) f.th f.a f.x (by first | omega | (simp only [List.length_append, List.length_cons, List.length_nil, lb_length, be8_len, eI_len, flat32, flatt]; omega)) (by first | omega | (simp only [List.length_append, List.length_cons, List.length_nil, lb_length, be8_len, eI_len, flat32, flatt]; omega)) W hT) (fun _ => ⟨.inr ⟨rfl, rfl⟩, .inr ⟨rfl, rfl⟩, .inl (by simp), trivial⟩)) ?_
 intro w18
 have hb_19 : (pfL f.ss f.th f.a f.x (((txL 64 f.val (((((l ++ (eI f.ep)) ++ (lb 32 f.ix)) ++ tB (lb 80 f.vr)) ++ [if f.pre then 1 else 0]) ++ (eI f.ver))) ++ (lb 32 f.bo)) ++ (lb 32 f.op))).length ≤ 908526 := Nat.le_trans pfL_le (by omega)
 refine MZ fun W hS => ?_
 go_upto_region 10 with fail
 refine RTp [2, 3, 4] (.q 0 (.q 1 (.q 2 (.q 3 (.q 4 (.e 5 .z)))))) hS ?_
 clear hS
 refine TV ?_
 refine TV ?_
 refine TV ?_
 refine TV ?_
 refine Tk 2 ?_ (sub := arrK .u8 32 (byt f.ro)) (hs := (agF_arr (off := 246) 12))
 refine TE (fun _ h => h.pick [2, 3, 4]) ?_
 refine ME (V := fun _ => .tuple #[]) (fun W hS => callX [0, 1] [2, 3, 4] hS (fun hT => wr_call hT (fun hw => wsum_n f.ro p w18 (pfL f.ss f.th f.a f.x (((txL 64 f.val (((((l ++ (eI f.ep)) ++ (lb 32 f.ix)) ++ tB (lb 80 f.vr)) ++ [if f.pre then 1 else 0]) ++ (eI f.ver))) ++ (lb 32 f.bo)) ++ (lb 32 f.op))) false W hw (by first | omega | (simp only [List.length_append, List.length_cons, List.length_nil, lb_length, be8_len, eI_len, flat32, flatt]; omega)))) (fun _ => ⟨.inr ⟨rfl, rfl⟩, .inr ⟨rfl, rfl⟩, trivial⟩)) ?_
 intro w20
 have hb_21 : ((pfL f.ss f.th f.a f.x (((txL 64 f.val (((((l ++ (eI f.ep)) ++ (lb 32 f.ix)) ++ tB (lb 80 f.vr)) ++ [if f.pre then 1 else 0]) ++ (eI f.ver))) ++ (lb 32 f.bo)) ++ (lb 32 f.op))) ++ (lb 32 f.ro)).length ≤ 908558 := (by rw [List.length_append]; simp only [List.length_cons, List.length_nil, lb_length, be8_len, eI_len, tB_len]; omega)
 refine TNp [2, 3, 4] [0, 1, 2] ?_
 refine TZ (fun _ h => h.pick [2, 3, 4]) fun W hS => ?_
 go_upto_region 11 with fail
 refine RTp [2, 3, 4] (.q 0 (.q 1 (.q 2 (.q 3 (.q 4 (.e 5 .z)))))) hS ?_
 clear hS
 refine TV ?_
 refine TV ?_
 refine TV ?_
 refine TV ?_
 refine Tk 2 ?_ (sub := arrK .u8 32 (byt f.li)) (hs := (agF_arr (off := 278) 13))
 refine TE (fun _ h => h.pick [2, 3, 4]) ?_
 refine ME (V := fun _ => .tuple #[]) (fun W hS => callX [0, 1] [2, 3, 4] hS (fun hT => wr_call hT (fun hw => wsum_n f.li p w20 ((pfL f.ss f.th f.a f.x (((txL 64 f.val (((((l ++ (eI f.ep)) ++ (lb 32 f.ix)) ++ tB (lb 80 f.vr)) ++ [if f.pre then 1 else 0]) ++ (eI f.ver))) ++ (lb 32 f.bo)) ++ (lb 32 f.op))) ++ (lb 32 f.ro)) false W hw (by first | omega | (simp only [List.length_append, List.length_cons, List.length_nil, lb_length, be8_len, eI_len, flat32, flatt]; omega)))) (fun _ => ⟨.inr ⟨rfl, rfl⟩, .inr ⟨rfl, rfl⟩, trivial⟩)) ?_
 intro w22
 have hb_23 : (((pfL f.ss f.th f.a f.x (((txL 64 f.val (((((l ++ (eI f.ep)) ++ (lb 32 f.ix)) ++ tB (lb 80 f.vr)) ++ [if f.pre then 1 else 0]) ++ (eI f.ver))) ++ (lb 32 f.bo)) ++ (lb 32 f.op))) ++ (lb 32 f.ro)) ++ (lb 32 f.li)).length ≤ 908590 := (by rw [List.length_append]; simp only [List.length_cons, List.length_nil, lb_length, be8_len, eI_len, tB_len]; omega)
 refine TNp [2, 3, 4] [0, 1, 2] ?_
 refine TZ (fun _ h => h.pick [2, 3, 4]) fun W hS => ?_
 go_upto_region 12 with fail
 refine RTp [2, 3, 4] (.q 0 (.q 1 (.q 2 (.q 3 (.q 4 (.e 5 .z)))))) hS ?_
 clear hS
 refine TV ?_
 refine TV ?_
 refine TV ?_
 refine TV ?_
 refine Tk 2 ?_ (sub := arrK .u8 32 (byt f.ah)) (hs := (agF_arr (off := 310) 14))
 refine TE (fun _ h => h.pick [2, 3, 4]) ?_
 refine ME (V := fun _ => .tuple #[]) (fun W hS => callX [0, 1] [2, 3, 4] hS (fun hT => wr_call hT (fun hw => wsum_n f.ah p w22 (((pfL f.ss f.th f.a f.x (((txL 64 f.val (((((l ++ (eI f.ep)) ++ (lb 32 f.ix)) ++ tB (lb 80 f.vr)) ++ [if f.pre then 1 else 0]) ++ (eI f.ver))) ++ (lb 32 f.bo)) ++ (lb 32 f.op))) ++ (lb 32 f.ro)) ++ (lb 32 f.li)) false W hw (by first | omega | (simp only [List.length_append, List.length_cons, List.length_nil, lb_length, be8_len, eI_len, flat32, flatt]; omega)))) (fun _ => ⟨.inr ⟨rfl, rfl⟩, .inr ⟨rfl, rfl⟩, trivial⟩)) ?_
 intro w24
 have hb_25 : ((((pfL f.ss f.th f.a f.x (((txL 64 f.val (((((l ++ (eI f.ep)) ++ (lb 32 f.ix)) ++ tB (lb 80 f.vr)) ++ [if f.pre then 1 else 0]) ++ (eI f.ver))) ++ (lb 32 f.bo)) ++ (lb 32 f.op))) ++ (lb 32 f.ro)) ++ (lb 32 f.li)) ++ (lb 32 f.ah)).length ≤ 908622 := (by rw [List.length_append]; simp only [List.length_cons, List.length_nil, lb_length, be8_len, eI_len, tB_len]; omega)
 refine TNp [2, 3, 4] [0, 1, 2] ?_
 refine TZ (fun _ h => h.pick [2, 3, 4]) fun W hS => ?_
 go_upto_region 13 with fail
 refine RTp [2, 3, 4] (.q 0 (.q 1 (.q 2 (.q 3 (.q 4 (.e 5 .z)))))) hS ?_
 clear hS
 refine TV ?_
 refine TV ?_
 refine TV ?_
 refine TV ?_
 refine TG 2 ?_ (v := .int .i64 f.rd) (hj := (agF_cel (off := 342) 15))
 refine TE (fun _ h => h.pick [2, 3, 4]) ?_
 refine ME (V := fun _ => .tuple #[]) (fun W hS => callX [0, 1] [2, 3, 4] hS (fun hT => wr_call hT (fun hw => wnum_i f.rd p w24 ((((pfL f.ss f.th f.a f.x (((txL 64 f.val (((((l ++ (eI f.ep)) ++ (lb 32 f.ix)) ++ tB (lb 80 f.vr)) ++ [if f.pre then 1 else 0]) ++ (eI f.ver))) ++ (lb 32 f.bo)) ++ (lb 32 f.op))) ++ (lb 32 f.ro)) ++ (lb 32 f.li)) ++ (lb 32 f.ah)) false W hw (by first | omega | (simp only [List.length_append, List.length_cons, List.length_nil, lb_length, be8_len, eI_len, flat32, flatt]; omega)))) (fun _ => ⟨.inr ⟨rfl, rfl⟩, .inr ⟨rfl, rfl⟩, trivial⟩)) ?_
 intro w26
 have hb_27 : (((((pfL f.ss f.th f.a f.x (((txL 64 f.val (((((l ++ (eI f.ep)) ++ (lb 32 f.ix)) ++ tB (lb 80 f.vr)) ++ [if f.pre then 1 else 0]) ++ (eI f.ver))) ++ (lb 32 f.bo)) ++ (lb 32 f.op))) ++ (lb 32 f.ro)) ++ (lb 32 f.li)) ++ (lb 32 f.ah)) ++ (eI f.rd)).length ≤ 908630 := (by rw [List.length_append]; simp only [List.length_cons, List.length_nil, lb_length, be8_len, eI_len, tB_len]; omega)
 refine TNp [2, 3, 4] [0, 1, 2] ?_
 refine TZ (fun _ h => h.pick [2, 3, 4]) fun W hS => ?_
 go_wp2
 first | exact bodyPost_end (v := .tuple #[]) (by simp only [results, Try.results42]; go_simp) rfl ⟨_, rfl, by unfold foL foL1 foB; exact hS.pick [0, 1, 3, 2]⟩ | exact bodyPost_ret (v := .tuple #[]) (by simp only [results, Try.results42]; go_simp) rfl ⟨_, rfl, by unfold foL foL1 foB; exact hS.pick [0, 1, 3, 2]⟩
theorem dsaw_c {f : Fo} {sv : Value} (hn : f.ss.length ≤ 1000000) (hv : f.val.length ≤ 1000000) (w : World) (hsm : RR 32 w sv (f.ss.map b32l)) :
  Calls Try.prog 19 #[.agg (dfF f sv)] w fun e w' => Ret (.tuple #[str (dfL f), .bool (dfB f)]) w w' e := by
 obtain ⟨Ap, cp, rfl, hlc_sm, HR_sm⟩ := RR.opf hsm
 have hd := dtx_le (most := 64) (m := 64) (t := f.val) rfl
 have hpb := pB_ln (ss := f.ss) (th := f.th) (a := f.a) (x := f.x)
 have hS := SH.nil [] w
 go_enter Try.func19, Try.ntmps19
 go_upto_region 0 with fail
 refine RL hS ?_
 clear hS
 refine MN (z := agF [.c (.int .i64 f.ep), .c (str (lb 32 f.ix)), .c (str (lb 80 f.vr)), .c (.bool f.pre), .c (.int .i64 f.ver), .c (str f.val), .c (str (lb 32 f.bo)), .c (str (lb 32 f.op)), .c (.slice Ap f.ss.length cp), .c (.bool f.th), .a 32 f.a, .a 32 f.x, .c (str (lb 32 f.ro)), .c (str (lb 32 f.li)), .c (str (lb 32 f.ah)), .c (.int .i64 f.rd)]) (t := 54) ?_
 intro p1_1
 refine MV ?_
 refine MW ?_ (v := .bool false)
 refine MZ fun W hS => ?_
 rcases bool_or f.pre with hpr | hpr
 ·
  have _f := True.intro
  go_upto_region 2 with fail
  refine RL hS ?_
  clear hS
  refine MV ?_
  refine MG 0 ?_ (v := .bool true) (hj := ((agF_cel (off := 3) 3).trans (by rw [hpr])))
  refine MZ fun W hS => ?_
  go_upto_region 4 with fail
  refine RL hS ?_
  clear hS
  refine MV ?_
  refine MG 0 ?_ (v := str f.val) (hj := (agF_cel (off := 5) 5))
  refine MC (v := .tuple #[str (dtx 64 f.val), .bool (dok 64 f.val)]) (fun W hS => rtx_c 64 (by omega) W) ?_
  refine MV ?_
  refine MV ?_
  refine MW ?_ (v := .bool (dok 64 f.val))
  refine MV ?_
  refine MW ?_ (v := .bool (dok 64 f.val))
  refine MZ fun W hS => ?_
  rcases bool_or (dok 64 f.val) with ha | ha
  ·
   have _f := True.intro
   have Hpr := Lib.hid hpr
   clear hpr
   go_upto_region 5 with fail
   refine RTh (.q 0 (.q 1 (.q 3 (.q 4 (.q 6 (.q 7 (.q 10 (.q 13 (.q 14 (.q 17 (.q 19 (.q 20 (.q 22 (.q 23 (.q 25 (.q 26 (.q 29 (.q 30 (.q 32 (.q 33 (.q 35 (.q 36 (.q 38 (.q 39 (.q 42 (.e 2 (.q 5 (.e 8 (.q 9 (.e 11 (.q 12 (.e 15 (.q 16 (.q 18 (.q 21 (.q 24 (.e 27 (.q 28 (.q 31 (.q 34 (.q 37 (.e 40 (.q 41 (.q 43 (.q 44 (.q 45 (.q 46 (.q 47 (.q 48 (.q 49 (.q 50 (.q 51 .z)))))))))))))))))))))))))))))))))))))))))))))))))))) hS ?_
   clear hS
   refine TV ?_
   refine TG 0 ?_ (v := .int .i64 f.ep) (hj := (agF_cel (off := 0) 0))
   refine TV ?_
   refine TG 0 ?_ (v := str (lb 32 f.ix)) (hj := (agF_cel (off := 1) 1))
   refine TV ?_
   refine TG 0 ?_ (v := str (lb 80 f.vr)) (hj := (agF_cel (off := 2) 2))
   refine TW ?_ (v := .int .i64 1)
   refine TV ?_
   refine TG 0 ?_ (v := .int .i64 f.ver) (hj := (agF_cel (off := 4) 4))
   refine TV ?_
   refine TV ?_
   refine TG 0 ?_ (v := str (lb 32 f.bo)) (hj := (agF_cel (off := 6) 6))
   refine TV ?_
   refine TG 0 ?_ (v := str (lb 32 f.op)) (hj := (agF_cel (off := 7) 7))
   refine TV ?_
   refine Tk 0 ?_ (sub := agF [.c (.slice Ap f.ss.length cp), .c (.bool f.th), .a 32 f.a, .a 32 f.x]) (hs := (agF_part (off := 8) 8 4))
   refine TV ?_
   refine TG 0 ?_ (v := str (lb 32 f.ro)) (hj := (agF_cel (off := 74) 12))
   refine TV ?_
   refine TG 0 ?_ (v := str (lb 32 f.li)) (hj := (agF_cel (off := 75) 13))
   refine TV ?_
   refine TG 0 ?_ (v := str (lb 32 f.ah)) (hj := (agF_cel (off := 76) 14))
   refine TV ?_
   refine TG 0 ?_ (v := .int .i64 f.rd) (hj := (agF_cel (off := 77) 15))
   refine TW ?_ (v := .bool (dok 64 f.val))
   refine TE (fun _ h => h) ?_
   refine MC (v := str (eI f.ep)) (fun W hS => eight_i f.ep W) ?_
   refine TNh (fun W hS => hS) ?_
   refine TW ?_ (v := str ((eI f.ep) ++ (lb 32 f.ix))) (hv := fun _ => run_cat (l := (eI f.ep)) (m := (lb 32 f.ix)) rfl rfl rfl (by first | omega | (simp only [List.length_append, List.length_cons, List.length_nil, lb_length, eI_len, tB_len]; omega)))
   refine TE (fun _ h => h) ?_
   refine MC (v := str (tB (lb 80 f.vr))) (fun W hS => tx_i (lb 80 f.vr) (by rw [lb_length]; decide) W) ?_
   refine TNh (fun W hS => hS) ?_
   refine TW ?_ (v := str (((eI f.ep) ++ (lb 32 f.ix)) ++ (tB (lb 80 f.vr)))) (hv := fun _ => run_cat (l := ((eI f.ep) ++ (lb 32 f.ix))) (m := (tB (lb 80 f.vr))) rfl rfl rfl (by first | omega | (simp only [List.length_append, List.length_cons, List.length_nil, lb_length, eI_len, tB_len]; omega)))
   refine TE (fun _ h => h) ?_
   refine MC (v := str [u8 1]) (fun W hS => one_c 1 W) ?_
   refine TNh (fun W hS => hS) ?_
   refine TW ?_ (v := str ((((eI f.ep) ++ (lb 32 f.ix)) ++ (tB (lb 80 f.vr))) ++ [u8 1])) (hv := fun _ => run_cat (l := (((eI f.ep) ++ (lb 32 f.ix)) ++ (tB (lb 80 f.vr)))) (m := [u8 1]) rfl rfl rfl (by first | omega | (simp only [List.length_append, List.length_cons, List.length_nil, lb_length, eI_len, tB_len]; omega)))
   refine TE (fun _ h => h) ?_
   refine MC (v := str (eI f.ver)) (fun W hS => eight_i f.ver W) ?_
   refine TNh (fun W hS => hS) ?_
   refine TW ?_ (v := str (((((eI f.ep) ++ (lb 32 f.ix)) ++ (tB (lb 80 f.vr))) ++ [u8 1]) ++ (eI f.ver))) (hv := fun _ => run_cat (l := ((((eI f.ep) ++ (lb 32 f.ix)) ++ (tB (lb 80 f.vr))) ++ [u8 1])) (m := (eI f.ver)) rfl rfl rfl (by first | omega | (simp only [List.length_append, List.length_cons, List.length_nil, lb_length, eI_len, tB_len]; omega)))
   refine TW ?_ (v := str ((((((eI f.ep) ++ (lb 32 f.ix)) ++ (tB (lb 80 f.vr))) ++ [u8 1]) ++ (eI f.ver)) ++ (dtx 64 f.val))) (hv := fun _ => run_cat (l := (((((eI f.ep) ++ (lb 32 f.ix)) ++ (tB (lb 80 f.vr))) ++ [u8 1]) ++ (eI f.ver))) (m := (dtx 64 f.val)) rfl rfl rfl (by first | omega | (simp only [List.length_append, List.length_cons, List.length_nil, lb_length, eI_len, tB_len]; omega)))
   refine TW ?_ (v := str (((((((eI f.ep) ++ (lb 32 f.ix)) ++ (tB (lb 80 f.vr))) ++ [u8 1]) ++ (eI f.ver)) ++ (dtx 64 f.val)) ++ (lb 32 f.bo))) (hv := fun _ => run_cat (l := ((((((eI f.ep) ++ (lb 32 f.ix)) ++ (tB (lb 80 f.vr))) ++ [u8 1]) ++ (eI f.ver)) ++ (dtx 64 f.val))) (m := (lb 32 f.bo)) rfl rfl rfl (by first | omega | (simp only [List.length_append, List.length_cons, List.length_nil, lb_length, eI_len, tB_len]; omega)))
   refine TW ?_ (v := str ((((((((eI f.ep) ++ (lb 32 f.ix)) ++ (tB (lb 80 f.vr))) ++ [u8 1]) ++ (eI f.ver)) ++ (dtx 64 f.val)) ++ (lb 32 f.bo)) ++ (lb 32 f.op))) (hv := fun _ => run_cat (l := (((((((eI f.ep) ++ (lb 32 f.ix)) ++ (tB (lb 80 f.vr))) ++ [u8 1]) ++ (eI f.ver)) ++ (dtx 64 f.val)) ++ (lb 32 f.bo))) (m := (lb 32 f.op)) rfl rfl rfl (by first | omega | (simp only [List.length_append, List.length_cons, List.length_nil, lb_length, eI_len, tB_len]; omega)))
   refine TE (fun _ h => h) ?_
   refine MC (v := str (pB f.ss f.th f.a f.x)) (fun W hS => rpbytes_A (ss := f.ss) (th := f.th) (a := f.a) (x := f.x) (by omega) W (hsm.ext hS.ext)) ?_
   refine TNh (fun W hS => hS) ?_
   refine TW ?_ (v := str (((((((((eI f.ep) ++ (lb 32 f.ix)) ++ (tB (lb 80 f.vr))) ++ [u8 1]) ++ (eI f.ver)) ++ (dtx 64 f.val)) ++ (lb 32 f.bo)) ++ (lb 32 f.op)) ++ (pB f.ss f.th f.a f.x))) (hv := fun _ => run_cat (l := ((((((((eI f.ep) ++ (lb 32 f.ix)) ++ (tB (lb 80 f.vr))) ++ [u8 1]) ++ (eI f.ver)) ++ (dtx 64 f.val)) ++ (lb 32 f.bo)) ++ (lb 32 f.op))) (m := (pB f.ss f.th f.a f.x)) rfl rfl rfl (by first | omega | (simp only [List.length_append, List.length_cons, List.length_nil, lb_length, eI_len, tB_len]; omega)))
   refine TW ?_ (v := str ((((((((((eI f.ep) ++ (lb 32 f.ix)) ++ (tB (lb 80 f.vr))) ++ [u8 1]) ++ (eI f.ver)) ++ (dtx 64 f.val)) ++ (lb 32 f.bo)) ++ (lb 32 f.op)) ++ (pB f.ss f.th f.a f.x)) ++ (lb 32 f.ro))) (hv := fun _ => run_cat (l := (((((((((eI f.ep) ++ (lb 32 f.ix)) ++ (tB (lb 80 f.vr))) ++ [u8 1]) ++ (eI f.ver)) ++ (dtx 64 f.val)) ++ (lb 32 f.bo)) ++ (lb 32 f.op)) ++ (pB f.ss f.th f.a f.x))) (m := (lb 32 f.ro)) rfl rfl rfl (by first | omega | (simp only [List.length_append, List.length_cons, List.length_nil, lb_length, eI_len, tB_len]; omega)))
   refine TW ?_ (v := str (((((((((((eI f.ep) ++ (lb 32 f.ix)) ++ (tB (lb 80 f.vr))) ++ [u8 1]) ++ (eI f.ver)) ++ (dtx 64 f.val)) ++ (lb 32 f.bo)) ++ (lb 32 f.op)) ++ (pB f.ss f.th f.a f.x)) ++ (lb 32 f.ro)) ++ (lb 32 f.li))) (hv := fun _ => run_cat (l := ((((((((((eI f.ep) ++ (lb 32 f.ix)) ++ (tB (lb 80 f.vr))) ++ [u8 1]) ++ (eI f.ver)) ++ (dtx 64 f.val)) ++ (lb 32 f.bo)) ++ (lb 32 f.op)) ++ (pB f.ss f.th f.a f.x)) ++ (lb 32 f.ro))) (m := (lb 32 f.li)) rfl rfl rfl (by first | omega | (simp only [List.length_append, List.length_cons, List.length_nil, lb_length, eI_len, tB_len]; omega)))
   refine TW ?_ (v := str ((((((((((((eI f.ep) ++ (lb 32 f.ix)) ++ (tB (lb 80 f.vr))) ++ [u8 1]) ++ (eI f.ver)) ++ (dtx 64 f.val)) ++ (lb 32 f.bo)) ++ (lb 32 f.op)) ++ (pB f.ss f.th f.a f.x)) ++ (lb 32 f.ro)) ++ (lb 32 f.li)) ++ (lb 32 f.ah))) (hv := fun _ => run_cat (l := (((((((((((eI f.ep) ++ (lb 32 f.ix)) ++ (tB (lb 80 f.vr))) ++ [u8 1]) ++ (eI f.ver)) ++ (dtx 64 f.val)) ++ (lb 32 f.bo)) ++ (lb 32 f.op)) ++ (pB f.ss f.th f.a f.x)) ++ (lb 32 f.ro)) ++ (lb 32 f.li))) (m := (lb 32 f.ah)) rfl rfl rfl (by first | omega | (simp only [List.length_append, List.length_cons, List.length_nil, lb_length, eI_len, tB_len]; omega)))
   refine TE (fun _ h => h) ?_
   refine MC (v := str (eI f.rd)) (fun W hS => eight_i f.rd W) ?_
   refine TNh (fun W hS => hS) ?_
   refine TW ?_ (v := str (((((((((((((eI f.ep) ++ (lb 32 f.ix)) ++ (tB (lb 80 f.vr))) ++ [u8 1]) ++ (eI f.ver)) ++ (dtx 64 f.val)) ++ (lb 32 f.bo)) ++ (lb 32 f.op)) ++ (pB f.ss f.th f.a f.x)) ++ (lb 32 f.ro)) ++ (lb 32 f.li)) ++ (lb 32 f.ah)) ++ (eI f.rd))) (hv := fun _ => run_cat (l := ((((((((((((eI f.ep) ++ (lb 32 f.ix)) ++ (tB (lb 80 f.vr))) ++ [u8 1]) ++ (eI f.ver)) ++ (dtx 64 f.val)) ++ (lb 32 f.bo)) ++ (lb 32 f.op)) ++ (pB f.ss f.th f.a f.x)) ++ (lb 32 f.ro)) ++ (lb 32 f.li)) ++ (lb 32 f.ah))) (m := (eI f.rd)) rfl rfl rfl (by first | omega | (simp only [List.length_append, List.length_cons, List.length_nil, lb_length, eI_len, tB_len]; omega)))
   refine TW ?_ (v := .bool true) (hv := by intro W; go_simp; first | done | assumption)
   refine TV ?_
   refine TV ?_
   refine TG 0 ?_ (v := .slice Ap f.ss.length cp) (hj := (agF_cel (off := 8) 8))
   refine TV ?_
   refine TW ?_ (v := .bool (decide (f.ss.length ≤ 256))) (hv := by intro W; go_simp; first | done | omega | (congr 1; rw [decide_eq_decide]; omega))
   refine TW ?_ (v := .bool (decide (f.ss.length ≤ 256)))
   refine TV ?_
   refine TW ?_ (v := .bool (decide (f.ss.length ≤ 256)))
   refine TZ (fun _ h => h) fun W hS => ?_
   have hpr := Hpr.out
   go_wp2
   exact bodyPost_ret (v := .tuple #[str (((((((((((((eI f.ep) ++ (lb 32 f.ix)) ++ (tB (lb 80 f.vr))) ++ [u8 1]) ++ (eI f.ver)) ++ (dtx 64 f.val)) ++ (lb 32 f.bo)) ++ (lb 32 f.op)) ++ (pB f.ss f.th f.a f.x)) ++ (lb 32 f.ro)) ++ (lb 32 f.li)) ++ (lb 32 f.ah)) ++ (eI f.rd)), .bool (decide (f.ss.length ≤ 256))]) (by simp only [results, Try.results19]; clear hpr; first | (go_simp; done) | (go_simp; rfl)) rfl ⟨by unfold dfL dfB; rw [hpr, ha, Bool.true_and]; rfl, hS.ext⟩
  ·
   have _f := True.intro
   have Hpr := Lib.hid hpr
   clear hpr
   go_upto_region 5 with fail
   refine RTh (.q 0 (.q 1 (.q 3 (.q 4 (.q 6 (.q 7 (.q 10 (.q 13 (.q 14 (.q 17 (.q 19 (.q 20 (.q 22 (.q 23 (.q 25 (.q 26 (.q 29 (.q 30 (.q 32 (.q 33 (.q 35 (.q 36 (.q 38 (.q 39 (.q 42 (.e 2 (.q 5 (.e 8 (.q 9 (.e 11 (.q 12 (.e 15 (.q 16 (.q 18 (.q 21 (.q 24 (.e 27 (.q 28 (.q 31 (.q 34 (.q 37 (.e 40 (.q 41 (.q 43 (.q 44 (.q 45 (.q 46 (.q 47 (.q 48 (.q 49 (.q 50 (.q 51 .z)))))))))))))))))))))))))))))))))))))))))))))))))))) hS ?_
   clear hS
   refine TV ?_
   refine TG 0 ?_ (v := .int .i64 f.ep) (hj := (agF_cel (off := 0) 0))
   refine TV ?_
   refine TG 0 ?_ (v := str (lb 32 f.ix)) (hj := (agF_cel (off := 1) 1))
   refine TV ?_
   refine TG 0 ?_ (v := str (lb 80 f.vr)) (hj := (agF_cel (off := 2) 2))
   refine TW ?_ (v := .int .i64 1)
   refine TV ?_
   refine TG 0 ?_ (v := .int .i64 f.ver) (hj := (agF_cel (off := 4) 4))
   refine TV ?_
   refine TV ?_
   refine TG 0 ?_ (v := str (lb 32 f.bo)) (hj := (agF_cel (off := 6) 6))
   refine TV ?_
   refine TG 0 ?_ (v := str (lb 32 f.op)) (hj := (agF_cel (off := 7) 7))
   refine TV ?_
   refine Tk 0 ?_ (sub := agF [.c (.slice Ap f.ss.length cp), .c (.bool f.th), .a 32 f.a, .a 32 f.x]) (hs := (agF_part (off := 8) 8 4))
   refine TV ?_
   refine TG 0 ?_ (v := str (lb 32 f.ro)) (hj := (agF_cel (off := 74) 12))
   refine TV ?_
   refine TG 0 ?_ (v := str (lb 32 f.li)) (hj := (agF_cel (off := 75) 13))
   refine TV ?_
   refine TG 0 ?_ (v := str (lb 32 f.ah)) (hj := (agF_cel (off := 76) 14))
   refine TV ?_
   refine TG 0 ?_ (v := .int .i64 f.rd) (hj := (agF_cel (off := 77) 15))
   refine TW ?_ (v := .bool (dok 64 f.val))
   refine TE (fun _ h => h) ?_
   refine MC (v := str (eI f.ep)) (fun W hS => eight_i f.ep W) ?_
   refine TNh (fun W hS => hS) ?_
   refine TW ?_ (v := str ((eI f.ep) ++ (lb 32 f.ix))) (hv := fun _ => run_cat (l := (eI f.ep)) (m := (lb 32 f.ix)) rfl rfl rfl (by first | omega | (simp only [List.length_append, List.length_cons, List.length_nil, lb_length, eI_len, tB_len]; omega)))
   refine TE (fun _ h => h) ?_
   refine MC (v := str (tB (lb 80 f.vr))) (fun W hS => tx_i (lb 80 f.vr) (by rw [lb_length]; decide) W) ?_
   refine TNh (fun W hS => hS) ?_
   refine TW ?_ (v := str (((eI f.ep) ++ (lb 32 f.ix)) ++ (tB (lb 80 f.vr)))) (hv := fun _ => run_cat (l := ((eI f.ep) ++ (lb 32 f.ix))) (m := (tB (lb 80 f.vr))) rfl rfl rfl (by first | omega | (simp only [List.length_append, List.length_cons, List.length_nil, lb_length, eI_len, tB_len]; omega)))
   refine TE (fun _ h => h) ?_
   refine MC (v := str [u8 1]) (fun W hS => one_c 1 W) ?_
   refine TNh (fun W hS => hS) ?_
   refine TW ?_ (v := str ((((eI f.ep) ++ (lb 32 f.ix)) ++ (tB (lb 80 f.vr))) ++ [u8 1])) (hv := fun _ => run_cat (l := (((eI f.ep) ++ (lb 32 f.ix)) ++ (tB (lb 80 f.vr)))) (m := [u8 1]) rfl rfl rfl (by first | omega | (simp only [List.length_append, List.length_cons, List.length_nil, lb_length, eI_len, tB_len]; omega)))
   refine TE (fun _ h => h) ?_
   refine MC (v := str (eI f.ver)) (fun W hS => eight_i f.ver W) ?_
   refine TNh (fun W hS => hS) ?_
   refine TW ?_ (v := str (((((eI f.ep) ++ (lb 32 f.ix)) ++ (tB (lb 80 f.vr))) ++ [u8 1]) ++ (eI f.ver))) (hv := fun _ => run_cat (l := ((((eI f.ep) ++ (lb 32 f.ix)) ++ (tB (lb 80 f.vr))) ++ [u8 1])) (m := (eI f.ver)) rfl rfl rfl (by first | omega | (simp only [List.length_append, List.length_cons, List.length_nil, lb_length, eI_len, tB_len]; omega)))
   refine TW ?_ (v := str ((((((eI f.ep) ++ (lb 32 f.ix)) ++ (tB (lb 80 f.vr))) ++ [u8 1]) ++ (eI f.ver)) ++ (dtx 64 f.val))) (hv := fun _ => run_cat (l := (((((eI f.ep) ++ (lb 32 f.ix)) ++ (tB (lb 80 f.vr))) ++ [u8 1]) ++ (eI f.ver))) (m := (dtx 64 f.val)) rfl rfl rfl (by first | omega | (simp only [List.length_append, List.length_cons, List.length_nil, lb_length, eI_len, tB_len]; omega)))
   refine TW ?_ (v := str (((((((eI f.ep) ++ (lb 32 f.ix)) ++ (tB (lb 80 f.vr))) ++ [u8 1]) ++ (eI f.ver)) ++ (dtx 64 f.val)) ++ (lb 32 f.bo))) (hv := fun _ => run_cat (l := ((((((eI f.ep) ++ (lb 32 f.ix)) ++ (tB (lb 80 f.vr))) ++ [u8 1]) ++ (eI f.ver)) ++ (dtx 64 f.val))) (m := (lb 32 f.bo)) rfl rfl rfl (by first | omega | (simp only [List.length_append, List.length_cons, List.length_nil, lb_length, eI_len, tB_len]; omega)))
   refine TW ?_ (v := str ((((((((eI f.ep) ++ (lb 32 f.ix)) ++ (tB (lb 80 f.vr))) ++ [u8 1]) ++ (eI f.ver)) ++ (dtx 64 f.val)) ++ (lb 32 f.bo)) ++ (lb 32 f.op))) (hv := fun _ => run_cat (l := (((((((eI f.ep) ++ (lb 32 f.ix)) ++ (tB (lb 80 f.vr))) ++ [u8 1]) ++ (eI f.ver)) ++ (dtx 64 f.val)) ++ (lb 32 f.bo))) (m := (lb 32 f.op)) rfl rfl rfl (by first | omega | (simp only [List.length_append, List.length_cons, List.length_nil, lb_length, eI_len, tB_len]; omega)))
   refine TE (fun _ h => h) ?_
   refine MC (v := str (pB f.ss f.th f.a f.x)) (fun W hS => rpbytes_A (ss := f.ss) (th := f.th) (a := f.a) (x := f.x) (by omega) W (hsm.ext hS.ext)) ?_
   refine TNh (fun W hS => hS) ?_
   refine TW ?_ (v := str (((((((((eI f.ep) ++ (lb 32 f.ix)) ++ (tB (lb 80 f.vr))) ++ [u8 1]) ++ (eI f.ver)) ++ (dtx 64 f.val)) ++ (lb 32 f.bo)) ++ (lb 32 f.op)) ++ (pB f.ss f.th f.a f.x))) (hv := fun _ => run_cat (l := ((((((((eI f.ep) ++ (lb 32 f.ix)) ++ (tB (lb 80 f.vr))) ++ [u8 1]) ++ (eI f.ver)) ++ (dtx 64 f.val)) ++ (lb 32 f.bo)) ++ (lb 32 f.op))) (m := (pB f.ss f.th f.a f.x)) rfl rfl rfl (by first | omega | (simp only [List.length_append, List.length_cons, List.length_nil, lb_length, eI_len, tB_len]; omega)))
   refine TW ?_ (v := str ((((((((((eI f.ep) ++ (lb 32 f.ix)) ++ (tB (lb 80 f.vr))) ++ [u8 1]) ++ (eI f.ver)) ++ (dtx 64 f.val)) ++ (lb 32 f.bo)) ++ (lb 32 f.op)) ++ (pB f.ss f.th f.a f.x)) ++ (lb 32 f.ro))) (hv := fun _ => run_cat (l := (((((((((eI f.ep) ++ (lb 32 f.ix)) ++ (tB (lb 80 f.vr))) ++ [u8 1]) ++ (eI f.ver)) ++ (dtx 64 f.val)) ++ (lb 32 f.bo)) ++ (lb 32 f.op)) ++ (pB f.ss f.th f.a f.x))) (m := (lb 32 f.ro)) rfl rfl rfl (by first | omega | (simp only [List.length_append, List.length_cons, List.length_nil, lb_length, eI_len, tB_len]; omega)))
   refine TW ?_ (v := str (((((((((((eI f.ep) ++ (lb 32 f.ix)) ++ (tB (lb 80 f.vr))) ++ [u8 1]) ++ (eI f.ver)) ++ (dtx 64 f.val)) ++ (lb 32 f.bo)) ++ (lb 32 f.op)) ++ (pB f.ss f.th f.a f.x)) ++ (lb 32 f.ro)) ++ (lb 32 f.li))) (hv := fun _ => run_cat (l := ((((((((((eI f.ep) ++ (lb 32 f.ix)) ++ (tB (lb 80 f.vr))) ++ [u8 1]) ++ (eI f.ver)) ++ (dtx 64 f.val)) ++ (lb 32 f.bo)) ++ (lb 32 f.op)) ++ (pB f.ss f.th f.a f.x)) ++ (lb 32 f.ro))) (m := (lb 32 f.li)) rfl rfl rfl (by first | omega | (simp only [List.length_append, List.length_cons, List.length_nil, lb_length, eI_len, tB_len]; omega)))
   refine TW ?_ (v := str ((((((((((((eI f.ep) ++ (lb 32 f.ix)) ++ (tB (lb 80 f.vr))) ++ [u8 1]) ++ (eI f.ver)) ++ (dtx 64 f.val)) ++ (lb 32 f.bo)) ++ (lb 32 f.op)) ++ (pB f.ss f.th f.a f.x)) ++ (lb 32 f.ro)) ++ (lb 32 f.li)) ++ (lb 32 f.ah))) (hv := fun _ => run_cat (l := (((((((((((eI f.ep) ++ (lb 32 f.ix)) ++ (tB (lb 80 f.vr))) ++ [u8 1]) ++ (eI f.ver)) ++ (dtx 64 f.val)) ++ (lb 32 f.bo)) ++ (lb 32 f.op)) ++ (pB f.ss f.th f.a f.x)) ++ (lb 32 f.ro)) ++ (lb 32 f.li))) (m := (lb 32 f.ah)) rfl rfl rfl (by first | omega | (simp only [List.length_append, List.length_cons, List.length_nil, lb_length, eI_len, tB_len]; omega)))
   refine TE (fun _ h => h) ?_
   refine MC (v := str (eI f.rd)) (fun W hS => eight_i f.rd W) ?_
   refine TNh (fun W hS => hS) ?_
   refine TW ?_ (v := str (((((((((((((eI f.ep) ++ (lb 32 f.ix)) ++ (tB (lb 80 f.vr))) ++ [u8 1]) ++ (eI f.ver)) ++ (dtx 64 f.val)) ++ (lb 32 f.bo)) ++ (lb 32 f.op)) ++ (pB f.ss f.th f.a f.x)) ++ (lb 32 f.ro)) ++ (lb 32 f.li)) ++ (lb 32 f.ah)) ++ (eI f.rd))) (hv := fun _ => run_cat (l := ((((((((((((eI f.ep) ++ (lb 32 f.ix)) ++ (tB (lb 80 f.vr))) ++ [u8 1]) ++ (eI f.ver)) ++ (dtx 64 f.val)) ++ (lb 32 f.bo)) ++ (lb 32 f.op)) ++ (pB f.ss f.th f.a f.x)) ++ (lb 32 f.ro)) ++ (lb 32 f.li)) ++ (lb 32 f.ah))) (m := (eI f.rd)) rfl rfl rfl (by first | omega | (simp only [List.length_append, List.length_cons, List.length_nil, lb_length, eI_len, tB_len]; omega)))
   refine TW ?_ (v := .bool false) (hv := by intro W; go_simp; first | done | assumption)
   refine TS ?_
   refine TS ?_
   refine TS ?_
   refine TS ?_
   refine TS ?_
   refine TW ?_ (v := .bool false)
   refine TV ?_
   refine TW ?_ (v := .bool false)
   refine TZ (fun _ h => h) fun W hS => ?_
   have hpr := Hpr.out
   go_wp2
   exact bodyPost_ret (v := .tuple #[str (((((((((((((eI f.ep) ++ (lb 32 f.ix)) ++ (tB (lb 80 f.vr))) ++ [u8 1]) ++ (eI f.ver)) ++ (dtx 64 f.val)) ++ (lb 32 f.bo)) ++ (lb 32 f.op)) ++ (pB f.ss f.th f.a f.x)) ++ (lb 32 f.ro)) ++ (lb 32 f.li)) ++ (lb 32 f.ah)) ++ (eI f.rd)), .bool false]) (by simp only [results, Try.results19]; clear hpr; first | (go_simp; done) | (go_simp; rfl)) rfl ⟨by unfold dfL dfB; rw [hpr, ha, Bool.false_and]; rfl, hS.ext⟩
 ·
  have _f := True.intro
  go_upto_region 2 with fail
  refine RL hS ?_
  clear hS
  refine MV ?_
  refine MG 0 ?_ (v := .bool false) (hj := ((agF_cel (off := 3) 3).trans (by rw [hpr])))
  refine MZ fun W hS => ?_
  go_upto_region 4 with fail
  refine RL hS ?_
  clear hS
  refine MV ?_
  refine MG 0 ?_ (v := str f.val) (hj := (agF_cel (off := 5) 5))
  refine MC (v := .tuple #[str (dtx 64 f.val), .bool (dok 64 f.val)]) (fun W hS => rtx_c 64 (by omega) W) ?_
  refine MV ?_
  refine MV ?_
  refine MW ?_ (v := .bool (dok 64 f.val))
  refine MV ?_
  refine MW ?_ (v := .bool (dok 64 f.val))
  refine MZ fun W hS => ?_
  rcases bool_or (dok 64 f.val) with ha | ha
  ·
   have _f := True.intro
   have Hpr := Lib.hid hpr
   clear hpr
   go_upto_region 5 with fail
   refine RTh (.q 0 (.q 1 (.q 3 (.q 4 (.q 6 (.q 7 (.q 10 (.q 13 (.q 14 (.q 17 (.q 19 (.q 20 (.q 22 (.q 23 (.q 25 (.q 26 (.q 29 (.q 30 (.q 32 (.q 33 (.q 35 (.q 36 (.q 38 (.q 39 (.q 42 (.e 2 (.q 5 (.e 8 (.q 9 (.e 11 (.q 12 (.e 15 (.q 16 (.q 18 (.q 21 (.q 24 (.e 27 (.q 28 (.q 31 (.q 34 (.q 37 (.e 40 (.q 41 (.q 43 (.q 44 (.q 45 (.q 46 (.q 47 (.q 48 (.q 49 (.q 50 (.q 51 .z)))))))))))))))))))))))))))))))))))))))))))))))))))) hS ?_
   clear hS
   refine TV ?_
   refine TG 0 ?_ (v := .int .i64 f.ep) (hj := (agF_cel (off := 0) 0))
   refine TV ?_
   refine TG 0 ?_ (v := str (lb 32 f.ix)) (hj := (agF_cel (off := 1) 1))
   refine TV ?_
   refine TG 0 ?_ (v := str (lb 80 f.vr)) (hj := (agF_cel (off := 2) 2))
   refine TW ?_ (v := .int .i64 0)
   refine TV ?_
   refine TG 0 ?_ (v := .int .i64 f.ver) (hj := (agF_cel (off := 4) 4))
   refine TV ?_
   refine TV ?_
   refine TG 0 ?_ (v := str (lb 32 f.bo)) (hj := (agF_cel (off := 6) 6))
   refine TV ?_
   refine TG 0 ?_ (v := str (lb 32 f.op)) (hj := (agF_cel (off := 7) 7))
   refine TV ?_
   refine Tk 0 ?_ (sub := agF [.c (.slice Ap f.ss.length cp), .c (.bool f.th), .a 32 f.a, .a 32 f.x]) (hs := (agF_part (off := 8) 8 4))
   refine TV ?_
   refine TG 0 ?_ (v := str (lb 32 f.ro)) (hj := (agF_cel (off := 74) 12))
   refine TV ?_
   refine TG 0 ?_ (v := str (lb 32 f.li)) (hj := (agF_cel (off := 75) 13))
   refine TV ?_
   refine TG 0 ?_ (v := str (lb 32 f.ah)) (hj := (agF_cel (off := 76) 14))
   refine TV ?_
   refine TG 0 ?_ (v := .int .i64 f.rd) (hj := (agF_cel (off := 77) 15))
   refine TW ?_ (v := .bool (dok 64 f.val))
   refine TE (fun _ h => h) ?_
   refine MC (v := str (eI f.ep)) (fun W hS => eight_i f.ep W) ?_
   refine TNh (fun W hS => hS) ?_
   refine TW ?_ (v := str ((eI f.ep) ++ (lb 32 f.ix))) (hv := fun _ => run_cat (l := (eI f.ep)) (m := (lb 32 f.ix)) rfl rfl rfl (by first | omega | (simp only [List.length_append, List.length_cons, List.length_nil, lb_length, eI_len, tB_len]; omega)))
   refine TE (fun _ h => h) ?_
   refine MC (v := str (tB (lb 80 f.vr))) (fun W hS => tx_i (lb 80 f.vr) (by rw [lb_length]; decide) W) ?_
   refine TNh (fun W hS => hS) ?_
   refine TW ?_ (v := str (((eI f.ep) ++ (lb 32 f.ix)) ++ (tB (lb 80 f.vr)))) (hv := fun _ => run_cat (l := ((eI f.ep) ++ (lb 32 f.ix))) (m := (tB (lb 80 f.vr))) rfl rfl rfl (by first | omega | (simp only [List.length_append, List.length_cons, List.length_nil, lb_length, eI_len, tB_len]; omega)))
   refine TE (fun _ h => h) ?_
   refine MC (v := str [u8 0]) (fun W hS => one_c 0 W) ?_
   refine TNh (fun W hS => hS) ?_
   refine TW ?_ (v := str ((((eI f.ep) ++ (lb 32 f.ix)) ++ (tB (lb 80 f.vr))) ++ [u8 0])) (hv := fun _ => run_cat (l := (((eI f.ep) ++ (lb 32 f.ix)) ++ (tB (lb 80 f.vr)))) (m := [u8 0]) rfl rfl rfl (by first | omega | (simp only [List.length_append, List.length_cons, List.length_nil, lb_length, eI_len, tB_len]; omega)))
   refine TE (fun _ h => h) ?_
   refine MC (v := str (eI f.ver)) (fun W hS => eight_i f.ver W) ?_
   refine TNh (fun W hS => hS) ?_
   refine TW ?_ (v := str (((((eI f.ep) ++ (lb 32 f.ix)) ++ (tB (lb 80 f.vr))) ++ [u8 0]) ++ (eI f.ver))) (hv := fun _ => run_cat (l := ((((eI f.ep) ++ (lb 32 f.ix)) ++ (tB (lb 80 f.vr))) ++ [u8 0])) (m := (eI f.ver)) rfl rfl rfl (by first | omega | (simp only [List.length_append, List.length_cons, List.length_nil, lb_length, eI_len, tB_len]; omega)))
   refine TW ?_ (v := str ((((((eI f.ep) ++ (lb 32 f.ix)) ++ (tB (lb 80 f.vr))) ++ [u8 0]) ++ (eI f.ver)) ++ (dtx 64 f.val))) (hv := fun _ => run_cat (l := (((((eI f.ep) ++ (lb 32 f.ix)) ++ (tB (lb 80 f.vr))) ++ [u8 0]) ++ (eI f.ver))) (m := (dtx 64 f.val)) rfl rfl rfl (by first | omega | (simp only [List.length_append, List.length_cons, List.length_nil, lb_length, eI_len, tB_len]; omega)))
   refine TW ?_ (v := str (((((((eI f.ep) ++ (lb 32 f.ix)) ++ (tB (lb 80 f.vr))) ++ [u8 0]) ++ (eI f.ver)) ++ (dtx 64 f.val)) ++ (lb 32 f.bo))) (hv := fun _ => run_cat (l := ((((((eI f.ep) ++ (lb 32 f.ix)) ++ (tB (lb 80 f.vr))) ++ [u8 0]) ++ (eI f.ver)) ++ (dtx 64 f.val))) (m := (lb 32 f.bo)) rfl rfl rfl (by first | omega | (simp only [List.length_append, List.length_cons, List.length_nil, lb_length, eI_len, tB_len]; omega)))
   refine TW ?_ (v := str ((((((((eI f.ep) ++ (lb 32 f.ix)) ++ (tB (lb 80 f.vr))) ++ [u8 0]) ++ (eI f.ver)) ++ (dtx 64 f.val)) ++ (lb 32 f.bo)) ++ (lb 32 f.op))) (hv := fun _ => run_cat (l := (((((((eI f.ep) ++ (lb 32 f.ix)) ++ (tB (lb 80 f.vr))) ++ [u8 0]) ++ (eI f.ver)) ++ (dtx 64 f.val)) ++ (lb 32 f.bo))) (m := (lb 32 f.op)) rfl rfl rfl (by first | omega | (simp only [List.length_append, List.length_cons, List.length_nil, lb_length, eI_len, tB_len]; omega)))
   refine TE (fun _ h => h) ?_
   refine MC (v := str (pB f.ss f.th f.a f.x)) (fun W hS => rpbytes_A (ss := f.ss) (th := f.th) (a := f.a) (x := f.x) (by omega) W (hsm.ext hS.ext)) ?_
   refine TNh (fun W hS => hS) ?_
   refine TW ?_ (v := str (((((((((eI f.ep) ++ (lb 32 f.ix)) ++ (tB (lb 80 f.vr))) ++ [u8 0]) ++ (eI f.ver)) ++ (dtx 64 f.val)) ++ (lb 32 f.bo)) ++ (lb 32 f.op)) ++ (pB f.ss f.th f.a f.x))) (hv := fun _ => run_cat (l := ((((((((eI f.ep) ++ (lb 32 f.ix)) ++ (tB (lb 80 f.vr))) ++ [u8 0]) ++ (eI f.ver)) ++ (dtx 64 f.val)) ++ (lb 32 f.bo)) ++ (lb 32 f.op))) (m := (pB f.ss f.th f.a f.x)) rfl rfl rfl (by first | omega | (simp only [List.length_append, List.length_cons, List.length_nil, lb_length, eI_len, tB_len]; omega)))
   refine TW ?_ (v := str ((((((((((eI f.ep) ++ (lb 32 f.ix)) ++ (tB (lb 80 f.vr))) ++ [u8 0]) ++ (eI f.ver)) ++ (dtx 64 f.val)) ++ (lb 32 f.bo)) ++ (lb 32 f.op)) ++ (pB f.ss f.th f.a f.x)) ++ (lb 32 f.ro))) (hv := fun _ => run_cat (l := (((((((((eI f.ep) ++ (lb 32 f.ix)) ++ (tB (lb 80 f.vr))) ++ [u8 0]) ++ (eI f.ver)) ++ (dtx 64 f.val)) ++ (lb 32 f.bo)) ++ (lb 32 f.op)) ++ (pB f.ss f.th f.a f.x))) (m := (lb 32 f.ro)) rfl rfl rfl (by first | omega | (simp only [List.length_append, List.length_cons, List.length_nil, lb_length, eI_len, tB_len]; omega)))
   refine TW ?_ (v := str (((((((((((eI f.ep) ++ (lb 32 f.ix)) ++ (tB (lb 80 f.vr))) ++ [u8 0]) ++ (eI f.ver)) ++ (dtx 64 f.val)) ++ (lb 32 f.bo)) ++ (lb 32 f.op)) ++ (pB f.ss f.th f.a f.x)) ++ (lb 32 f.ro)) ++ (lb 32 f.li))) (hv := fun _ => run_cat (l := ((((((((((eI f.ep) ++ (lb 32 f.ix)) ++ (tB (lb 80 f.vr))) ++ [u8 0]) ++ (eI f.ver)) ++ (dtx 64 f.val)) ++ (lb 32 f.bo)) ++ (lb 32 f.op)) ++ (pB f.ss f.th f.a f.x)) ++ (lb 32 f.ro))) (m := (lb 32 f.li)) rfl rfl rfl (by first | omega | (simp only [List.length_append, List.length_cons, List.length_nil, lb_length, eI_len, tB_len]; omega)))
   refine TW ?_ (v := str ((((((((((((eI f.ep) ++ (lb 32 f.ix)) ++ (tB (lb 80 f.vr))) ++ [u8 0]) ++ (eI f.ver)) ++ (dtx 64 f.val)) ++ (lb 32 f.bo)) ++ (lb 32 f.op)) ++ (pB f.ss f.th f.a f.x)) ++ (lb 32 f.ro)) ++ (lb 32 f.li)) ++ (lb 32 f.ah))) (hv := fun _ => run_cat (l := (((((((((((eI f.ep) ++ (lb 32 f.ix)) ++ (tB (lb 80 f.vr))) ++ [u8 0]) ++ (eI f.ver)) ++ (dtx 64 f.val)) ++ (lb 32 f.bo)) ++ (lb 32 f.op)) ++ (pB f.ss f.th f.a f.x)) ++ (lb 32 f.ro)) ++ (lb 32 f.li))) (m := (lb 32 f.ah)) rfl rfl rfl (by first | omega | (simp only [List.length_append, List.length_cons, List.length_nil, lb_length, eI_len, tB_len]; omega)))
   refine TE (fun _ h => h) ?_
   refine MC (v := str (eI f.rd)) (fun W hS => eight_i f.rd W) ?_
   refine TNh (fun W hS => hS) ?_
   refine TW ?_ (v := str (((((((((((((eI f.ep) ++ (lb 32 f.ix)) ++ (tB (lb 80 f.vr))) ++ [u8 0]) ++ (eI f.ver)) ++ (dtx 64 f.val)) ++ (lb 32 f.bo)) ++ (lb 32 f.op)) ++ (pB f.ss f.th f.a f.x)) ++ (lb 32 f.ro)) ++ (lb 32 f.li)) ++ (lb 32 f.ah)) ++ (eI f.rd))) (hv := fun _ => run_cat (l := ((((((((((((eI f.ep) ++ (lb 32 f.ix)) ++ (tB (lb 80 f.vr))) ++ [u8 0]) ++ (eI f.ver)) ++ (dtx 64 f.val)) ++ (lb 32 f.bo)) ++ (lb 32 f.op)) ++ (pB f.ss f.th f.a f.x)) ++ (lb 32 f.ro)) ++ (lb 32 f.li)) ++ (lb 32 f.ah))) (m := (eI f.rd)) rfl rfl rfl (by first | omega | (simp only [List.length_append, List.length_cons, List.length_nil, lb_length, eI_len, tB_len]; omega)))
   refine TW ?_ (v := .bool true) (hv := by intro W; go_simp; first | done | assumption)
   refine TV ?_
   refine TV ?_
   refine TG 0 ?_ (v := .slice Ap f.ss.length cp) (hj := (agF_cel (off := 8) 8))
   refine TV ?_
   refine TW ?_ (v := .bool (decide (f.ss.length ≤ 256))) (hv := by intro W; go_simp; first | done | omega | (congr 1; rw [decide_eq_decide]; omega))
   refine TW ?_ (v := .bool (decide (f.ss.length ≤ 256)))
   refine TV ?_
   refine TW ?_ (v := .bool (decide (f.ss.length ≤ 256)))
   refine TZ (fun _ h => h) fun W hS => ?_
   have hpr := Hpr.out
   go_wp2
   exact bodyPost_ret (v := .tuple #[str (((((((((((((eI f.ep) ++ (lb 32 f.ix)) ++ (tB (lb 80 f.vr))) ++ [u8 0]) ++ (eI f.ver)) ++ (dtx 64 f.val)) ++ (lb 32 f.bo)) ++ (lb 32 f.op)) ++ (pB f.ss f.th f.a f.x)) ++ (lb 32 f.ro)) ++ (lb 32 f.li)) ++ (lb 32 f.ah)) ++ (eI f.rd)), .bool (decide (f.ss.length ≤ 256))]) (by simp only [results, Try.results19]; clear hpr; first | (go_simp; done) | (go_simp; rfl)) rfl ⟨by unfold dfL dfB; rw [hpr, ha, Bool.true_and]; rfl, hS.ext⟩
  ·
   have _f := True.intro
   have Hpr := Lib.hid hpr
   clear hpr
   go_upto_region 5 with fail
   refine RTh (.q 0 (.q 1 (.q 3 (.q 4 (.q 6 (.q 7 (.q 10 (.q 13 (.q 14 (.q 17 (.q 19 (.q 20 (.q 22 (.q 23 (.q 25 (.q 26 (.q 29 (.q 30 (.q 32 (.q 33 (.q 35 (.q 36 (.q 38 (.q 39 (.q 42 (.e 2 (.q 5 (.e 8 (.q 9 (.e 11 (.q 12 (.e 15 (.q 16 (.q 18 (.q 21 (.q 24 (.e 27 (.q 28 (.q 31 (.q 34 (.q 37 (.e 40 (.q 41 (.q 43 (.q 44 (.q 45 (.q 46 (.q 47 (.q 48 (.q 49 (.q 50 (.q 51 .z)))))))))))))))))))))))))))))))))))))))))))))))))))) hS ?_
   clear hS
   refine TV ?_
   refine TG 0 ?_ (v := .int .i64 f.ep) (hj := (agF_cel (off := 0) 0))
   refine TV ?_
   refine TG 0 ?_ (v := str (lb 32 f.ix)) (hj := (agF_cel (off := 1) 1))
   refine TV ?_
   refine TG 0 ?_ (v := str (lb 80 f.vr)) (hj := (agF_cel (off := 2) 2))
   refine TW ?_ (v := .int .i64 0)
   refine TV ?_
   refine TG 0 ?_ (v := .int .i64 f.ver) (hj := (agF_cel (off := 4) 4))
   refine TV ?_
   refine TV ?_
   refine TG 0 ?_ (v := str (lb 32 f.bo)) (hj := (agF_cel (off := 6) 6))
   refine TV ?_
   refine TG 0 ?_ (v := str (lb 32 f.op)) (hj := (agF_cel (off := 7) 7))
   refine TV ?_
   refine Tk 0 ?_ (sub := agF [.c (.slice Ap f.ss.length cp), .c (.bool f.th), .a 32 f.a, .a 32 f.x]) (hs := (agF_part (off := 8) 8 4))
   refine TV ?_
   refine TG 0 ?_ (v := str (lb 32 f.ro)) (hj := (agF_cel (off := 74) 12))
   refine TV ?_
   refine TG 0 ?_ (v := str (lb 32 f.li)) (hj := (agF_cel (off := 75) 13))
   refine TV ?_
   refine TG 0 ?_ (v := str (lb 32 f.ah)) (hj := (agF_cel (off := 76) 14))
   refine TV ?_
   refine TG 0 ?_ (v := .int .i64 f.rd) (hj := (agF_cel (off := 77) 15))
   refine TW ?_ (v := .bool (dok 64 f.val))
   refine TE (fun _ h => h) ?_
   refine MC (v := str (eI f.ep)) (fun W hS => eight_i f.ep W) ?_
   refine TNh (fun W hS => hS) ?_
   refine TW ?_ (v := str ((eI f.ep) ++ (lb 32 f.ix))) (hv := fun _ => run_cat (l := (eI f.ep)) (m := (lb 32 f.ix)) rfl rfl rfl (by first | omega | (simp only [List.length_append, List.length_cons, List.length_nil, lb_length, eI_len, tB_len]; omega)))
   refine TE (fun _ h => h) ?_
   refine MC (v := str (tB (lb 80 f.vr))) (fun W hS => tx_i (lb 80 f.vr) (by rw [lb_length]; decide) W) ?_
   refine TNh (fun W hS => hS) ?_
   refine TW ?_ (v := str (((eI f.ep) ++ (lb 32 f.ix)) ++ (tB (lb 80 f.vr)))) (hv := fun _ => run_cat (l := ((eI f.ep) ++ (lb 32 f.ix))) (m := (tB (lb 80 f.vr))) rfl rfl rfl (by first | omega | (simp only [List.length_append, List.length_cons, List.length_nil, lb_length, eI_len, tB_len]; omega)))
   refine TE (fun _ h => h) ?_
   refine MC (v := str [u8 0]) (fun W hS => one_c 0 W) ?_
   refine TNh (fun W hS => hS) ?_
   refine TW ?_ (v := str ((((eI f.ep) ++ (lb 32 f.ix)) ++ (tB (lb 80 f.vr))) ++ [u8 0])) (hv := fun _ => run_cat (l := (((eI f.ep) ++ (lb 32 f.ix)) ++ (tB (lb 80 f.vr)))) (m := [u8 0]) rfl rfl rfl (by first | omega | (simp only [List.length_append, List.length_cons, List.length_nil, lb_length, eI_len, tB_len]; omega)))
   refine TE (fun _ h => h) ?_
   refine MC (v := str (eI f.ver)) (fun W hS => eight_i f.ver W) ?_
   refine TNh (fun W hS => hS) ?_
   refine TW ?_ (v := str (((((eI f.ep) ++ (lb 32 f.ix)) ++ (tB (lb 80 f.vr))) ++ [u8 0]) ++ (eI f.ver))) (hv := fun _ => run_cat (l := ((((eI f.ep) ++ (lb 32 f.ix)) ++ (tB (lb 80 f.vr))) ++ [u8 0])) (m := (eI f.ver)) rfl rfl rfl (by first | omega | (simp only [List.length_append, List.length_cons, List.length_nil, lb_length, eI_len, tB_len]; omega)))
   refine TW ?_ (v := str ((((((eI f.ep) ++ (lb 32 f.ix)) ++ (tB (lb 80 f.vr))) ++ [u8 0]) ++ (eI f.ver)) ++ (dtx 64 f.val))) (hv := fun _ => run_cat (l := (((((eI f.ep) ++ (lb 32 f.ix)) ++ (tB (lb 80 f.vr))) ++ [u8 0]) ++ (eI f.ver))) (m := (dtx 64 f.val)) rfl rfl rfl (by first | omega | (simp only [List.length_append, List.length_cons, List.length_nil, lb_length, eI_len, tB_len]; omega)))
   refine TW ?_ (v := str (((((((eI f.ep) ++ (lb 32 f.ix)) ++ (tB (lb 80 f.vr))) ++ [u8 0]) ++ (eI f.ver)) ++ (dtx 64 f.val)) ++ (lb 32 f.bo))) (hv := fun _ => run_cat (l := ((((((eI f.ep) ++ (lb 32 f.ix)) ++ (tB (lb 80 f.vr))) ++ [u8 0]) ++ (eI f.ver)) ++ (dtx 64 f.val))) (m := (lb 32 f.bo)) rfl rfl rfl (by first | omega | (simp only [List.length_append, List.length_cons, List.length_nil, lb_length, eI_len, tB_len]; omega)))
   refine TW ?_ (v := str ((((((((eI f.ep) ++ (lb 32 f.ix)) ++ (tB (lb 80 f.vr))) ++ [u8 0]) ++ (eI f.ver)) ++ (dtx 64 f.val)) ++ (lb 32 f.bo)) ++ (lb 32 f.op))) (hv := fun _ => run_cat (l := (((((((eI f.ep) ++ (lb 32 f.ix)) ++ (tB (lb 80 f.vr))) ++ [u8 0]) ++ (eI f.ver)) ++ (dtx 64 f.val)) ++ (lb 32 f.bo))) (m := (lb 32 f.op)) rfl rfl rfl (by first | omega | (simp only [List.length_append, List.length_cons, List.length_nil, lb_length, eI_len, tB_len]; omega)))
   refine TE (fun _ h => h) ?_
   refine MC (v := str (pB f.ss f.th f.a f.x)) (fun W hS => rpbytes_A (ss := f.ss) (th := f.th) (a := f.a) (x := f.x) (by omega) W (hsm.ext hS.ext)) ?_
   refine TNh (fun W hS => hS) ?_
   refine TW ?_ (v := str (((((((((eI f.ep) ++ (lb 32 f.ix)) ++ (tB (lb 80 f.vr))) ++ [u8 0]) ++ (eI f.ver)) ++ (dtx 64 f.val)) ++ (lb 32 f.bo)) ++ (lb 32 f.op)) ++ (pB f.ss f.th f.a f.x))) (hv := fun _ => run_cat (l := ((((((((eI f.ep) ++ (lb 32 f.ix)) ++ (tB (lb 80 f.vr))) ++ [u8 0]) ++ (eI f.ver)) ++ (dtx 64 f.val)) ++ (lb 32 f.bo)) ++ (lb 32 f.op))) (m := (pB f.ss f.th f.a f.x)) rfl rfl rfl (by first | omega | (simp only [List.length_append, List.length_cons, List.length_nil, lb_length, eI_len, tB_len]; omega)))
   refine TW ?_ (v := str ((((((((((eI f.ep) ++ (lb 32 f.ix)) ++ (tB (lb 80 f.vr))) ++ [u8 0]) ++ (eI f.ver)) ++ (dtx 64 f.val)) ++ (lb 32 f.bo)) ++ (lb 32 f.op)) ++ (pB f.ss f.th f.a f.x)) ++ (lb 32 f.ro))) (hv := fun _ => run_cat (l := (((((((((eI f.ep) ++ (lb 32 f.ix)) ++ (tB (lb 80 f.vr))) ++ [u8 0]) ++ (eI f.ver)) ++ (dtx 64 f.val)) ++ (lb 32 f.bo)) ++ (lb 32 f.op)) ++ (pB f.ss f.th f.a f.x))) (m := (lb 32 f.ro)) rfl rfl rfl (by first | omega | (simp only [List.length_append, List.length_cons, List.length_nil, lb_length, eI_len, tB_len]; omega)))
   refine TW ?_ (v := str (((((((((((eI f.ep) ++ (lb 32 f.ix)) ++ (tB (lb 80 f.vr))) ++ [u8 0]) ++ (eI f.ver)) ++ (dtx 64 f.val)) ++ (lb 32 f.bo)) ++ (lb 32 f.op)) ++ (pB f.ss f.th f.a f.x)) ++ (lb 32 f.ro)) ++ (lb 32 f.li))) (hv := fun _ => run_cat (l := ((((((((((eI f.ep) ++ (lb 32 f.ix)) ++ (tB (lb 80 f.vr))) ++ [u8 0]) ++ (eI f.ver)) ++ (dtx 64 f.val)) ++ (lb 32 f.bo)) ++ (lb 32 f.op)) ++ (pB f.ss f.th f.a f.x)) ++ (lb 32 f.ro))) (m := (lb 32 f.li)) rfl rfl rfl (by first | omega | (simp only [List.length_append, List.length_cons, List.length_nil, lb_length, eI_len, tB_len]; omega)))
   refine TW ?_ (v := str ((((((((((((eI f.ep) ++ (lb 32 f.ix)) ++ (tB (lb 80 f.vr))) ++ [u8 0]) ++ (eI f.ver)) ++ (dtx 64 f.val)) ++ (lb 32 f.bo)) ++ (lb 32 f.op)) ++ (pB f.ss f.th f.a f.x)) ++ (lb 32 f.ro)) ++ (lb 32 f.li)) ++ (lb 32 f.ah))) (hv := fun _ => run_cat (l := (((((((((((eI f.ep) ++ (lb 32 f.ix)) ++ (tB (lb 80 f.vr))) ++ [u8 0]) ++ (eI f.ver)) ++ (dtx 64 f.val)) ++ (lb 32 f.bo)) ++ (lb 32 f.op)) ++ (pB f.ss f.th f.a f.x)) ++ (lb 32 f.ro)) ++ (lb 32 f.li))) (m := (lb 32 f.ah)) rfl rfl rfl (by first | omega | (simp only [List.length_append, List.length_cons, List.length_nil, lb_length, eI_len, tB_len]; omega)))
   refine TE (fun _ h => h) ?_
   refine MC (v := str (eI f.rd)) (fun W hS => eight_i f.rd W) ?_
   refine TNh (fun W hS => hS) ?_
   refine TW ?_ (v := str (((((((((((((eI f.ep) ++ (lb 32 f.ix)) ++ (tB (lb 80 f.vr))) ++ [u8 0]) ++ (eI f.ver)) ++ (dtx 64 f.val)) ++ (lb 32 f.bo)) ++ (lb 32 f.op)) ++ (pB f.ss f.th f.a f.x)) ++ (lb 32 f.ro)) ++ (lb 32 f.li)) ++ (lb 32 f.ah)) ++ (eI f.rd))) (hv := fun _ => run_cat (l := ((((((((((((eI f.ep) ++ (lb 32 f.ix)) ++ (tB (lb 80 f.vr))) ++ [u8 0]) ++ (eI f.ver)) ++ (dtx 64 f.val)) ++ (lb 32 f.bo)) ++ (lb 32 f.op)) ++ (pB f.ss f.th f.a f.x)) ++ (lb 32 f.ro)) ++ (lb 32 f.li)) ++ (lb 32 f.ah))) (m := (eI f.rd)) rfl rfl rfl (by first | omega | (simp only [List.length_append, List.length_cons, List.length_nil, lb_length, eI_len, tB_len]; omega)))
   refine TW ?_ (v := .bool false) (hv := by intro W; go_simp; first | done | assumption)
   refine TS ?_
   refine TS ?_
   refine TS ?_
   refine TS ?_
   refine TS ?_
   refine TW ?_ (v := .bool false)
   refine TV ?_
   refine TW ?_ (v := .bool false)
   refine TZ (fun _ h => h) fun W hS => ?_
   have hpr := Hpr.out
   go_wp2
   exact bodyPost_ret (v := .tuple #[str (((((((((((((eI f.ep) ++ (lb 32 f.ix)) ++ (tB (lb 80 f.vr))) ++ [u8 0]) ++ (eI f.ver)) ++ (dtx 64 f.val)) ++ (lb 32 f.bo)) ++ (lb 32 f.op)) ++ (pB f.ss f.th f.a f.x)) ++ (lb 32 f.ro)) ++ (lb 32 f.li)) ++ (lb 32 f.ah)) ++ (eI f.rd)), .bool false]) (by simp only [results, Try.results19]; clear hpr; first | (go_simp; done) | (go_simp; rfl)) rfl ⟨by unfold dfL dfB; rw [hpr, ha, Bool.false_and]; rfl, hS.ext⟩
end Go.Proofs.Ytlbgelbhhibikaa.Ww

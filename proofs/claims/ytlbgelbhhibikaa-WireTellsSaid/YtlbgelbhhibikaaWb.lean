/- wire: a request's bytes. Conditions: memory holds what is written. -/
import Derived.Test.YtlbgelbhhibikaaJ16
import Derived.Test.YtlbgelbhhibikaaJ8
import Derived.Test.YtlbgelbhhibikaaMh
set_option linter.unusedSimpArgs false
set_option linter.unusedVariables false
namespace Go.Proofs.Ytlbgelbhhibikaa.Ww
set_option maxHeartbeats 1500000
set_option maxRecDepth 100000
open Go.RowKit
attribute [local irreducible] wpList wpTr wpX
set_option linter.unusedSimpArgs false
theorem txL_le {most : Int} {m : Nat} {t l : List UInt8} (h : most = (m : Int)) : (txL most t l).length ≤ l.length + (2 + m) := by
 subst h
 unfold txL
 split
 ·
  omega
 ·
  rw [List.length_append, tB_len]; omega
theorem wtext_n {p : Nat} {v u : Value} {l t : List UInt8} {bad : Bool} (most : Int) (hm : most ≤ 65535) (hl : l.length < 140737488280000) (w : World) (h_ : SH (SH.feet (txPL p v l bad u t)) w w (txPL p v l bad u t)) :
 Calls Try.prog 27 #[.pointer (some ⟨p, 0, none⟩), u, .int .i64 most] w fun e w' => ∃ v', e = .returned (.tuple #[]) ∧ SH (SH.feet (txPL p v l bad u t)) w w' (txPL p v' (txL most t l) (txB most t bad) u t) :=
 (wwtext_c most hm hl w h_).mono fun _ _ ⟨h1, v', h2⟩ => ⟨v', h1, h2⟩
/-- a request, without memory -/
structure Rq where
 k : Int
 id : List UInt8
 vrf : Nat
 bind : Nat
 l0 : Int
 l1 : Int
 l2 : Int
 per : Int
 lab : List UInt8
 val : List UInt8
 fr : Int
 ti : Int
 bun : List UInt8
/-- its cells -/
abbrev rqF (q : Rq) (i l v b : Value) : Array Value := agF [.c (.int .i64 q.k), .c i, .a 32 q.vrf, .a 32 q.bind, .c (.int .i64 q.l0), .c (.int .i64 q.l1), .c (.int .i64 q.l2), .c (.int .i64 q.per), .c l, .c v, .c (.int .i64 q.fr), .c (.int .i64 q.ti), .c b]
def tnL (q : Rq) (l : List UInt8) : List UInt8 := l ++ lb 32 q.vrf ++ lb 32 q.bind ++ eI q.l0 ++ eI q.l1 ++ eI q.l2 ++ eI q.per
/-- what is written of a request of a kind; is one of its texts too long? -/
def askL (q : Rq) : List UInt8 :=
 let h := [u8 q.k.toNat]
 if q.k = 1 then tnL q (txL 16 q.id h)
 else if q.k = 5 then txL 64 q.val (txL 32 q.lab (txL 16 q.id h))
 else if q.k = 6 then txL 32 q.lab (txL 16 q.id h) ++ eI q.fr
 else if q.k = 7 then txL 32 q.lab (txL 16 q.id h)
 else if q.k = 8 then txL 16 q.id h ++ eI q.fr ++ eI q.ti
 else if q.k = 10 then txL 65535 q.bun h
 else if q.k = 12 then h ++ eI q.fr ++ eI q.ti
 else txL 16 q.id h
def askB (q : Rq) : Bool :=
 if q.k = 5 then txB 64 q.val (txB 32 q.lab (txB 16 q.id false))
 else if q.k = 6 ∨ q.k = 7 then txB 32 q.lab (txB 16 q.id false)
 else if q.k = 10 then txB 65535 q.bun false
 else if q.k = 12 then false
 else txB 16 q.id false
attribute [local irreducible] lb be8 eI tB txL txB

theorem bool_or (b : Bool) : b = true ∨ b = false := by cases b <;> simp

theorem tenant_c {p : Nat} {v : Value} {l : List UInt8} {bad : Bool} {q : Rq} {iv lv vv bv : Value} (hl : l.length < 140737488200000) (w : World) (h_ : SH (SH.feet [.b p #[v, .bool false, .bool bad] 96, .o v l]) w w [.b p #[v, .bool false, .bool bad] 96, .o v l]) :
  Calls Try.prog 28 #[.pointer (some ⟨p, 0, none⟩), .agg (rqF q iv lv vv bv)] w fun e w' => e = .returned (.tuple #[]) ∧ ∃ v', SH (SH.feet [.b p #[v, .bool false, .bool bad] 96, .o v l]) w w' [.b p #[v', .bool false, .bool bad] 96, .o v' (tnL q l)] := by
 have hS := h_
 go_enter Try.func28, Try.ntmps28
 go_upto_region 0 with fail
 refine RL hS ?_
 clear hS
 refine MN (z := agF [.c (.int .i64 q.k), .c iv, .a 32 q.vrf, .a 32 q.bind, .c (.int .i64 q.l0), .c (.int .i64 q.l1), .c (.int .i64 q.l2), .c (.int .i64 q.per), .c lv, .c vv, .c (.int .i64 q.fr), .c (.int .i64 q.ti), .c bv]) (t := 33) ?_
 intro p3_1
 refine MZ fun W hS => ?_
 go_upto_region 1 with fail
 refine RTp [0] (.q 0 (.q 1 (.q 2 (.q 3 (.q 4 (.q 5 (.e 6 .z))))))) hS ?_
 clear hS
 refine TV ?_
 refine TV ?_
 refine TV ?_
 refine TV ?_
 refine TV ?_
 refine Tk 0 ?_ (sub := arrK .u8 32 (byt q.vrf)) (hs := (agF_arr 2))
 refine TE (fun _ h => h.pick [0]) ?_
 refine ME (V := fun _ => .tuple #[]) (fun W hS => callX [1, 2] [0] hS (fun hT => wr_call hT (fun hw => wsum_n q.vrf p v l false W hw (by first | omega | decide))) (fun _ => ⟨.inr ⟨rfl, rfl⟩, .inr ⟨rfl, rfl⟩, trivial⟩)) ?_
 intro w2
 have hb_3 : (l ++ (lb 32 q.vrf)).length ≤ l.length + 32 := (by simp only [List.length_append, List.length_cons, List.length_nil, lb_length, eI_len, tB_len]; omega)
 refine TNp [2] [0] ?_
 refine TZ (fun _ h => h.pick [2]) fun W hS => ?_
 go_upto_region 2 with fail
 refine RTp [2] (.q 0 (.q 1 (.q 2 (.q 3 (.q 4 (.q 5 (.e 6 .z))))))) hS ?_
 clear hS
 refine TV ?_
 refine TV ?_
 refine TV ?_
 refine TV ?_
 refine TV ?_
 refine Tk 0 ?_ (sub := arrK .u8 32 (byt q.bind)) (hs := (agF_arr 3))
 refine TE (fun _ h => h.pick [2]) ?_
 refine ME (V := fun _ => .tuple #[]) (fun W hS => callX [0, 1] [2] hS (fun hT => wr_call hT (fun hw => wsum_n q.bind p w2 (l ++ (lb 32 q.vrf)) false W hw (by first | omega | decide))) (fun _ => ⟨.inr ⟨rfl, rfl⟩, .inr ⟨rfl, rfl⟩, trivial⟩)) ?_
 intro w4
 have hb_5 : ((l ++ (lb 32 q.vrf)) ++ (lb 32 q.bind)).length ≤ l.length + 32 + 32 := (by simp only [List.length_append, List.length_cons, List.length_nil, lb_length, eI_len, tB_len]; omega)
 refine TNp [2] [0] ?_
 refine TZ (fun _ h => h.pick [2]) fun W hS => ?_
 go_upto_region 3 with fail
 refine RTp [2] (.q 0 (.q 1 (.q 2 (.q 3 (.q 4 (.q 5 (.e 6 .z))))))) hS ?_
 clear hS
 refine TV ?_
 refine TV ?_
 refine TV ?_
 refine TV ?_
 refine TV ?_
 refine TG 0 ?_ (v := .int .i64 q.l0) (hj := (agF_cel 4))
 refine TE (fun _ h => h.pick [2]) ?_
 refine ME (V := fun _ => .tuple #[]) (fun W hS => callX [0, 1] [2] hS (fun hT => wr_call hT (fun hw => wnum_i q.l0 p w4 ((l ++ (lb 32 q.vrf)) ++ (lb 32 q.bind)) false W hw (by first | omega | decide))) (fun _ => ⟨.inr ⟨rfl, rfl⟩, .inr ⟨rfl, rfl⟩, trivial⟩)) ?_
 intro w6
 have hb_7 : (((l ++ (lb 32 q.vrf)) ++ (lb 32 q.bind)) ++ (eI q.l0)).length ≤ l.length + 32 + 32 + 8 := (by simp only [List.length_append, List.length_cons, List.length_nil, lb_length, eI_len, tB_len]; omega)
 refine TNp [2] [0] ?_
 refine TZ (fun _ h => h.pick [2]) fun W hS => ?_
 go_upto_region 4 with fail
 refine RTp [2] (.q 0 (.q 1 (.q 2 (.q 3 (.q 4 (.q 5 (.e 6 .z))))))) hS ?_
 clear hS
 refine TV ?_
 refine TV ?_
 refine TV ?_
 refine TV ?_
 refine TV ?_
 refine TG 0 ?_ (v := .int .i64 q.l1) (hj := (agF_cel 5))
 refine TE (fun _ h => h.pick [2]) ?_
 refine ME (V := fun _ => .tuple #[]) (fun W hS => callX [0, 1] [2] hS (fun hT => wr_call hT (fun hw => wnum_i q.l1 p w6 (((l ++ (lb 32 q.vrf)) ++ (lb 32 q.bind)) ++ (eI q.l0)) false W hw (by first | omega | decide))) (fun _ => ⟨.inr ⟨rfl, rfl⟩, .inr ⟨rfl, rfl⟩, trivial⟩)) ?_
 intro w8
 have hb_9 : ((((l ++ (lb 32 q.vrf)) ++ (lb 32 q.bind)) ++ (eI q.l0)) ++ (eI q.l1)).length ≤ l.length + 32 + 32 + 8 + 8 := (by simp only [List.length_append, List.length_cons, List.length_nil, lb_length, eI_len, tB_len]; omega)
 refine TNp [2] [0] ?_
 refine TZ (fun _ h => h.pick [2]) fun W hS => ?_
 go_upto_region 5 with fail
 refine RTp [2] (.q 0 (.q 1 (.q 2 (.q 3 (.q 4 (.q 5 (.e 6 .z))))))) hS ?_
 clear hS
 refine TV ?_
 refine TV ?_
 refine TV ?_
 refine TV ?_
 refine TV ?_
 refine TG 0 ?_ (v := .int .i64 q.l2) (hj := (agF_cel 6))
 refine TE (fun _ h => h.pick [2]) ?_
 refine ME (V := fun _ => .tuple #[]) (fun W hS => callX [0, 1] [2] hS (fun hT => wr_call hT (fun hw => wnum_i q.l2 p w8 ((((l ++ (lb 32 q.vrf)) ++ (lb 32 q.bind)) ++ (eI q.l0)) ++ (eI q.l1)) false W hw (by first | omega | decide))) (fun _ => ⟨.inr ⟨rfl, rfl⟩, .inr ⟨rfl, rfl⟩, trivial⟩)) ?_
 intro w10
 have hb_11 : (((((l ++ (lb 32 q.vrf)) ++ (lb 32 q.bind)) ++ (eI q.l0)) ++ (eI q.l1)) ++ (eI q.l2)).length ≤ l.length + 32 + 32 + 8 + 8 + 8 := (by simp only [List.length_append, List.length_cons, List.length_nil, lb_length, eI_len, tB_len]; omega)
 refine TNp [2] [0] ?_
 refine TZ (fun _ h => h.pick [2]) fun W hS => ?_
 go_upto_region 6 with fail
 refine RTp [2] (.q 0 (.q 1 (.q 2 (.q 3 (.q 4 (.e 5 .z)))))) hS ?_
 clear hS
 refine TV ?_
 refine TV ?_
 refine TV ?_
 refine TV ?_
 refine TG 0 ?_ (v := .int .i64 q.per) (hj := (agF_cel 7))
 refine TE (fun _ h => h.pick [2]) ?_
 refine ME (V := fun _ => .tuple #[]) (fun W hS => callX [0, 1] [2] hS (fun hT => wr_call hT (fun hw => wnum_i q.per p w10 (((((l ++ (lb 32 q.vrf)) ++ (lb 32 q.bind)) ++ (eI q.l0)) ++ (eI q.l1)) ++ (eI q.l2)) false W hw (by first | omega | decide))) (fun _ => ⟨.inr ⟨rfl, rfl⟩, .inr ⟨rfl, rfl⟩, trivial⟩)) ?_
 intro w12
 have hb_13 : ((((((l ++ (lb 32 q.vrf)) ++ (lb 32 q.bind)) ++ (eI q.l0)) ++ (eI q.l1)) ++ (eI q.l2)) ++ (eI q.per)).length ≤ l.length + 32 + 32 + 8 + 8 + 8 + 8 := (by simp only [List.length_append, List.length_cons, List.length_nil, lb_length, eI_len, tB_len]; omega)
 refine TNp [2] [0] ?_
 refine TZ (fun _ h => h.pick [2]) fun W hS => ?_
 go_wp2
 first | exact bodyPost_end (v := .tuple #[]) (by simp only [results, Try.results28]; go_simp) rfl ⟨rfl, _, by unfold tnL; exact hS.pick [0, 1]⟩ | exact bodyPost_ret (v := .tuple #[]) (by simp only [results, Try.results28]; go_simp) rfl ⟨rfl, _, by unfold tnL; exact hS.pick [0, 1]⟩
theorem tenant_n {p : Nat} {v : Value} {l : List UInt8} {bad : Bool} {q : Rq} {iv lv vv bv : Value} (hl : l.length < 140737488200000) (w : World) (h_ : SH (SH.feet [.b p #[v, .bool false, .bool bad] 96, .o v l]) w w [.b p #[v, .bool false, .bool bad] 96, .o v l]) :
 Calls Try.prog 28 #[.pointer (some ⟨p, 0, none⟩), .agg (rqF q iv lv vv bv)] w fun e w' => ∃ v', e = .returned (.tuple #[]) ∧ SH (SH.feet [.b p #[v, .bool false, .bool bad] 96, .o v l]) w w' [.b p #[v', .bool false, .bool bad] 96, .o v' (tnL q l)] :=
 (tenant_c hl w h_).mono fun _ _ ⟨h1, v', h2⟩ => ⟨v', h1, h2⟩
theorem wbyte_i {p : Nat} {n : Int} {v : Value} {l : List UInt8} {big bad : Bool} {w : World} (hn : 0 ≤ n ∧ n ≤ 255) (hwr : Wr bad w p v l big) (hl : l.length < 140737488355328) :
  Calls Try.prog 26 #[.pointer (some ⟨p, 0, none⟩), .int .i64 n] w fun e w' => e = .returned (.tuple #[]) ∧ ∃ v', WrTo bad w p v (l ++ [u8 n.toNat]) big v' w' := by
 have := wbyte_in p (u8 n.toNat) v l big w hwr hl
 have e : ((u8 n.toNat).toNat : Int) = n := by rw [u8_nat]; omega
 rw [e] at this
 exact this
theorem askL_1 {q : Rq} (hk : q.k = 1) : askL q = tnL q (txL 16 q.id [u8 (1 : Int).toNat]) := by unfold askL; rw [hk]; rfl
theorem askB_1 {q : Rq} (hk : q.k = 1) : askB q = txB 16 q.id false := by unfold askB; rw [hk]; rfl
theorem askL_5 {q : Rq} (hk : q.k = 5) : askL q = txL 64 q.val (txL 32 q.lab (txL 16 q.id [u8 (5 : Int).toNat])) := by unfold askL; rw [hk]; rfl
theorem askB_5 {q : Rq} (hk : q.k = 5) : askB q = txB 64 q.val (txB 32 q.lab (txB 16 q.id false)) := by unfold askB; rw [hk]; rfl
theorem askL_6 {q : Rq} (hk : q.k = 6) : askL q = txL 32 q.lab (txL 16 q.id [u8 (6 : Int).toNat]) ++ eI q.fr := by unfold askL; rw [hk]; rfl
theorem askB_6 {q : Rq} (hk : q.k = 6) : askB q = txB 32 q.lab (txB 16 q.id false) := by unfold askB; rw [hk]; rfl
theorem askL_7 {q : Rq} (hk : q.k = 7) : askL q = txL 32 q.lab (txL 16 q.id [u8 (7 : Int).toNat]) := by unfold askL; rw [hk]; rfl
theorem askB_7 {q : Rq} (hk : q.k = 7) : askB q = txB 32 q.lab (txB 16 q.id false) := by unfold askB; rw [hk]; rfl
theorem askL_8 {q : Rq} (hk : q.k = 8) : askL q = txL 16 q.id [u8 (8 : Int).toNat] ++ eI q.fr ++ eI q.ti := by unfold askL; rw [hk]; rfl
theorem askB_8 {q : Rq} (hk : q.k = 8) : askB q = txB 16 q.id false := by unfold askB; rw [hk]; rfl
theorem askL_10 {q : Rq} (hk : q.k = 10) : askL q = txL 65535 q.bun [u8 (10 : Int).toNat] := by unfold askL; rw [hk]; rfl
theorem askB_10 {q : Rq} (hk : q.k = 10) : askB q = txB 65535 q.bun false := by unfold askB; rw [hk]; rfl
theorem askL_12 {q : Rq} (hk : q.k = 12) : askL q = [u8 (12 : Int).toNat] ++ eI q.fr ++ eI q.ti := by unfold askL; rw [hk]; rfl
theorem askB_12 {q : Rq} (hk : q.k = 12) : askB q = false := by unfold askB; rw [hk]; rfl
theorem askL_o {q : Rq} (hk : q.k ≠ 1 ∧ q.k ≠ 5 ∧ q.k ≠ 6 ∧ q.k ≠ 7 ∧ q.k ≠ 8 ∧ q.k ≠ 10 ∧ q.k ≠ 12) : askL q = txL 16 q.id [u8 q.k.toNat] := by unfold askL; simp only [hk.1, hk.2.1, hk.2.2.1, hk.2.2.2.1, hk.2.2.2.2.1, hk.2.2.2.2.2.1, hk.2.2.2.2.2.2, if_false, false_or, or_false, or_self]
theorem askB_o {q : Rq} (hk : q.k ≠ 1 ∧ q.k ≠ 5 ∧ q.k ≠ 6 ∧ q.k ≠ 7 ∧ q.k ≠ 8 ∧ q.k ≠ 10 ∧ q.k ≠ 12) : askB q = txB 16 q.id false := by unfold askB; simp only [hk.1, hk.2.1, hk.2.2.1, hk.2.2.2.1, hk.2.2.2.2.1, hk.2.2.2.2.2.1, hk.2.2.2.2.2.2, if_false, false_or, or_false, or_self]
theorem ask_1 {q : Rq} {iv lv vv bv : Value} (hk : q.k = 1) (w : World) (hid : Sl w iv q.id) (hlab : Sl w lv q.lab) (hval : Sl w vv q.val) (hbun : Sl w bv q.bun) :
  Calls Try.prog 10 #[.agg (rqF q iv lv vv bv)] w fun e w' => (askB q = true ∧ Ret (.tuple #[.slice none 0 0, .int .i64 2]) w w' e) ∨ (askB q = false ∧ ∃ u, e = .returned (.tuple #[u, .int .i64 0]) ∧ SH [] w w' [.o u (askL q)]) := by
 have hS := SH.nil [] w
 go_enter Try.func10, Try.ntmps10
 go_upto_region 0 with fail
 refine RL hS ?_
 clear hS
 refine MN (z := agF [.c (.int .i64 q.k), .c iv, .a 32 q.vrf, .a 32 q.bind, .c (.int .i64 q.l0), .c (.int .i64 q.l1), .c (.int .i64 q.l2), .c (.int .i64 q.per), .c lv, .c vv, .c (.int .i64 q.fr), .c (.int .i64 q.ti), .c bv]) (t := 33) ?_
 intro p1_1
 refine MV ?_
 refine MW ?_ (v := .int .i64 0)
 refine MZ fun W hS => ?_
 go_upto_region 1 with fail
 refine RL hS ?_
 clear hS
 refine MW ?_ (v := .agg #[.slice none 0 0, .bool false, .bool false]) (hv := by intro W; first | rfl | kernel_rfl)
 refine MN (z := #[.slice none 0 0, .bool false, .bool false]) (t := 96) ?_
 intro p6_2
 refine MT (fun W hS => hS.onil rfl) ?_
 refine MV ?_
 refine MZ fun W hS => ?_
 go_upto_region 2 with fail
 refine RTp [2] (.q 0 (.q 1 (.q 2 (.q 3 (.q 4 (.e 5 .z)))))) hS ?_
 clear hS
 refine TV ?_
 refine TV ?_
 refine TV ?_
 refine TV ?_
 refine TG 0 ?_ (v := .int .i64 q.k) (hj := (agF_cel 0))
 refine TE (fun _ h => h.pick [2]) ?_
 refine ME (V := fun _ => .tuple #[]) (fun W hS => callX [1, 0] [2] hS (fun hT => wr_call hT (fun hw => wbyte_i (n := q.k) (l := []) (by omega) hw (by first | omega | decide))) (fun _ => ⟨.inr ⟨rfl, rfl⟩, .inr ⟨rfl, rfl⟩, trivial⟩)) ?_
 intro w3
 have hb_4 : ([] ++ [u8 q.k.toNat]).length ≤ 1 := (by simp only [List.length_append, List.length_cons, List.length_nil, lb_length, eI_len, tB_len]; omega)
 refine TNp [2] [0] ?_
 refine TZ (fun _ h => h.pick [2]) fun W hS => ?_
 go_upto_region 3 with fail
 refine RL hS ?_
 clear hS
 refine MV ?_
 refine MG 2 ?_ (v := .int .i64 q.k) (hj := (agF_cel 0))
 refine MW ?_ (v := .bool false) (hv := by intro W; go_simp; first | done | omega)
 refine MW ?_ (v := .bool false)
 refine MV ?_
 refine MG 2 ?_ (v := .int .i64 q.k) (hj := (agF_cel 0))
 refine MW ?_ (v := .bool false) (hv := by intro W; go_simp; first | done | omega)
 refine MW ?_ (v := .bool false)
 refine MZ fun W hS => ?_
 go_upto_region 5 with fail
 refine RL hS ?_
 clear hS
 refine MV ?_
 refine MG 2 ?_ (v := .int .i64 q.k) (hj := (agF_cel 0))
 refine MW ?_ (v := .bool true) (hv := by intro W; go_simp; first | done | omega | decide)
 refine MW ?_ (v := .bool true)
 refine MV ?_
 refine MG 2 ?_ (v := .int .i64 q.k) (hj := (agF_cel 0))
 refine MW ?_ (v := .bool true) (hv := by intro W; go_simp; first | done | omega | decide)
 refine MW ?_ (v := .bool true)
 refine MZ fun W hS => ?_
 go_upto_region 6 with fail
 refine RL hS ?_
 clear hS
 refine MV ?_
 refine MV ?_
 refine MG 2 ?_ (v := iv) (hj := (agF_cel 1))
 refine MT (fun W hS => hS.ent hid) ?_
 refine ME (V := fun _ => .tuple #[]) (fun W hS => callX [1, 2, 0] [3] hS (fun hT => wtext_n (p := p6_2) (v := w3) (l := [] ++ [u8 q.k.toNat]) (bad := false) (u := iv) (t := q.id) 16 (by decide) (by first | omega | decide) W hT) (fun _ => ⟨.inr ⟨rfl, rfl⟩, .inr ⟨rfl, rfl⟩, .inl (by simp), trivial⟩)) ?_
 intro w5
 have hb_6 : (txL 16 q.id ([] ++ [u8 q.k.toNat])).length ≤ 19 := Nat.le_trans (txL_le (m := 16) rfl) (by omega)
 refine MZ fun W hS => ?_
 go_upto_region 7 with fail
 refine RL hS ?_
 clear hS
 refine MV ?_
 refine MG 3 ?_ (v := .int .i64 q.k) (hj := (agF_cel 0))
 refine MZ fun W hS => ?_
 go_upto_region 8 with fail
 refine RL hS ?_
 clear hS
 refine MW ?_ (v := .bool true) (hv := by intro W; go_simp; first | done | omega | decide)
 refine MW ?_ (v := .bool true)
 refine MZ fun W hS => ?_
 go_upto_region 9 with fail
 refine RL hS ?_
 clear hS
 refine MV ?_
 refine ML 3 ?_ (hs := by rw [agF_size]; kernel_rfl)
 refine ME (V := fun _ => .tuple #[]) (fun W hS => callX [0, 1] [2, 3] hS (fun hT => tenant_n (p := p6_2) (v := w5) (l := txL 16 q.id ([] ++ [u8 q.k.toNat])) (bad := (txB 16 q.id false)) (q := q) (iv := iv) (lv := lv) (vv := vv) (bv := bv) (by omega) W hT) (fun _ => ⟨.inr ⟨rfl, rfl⟩, .inr ⟨rfl, rfl⟩, trivial⟩)) ?_
 intro w7
 have hb_8 : (tnL q (txL 16 q.id ([] ++ [u8 q.k.toNat]))).length ≤ 115 := (by unfold tnL; simp only [List.length_append, lb_length, eI_len]; omega)
 refine MZ fun W hS => ?_
 go_upto_region 16 with fail
 refine RL hS ?_
 clear hS
 refine MV ?_
 refine MG 3 ?_ (v := .int .i64 q.k) (hj := (agF_cel 0))
 refine MZ fun W hS => ?_
 go_upto_region 17 with fail
 refine RL hS ?_
 clear hS
 refine MW ?_ (v := .bool false) (hv := by intro W; go_simp; first | done | omega | decide)
 refine MW ?_ (v := .bool false)
 refine MZ fun W hS => ?_
 go_upto_region 19 with fail
 refine RL hS ?_
 clear hS
 refine MW ?_ (v := .bool false) (hv := by intro W; go_simp; first | done | omega | decide)
 refine MW ?_ (v := .bool false)
 refine MZ fun W hS => ?_
 go_upto_region 21 with fail
 refine RL hS ?_
 clear hS
 refine MW ?_ (v := .bool false) (hv := by intro W; go_simp; first | done | omega | decide)
 refine MW ?_ (v := .bool false)
 refine MZ fun W hS => ?_
 go_upto_region 22 with fail
 refine RL hS ?_
 clear hS
 refine MW ?_ (v := .bool false) (hv := by intro W; go_simp; first | done | omega | decide)
 refine MW ?_ (v := .bool false)
 refine MZ fun W hS => ?_
 rcases bool_or (txB 16 q.id false) with hb | hb
 ·
  have _f := True.intro
  go_upto_region 25 with fail
  refine RL hS ?_
  clear hS
  refine MV ?_
  refine MT (fun W hS => by rw [hb] at hS; exact hS) ?_
  refine MC (v := .tuple #[.slice none 0 0, .int .i64 2]) (fun W hS => done_bad p6_2 w7 (tnL q (txL 16 q.id ([] ++ [u8 q.k.toNat]))) W (hS.blk (i := 0) rfl) (hS.own (i := 1) rfl) (by omega)) ?_
  refine MV ?_
  refine MW ?_ (v := .int .i64 2)
  refine MV ?_
  refine MW ?_ (v := .int .i64 2)
  refine MZ fun W hS => ?_
  go_wp2
  exact bodyPost_ret (v := .tuple #[.slice none 0 0, .int .i64 2]) (by simp only [results, Try.results10]; go_simp) rfl (.inl ⟨by rw [askB_1 hk]; exact hb, rfl, hS.ext⟩)
 ·
  have _f := True.intro
  go_upto_region 25 with fail
  refine RL hS ?_
  clear hS
  refine MV ?_
  refine MT (fun W hS => by rw [hb] at hS; exact hS) ?_
  refine ME (V := fun u => .tuple #[u, .int .i64 0]) (fun W hS => ncallW hS (done_ok p6_2 w7 (tnL q (txL 16 q.id ([] ++ [u8 q.k.toNat]))) W (hS.blk (i := 0) rfl) (hS.own (i := 1) rfl) (by omega))) ?_
  intro u
  refine MV ?_
  refine MW ?_ (v := .int .i64 0)
  refine MV ?_
  refine MW ?_ (v := .int .i64 0)
  refine MZ fun W hS => ?_
  go_wp2
  exact bodyPost_ret (v := .tuple #[u, .int .i64 0]) (by simp only [results, Try.results10]; go_simp) rfl (.inr ⟨by rw [askB_1 hk]; exact hb, _, rfl, by rw [askL_1 hk]; rw [hk] at hS; exact hS.pick [0]⟩)
theorem ask_5 {q : Rq} {iv lv vv bv : Value} (hk : q.k = 5) (w : World) (hid : Sl w iv q.id) (hlab : Sl w lv q.lab) (hval : Sl w vv q.val) (hbun : Sl w bv q.bun) :
  Calls Try.prog 10 #[.agg (rqF q iv lv vv bv)] w fun e w' => (askB q = true ∧ Ret (.tuple #[.slice none 0 0, .int .i64 2]) w w' e) ∨ (askB q = false ∧ ∃ u, e = .returned (.tuple #[u, .int .i64 0]) ∧ SH [] w w' [.o u (askL q)]) := by
 have hS := SH.nil [] w
 go_enter Try.func10, Try.ntmps10
 go_upto_region 0 with fail
 refine RL hS ?_
 clear hS
 refine MN (z := agF [.c (.int .i64 q.k), .c iv, .a 32 q.vrf, .a 32 q.bind, .c (.int .i64 q.l0), .c (.int .i64 q.l1), .c (.int .i64 q.l2), .c (.int .i64 q.per), .c lv, .c vv, .c (.int .i64 q.fr), .c (.int .i64 q.ti), .c bv]) (t := 33) ?_
 intro p1_1
 refine MV ?_
 refine MW ?_ (v := .int .i64 0)
 refine MZ fun W hS => ?_
 go_upto_region 1 with fail
 refine RL hS ?_
 clear hS
 refine MW ?_ (v := .agg #[.slice none 0 0, .bool false, .bool false]) (hv := by intro W; first | rfl | kernel_rfl)
 refine MN (z := #[.slice none 0 0, .bool false, .bool false]) (t := 96) ?_
 intro p6_2
 refine MT (fun W hS => hS.onil rfl) ?_
 refine MV ?_
 refine MZ fun W hS => ?_
 go_upto_region 2 with fail
 refine RTp [2] (.q 0 (.q 1 (.q 2 (.q 3 (.q 4 (.e 5 .z)))))) hS ?_
 clear hS
 refine TV ?_
 refine TV ?_
 refine TV ?_
 refine TV ?_
 refine TG 0 ?_ (v := .int .i64 q.k) (hj := (agF_cel 0))
 refine TE (fun _ h => h.pick [2]) ?_
 refine ME (V := fun _ => .tuple #[]) (fun W hS => callX [1, 0] [2] hS (fun hT => wr_call hT (fun hw => wbyte_i (n := q.k) (l := []) (by omega) hw (by first | omega | decide))) (fun _ => ⟨.inr ⟨rfl, rfl⟩, .inr ⟨rfl, rfl⟩, trivial⟩)) ?_
 intro w3
 have hb_4 : ([] ++ [u8 q.k.toNat]).length ≤ 1 := (by simp only [List.length_append, List.length_cons, List.length_nil, lb_length, eI_len, tB_len]; omega)
 refine TNp [2] [0] ?_
 refine TZ (fun _ h => h.pick [2]) fun W hS => ?_
 go_upto_region 3 with fail
 refine RL hS ?_
 clear hS
 refine MV ?_
 refine MG 2 ?_ (v := .int .i64 q.k) (hj := (agF_cel 0))
 refine MW ?_ (v := .bool false) (hv := by intro W; go_simp; first | done | omega)
 refine MW ?_ (v := .bool false)
 refine MV ?_
 refine MG 2 ?_ (v := .int .i64 q.k) (hj := (agF_cel 0))
 refine MW ?_ (v := .bool false) (hv := by intro W; go_simp; first | done | omega)
 refine MW ?_ (v := .bool false)
 refine MZ fun W hS => ?_
 go_upto_region 5 with fail
 refine RL hS ?_
 clear hS
 refine MV ?_
 refine MG 2 ?_ (v := .int .i64 q.k) (hj := (agF_cel 0))
 refine MW ?_ (v := .bool true) (hv := by intro W; go_simp; first | done | omega | decide)
 refine MW ?_ (v := .bool true)
 refine MV ?_
 refine MG 2 ?_ (v := .int .i64 q.k) (hj := (agF_cel 0))
 refine MW ?_ (v := .bool true) (hv := by intro W; go_simp; first | done | omega | decide)
 refine MW ?_ (v := .bool true)
 refine MZ fun W hS => ?_
 go_upto_region 6 with fail
 refine RL hS ?_
 clear hS
 refine MV ?_
 refine MV ?_
 refine MG 2 ?_ (v := iv) (hj := (agF_cel 1))
 refine MT (fun W hS => hS.ent hid) ?_
 refine ME (V := fun _ => .tuple #[]) (fun W hS => callX [1, 2, 0] [3] hS (fun hT => wtext_n (p := p6_2) (v := w3) (l := [] ++ [u8 q.k.toNat]) (bad := false) (u := iv) (t := q.id) 16 (by decide) (by first | omega | decide) W hT) (fun _ => ⟨.inr ⟨rfl, rfl⟩, .inr ⟨rfl, rfl⟩, .inl (by simp), trivial⟩)) ?_
 intro w5
 have hb_6 : (txL 16 q.id ([] ++ [u8 q.k.toNat])).length ≤ 19 := Nat.le_trans (txL_le (m := 16) rfl) (by omega)
 refine MZ fun W hS => ?_
 go_upto_region 7 with fail
 refine RL hS ?_
 clear hS
 refine MV ?_
 refine MG 3 ?_ (v := .int .i64 q.k) (hj := (agF_cel 0))
 refine MZ fun W hS => ?_
 go_upto_region 8 with fail
 refine RL hS ?_
 clear hS
 refine MW ?_ (v := .bool false) (hv := by intro W; go_simp; first | done | omega | decide)
 refine MW ?_ (v := .bool false)
 refine MZ fun W hS => ?_
 go_upto_region 10 with fail
 refine RL hS ?_
 clear hS
 refine MW ?_ (v := .bool true) (hv := by intro W; go_simp; first | done | omega | decide)
 refine MW ?_ (v := .bool true)
 refine MZ fun W hS => ?_
 go_upto_region 13 with fail
 refine RL hS ?_
 clear hS
 refine MV ?_
 refine MV ?_
 refine MG 3 ?_ (v := lv) (hj := (agF_cel 8))
 refine MT (fun W hS => hS.ent hlab) ?_
 refine ME (V := fun _ => .tuple #[]) (fun W hS => callX [1, 2, 0] [3, 4] hS (fun hT => wtext_n (p := p6_2) (v := w5) (l := txL 16 q.id ([] ++ [u8 q.k.toNat])) (bad := (txB 16 q.id false)) (u := lv) (t := q.lab) 32 (by decide) (by first | omega | decide) W hT) (fun _ => ⟨.inr ⟨rfl, rfl⟩, .inr ⟨rfl, rfl⟩, .inl (by simp), trivial⟩)) ?_
 intro w7
 have hb_8 : (txL 32 q.lab (txL 16 q.id ([] ++ [u8 q.k.toNat]))).length ≤ 53 := Nat.le_trans (txL_le (m := 32) rfl) (by omega)
 refine MZ fun W hS => ?_
 go_upto_region 16 with fail
 refine RL hS ?_
 clear hS
 refine MV ?_
 refine MG 4 ?_ (v := .int .i64 q.k) (hj := (agF_cel 0))
 refine MZ fun W hS => ?_
 go_upto_region 17 with fail
 refine RL hS ?_
 clear hS
 refine MW ?_ (v := .bool true) (hv := by intro W; go_simp; first | done | omega | decide)
 refine MW ?_ (v := .bool true)
 refine MZ fun W hS => ?_
 go_upto_region 18 with fail
 refine RL hS ?_
 clear hS
 refine MV ?_
 refine MV ?_
 refine MG 4 ?_ (v := vv) (hj := (agF_cel 9))
 refine MT (fun W hS => hS.ent hval) ?_
 refine ME (V := fun _ => .tuple #[]) (fun W hS => callX [1, 2, 0] [3, 4, 5] hS (fun hT => wtext_n (p := p6_2) (v := w7) (l := txL 32 q.lab (txL 16 q.id ([] ++ [u8 q.k.toNat]))) (bad := (txB 32 q.lab (txB 16 q.id false))) (u := vv) (t := q.val) 64 (by decide) (by first | omega | decide) W hT) (fun _ => ⟨.inr ⟨rfl, rfl⟩, .inr ⟨rfl, rfl⟩, .inl (by simp), trivial⟩)) ?_
 intro w9
 have hb_10 : (txL 64 q.val (txL 32 q.lab (txL 16 q.id ([] ++ [u8 q.k.toNat])))).length ≤ 119 := Nat.le_trans (txL_le (m := 64) rfl) (by omega)
 refine MZ fun W hS => ?_
 rcases bool_or (txB 64 q.val (txB 32 q.lab (txB 16 q.id false))) with hb | hb
 ·
  have _f := True.intro
  go_upto_region 25 with fail
  refine RL hS ?_
  clear hS
  refine MV ?_
  refine MT (fun W hS => by rw [hb] at hS; exact hS) ?_
  refine MC (v := .tuple #[.slice none 0 0, .int .i64 2]) (fun W hS => done_bad p6_2 w9 (txL 64 q.val (txL 32 q.lab (txL 16 q.id ([] ++ [u8 q.k.toNat])))) W (hS.blk (i := 0) rfl) (hS.own (i := 1) rfl) (by omega)) ?_
  refine MV ?_
  refine MW ?_ (v := .int .i64 2)
  refine MV ?_
  refine MW ?_ (v := .int .i64 2)
  refine MZ fun W hS => ?_
  go_wp2
  exact bodyPost_ret (v := .tuple #[.slice none 0 0, .int .i64 2]) (by simp only [results, Try.results10]; go_simp) rfl (.inl ⟨by rw [askB_5 hk]; exact hb, rfl, hS.ext⟩)
 ·
  have _f := True.intro
  go_upto_region 25 with fail
  refine RL hS ?_
  clear hS
  refine MV ?_
  refine MT (fun W hS => by rw [hb] at hS; exact hS) ?_
  refine ME (V := fun u => .tuple #[u, .int .i64 0]) (fun W hS => ncallW hS (done_ok p6_2 w9 (txL 64 q.val (txL 32 q.lab (txL 16 q.id ([] ++ [u8 q.k.toNat])))) W (hS.blk (i := 0) rfl) (hS.own (i := 1) rfl) (by omega))) ?_
  intro u
  refine MV ?_
  refine MW ?_ (v := .int .i64 0)
  refine MV ?_
  refine MW ?_ (v := .int .i64 0)
  refine MZ fun W hS => ?_
  go_wp2
  exact bodyPost_ret (v := .tuple #[u, .int .i64 0]) (by simp only [results, Try.results10]; go_simp) rfl (.inr ⟨by rw [askB_5 hk]; exact hb, _, rfl, by rw [askL_5 hk]; rw [hk] at hS; exact hS.pick [0]⟩)
theorem ask_6 {q : Rq} {iv lv vv bv : Value} (hk : q.k = 6) (w : World) (hid : Sl w iv q.id) (hlab : Sl w lv q.lab) (hval : Sl w vv q.val) (hbun : Sl w bv q.bun) :
  Calls Try.prog 10 #[.agg (rqF q iv lv vv bv)] w fun e w' => (askB q = true ∧ Ret (.tuple #[.slice none 0 0, .int .i64 2]) w w' e) ∨ (askB q = false ∧ ∃ u, e = .returned (.tuple #[u, .int .i64 0]) ∧ SH [] w w' [.o u (askL q)]) := by
 have hS := SH.nil [] w
 go_enter Try.func10, Try.ntmps10
 go_upto_region 0 with fail
 refine RL hS ?_
 clear hS
 refine MN (z := agF [.c (.int .i64 q.k), .c iv, .a 32 q.vrf, .a 32 q.bind, .c (.int .i64 q.l0), .c (.int .i64 q.l1), .c (.int .i64 q.l2), .c (.int .i64 q.per), .c lv, .c vv, .c (.int .i64 q.fr), .c (.int .i64 q.ti), .c bv]) (t := 33) ?_
 intro p1_1
 refine MV ?_
 refine MW ?_ (v := .int .i64 0)
 refine MZ fun W hS => ?_
 go_upto_region 1 with fail
 refine RL hS ?_
 clear hS
 refine MW ?_ (v := .agg #[.slice none 0 0, .bool false, .bool false]) (hv := by intro W; first | rfl | kernel_rfl)
 refine MN (z := #[.slice none 0 0, .bool false, .bool false]) (t := 96) ?_
 intro p6_2
 refine MT (fun W hS => hS.onil rfl) ?_
 refine MV ?_
 refine MZ fun W hS => ?_
 go_upto_region 2 with fail
 refine RTp [2] (.q 0 (.q 1 (.q 2 (.q 3 (.q 4 (.e 5 .z)))))) hS ?_
 clear hS
 refine TV ?_
 refine TV ?_
 refine TV ?_
 refine TV ?_
 refine TG 0 ?_ (v := .int .i64 q.k) (hj := (agF_cel 0))
 refine TE (fun _ h => h.pick [2]) ?_
 refine ME (V := fun _ => .tuple #[]) (fun W hS => callX [1, 0] [2] hS (fun hT => wr_call hT (fun hw => wbyte_i (n := q.k) (l := []) (by omega) hw (by first | omega | decide))) (fun _ => ⟨.inr ⟨rfl, rfl⟩, .inr ⟨rfl, rfl⟩, trivial⟩)) ?_
 intro w3
 have hb_4 : ([] ++ [u8 q.k.toNat]).length ≤ 1 := (by simp only [List.length_append, List.length_cons, List.length_nil, lb_length, eI_len, tB_len]; omega)
 refine TNp [2] [0] ?_
 refine TZ (fun _ h => h.pick [2]) fun W hS => ?_
 go_upto_region 3 with fail
 refine RL hS ?_
 clear hS
 refine MV ?_
 refine MG 2 ?_ (v := .int .i64 q.k) (hj := (agF_cel 0))
 refine MW ?_ (v := .bool false) (hv := by intro W; go_simp; first | done | omega)
 refine MW ?_ (v := .bool false)
 refine MV ?_
 refine MG 2 ?_ (v := .int .i64 q.k) (hj := (agF_cel 0))
 refine MW ?_ (v := .bool false) (hv := by intro W; go_simp; first | done | omega)
 refine MW ?_ (v := .bool false)
 refine MZ fun W hS => ?_
 go_upto_region 5 with fail
 refine RL hS ?_
 clear hS
 refine MV ?_
 refine MG 2 ?_ (v := .int .i64 q.k) (hj := (agF_cel 0))
 refine MW ?_ (v := .bool true) (hv := by intro W; go_simp; first | done | omega | decide)
 refine MW ?_ (v := .bool true)
 refine MV ?_
 refine MG 2 ?_ (v := .int .i64 q.k) (hj := (agF_cel 0))
 refine MW ?_ (v := .bool true) (hv := by intro W; go_simp; first | done | omega | decide)
 refine MW ?_ (v := .bool true)
 refine MZ fun W hS => ?_
 go_upto_region 6 with fail
 refine RL hS ?_
 clear hS
 refine MV ?_
 refine MV ?_
 refine MG 2 ?_ (v := iv) (hj := (agF_cel 1))
 refine MT (fun W hS => hS.ent hid) ?_
 refine ME (V := fun _ => .tuple #[]) (fun W hS => callX [1, 2, 0] [3] hS (fun hT => wtext_n (p := p6_2) (v := w3) (l := [] ++ [u8 q.k.toNat]) (bad := false) (u := iv) (t := q.id) 16 (by decide) (by first | omega | decide) W hT) (fun _ => ⟨.inr ⟨rfl, rfl⟩, .inr ⟨rfl, rfl⟩, .inl (by simp), trivial⟩)) ?_
 intro w5
 have hb_6 : (txL 16 q.id ([] ++ [u8 q.k.toNat])).length ≤ 19 := Nat.le_trans (txL_le (m := 16) rfl) (by omega)
 refine MZ fun W hS => ?_
 go_upto_region 7 with fail
 refine RL hS ?_
 clear hS
 refine MV ?_
 refine MG 3 ?_ (v := .int .i64 q.k) (hj := (agF_cel 0))
 refine MZ fun W hS => ?_
 go_upto_region 8 with fail
 refine RL hS ?_
 clear hS
 refine MW ?_ (v := .bool false) (hv := by intro W; go_simp; first | done | omega | decide)
 refine MW ?_ (v := .bool false)
 refine MZ fun W hS => ?_
 go_upto_region 10 with fail
 refine RL hS ?_
 clear hS
 refine MW ?_ (v := .bool false) (hv := by intro W; go_simp; first | done | omega | decide)
 refine MW ?_ (v := .bool false)
 refine MZ fun W hS => ?_
 go_upto_region 11 with fail
 refine RL hS ?_
 clear hS
 refine MW ?_ (v := .bool true) (hv := by intro W; go_simp; first | done | omega | decide)
 refine MW ?_ (v := .bool true)
 refine MZ fun W hS => ?_
 go_upto_region 13 with fail
 refine RL hS ?_
 clear hS
 refine MV ?_
 refine MV ?_
 refine MG 3 ?_ (v := lv) (hj := (agF_cel 8))
 refine MT (fun W hS => hS.ent hlab) ?_
 refine ME (V := fun _ => .tuple #[]) (fun W hS => callX [1, 2, 0] [3, 4] hS (fun hT => wtext_n (p := p6_2) (v := w5) (l := txL 16 q.id ([] ++ [u8 q.k.toNat])) (bad := (txB 16 q.id false)) (u := lv) (t := q.lab) 32 (by decide) (by first | omega | decide) W hT) (fun _ => ⟨.inr ⟨rfl, rfl⟩, .inr ⟨rfl, rfl⟩, .inl (by simp), trivial⟩)) ?_
 intro w7
 have hb_8 : (txL 32 q.lab (txL 16 q.id ([] ++ [u8 q.k.toNat]))).length ≤ 53 := Nat.le_trans (txL_le (m := 32) rfl) (by omega)
 refine MZ fun W hS => ?_
 go_upto_region 16 with fail
 refine RL hS ?_
 clear hS
 refine MV ?_
 refine MG 4 ?_ (v := .int .i64 q.k) (hj := (agF_cel 0))
 refine MZ fun W hS => ?_
 go_upto_region 17 with fail
 refine RL hS ?_
 clear hS
 refine MW ?_ (v := .bool false) (hv := by intro W; go_simp; first | done | omega | decide)
 refine MW ?_ (v := .bool false)
 refine MZ fun W hS => ?_
 go_upto_region 19 with fail
 refine RL hS ?_
 clear hS
 refine MW ?_ (v := .bool true) (hv := by intro W; go_simp; first | done | omega | decide)
 refine MW ?_ (v := .bool true)
 refine MZ fun W hS => ?_
 go_upto_region 20 with fail
 refine RTp [2, 3, 4] (.q 0 (.q 1 (.q 2 (.q 3 (.q 4 (.e 5 .z)))))) hS ?_
 clear hS
 refine TV ?_
 refine TV ?_
 refine TV ?_
 refine TV ?_
 refine TG 2 ?_ (v := .int .i64 q.fr) (hj := (agF_cel 10))
 refine TE (fun _ h => h.pick [2, 3, 4]) ?_
 refine ME (V := fun _ => .tuple #[]) (fun W hS => callX [0, 1] [2, 3, 4] hS (fun hT => wr_call hT (fun hw => wnum_i q.fr p6_2 w7 (txL 32 q.lab (txL 16 q.id ([] ++ [u8 q.k.toNat]))) false W hw (by first | omega | decide))) (fun _ => ⟨.inr ⟨rfl, rfl⟩, .inr ⟨rfl, rfl⟩, trivial⟩)) ?_
 intro w9
 have hb_10 : ((txL 32 q.lab (txL 16 q.id ([] ++ [u8 q.k.toNat]))) ++ (eI q.fr)).length ≤ 61 := (by simp only [List.length_append, List.length_cons, List.length_nil, lb_length, eI_len, tB_len]; omega)
 refine TNp [2, 3, 4] [0, 1, 2] ?_
 refine TZ (fun _ h => h.pick [2, 3, 4]) fun W hS => ?_
 rcases bool_or (txB 32 q.lab (txB 16 q.id false)) with hb | hb
 ·
  have _f := True.intro
  go_upto_region 25 with fail
  refine RL hS ?_
  clear hS
  refine MV ?_
  refine MT (fun W hS => by rw [hb] at hS; exact hS) ?_
  refine MC (v := .tuple #[.slice none 0 0, .int .i64 2]) (fun W hS => done_bad p6_2 w9 ((txL 32 q.lab (txL 16 q.id ([] ++ [u8 q.k.toNat]))) ++ (eI q.fr)) W (hS.blk (i := 0) rfl) (hS.own (i := 1) rfl) (by omega)) ?_
  refine MV ?_
  refine MW ?_ (v := .int .i64 2)
  refine MV ?_
  refine MW ?_ (v := .int .i64 2)
  refine MZ fun W hS => ?_
  go_wp2
  exact bodyPost_ret (v := .tuple #[.slice none 0 0, .int .i64 2]) (by simp only [results, Try.results10]; go_simp) rfl (.inl ⟨by rw [askB_6 hk]; exact hb, rfl, hS.ext⟩)
 ·
  have _f := True.intro
  go_upto_region 25 with fail
  refine RL hS ?_
  clear hS
  refine MV ?_
  refine MT (fun W hS => by rw [hb] at hS; exact hS) ?_
  refine ME (V := fun u => .tuple #[u, .int .i64 0]) (fun W hS => ncallW hS (done_ok p6_2 w9 ((txL 32 q.lab (txL 16 q.id ([] ++ [u8 q.k.toNat]))) ++ (eI q.fr)) W (hS.blk (i := 0) rfl) (hS.own (i := 1) rfl) (by omega))) ?_
  intro u
  refine MV ?_
  refine MW ?_ (v := .int .i64 0)
  refine MV ?_
  refine MW ?_ (v := .int .i64 0)
  refine MZ fun W hS => ?_
  go_wp2
  exact bodyPost_ret (v := .tuple #[u, .int .i64 0]) (by simp only [results, Try.results10]; go_simp) rfl (.inr ⟨by rw [askB_6 hk]; exact hb, _, rfl, by rw [askL_6 hk]; rw [hk] at hS; exact hS.pick [0]⟩)
theorem ask_7 {q : Rq} {iv lv vv bv : Value} (hk : q.k = 7) (w : World) (hid : Sl w iv q.id) (hlab : Sl w lv q.lab) (hval : Sl w vv q.val) (hbun : Sl w bv q.bun) :
  Calls Try.prog 10 #[.agg (rqF q iv lv vv bv)] w fun e w' => (askB q = true ∧ Ret (.tuple #[.slice none 0 0, .int .i64 2]) w w' e) ∨ (askB q = false ∧ ∃ u, e = .returned (.tuple #[u, .int .i64 0]) ∧ SH [] w w' [.o u (askL q)]) := by
 have hS := SH.nil [] w
 go_enter Try.func10, Try.ntmps10
 go_upto_region 0 with fail
 refine RL hS ?_
 clear hS
 refine MN (z := agF [.c (.int .i64 q.k), .c iv, .a 32 q.vrf, .a 32 q.bind, .c (.int .i64 q.l0), .c (.int .i64 q.l1), .c (.int .i64 q.l2), .c (.int .i64 q.per), .c lv, .c vv, .c (.int .i64 q.fr), .c (.int .i64 q.ti), .c bv]) (t := 33) ?_
 intro p1_1
 refine MV ?_
 refine MW ?_ (v := .int .i64 0)
 refine MZ fun W hS => ?_
 go_upto_region 1 with fail
 refine RL hS ?_
 clear hS
 refine MW ?_ (v := .agg #[.slice none 0 0, .bool false, .bool false]) (hv := by intro W; first | rfl | kernel_rfl)
 refine MN (z := #[.slice none 0 0, .bool false, .bool false]) (t := 96) ?_
 intro p6_2
 refine MT (fun W hS => hS.onil rfl) ?_
 refine MV ?_
 refine MZ fun W hS => ?_
 go_upto_region 2 with fail
 refine RTp [2] (.q 0 (.q 1 (.q 2 (.q 3 (.q 4 (.e 5 .z)))))) hS ?_
 clear hS
 refine TV ?_
 refine TV ?_
 refine TV ?_
 refine TV ?_
 refine TG 0 ?_ (v := .int .i64 q.k) (hj := (agF_cel 0))
 refine TE (fun _ h => h.pick [2]) ?_
 refine ME (V := fun _ => .tuple #[]) (fun W hS => callX [1, 0] [2] hS (fun hT => wr_call hT (fun hw => wbyte_i (n := q.k) (l := []) (by omega) hw (by first | omega | decide))) (fun _ => ⟨.inr ⟨rfl, rfl⟩, .inr ⟨rfl, rfl⟩, trivial⟩)) ?_
 intro w3
 have hb_4 : ([] ++ [u8 q.k.toNat]).length ≤ 1 := (by simp only [List.length_append, List.length_cons, List.length_nil, lb_length, eI_len, tB_len]; omega)
 refine TNp [2] [0] ?_
 refine TZ (fun _ h => h.pick [2]) fun W hS => ?_
 go_upto_region 3 with fail
 refine RL hS ?_
 clear hS
 refine MV ?_
 refine MG 2 ?_ (v := .int .i64 q.k) (hj := (agF_cel 0))
 refine MW ?_ (v := .bool false) (hv := by intro W; go_simp; first | done | omega)
 refine MW ?_ (v := .bool false)
 refine MV ?_
 refine MG 2 ?_ (v := .int .i64 q.k) (hj := (agF_cel 0))
 refine MW ?_ (v := .bool false) (hv := by intro W; go_simp; first | done | omega)
 refine MW ?_ (v := .bool false)
 refine MZ fun W hS => ?_
 go_upto_region 5 with fail
 refine RL hS ?_
 clear hS
 refine MV ?_
 refine MG 2 ?_ (v := .int .i64 q.k) (hj := (agF_cel 0))
 refine MW ?_ (v := .bool true) (hv := by intro W; go_simp; first | done | omega | decide)
 refine MW ?_ (v := .bool true)
 refine MV ?_
 refine MG 2 ?_ (v := .int .i64 q.k) (hj := (agF_cel 0))
 refine MW ?_ (v := .bool true) (hv := by intro W; go_simp; first | done | omega | decide)
 refine MW ?_ (v := .bool true)
 refine MZ fun W hS => ?_
 go_upto_region 6 with fail
 refine RL hS ?_
 clear hS
 refine MV ?_
 refine MV ?_
 refine MG 2 ?_ (v := iv) (hj := (agF_cel 1))
 refine MT (fun W hS => hS.ent hid) ?_
 refine ME (V := fun _ => .tuple #[]) (fun W hS => callX [1, 2, 0] [3] hS (fun hT => wtext_n (p := p6_2) (v := w3) (l := [] ++ [u8 q.k.toNat]) (bad := false) (u := iv) (t := q.id) 16 (by decide) (by first | omega | decide) W hT) (fun _ => ⟨.inr ⟨rfl, rfl⟩, .inr ⟨rfl, rfl⟩, .inl (by simp), trivial⟩)) ?_
 intro w5
 have hb_6 : (txL 16 q.id ([] ++ [u8 q.k.toNat])).length ≤ 19 := Nat.le_trans (txL_le (m := 16) rfl) (by omega)
 refine MZ fun W hS => ?_
 go_upto_region 7 with fail
 refine RL hS ?_
 clear hS
 refine MV ?_
 refine MG 3 ?_ (v := .int .i64 q.k) (hj := (agF_cel 0))
 refine MZ fun W hS => ?_
 go_upto_region 8 with fail
 refine RL hS ?_
 clear hS
 refine MW ?_ (v := .bool false) (hv := by intro W; go_simp; first | done | omega | decide)
 refine MW ?_ (v := .bool false)
 refine MZ fun W hS => ?_
 go_upto_region 10 with fail
 refine RL hS ?_
 clear hS
 refine MW ?_ (v := .bool false) (hv := by intro W; go_simp; first | done | omega | decide)
 refine MW ?_ (v := .bool false)
 refine MZ fun W hS => ?_
 go_upto_region 11 with fail
 refine RL hS ?_
 clear hS
 refine MW ?_ (v := .bool false) (hv := by intro W; go_simp; first | done | omega | decide)
 refine MW ?_ (v := .bool false)
 refine MZ fun W hS => ?_
 go_upto_region 12 with fail
 refine RL hS ?_
 clear hS
 refine MW ?_ (v := .bool true) (hv := by intro W; go_simp; first | done | omega | decide)
 refine MW ?_ (v := .bool true)
 refine MZ fun W hS => ?_
 go_upto_region 13 with fail
 refine RL hS ?_
 clear hS
 refine MV ?_
 refine MV ?_
 refine MG 3 ?_ (v := lv) (hj := (agF_cel 8))
 refine MT (fun W hS => hS.ent hlab) ?_
 refine ME (V := fun _ => .tuple #[]) (fun W hS => callX [1, 2, 0] [3, 4] hS (fun hT => wtext_n (p := p6_2) (v := w5) (l := txL 16 q.id ([] ++ [u8 q.k.toNat])) (bad := (txB 16 q.id false)) (u := lv) (t := q.lab) 32 (by decide) (by first | omega | decide) W hT) (fun _ => ⟨.inr ⟨rfl, rfl⟩, .inr ⟨rfl, rfl⟩, .inl (by simp), trivial⟩)) ?_
 intro w7
 have hb_8 : (txL 32 q.lab (txL 16 q.id ([] ++ [u8 q.k.toNat]))).length ≤ 53 := Nat.le_trans (txL_le (m := 32) rfl) (by omega)
 refine MZ fun W hS => ?_
 go_upto_region 16 with fail
 refine RL hS ?_
 clear hS
 refine MV ?_
 refine MG 4 ?_ (v := .int .i64 q.k) (hj := (agF_cel 0))
 refine MZ fun W hS => ?_
 go_upto_region 17 with fail
 refine RL hS ?_
 clear hS
 refine MW ?_ (v := .bool false) (hv := by intro W; go_simp; first | done | omega | decide)
 refine MW ?_ (v := .bool false)
 refine MZ fun W hS => ?_
 go_upto_region 19 with fail
 refine RL hS ?_
 clear hS
 refine MW ?_ (v := .bool false) (hv := by intro W; go_simp; first | done | omega | decide)
 refine MW ?_ (v := .bool false)
 refine MZ fun W hS => ?_
 go_upto_region 21 with fail
 refine RL hS ?_
 clear hS
 refine MW ?_ (v := .bool false) (hv := by intro W; go_simp; first | done | omega | decide)
 refine MW ?_ (v := .bool false)
 refine MZ fun W hS => ?_
 go_upto_region 22 with fail
 refine RL hS ?_
 clear hS
 refine MW ?_ (v := .bool false) (hv := by intro W; go_simp; first | done | omega | decide)
 refine MW ?_ (v := .bool false)
 refine MZ fun W hS => ?_
 rcases bool_or (txB 32 q.lab (txB 16 q.id false)) with hb | hb
 ·
  have _f := True.intro
  go_upto_region 25 with fail
  refine RL hS ?_
  clear hS
  refine MV ?_
  refine MT (fun W hS => by rw [hb] at hS; exact hS) ?_
  refine MC (v := .tuple #[.slice none 0 0, .int .i64 2]) (fun W hS => done_bad p6_2 w7 (txL 32 q.lab (txL 16 q.id ([] ++ [u8 q.k.toNat]))) W (hS.blk (i := 0) rfl) (hS.own (i := 1) rfl) (by omega)) ?_
  refine MV ?_
  refine MW ?_ (v := .int .i64 2)
  refine MV ?_
  refine MW ?_ (v := .int .i64 2)
  refine MZ fun W hS => ?_
  go_wp2
  exact bodyPost_ret (v := .tuple #[.slice none 0 0, .int .i64 2]) (by simp only [results, Try.results10]; go_simp) rfl (.inl ⟨by rw [askB_7 hk]; exact hb, rfl, hS.ext⟩)
 ·
  have _f := True.intro
  go_upto_region 25 with fail
  refine RL hS ?_
  clear hS
  refine MV ?_
  refine MT (fun W hS => by rw [hb] at hS; exact hS) ?_
  refine ME (V := fun u => .tuple #[u, .int .i64 0]) (fun W hS => ncallW hS (done_ok p6_2 w7 (txL 32 q.lab (txL 16 q.id ([] ++ [u8 q.k.toNat]))) W (hS.blk (i := 0) rfl) (hS.own (i := 1) rfl) (by omega))) ?_
  intro u
  refine MV ?_
  refine MW ?_ (v := .int .i64 0)
  refine MV ?_
  refine MW ?_ (v := .int .i64 0)
  refine MZ fun W hS => ?_
  go_wp2
  exact bodyPost_ret (v := .tuple #[u, .int .i64 0]) (by simp only [results, Try.results10]; go_simp) rfl (.inr ⟨by rw [askB_7 hk]; exact hb, _, rfl, by rw [askL_7 hk]; rw [hk] at hS; exact hS.pick [0]⟩)
theorem ask_8 {q : Rq} {iv lv vv bv : Value} (hk : q.k = 8) (w : World) (hid : Sl w iv q.id) (hlab : Sl w lv q.lab) (hval : Sl w vv q.val) (hbun : Sl w bv q.bun) :
  Calls Try.prog 10 #[.agg (rqF q iv lv vv bv)] w fun e w' => (askB q = true ∧ Ret (.tuple #[.slice none 0 0, .int .i64 2]) w w' e) ∨ (askB q = false ∧ ∃ u, e = .returned (.tuple #[u, .int .i64 0]) ∧ SH [] w w' [.o u (askL q)]) := by
 have hS := SH.nil [] w
 go_enter Try.func10, Try.ntmps10
 go_upto_region 0 with fail
 refine RL hS ?_
 clear hS
 refine MN (z := agF [.c (.int .i64 q.k), .c iv, .a 32 q.vrf, .a 32 q.bind, .c (.int .i64 q.l0), .c (.int .i64 q.l1), .c (.int .i64 q.l2), .c (.int .i64 q.per), .c lv, .c vv, .c (.int .i64 q.fr), .c (.int .i64 q.ti), .c bv]) (t := 33) ?_
 intro p1_1
 refine MV ?_
 refine MW ?_ (v := .int .i64 0)
 refine MZ fun W hS => ?_
 go_upto_region 1 with fail
 refine RL hS ?_
 clear hS
 refine MW ?_ (v := .agg #[.slice none 0 0, .bool false, .bool false]) (hv := by intro W; first | rfl | kernel_rfl)
 refine MN (z := #[.slice none 0 0, .bool false, .bool false]) (t := 96) ?_
 intro p6_2
 refine MT (fun W hS => hS.onil rfl) ?_
 refine MV ?_
 refine MZ fun W hS => ?_
 go_upto_region 2 with fail
 refine RTp [2] (.q 0 (.q 1 (.q 2 (.q 3 (.q 4 (.e 5 .z)))))) hS ?_
 clear hS
 refine TV ?_
 refine TV ?_
 refine TV ?_
 refine TV ?_
 refine TG 0 ?_ (v := .int .i64 q.k) (hj := (agF_cel 0))
 refine TE (fun _ h => h.pick [2]) ?_
 refine ME (V := fun _ => .tuple #[]) (fun W hS => callX [1, 0] [2] hS (fun hT => wr_call hT (fun hw => wbyte_i (n := q.k) (l := []) (by omega) hw (by first | omega | decide))) (fun _ => ⟨.inr ⟨rfl, rfl⟩, .inr ⟨rfl, rfl⟩, trivial⟩)) ?_
 intro w3
 have hb_4 : ([] ++ [u8 q.k.toNat]).length ≤ 1 := (by simp only [List.length_append, List.length_cons, List.length_nil, lb_length, eI_len, tB_len]; omega)
 refine TNp [2] [0] ?_
 refine TZ (fun _ h => h.pick [2]) fun W hS => ?_
 go_upto_region 3 with fail
 refine RL hS ?_
 clear hS
 refine MV ?_
 refine MG 2 ?_ (v := .int .i64 q.k) (hj := (agF_cel 0))
 refine MW ?_ (v := .bool false) (hv := by intro W; go_simp; first | done | omega)
 refine MW ?_ (v := .bool false)
 refine MV ?_
 refine MG 2 ?_ (v := .int .i64 q.k) (hj := (agF_cel 0))
 refine MW ?_ (v := .bool false) (hv := by intro W; go_simp; first | done | omega)
 refine MW ?_ (v := .bool false)
 refine MZ fun W hS => ?_
 go_upto_region 5 with fail
 refine RL hS ?_
 clear hS
 refine MV ?_
 refine MG 2 ?_ (v := .int .i64 q.k) (hj := (agF_cel 0))
 refine MW ?_ (v := .bool true) (hv := by intro W; go_simp; first | done | omega | decide)
 refine MW ?_ (v := .bool true)
 refine MV ?_
 refine MG 2 ?_ (v := .int .i64 q.k) (hj := (agF_cel 0))
 refine MW ?_ (v := .bool true) (hv := by intro W; go_simp; first | done | omega | decide)
 refine MW ?_ (v := .bool true)
 refine MZ fun W hS => ?_
 go_upto_region 6 with fail
 refine RL hS ?_
 clear hS
 refine MV ?_
 refine MV ?_
 refine MG 2 ?_ (v := iv) (hj := (agF_cel 1))
 refine MT (fun W hS => hS.ent hid) ?_
 refine ME (V := fun _ => .tuple #[]) (fun W hS => callX [1, 2, 0] [3] hS (fun hT => wtext_n (p := p6_2) (v := w3) (l := [] ++ [u8 q.k.toNat]) (bad := false) (u := iv) (t := q.id) 16 (by decide) (by first | omega | decide) W hT) (fun _ => ⟨.inr ⟨rfl, rfl⟩, .inr ⟨rfl, rfl⟩, .inl (by simp), trivial⟩)) ?_
 intro w5
 have hb_6 : (txL 16 q.id ([] ++ [u8 q.k.toNat])).length ≤ 19 := Nat.le_trans (txL_le (m := 16) rfl) (by omega)
 refine MZ fun W hS => ?_
 go_upto_region 7 with fail
 refine RL hS ?_
 clear hS
 refine MV ?_
 refine MG 3 ?_ (v := .int .i64 q.k) (hj := (agF_cel 0))
 refine MZ fun W hS => ?_
 go_upto_region 8 with fail
 refine RL hS ?_
 clear hS
 refine MW ?_ (v := .bool false) (hv := by intro W; go_simp; first | done | omega | decide)
 refine MW ?_ (v := .bool false)
 refine MZ fun W hS => ?_
 go_upto_region 10 with fail
 refine RL hS ?_
 clear hS
 refine MW ?_ (v := .bool false) (hv := by intro W; go_simp; first | done | omega | decide)
 refine MW ?_ (v := .bool false)
 refine MZ fun W hS => ?_
 go_upto_region 11 with fail
 refine RL hS ?_
 clear hS
 refine MW ?_ (v := .bool false) (hv := by intro W; go_simp; first | done | omega | decide)
 refine MW ?_ (v := .bool false)
 refine MZ fun W hS => ?_
 go_upto_region 12 with fail
 refine RL hS ?_
 clear hS
 refine MW ?_ (v := .bool false) (hv := by intro W; go_simp; first | done | omega | decide)
 refine MW ?_ (v := .bool false)
 refine MZ fun W hS => ?_
 go_upto_region 14 with fail
 refine RL hS ?_
 clear hS
 refine MW ?_ (v := .bool false) (hv := by intro W; go_simp; first | done | omega | decide)
 refine MW ?_ (v := .bool false)
 refine MZ fun W hS => ?_
 go_upto_region 16 with fail
 refine RL hS ?_
 clear hS
 refine MV ?_
 refine MG 3 ?_ (v := .int .i64 q.k) (hj := (agF_cel 0))
 refine MZ fun W hS => ?_
 go_upto_region 17 with fail
 refine RL hS ?_
 clear hS
 refine MW ?_ (v := .bool false) (hv := by intro W; go_simp; first | done | omega | decide)
 refine MW ?_ (v := .bool false)
 refine MZ fun W hS => ?_
 go_upto_region 19 with fail
 refine RL hS ?_
 clear hS
 refine MW ?_ (v := .bool false) (hv := by intro W; go_simp; first | done | omega | decide)
 refine MW ?_ (v := .bool false)
 refine MZ fun W hS => ?_
 go_upto_region 21 with fail
 refine RL hS ?_
 clear hS
 refine MW ?_ (v := .bool true) (hv := by intro W; go_simp; first | done | omega | decide)
 refine MW ?_ (v := .bool true)
 refine MZ fun W hS => ?_
 go_upto_region 23 with fail
 refine RTp [2, 3] (.q 0 (.q 1 (.q 2 (.q 3 (.q 4 (.e 5 .z)))))) hS ?_
 clear hS
 refine TV ?_
 refine TV ?_
 refine TV ?_
 refine TV ?_
 refine TG 1 ?_ (v := .int .i64 q.fr) (hj := (agF_cel 10))
 refine TE (fun _ h => h.pick [2, 3]) ?_
 refine ME (V := fun _ => .tuple #[]) (fun W hS => callX [0, 1] [2, 3] hS (fun hT => wr_call hT (fun hw => wnum_i q.fr p6_2 w5 (txL 16 q.id ([] ++ [u8 q.k.toNat])) false W hw (by first | omega | decide))) (fun _ => ⟨.inr ⟨rfl, rfl⟩, .inr ⟨rfl, rfl⟩, trivial⟩)) ?_
 intro w7
 have hb_8 : ((txL 16 q.id ([] ++ [u8 q.k.toNat])) ++ (eI q.fr)).length ≤ 27 := (by simp only [List.length_append, List.length_cons, List.length_nil, lb_length, eI_len, tB_len]; omega)
 refine TNp [2, 3] [0, 1] ?_
 refine TZ (fun _ h => h.pick [2, 3]) fun W hS => ?_
 go_upto_region 24 with fail
 refine RTp [2, 3] (.q 0 (.q 1 (.q 2 (.q 3 (.q 4 (.e 5 .z)))))) hS ?_
 clear hS
 refine TV ?_
 refine TV ?_
 refine TV ?_
 refine TV ?_
 refine TG 1 ?_ (v := .int .i64 q.ti) (hj := (agF_cel 11))
 refine TE (fun _ h => h.pick [2, 3]) ?_
 refine ME (V := fun _ => .tuple #[]) (fun W hS => callX [0, 1] [2, 3] hS (fun hT => wr_call hT (fun hw => wnum_i q.ti p6_2 w7 ((txL 16 q.id ([] ++ [u8 q.k.toNat])) ++ (eI q.fr)) false W hw (by first | omega | decide))) (fun _ => ⟨.inr ⟨rfl, rfl⟩, .inr ⟨rfl, rfl⟩, trivial⟩)) ?_
 intro w9
 have hb_10 : (((txL 16 q.id ([] ++ [u8 q.k.toNat])) ++ (eI q.fr)) ++ (eI q.ti)).length ≤ 35 := (by simp only [List.length_append, List.length_cons, List.length_nil, lb_length, eI_len, tB_len]; omega)
 refine TNp [2, 3] [0, 1] ?_
 refine TZ (fun _ h => h.pick [2, 3]) fun W hS => ?_
 rcases bool_or (txB 16 q.id false) with hb | hb
 ·
  have _f := True.intro
  go_upto_region 25 with fail
  refine RL hS ?_
  clear hS
  refine MV ?_
  refine MT (fun W hS => by rw [hb] at hS; exact hS) ?_
  refine MC (v := .tuple #[.slice none 0 0, .int .i64 2]) (fun W hS => done_bad p6_2 w9 (((txL 16 q.id ([] ++ [u8 q.k.toNat])) ++ (eI q.fr)) ++ (eI q.ti)) W (hS.blk (i := 0) rfl) (hS.own (i := 1) rfl) (by omega)) ?_
  refine MV ?_
  refine MW ?_ (v := .int .i64 2)
  refine MV ?_
  refine MW ?_ (v := .int .i64 2)
  refine MZ fun W hS => ?_
  go_wp2
  exact bodyPost_ret (v := .tuple #[.slice none 0 0, .int .i64 2]) (by simp only [results, Try.results10]; go_simp) rfl (.inl ⟨by rw [askB_8 hk]; exact hb, rfl, hS.ext⟩)
 ·
  have _f := True.intro
  go_upto_region 25 with fail
  refine RL hS ?_
  clear hS
  refine MV ?_
  refine MT (fun W hS => by rw [hb] at hS; exact hS) ?_
  refine ME (V := fun u => .tuple #[u, .int .i64 0]) (fun W hS => ncallW hS (done_ok p6_2 w9 (((txL 16 q.id ([] ++ [u8 q.k.toNat])) ++ (eI q.fr)) ++ (eI q.ti)) W (hS.blk (i := 0) rfl) (hS.own (i := 1) rfl) (by omega))) ?_
  intro u
  refine MV ?_
  refine MW ?_ (v := .int .i64 0)
  refine MV ?_
  refine MW ?_ (v := .int .i64 0)
  refine MZ fun W hS => ?_
  go_wp2
  exact bodyPost_ret (v := .tuple #[u, .int .i64 0]) (by simp only [results, Try.results10]; go_simp) rfl (.inr ⟨by rw [askB_8 hk]; exact hb, _, rfl, by rw [askL_8 hk]; rw [hk] at hS; exact hS.pick [0]⟩)
theorem ask_10 {q : Rq} {iv lv vv bv : Value} (hk : q.k = 10) (w : World) (hid : Sl w iv q.id) (hlab : Sl w lv q.lab) (hval : Sl w vv q.val) (hbun : Sl w bv q.bun) :
  Calls Try.prog 10 #[.agg (rqF q iv lv vv bv)] w fun e w' => (askB q = true ∧ Ret (.tuple #[.slice none 0 0, .int .i64 2]) w w' e) ∨ (askB q = false ∧ ∃ u, e = .returned (.tuple #[u, .int .i64 0]) ∧ SH [] w w' [.o u (askL q)]) := by
 have hS := SH.nil [] w
 go_enter Try.func10, Try.ntmps10
 go_upto_region 0 with fail
 refine RL hS ?_
 clear hS
 refine MN (z := agF [.c (.int .i64 q.k), .c iv, .a 32 q.vrf, .a 32 q.bind, .c (.int .i64 q.l0), .c (.int .i64 q.l1), .c (.int .i64 q.l2), .c (.int .i64 q.per), .c lv, .c vv, .c (.int .i64 q.fr), .c (.int .i64 q.ti), .c bv]) (t := 33) ?_
 intro p1_1
 refine MV ?_
 refine MW ?_ (v := .int .i64 0)
 refine MZ fun W hS => ?_
 go_upto_region 1 with fail
 refine RL hS ?_
 clear hS
 refine MW ?_ (v := .agg #[.slice none 0 0, .bool false, .bool false]) (hv := by intro W; first | rfl | kernel_rfl)
 refine MN (z := #[.slice none 0 0, .bool false, .bool false]) (t := 96) ?_
 intro p6_2
 refine MT (fun W hS => hS.onil rfl) ?_
 refine MV ?_
 refine MZ fun W hS => ?_
 go_upto_region 2 with fail
 refine RTp [2] (.q 0 (.q 1 (.q 2 (.q 3 (.q 4 (.e 5 .z)))))) hS ?_
 clear hS
 refine TV ?_
 refine TV ?_
 refine TV ?_
 refine TV ?_
 refine TG 0 ?_ (v := .int .i64 q.k) (hj := (agF_cel 0))
 refine TE (fun _ h => h.pick [2]) ?_
 refine ME (V := fun _ => .tuple #[]) (fun W hS => callX [1, 0] [2] hS (fun hT => wr_call hT (fun hw => wbyte_i (n := q.k) (l := []) (by omega) hw (by first | omega | decide))) (fun _ => ⟨.inr ⟨rfl, rfl⟩, .inr ⟨rfl, rfl⟩, trivial⟩)) ?_
 intro w3
 have hb_4 : ([] ++ [u8 q.k.toNat]).length ≤ 1 := (by simp only [List.length_append, List.length_cons, List.length_nil, lb_length, eI_len, tB_len]; omega)
 refine TNp [2] [0] ?_
 refine TZ (fun _ h => h.pick [2]) fun W hS => ?_
 go_upto_region 3 with fail
 refine RL hS ?_
 clear hS
 refine MV ?_
 refine MG 2 ?_ (v := .int .i64 q.k) (hj := (agF_cel 0))
 refine MW ?_ (v := .bool false) (hv := by intro W; go_simp; first | done | omega)
 refine MW ?_ (v := .bool false)
 refine MV ?_
 refine MG 2 ?_ (v := .int .i64 q.k) (hj := (agF_cel 0))
 refine MW ?_ (v := .bool false) (hv := by intro W; go_simp; first | done | omega)
 refine MW ?_ (v := .bool false)
 refine MZ fun W hS => ?_
 go_upto_region 5 with fail
 refine RL hS ?_
 clear hS
 refine MV ?_
 refine MG 2 ?_ (v := .int .i64 q.k) (hj := (agF_cel 0))
 refine MW ?_ (v := .bool false) (hv := by intro W; go_simp; first | done | omega | decide)
 refine MW ?_ (v := .bool false)
 refine MS ?_
 refine MS ?_
 refine MS ?_
 refine MW ?_ (v := .bool false)
 refine MZ fun W hS => ?_
 go_upto_region 7 with fail
 refine RL hS ?_
 clear hS
 refine MV ?_
 refine MG 2 ?_ (v := .int .i64 q.k) (hj := (agF_cel 0))
 refine MZ fun W hS => ?_
 go_upto_region 8 with fail
 refine RL hS ?_
 clear hS
 refine MW ?_ (v := .bool false) (hv := by intro W; go_simp; first | done | omega | decide)
 refine MW ?_ (v := .bool false)
 refine MZ fun W hS => ?_
 go_upto_region 10 with fail
 refine RL hS ?_
 clear hS
 refine MW ?_ (v := .bool false) (hv := by intro W; go_simp; first | done | omega | decide)
 refine MW ?_ (v := .bool false)
 refine MZ fun W hS => ?_
 go_upto_region 11 with fail
 refine RL hS ?_
 clear hS
 refine MW ?_ (v := .bool false) (hv := by intro W; go_simp; first | done | omega | decide)
 refine MW ?_ (v := .bool false)
 refine MZ fun W hS => ?_
 go_upto_region 12 with fail
 refine RL hS ?_
 clear hS
 refine MW ?_ (v := .bool false) (hv := by intro W; go_simp; first | done | omega | decide)
 refine MW ?_ (v := .bool false)
 refine MZ fun W hS => ?_
 go_upto_region 14 with fail
 refine RL hS ?_
 clear hS
 refine MW ?_ (v := .bool true) (hv := by intro W; go_simp; first | done | omega | decide)
 refine MW ?_ (v := .bool true)
 refine MZ fun W hS => ?_
 go_upto_region 15 with fail
 refine RL hS ?_
 clear hS
 refine MV ?_
 refine MV ?_
 refine MG 2 ?_ (v := bv) (hj := (agF_cel 12))
 refine MT (fun W hS => hS.ent hbun) ?_
 refine ME (V := fun _ => .tuple #[]) (fun W hS => callX [1, 2, 0] [3] hS (fun hT => wtext_n (p := p6_2) (v := w3) (l := [] ++ [u8 q.k.toNat]) (bad := false) (u := bv) (t := q.bun) 65535 (by decide) (by first | omega | decide) W hT) (fun _ => ⟨.inr ⟨rfl, rfl⟩, .inr ⟨rfl, rfl⟩, .inl (by simp), trivial⟩)) ?_
 intro w5
 have hb_6 : (txL 65535 q.bun ([] ++ [u8 q.k.toNat])).length ≤ 65538 := Nat.le_trans (txL_le (m := 65535) rfl) (by omega)
 refine MZ fun W hS => ?_
 go_upto_region 16 with fail
 refine RL hS ?_
 clear hS
 refine MV ?_
 refine MG 3 ?_ (v := .int .i64 q.k) (hj := (agF_cel 0))
 refine MZ fun W hS => ?_
 go_upto_region 17 with fail
 refine RL hS ?_
 clear hS
 refine MW ?_ (v := .bool false) (hv := by intro W; go_simp; first | done | omega | decide)
 refine MW ?_ (v := .bool false)
 refine MZ fun W hS => ?_
 go_upto_region 19 with fail
 refine RL hS ?_
 clear hS
 refine MW ?_ (v := .bool false) (hv := by intro W; go_simp; first | done | omega | decide)
 refine MW ?_ (v := .bool false)
 refine MZ fun W hS => ?_
 go_upto_region 21 with fail
 refine RL hS ?_
 clear hS
 refine MW ?_ (v := .bool false) (hv := by intro W; go_simp; first | done | omega | decide)
 refine MW ?_ (v := .bool false)
 refine MZ fun W hS => ?_
 go_upto_region 22 with fail
 refine RL hS ?_
 clear hS
 refine MW ?_ (v := .bool false) (hv := by intro W; go_simp; first | done | omega | decide)
 refine MW ?_ (v := .bool false)
 refine MZ fun W hS => ?_
 rcases bool_or (txB 65535 q.bun false) with hb | hb
 ·
  have _f := True.intro
  go_upto_region 25 with fail
  refine RL hS ?_
  clear hS
  refine MV ?_
  refine MT (fun W hS => by rw [hb] at hS; exact hS) ?_
  refine MC (v := .tuple #[.slice none 0 0, .int .i64 2]) (fun W hS => done_bad p6_2 w5 (txL 65535 q.bun ([] ++ [u8 q.k.toNat])) W (hS.blk (i := 0) rfl) (hS.own (i := 1) rfl) (by omega)) ?_
  refine MV ?_
  refine MW ?_ (v := .int .i64 2)
  refine MV ?_
  refine MW ?_ (v := .int .i64 2)
  refine MZ fun W hS => ?_
  go_wp2
  exact bodyPost_ret (v := .tuple #[.slice none 0 0, .int .i64 2]) (by simp only [results, Try.results10]; go_simp) rfl (.inl ⟨by rw [askB_10 hk]; exact hb, rfl, hS.ext⟩)
 ·
  have _f := True.intro
  go_upto_region 25 with fail
  refine RL hS ?_
  clear hS
  refine MV ?_
  refine MT (fun W hS => by rw [hb] at hS; exact hS) ?_
  refine ME (V := fun u => .tuple #[u, .int .i64 0]) (fun W hS => ncallW hS (done_ok p6_2 w5 (txL 65535 q.bun ([] ++ [u8 q.k.toNat])) W (hS.blk (i := 0) rfl) (hS.own (i := 1) rfl) (by omega))) ?_
  intro u
  refine MV ?_
  refine MW ?_ (v := .int .i64 0)
  refine MV ?_
  refine MW ?_ (v := .int .i64 0)
  refine MZ fun W hS => ?_
  go_wp2
  exact bodyPost_ret (v := .tuple #[u, .int .i64 0]) (by simp only [results, Try.results10]; go_simp) rfl (.inr ⟨by rw [askB_10 hk]; exact hb, _, rfl, by rw [askL_10 hk]; rw [hk] at hS; exact hS.pick [0]⟩)
theorem ask_12 {q : Rq} {iv lv vv bv : Value} (hk : q.k = 12) (w : World) (hid : Sl w iv q.id) (hlab : Sl w lv q.lab) (hval : Sl w vv q.val) (hbun : Sl w bv q.bun) :
  Calls Try.prog 10 #[.agg (rqF q iv lv vv bv)] w fun e w' => (askB q = true ∧ Ret (.tuple #[.slice none 0 0, .int .i64 2]) w w' e) ∨ (askB q = false ∧ ∃ u, e = .returned (.tuple #[u, .int .i64 0]) ∧ SH [] w w' [.o u (askL q)]) := by
 have hS := SH.nil [] w
 go_enter Try.func10, Try.ntmps10
 go_upto_region 0 with fail
 refine RL hS ?_
 clear hS
 refine MN (z := agF [.c (.int .i64 q.k), .c iv, .a 32 q.vrf, .a 32 q.bind, .c (.int .i64 q.l0), .c (.int .i64 q.l1), .c (.int .i64 q.l2), .c (.int .i64 q.per), .c lv, .c vv, .c (.int .i64 q.fr), .c (.int .i64 q.ti), .c bv]) (t := 33) ?_
 intro p1_1
 refine MV ?_
 refine MW ?_ (v := .int .i64 0)
 refine MZ fun W hS => ?_
 go_upto_region 1 with fail
 refine RL hS ?_
 clear hS
 refine MW ?_ (v := .agg #[.slice none 0 0, .bool false, .bool false]) (hv := by intro W; first | rfl | kernel_rfl)
 refine MN (z := #[.slice none 0 0, .bool false, .bool false]) (t := 96) ?_
 intro p6_2
 refine MT (fun W hS => hS.onil rfl) ?_
 refine MV ?_
 refine MZ fun W hS => ?_
 go_upto_region 2 with fail
 refine RTp [2] (.q 0 (.q 1 (.q 2 (.q 3 (.q 4 (.e 5 .z)))))) hS ?_
 clear hS
 refine TV ?_
 refine TV ?_
 refine TV ?_
 refine TV ?_
 refine TG 0 ?_ (v := .int .i64 q.k) (hj := (agF_cel 0))
 refine TE (fun _ h => h.pick [2]) ?_
 refine ME (V := fun _ => .tuple #[]) (fun W hS => callX [1, 0] [2] hS (fun hT => wr_call hT (fun hw => wbyte_i (n := q.k) (l := []) (by omega) hw (by first | omega | decide))) (fun _ => ⟨.inr ⟨rfl, rfl⟩, .inr ⟨rfl, rfl⟩, trivial⟩)) ?_
 intro w3
 have hb_4 : ([] ++ [u8 q.k.toNat]).length ≤ 1 := (by simp only [List.length_append, List.length_cons, List.length_nil, lb_length, eI_len, tB_len]; omega)
 refine TNp [2] [0] ?_
 refine TZ (fun _ h => h.pick [2]) fun W hS => ?_
 go_upto_region 3 with fail
 refine RL hS ?_
 clear hS
 refine MV ?_
 refine MG 2 ?_ (v := .int .i64 q.k) (hj := (agF_cel 0))
 refine MW ?_ (v := .bool false) (hv := by intro W; go_simp; first | done | omega)
 refine MW ?_ (v := .bool false)
 refine MV ?_
 refine MG 2 ?_ (v := .int .i64 q.k) (hj := (agF_cel 0))
 refine MW ?_ (v := .bool false) (hv := by intro W; go_simp; first | done | omega)
 refine MW ?_ (v := .bool false)
 refine MZ fun W hS => ?_
 go_upto_region 5 with fail
 refine RL hS ?_
 clear hS
 refine MV ?_
 refine MG 2 ?_ (v := .int .i64 q.k) (hj := (agF_cel 0))
 refine MW ?_ (v := .bool true) (hv := by intro W; go_simp; first | done | omega | decide)
 refine MW ?_ (v := .bool true)
 refine MV ?_
 refine MG 2 ?_ (v := .int .i64 q.k) (hj := (agF_cel 0))
 refine MW ?_ (v := .bool false) (hv := by intro W; go_simp; first | done | omega | decide)
 refine MW ?_ (v := .bool false)
 refine MZ fun W hS => ?_
 go_upto_region 7 with fail
 refine RL hS ?_
 clear hS
 refine MV ?_
 refine MG 2 ?_ (v := .int .i64 q.k) (hj := (agF_cel 0))
 refine MZ fun W hS => ?_
 go_upto_region 8 with fail
 refine RL hS ?_
 clear hS
 refine MW ?_ (v := .bool false) (hv := by intro W; go_simp; first | done | omega | decide)
 refine MW ?_ (v := .bool false)
 refine MZ fun W hS => ?_
 go_upto_region 10 with fail
 refine RL hS ?_
 clear hS
 refine MW ?_ (v := .bool false) (hv := by intro W; go_simp; first | done | omega | decide)
 refine MW ?_ (v := .bool false)
 refine MZ fun W hS => ?_
 go_upto_region 11 with fail
 refine RL hS ?_
 clear hS
 refine MW ?_ (v := .bool false) (hv := by intro W; go_simp; first | done | omega | decide)
 refine MW ?_ (v := .bool false)
 refine MZ fun W hS => ?_
 go_upto_region 12 with fail
 refine RL hS ?_
 clear hS
 refine MW ?_ (v := .bool false) (hv := by intro W; go_simp; first | done | omega | decide)
 refine MW ?_ (v := .bool false)
 refine MZ fun W hS => ?_
 go_upto_region 14 with fail
 refine RL hS ?_
 clear hS
 refine MW ?_ (v := .bool false) (hv := by intro W; go_simp; first | done | omega | decide)
 refine MW ?_ (v := .bool false)
 refine MZ fun W hS => ?_
 go_upto_region 16 with fail
 refine RL hS ?_
 clear hS
 refine MV ?_
 refine MG 2 ?_ (v := .int .i64 q.k) (hj := (agF_cel 0))
 refine MZ fun W hS => ?_
 go_upto_region 17 with fail
 refine RL hS ?_
 clear hS
 refine MW ?_ (v := .bool false) (hv := by intro W; go_simp; first | done | omega | decide)
 refine MW ?_ (v := .bool false)
 refine MZ fun W hS => ?_
 go_upto_region 19 with fail
 refine RL hS ?_
 clear hS
 refine MW ?_ (v := .bool false) (hv := by intro W; go_simp; first | done | omega | decide)
 refine MW ?_ (v := .bool false)
 refine MZ fun W hS => ?_
 go_upto_region 21 with fail
 refine RL hS ?_
 clear hS
 refine MW ?_ (v := .bool false) (hv := by intro W; go_simp; first | done | omega | decide)
 refine MW ?_ (v := .bool false)
 refine MZ fun W hS => ?_
 go_upto_region 22 with fail
 refine RL hS ?_
 clear hS
 refine MW ?_ (v := .bool true) (hv := by intro W; go_simp; first | done | omega | decide)
 refine MW ?_ (v := .bool true)
 refine MZ fun W hS => ?_
 go_upto_region 23 with fail
 refine RTp [2] (.q 0 (.q 1 (.q 2 (.q 3 (.q 4 (.e 5 .z)))))) hS ?_
 clear hS
 refine TV ?_
 refine TV ?_
 refine TV ?_
 refine TV ?_
 refine TG 0 ?_ (v := .int .i64 q.fr) (hj := (agF_cel 10))
 refine TE (fun _ h => h.pick [2]) ?_
 refine ME (V := fun _ => .tuple #[]) (fun W hS => callX [0, 1] [2] hS (fun hT => wr_call hT (fun hw => wnum_i q.fr p6_2 w3 ([] ++ [u8 q.k.toNat]) false W hw (by first | omega | decide))) (fun _ => ⟨.inr ⟨rfl, rfl⟩, .inr ⟨rfl, rfl⟩, trivial⟩)) ?_
 intro w5
 have hb_6 : (([] ++ [u8 q.k.toNat]) ++ (eI q.fr)).length ≤ 9 := (by simp only [List.length_append, List.length_cons, List.length_nil, lb_length, eI_len, tB_len]; omega)
 refine TNp [2] [0] ?_
 refine TZ (fun _ h => h.pick [2]) fun W hS => ?_
 go_upto_region 24 with fail
 refine RTp [2] (.q 0 (.q 1 (.q 2 (.q 3 (.q 4 (.e 5 .z)))))) hS ?_
 clear hS
 refine TV ?_
 refine TV ?_
 refine TV ?_
 refine TV ?_
 refine TG 0 ?_ (v := .int .i64 q.ti) (hj := (agF_cel 11))
 refine TE (fun _ h => h.pick [2]) ?_
 refine ME (V := fun _ => .tuple #[]) (fun W hS => callX [0, 1] [2] hS (fun hT => wr_call hT (fun hw => wnum_i q.ti p6_2 w5 (([] ++ [u8 q.k.toNat]) ++ (eI q.fr)) false W hw (by first | omega | decide))) (fun _ => ⟨.inr ⟨rfl, rfl⟩, .inr ⟨rfl, rfl⟩, trivial⟩)) ?_
 intro w7
 have hb_8 : ((([] ++ [u8 q.k.toNat]) ++ (eI q.fr)) ++ (eI q.ti)).length ≤ 17 := (by simp only [List.length_append, List.length_cons, List.length_nil, lb_length, eI_len, tB_len]; omega)
 refine TNp [2] [0] ?_
 refine TZ (fun _ h => h.pick [2]) fun W hS => ?_
 go_upto_region 25 with fail
 refine RL hS ?_
 clear hS
 refine MV ?_
 refine ME (V := fun u => .tuple #[u, .int .i64 0]) (fun W hS => ncallW hS (done_ok p6_2 w7 ((([] ++ [u8 q.k.toNat]) ++ (eI q.fr)) ++ (eI q.ti)) W (hS.blk (i := 0) rfl) (hS.own (i := 1) rfl) (by omega))) ?_
 intro u
 refine MV ?_
 refine MW ?_ (v := .int .i64 0)
 refine MV ?_
 refine MW ?_ (v := .int .i64 0)
 refine MZ fun W hS => ?_
 go_wp2
 exact bodyPost_ret (v := .tuple #[u, .int .i64 0]) (by simp only [results, Try.results10]; go_simp) rfl (.inr ⟨by rw [askB_12 hk], _, rfl, by rw [askL_12 hk]; rw [hk] at hS; exact hS.pick [0]⟩)
theorem ask_o {q : Rq} {iv lv vv bv : Value} (h1 : 1 ≤ q.k) (h2 : q.k ≤ 12) (hk : q.k ≠ 1 ∧ q.k ≠ 5 ∧ q.k ≠ 6 ∧ q.k ≠ 7 ∧ q.k ≠ 8 ∧ q.k ≠ 10 ∧ q.k ≠ 12) (w : World) (hid : Sl w iv q.id) (hlab : Sl w lv q.lab) (hval : Sl w vv q.val) (hbun : Sl w bv q.bun) :
  Calls Try.prog 10 #[.agg (rqF q iv lv vv bv)] w fun e w' => (askB q = true ∧ Ret (.tuple #[.slice none 0 0, .int .i64 2]) w w' e) ∨ (askB q = false ∧ ∃ u, e = .returned (.tuple #[u, .int .i64 0]) ∧ SH [] w w' [.o u (askL q)]) := by
 have hS := SH.nil [] w
 go_enter Try.func10, Try.ntmps10
 go_upto_region 0 with fail
 refine RL hS ?_
 clear hS
 refine MN (z := agF [.c (.int .i64 q.k), .c iv, .a 32 q.vrf, .a 32 q.bind, .c (.int .i64 q.l0), .c (.int .i64 q.l1), .c (.int .i64 q.l2), .c (.int .i64 q.per), .c lv, .c vv, .c (.int .i64 q.fr), .c (.int .i64 q.ti), .c bv]) (t := 33) ?_
 intro p1_1
 refine MV ?_
 refine MW ?_ (v := .int .i64 0)
 refine MZ fun W hS => ?_
 go_upto_region 1 with fail
 refine RL hS ?_
 clear hS
 refine MW ?_ (v := .agg #[.slice none 0 0, .bool false, .bool false]) (hv := by intro W; first | rfl | kernel_rfl)
 refine MN (z := #[.slice none 0 0, .bool false, .bool false]) (t := 96) ?_
 intro p6_2
 refine MT (fun W hS => hS.onil rfl) ?_
 refine MV ?_
 refine MZ fun W hS => ?_
 go_upto_region 2 with fail
 refine RTp [2] (.q 0 (.q 1 (.q 2 (.q 3 (.q 4 (.e 5 .z)))))) hS ?_
 clear hS
 refine TV ?_
 refine TV ?_
 refine TV ?_
 refine TV ?_
 refine TG 0 ?_ (v := .int .i64 q.k) (hj := (agF_cel 0))
 refine TE (fun _ h => h.pick [2]) ?_
 refine ME (V := fun _ => .tuple #[]) (fun W hS => callX [1, 0] [2] hS (fun hT => wr_call hT (fun hw => wbyte_i (n := q.k) (l := []) (by omega) hw (by first | omega | decide))) (fun _ => ⟨.inr ⟨rfl, rfl⟩, .inr ⟨rfl, rfl⟩, trivial⟩)) ?_
 intro w3
 have hb_4 : ([] ++ [u8 q.k.toNat]).length ≤ 1 := (by simp only [List.length_append, List.length_cons, List.length_nil, lb_length, eI_len, tB_len]; omega)
 refine TNp [2] [0] ?_
 refine TZ (fun _ h => h.pick [2]) fun W hS => ?_
 go_upto_region 3 with fail
 refine RL hS ?_
 clear hS
 refine MV ?_
 refine MG 2 ?_ (v := .int .i64 q.k) (hj := (agF_cel 0))
 refine MW ?_ (v := .bool false) (hv := by intro W; go_simp; first | done | omega)
 refine MW ?_ (v := .bool false)
 refine MV ?_
 refine MG 2 ?_ (v := .int .i64 q.k) (hj := (agF_cel 0))
 refine MW ?_ (v := .bool false) (hv := by intro W; go_simp; first | done | omega)
 refine MW ?_ (v := .bool false)
 refine MZ fun W hS => ?_
 go_upto_region 5 with fail
 refine RL hS ?_
 clear hS
 refine MV ?_
 refine MG 2 ?_ (v := .int .i64 q.k) (hj := (agF_cel 0))
 refine MW ?_ (v := .bool true) (hv := by intro W; go_simp; first | done | omega | decide)
 refine MW ?_ (v := .bool true)
 refine MV ?_
 refine MG 2 ?_ (v := .int .i64 q.k) (hj := (agF_cel 0))
 refine MW ?_ (v := .bool true) (hv := by intro W; go_simp; first | done | omega | decide)
 refine MW ?_ (v := .bool true)
 refine MZ fun W hS => ?_
 go_upto_region 6 with fail
 refine RL hS ?_
 clear hS
 refine MV ?_
 refine MV ?_
 refine MG 2 ?_ (v := iv) (hj := (agF_cel 1))
 refine MT (fun W hS => hS.ent hid) ?_
 refine ME (V := fun _ => .tuple #[]) (fun W hS => callX [1, 2, 0] [3] hS (fun hT => wtext_n (p := p6_2) (v := w3) (l := [] ++ [u8 q.k.toNat]) (bad := false) (u := iv) (t := q.id) 16 (by decide) (by first | omega | decide) W hT) (fun _ => ⟨.inr ⟨rfl, rfl⟩, .inr ⟨rfl, rfl⟩, .inl (by simp), trivial⟩)) ?_
 intro w5
 have hb_6 : (txL 16 q.id ([] ++ [u8 q.k.toNat])).length ≤ 19 := Nat.le_trans (txL_le (m := 16) rfl) (by omega)
 refine MZ fun W hS => ?_
 go_upto_region 7 with fail
 refine RL hS ?_
 clear hS
 refine MV ?_
 refine MG 3 ?_ (v := .int .i64 q.k) (hj := (agF_cel 0))
 refine MZ fun W hS => ?_
 go_upto_region 8 with fail
 refine RL hS ?_
 clear hS
 refine MW ?_ (v := .bool false) (hv := by intro W; go_simp; first | done | omega | decide)
 refine MW ?_ (v := .bool false)
 refine MZ fun W hS => ?_
 go_upto_region 10 with fail
 refine RL hS ?_
 clear hS
 refine MW ?_ (v := .bool false) (hv := by intro W; go_simp; first | done | omega | decide)
 refine MW ?_ (v := .bool false)
 refine MZ fun W hS => ?_
 go_upto_region 11 with fail
 refine RL hS ?_
 clear hS
 refine MW ?_ (v := .bool false) (hv := by intro W; go_simp; first | done | omega | decide)
 refine MW ?_ (v := .bool false)
 refine MZ fun W hS => ?_
 go_upto_region 12 with fail
 refine RL hS ?_
 clear hS
 refine MW ?_ (v := .bool false) (hv := by intro W; go_simp; first | done | omega | decide)
 refine MW ?_ (v := .bool false)
 refine MZ fun W hS => ?_
 go_upto_region 14 with fail
 refine RL hS ?_
 clear hS
 refine MW ?_ (v := .bool false) (hv := by intro W; go_simp; first | done | omega | decide)
 refine MW ?_ (v := .bool false)
 refine MZ fun W hS => ?_
 go_upto_region 16 with fail
 refine RL hS ?_
 clear hS
 refine MV ?_
 refine MG 3 ?_ (v := .int .i64 q.k) (hj := (agF_cel 0))
 refine MZ fun W hS => ?_
 go_upto_region 17 with fail
 refine RL hS ?_
 clear hS
 refine MW ?_ (v := .bool false) (hv := by intro W; go_simp; first | done | omega | decide)
 refine MW ?_ (v := .bool false)
 refine MZ fun W hS => ?_
 go_upto_region 19 with fail
 refine RL hS ?_
 clear hS
 refine MW ?_ (v := .bool false) (hv := by intro W; go_simp; first | done | omega | decide)
 refine MW ?_ (v := .bool false)
 refine MZ fun W hS => ?_
 go_upto_region 21 with fail
 refine RL hS ?_
 clear hS
 refine MW ?_ (v := .bool false) (hv := by intro W; go_simp; first | done | omega | decide)
 refine MW ?_ (v := .bool false)
 refine MZ fun W hS => ?_
 go_upto_region 22 with fail
 refine RL hS ?_
 clear hS
 refine MW ?_ (v := .bool false) (hv := by intro W; go_simp; first | done | omega | decide)
 refine MW ?_ (v := .bool false)
 refine MZ fun W hS => ?_
 rcases bool_or (txB 16 q.id false) with hb | hb
 ·
  have _f := True.intro
  go_upto_region 25 with fail
  refine RL hS ?_
  clear hS
  refine MV ?_
  refine MT (fun W hS => by rw [hb] at hS; exact hS) ?_
  refine MC (v := .tuple #[.slice none 0 0, .int .i64 2]) (fun W hS => done_bad p6_2 w5 (txL 16 q.id ([] ++ [u8 q.k.toNat])) W (hS.blk (i := 0) rfl) (hS.own (i := 1) rfl) (by omega)) ?_
  refine MV ?_
  refine MW ?_ (v := .int .i64 2)
  refine MV ?_
  refine MW ?_ (v := .int .i64 2)
  refine MZ fun W hS => ?_
  go_wp2
  exact bodyPost_ret (v := .tuple #[.slice none 0 0, .int .i64 2]) (by simp only [results, Try.results10]; go_simp) rfl (.inl ⟨by rw [askB_o hk]; exact hb, rfl, hS.ext⟩)
 ·
  have _f := True.intro
  go_upto_region 25 with fail
  refine RL hS ?_
  clear hS
  refine MV ?_
  refine MT (fun W hS => by rw [hb] at hS; exact hS) ?_
  refine ME (V := fun u => .tuple #[u, .int .i64 0]) (fun W hS => ncallW hS (done_ok p6_2 w5 (txL 16 q.id ([] ++ [u8 q.k.toNat])) W (hS.blk (i := 0) rfl) (hS.own (i := 1) rfl) (by omega))) ?_
  intro u
  refine MV ?_
  refine MW ?_ (v := .int .i64 0)
  refine MV ?_
  refine MW ?_ (v := .int .i64 0)
  refine MZ fun W hS => ?_
  go_wp2
  exact bodyPost_ret (v := .tuple #[u, .int .i64 0]) (by simp only [results, Try.results10]; go_simp) rfl (.inr ⟨by rw [askB_o hk]; exact hb, _, rfl, by rw [askL_o hk]; exact hS.pick [0]⟩)
theorem ask_none {q : Rq} {iv lv vv bv : Value} (hk : q.k < 1 ∨ 12 < q.k) (w : World) (hid : Sl w iv q.id) (hlab : Sl w lv q.lab) (hval : Sl w vv q.val) (hbun : Sl w bv q.bun) :
  Calls Try.prog 10 #[.agg (rqF q iv lv vv bv)] w fun e w' => Ret (.tuple #[.slice none 0 0, .int .i64 2]) w w' e := by
 have hS := SH.nil [] w
 go_enter Try.func10, Try.ntmps10
 go_upto_region 0 with fail
 refine RL hS ?_
 clear hS
 refine MN (z := agF [.c (.int .i64 q.k), .c iv, .a 32 q.vrf, .a 32 q.bind, .c (.int .i64 q.l0), .c (.int .i64 q.l1), .c (.int .i64 q.l2), .c (.int .i64 q.per), .c lv, .c vv, .c (.int .i64 q.fr), .c (.int .i64 q.ti), .c bv]) (t := 33) ?_
 intro p1_1
 refine MV ?_
 refine MW ?_ (v := .int .i64 0)
 refine MZ fun W hS => ?_
 go_upto_region 1 with fail
 refine RL hS ?_
 clear hS
 refine MW ?_ (v := .agg #[.slice none 0 0, .bool false, .bool false]) (hv := by intro W; first | rfl | kernel_rfl)
 refine MN (z := #[.slice none 0 0, .bool false, .bool false]) (t := 96) ?_
 intro p6_2
 refine MT (fun W hS => hS.onil rfl) ?_
 refine MV ?_
 refine MZ fun W hS => ?_
 go_upto_region 2 with fail
 refine RTp [2] (.q 0 (.q 1 (.q 2 (.q 3 (.q 4 (.e 5 .z)))))) hS ?_
 clear hS
 refine TV ?_
 refine TV ?_
 refine TV ?_
 refine TV ?_
 refine TG 0 ?_ (v := .int .i64 q.k) (hj := (agF_cel 0))
 refine TE (fun _ h => h.pick [2]) ?_
 refine ME (V := fun _ => .tuple #[]) (fun W hS => callX [1, 0] [2] hS (fun hT => wr_call hT (fun hw => wbyte_c (l := []) hw (by decide))) (fun _ => ⟨.inr ⟨rfl, rfl⟩, .inr ⟨rfl, rfl⟩, trivial⟩)) ?_
 intro w3
 refine TNp [2] [0] ?_
 refine TZ (fun _ h => h.pick [2]) fun W hS => ?_
 by_cases hlt : q.k < 1
 ·
  have _f := hlt
  go_upto_region 3 with fail
  refine RL hS ?_
  clear hS
  refine MV ?_
  refine MG 2 ?_ (v := .int .i64 q.k) (hj := (agF_cel 0))
  refine MW ?_ (v := .bool true) (hv := by intro W; go_simp; first | done | omega)
  refine MW ?_ (v := .bool true)
  refine MS ?_
  refine MS ?_
  refine MS ?_
  refine MW ?_ (v := .bool true)
  refine MZ fun W hS => ?_
  go_wp2
  exact bodyPost_ret (v := .tuple #[.slice none 0 0, .int .i64 2]) (by simp only [results, Try.results10]; go_simp) rfl ⟨rfl, hS.ext⟩
 ·
  have _f := hlt
  go_upto_region 3 with fail
  refine RL hS ?_
  clear hS
  refine MV ?_
  refine MG 2 ?_ (v := .int .i64 q.k) (hj := (agF_cel 0))
  refine MW ?_ (v := .bool false) (hv := by intro W; go_simp; first | done | omega)
  refine MW ?_ (v := .bool false)
  refine MV ?_
  refine MG 2 ?_ (v := .int .i64 q.k) (hj := (agF_cel 0))
  refine MW ?_ (v := .bool true) (hv := by intro W; go_simp; first | done | omega)
  refine MW ?_ (v := .bool true)
  refine MZ fun W hS => ?_
  go_wp2
  exact bodyPost_ret (v := .tuple #[.slice none 0 0, .int .i64 2]) (by simp only [results, Try.results10]; go_simp) rfl ⟨rfl, hS.ext⟩
/-- is it a kind? -/
def isK (k : Int) : Prop := 1 ≤ k ∧ k ≤ 12
instance (k : Int) : Decidable (isK k) := by unfold isK; exact inferInstance
theorem ask_c {q : Rq} {iv lv vv bv : Value} (w : World) (hid : Sl w iv q.id) (hlab : Sl w lv q.lab) (hval : Sl w vv q.val) (hbun : Sl w bv q.bun) :
 Calls Try.prog 10 #[.agg (rqF q iv lv vv bv)] w fun e w' => ((¬ isK q.k ∨ askB q = true) ∧ Ret (.tuple #[.slice none 0 0, .int .i64 2]) w w' e) ∨ ((isK q.k ∧ askB q = false) ∧ ∃ u, e = .returned (.tuple #[u, .int .i64 0]) ∧ SH [] w w' [.o u (askL q)]) := by
 by_cases hK : isK q.k
 ·
  have lift : ∀ {e w'}, ((askB q = true ∧ Ret (.tuple #[.slice none 0 0, .int .i64 2]) w w' e) ∨ (askB q = false ∧ ∃ u, e = .returned (.tuple #[u, .int .i64 0]) ∧ SH [] w w' [.o u (askL q)])) → (((¬ isK q.k ∨ askB q = true) ∧ Ret (.tuple #[.slice none 0 0, .int .i64 2]) w w' e) ∨ ((isK q.k ∧ askB q = false) ∧ ∃ u, e = .returned (.tuple #[u, .int .i64 0]) ∧ SH [] w w' [.o u (askL q)])) := by
   rintro e w' (⟨h1, h2⟩ | ⟨h1, h2⟩)
   ·
    exact .inl ⟨.inr h1, h2⟩
   ·
    exact .inr ⟨⟨hK, h1⟩, h2⟩
  by_cases h1 : q.k = 1
  ·
   exact (ask_1 h1 w hid hlab hval hbun).mono fun _ _ => lift
  by_cases h5 : q.k = 5
  ·
   exact (ask_5 h5 w hid hlab hval hbun).mono fun _ _ => lift
  by_cases h6 : q.k = 6
  ·
   exact (ask_6 h6 w hid hlab hval hbun).mono fun _ _ => lift
  by_cases h7 : q.k = 7
  ·
   exact (ask_7 h7 w hid hlab hval hbun).mono fun _ _ => lift
  by_cases h8 : q.k = 8
  ·
   exact (ask_8 h8 w hid hlab hval hbun).mono fun _ _ => lift
  by_cases h10 : q.k = 10
  ·
   exact (ask_10 h10 w hid hlab hval hbun).mono fun _ _ => lift
  by_cases h12 : q.k = 12
  ·
   exact (ask_12 h12 w hid hlab hval hbun).mono fun _ _ => lift
  exact (ask_o hK.1 hK.2 ⟨h1, h5, h6, h7, h8, h10, h12⟩ w hid hlab hval hbun).mono fun _ _ => lift
 ·
  exact (ask_none (by unfold isK at hK; omega) w hid hlab hval hbun).mono fun _ _ h => .inl ⟨.inl hK, h⟩
end Go.Proofs.Ytlbgelbhhibikaa.Ww

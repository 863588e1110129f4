/- wire: Told. Conditions: memory holds what is written. -/
import Derived.Test.YtlbgelbhhibikaaYi
set_option linter.unusedSimpArgs false
set_option linter.unusedVariables false
namespace Go.Proofs.Ytlbgelbhhibikaa.Ww
set_option maxHeartbeats 12000000
set_option maxRecDepth 100000
open Go.RowKit
attribute [local irreducible] wpList wpTr wpX
set_option linter.unusedSimpArgs false
theorem rest_c {r p q : Nat} {v : Value} {k er : Int} {s : RSt} (hb0 : s.1.length ≤ 1000000) (w : World) (h_ : SH [r, p, q] w w (.b q (anF (zA k er) zV) 85 :: wrdL r p v s false)) :
  Calls Try.prog 54 #[.pointer (some ⟨r, 0, none⟩), .pointer (some ⟨q, 0, none⟩)] w fun e w' => RestR r p q v k er s w w' e := by
 by_cases h1 : k = 1
 ·
  exact rest_1 h1 hb0 w h_
 by_cases h2 : k = 10
 ·
  exact rest_10 h2 hb0 w h_
 by_cases h3 : k = 6
 ·
  exact rest_6 h3 hb0 w h_
 by_cases h4 : k = 7
 ·
  exact rest_7 h4 hb0 w h_
 by_cases h5 : k = 8
 ·
  exact rest_8 h5 hb0 w h_
 by_cases h6 : k = 9
 ·
  exact rest_9 h6 hb0 w h_
 by_cases h7 : k = 11
 ·
  exact rest_11 h7 hb0 w h_
 by_cases h8 : k = 12
 ·
  exact rest_12 h8 hb0 w h_
 exact rest_o ⟨h1, h2, h3, h4, h5, h6, h7, h8⟩ hb0 w h_
theorem rqcall {F : List Nat} {w W : World} {H R : List As} {r p q : Nat} {v : Value} {k er : Int} {s : RSt} (hb0 : s.1.length ≤ 1000000) (I J : List Nat) (hS : SH F w W H)
  (ok : R.all (fun y => SH.tyOk (.b r #[] 115) y && (SH.tyOk (.b p #[] 141) y && SH.tyOk (.b q #[] 85) y)) = true)
  (hI : pk H I = [.b r #[.pointer (some ⟨p, 0, none⟩), .bool false] 115, .b p #[v, .int .i64 s.2] 141, .b q (anF (zA k er) zV) 85, .s v s.1] := by exact rfl) (hJ : pk H J = R := by exact rfl) (hn : (I ++ J).Nodup := by decide) :
  Calls Try.prog 54 #[.pointer (some ⟨r, 0, none⟩), .pointer (some ⟨q, 0, none⟩)] W fun e W' => ∃ x : { y : (Av × List Value) × Value // Sub y.2 (rS k s).1 (sb v s.1) ∧ (∀ b ∈ anFt (rA k er y.1.2 s) y.1.1, w.heap.size ≤ b) ∧ (k = 7 → cV 1024 s = y.1.2.length) }, e = .returned (.tuple #[]) ∧ SH F w W' (anT (rA k er x.1.1.2 s) x.1.1.1 :: .s x.1.2 (rS k s).1 :: .b r #[.pointer (some ⟨p, 0, none⟩), .bool (rB k s)] 115 :: .b p #[x.1.2, .int .i64 (rS k s).2] 141 :: .b q (anF (rA k er x.1.1.2 s) x.1.1.1) 85 :: R) := by
 subst hJ
 have h : SH F w W ([.b r #[.pointer (some ⟨p, 0, none⟩), .bool false] 115, .b p #[v, .int .i64 s.2] 141, .b q (anF (zA k er) zV) 85, .s v s.1] ++ pk H J) := hS.pick (I ++ J) (by rw [← hI]; exact pk_app H I J) hn
 have h0 : SH [r, p, q] W W (.b q (anF (zA k er) zV) 85 :: wrdL r p v s false) := h.here.pick [2, 0, 1, 3] rfl (by decide)
 refine (rest_c hb0 W h0).mono fun e W' ⟨x, v', h1, h2, h3, h9, h7⟩ => ⟨⟨(x, v'), h3, fun b hb => Nat.le_trans hS.size (h9 b hb), h7⟩, h1, ?_⟩
 have h4 : SH (SH.feet [.b r #[.pointer (some ⟨p, 0, none⟩), .bool false] 115, .b p #[v, .int .i64 s.2] 141, .b q (anF (zA k er) zV) 85]) W W' [.b r #[.pointer (some ⟨p, 0, none⟩), .bool (rB k s)] 115, .b p #[v', .int .i64 (rS k s).2] 141, .b q (anF (rA k er x.2 s) x.1) 85] := h2.tl.tl
 have hall : ∀ y ∈ pk H J, SH.tyOk (.b r #[] 115) y = true ∧ SH.tyOk (.b p #[] 141) y = true ∧ SH.tyOk (.b q #[] 85) y = true := fun y hy => by
  have := List.all_eq_true.1 ok y hy
  rw [Bool.and_eq_true, Bool.and_eq_true] at this; exact this
 have h5 := SH.frame (L := [.b r #[.pointer (some ⟨p, 0, none⟩), .bool false] 115, .b p #[v, .int .i64 s.2] 141, .b q (anF (zA k er) zV) 85]) (R := .s v s.1 :: pk H J) h h4 ⟨.inr ⟨rfl, List.all_eq_true.2 fun y hy => (List.mem_cons.1 hy).elim (fun e => by subst e; rfl) fun hy => (hall y hy).1⟩, .inr ⟨rfl, List.all_eq_true.2 fun y hy => (List.mem_cons.1 hy).elim (fun e => by subst e; rfl) fun hy => (hall y hy).2.1⟩, .inr ⟨rfl, List.all_eq_true.2 fun y hy => (List.mem_cons.1 hy).elim (fun e => by subst e; rfl) fun hy => (hall y hy).2.2⟩, trivial⟩
 have h6 := h5.sub (i := 3) (u := v') (l' := (rS k s).1) rfl (h2.sl (i := 1) rfl) h3
 have hp := h2.ap
 rw [List.pairwise_cons] at hp
 refine SH.addq (h6.less ?_) (h2.all _ (List.mem_cons_self ..)) fun z hz hm b hb hb' => ?_
 ·
  exact List.Sublist.cons_cons _ (List.Sublist.cons_cons _ (List.Sublist.cons_cons _ (List.Sublist.cons_cons _ (List.sublist_cons_self _ _))))
 ·
  have hz' : z ∈ [As.s v' (rS k s).1, .b r #[.pointer (some ⟨p, 0, none⟩), .bool (rB k s)] 115, .b p #[v', .int .i64 (rS k s).2] 141, .b q (anF (rA k er x.2 s) x.1) 85] ∨ z ∈ pk H J := List.mem_append.1 (by simpa using hz)
  rcases hz' with hz' | hz'
  ·
   exact (hp.1 z hz').2 hm b hb hb'
  ·
   have := As.lt (h.all z (List.mem_append.2 (.inr hz'))) b hb
   exact Nat.not_lt.2 (h9 b hb') this
theorem anF_one {a : An} {v : Av} {w : World} (h : AnR a v w) : (anF a v).all (·.oneCell') = true :=
 agF_one ⟨rfl, rfl, rfl, rfl, rfl, rfl, (sl_cells h.fv).2, (rr_cells h.fs).2, rfl, rfl, (rr_cells h.lat).2, (rr_cells h.us).2, rfl, rfl, (rr_cells h.uu).2, (rr_cells h.en.1).2, (rr_cells h.mks).2, (sl_cells h.mi).2, rfl, rfl, (sl_cells h.bun).2, (rr_cells h.su).2, trivial⟩
/-- the reader behind the kind, and behind the error -/
def sT1 (l : List UInt8) : RSt := tkS 1 (l, 0)
def sT2 (l : List UInt8) : RSt := tkS 1 (sT1 l)
abbrev kT (l : List UInt8) : Int := (byV (l, 0) : Int)
abbrev eT (l : List UInt8) : Int := (byV (sT1 l) : Int)
/-- what bytes tell; are they an answer's? -/
def toldA (l : List UInt8) (us : List Value) : An := if byV (sT1 l) = 0 then rA (kT l) (eT l) us (sT2 l) else zA (kT l) (eT l)
def okT (bad : Bool) (s : RSt) : Bool := !bad && decide (enV s = 0)
theorem wright_o {r p : Nat} {v : Value} {s : RSt} {bad : Bool} (w : World) (hr : Blk w r #[.pointer (some ⟨p, 0, none⟩), .bool bad] 115) (hrd : Rdr w p v s.1 s.2) : Calls Try.prog 41 #[.pointer (some ⟨r, 0, none⟩)] w fun e w' => Ret (.bool (okT bad s)) w w' e := wright_a w hr hrd
def toldO (l : List UInt8) : Bool := !decide (12 < byV (l, 0)) && (if byV (sT1 l) = 0 then okT (rB (kT l) (sT2 l)) (rS (kT l) (sT2 l)) else okT false (sT2 l))
/-- Told's answer -/
def ToldR (l : List UInt8) (w w' : World) (e : Ending) : Prop := (toldO l = false ∧ Ret (.tuple #[.agg (anF (zA 0 0) zV), .int .i64 2]) w w' e) ∨ (toldO l = true ∧ ∃ x : Av × List Value, e = .returned (.tuple #[.agg (anF (toldA l x.2) x.1), .int .i64 0]) ∧ SH [] w w' [anT (toldA l x.2) x.1] ∧ (∀ b ∈ anFt (toldA l x.2) x.1, w.heap.size ≤ b) ∧ (byV (sT1 l) = 0 → kT l = 7 → cV 1024 (sT2 l) = x.2.length))
attribute [local irreducible] lb be8 eI tB txL txB txV txS tkS byV nuV suV enV takeM flV flS rawV rawB pB2 rFS rFB rA rS rB okT


theorem told_c {u : Value} {l : List UInt8} (hl : l.length ≤ 1000000) (w : World) (hs : Sl w u l) :
  Calls Try.prog 25 #[u] w fun e w' => ToldR l w w' e := by
 have hb0 : ((l, 0) : RSt).1.length ≤ 1000000 := hl
 have hS := SH.nil [] w
 go_enter Try.func25, Try.ntmps25
 go_upto_region 0 with fail
 refine RL hS ?_
 clear hS
 refine MN (z := agF (.c (.int .i64 0) :: .c (.int .i64 0) :: .c (.int .i64 0) :: .c (.int .i64 0) :: .a 32 0 :: .a 80 0 :: .c (.bool false) :: .c (.int .i64 0) :: .c (.slice none 0 0) :: .a 32 0 :: .a 32 0 :: .c (.slice none 0 0) :: .c (.bool false) :: .a 32 0 :: .a 32 0 :: .a 32 0 :: .a 32 0 :: .a 32 0 :: .c (.int .i64 0) :: .a 32 0 :: .c (.slice none 0 0) :: .c (.slice none 0 0) :: .c (.bool false) :: .a 32 0 :: .a 32 0 :: .c (.int .i64 0) :: .a 32 0 :: .a 64 0 :: .a 32 0 :: .c (.slice none 0 0) :: .c (.slice none 0 0) :: .c (.slice none 0 0) :: .c (.slice none 0 0) :: .c (.bool false) :: .c (.int .i64 0) :: .a 32 0 :: .c (.slice none 0 0) :: .a 32 0 :: .c (.slice none 0 0) :: [])) (t := 85) ?_
 intro p2_1
 refine MW ?_ (v := .int .i64 0)
 refine MZ fun W hS => ?_
 go_upto_region 1 with fail
 refine RL hS ?_
 clear hS
 refine MV ?_
 refine ME (V := fun x : Nat × Nat × Value => .pointer (some ⟨x.1, 0, none⟩)) (fun W hS => ncallL hS (wread_c (by omega) W (sl_e hs hS.ext)) (fun _ => rfl)) ?_
 rintro ⟨r, p, rv⟩
 dsimp only
 refine MV ?_
 refine MZ fun W hS => ?_
 go_upto_region 2 with fail
 refine RJ (R := fun a_ w_ => ∃ (j2_0 : Nat), ∃ (j2_1 : Value), a_ = { tmps := #[u, undef, .pointer (some ⟨p2_1, 0, none⟩), .int .i64 0, .pointer (some ⟨r, 0, none⟩), .pointer (some ⟨j2_0, 0, none⟩), u, .pointer (some ⟨r, 0, none⟩), .pointer (some ⟨r, 0, none⟩), .pointer (some ⟨r, 0, none⟩), .pointer (some ⟨r, 0, none⟩), .pointer (some ⟨p, 0, none⟩), .int .i64 (byV (l, 0) : Int), .pointer (some ⟨r, 0, none⟩), .pointer (some ⟨r, 0, none⟩), .pointer (some ⟨r, 0, none⟩), .pointer (some ⟨p, 0, none⟩), .int .i64 (byV (sT1 l) : Int), .agg (anF (zA (kT l) (eT l)) zV), undef, undef, undef, undef, undef, undef, undef, undef, undef, undef, undef, undef, undef, undef], defers := [] } ∧ SH [] w w_ [.b j2_0 (anF (zA (kT l) (eT l)) zV) 85, .b p #[j2_1, .int .i64 (sT2 l).2] 141, .b r #[.pointer (some ⟨p, 0, none⟩), .bool false] 115, .s j2_1 ((sT2 l).1), .b p2_1 (anF (zA 0 0) zV) 85]) ?_ ?_
 ·
  skip
  refine RTp [0, 3] (.q 0 (.q 1 (.q 2 (.q 3 (.q 5 (.q 6 (.q 7 (.q 8 (.b 4 (.b 9 (.q 10 (.e 11 (.e 12 .z))) 11 (.e 9 (.q 10 (.e 12 .z)))) 11 (.e 4 (.e 9 (.q 10 (.e 12 .z))))))))))))) hS ?_
  clear hS
  refine TV ?_
  refine TV ?_
  refine TV ?_
  refine TG 0 ?_ (v := .pointer (some ⟨p, 0, none⟩))
  refine TV ?_
  refine TV ?_
  refine TV ?_
  refine TG 0 ?_ (v := .pointer (some ⟨p, 0, none⟩))
  refine TB (fun _ h => h.pick [0, 3]) ?_ ?_
  ·
   skip
   refine ME (V := fun _ => .int .i64 (byV (l, 0) : Int)) (fun W hS => rdcall (i := 1) (j := 2) hS rfl rfl (fun hr => rbyte_t (s := (l, 0)) hr (by have := hb0; omega))) ?_
   rintro ⟨rv2, hs_2⟩
   dsimp only
   refine MD 3 ?_
   have hb_3 : (sT1 l).1.length ≤ 1000000 := Nat.le_trans (tkS_len _ _) hb0
   refine MT (H' := [.s rv2 ((sT1 l).1), .b r #[.pointer (some ⟨p, 0, none⟩), .bool false] 115, .b p #[rv2, .int .i64 (sT1 l).2] 141, .b p2_1 (anF (zA 0 0) zV) 85]) (fun W hS => hS) ?_
   refine TNp [1, 3] [0, 1] ?_
   refine TB (fun _ h => h.pick [1, 3]) ?_ ?_
   ·
    skip
    refine ME (V := fun _ => .int .i64 (byV (sT1 l) : Int)) (fun W hS => rdcall (i := 2) (j := 0) hS rfl rfl (fun hr => rbyte_t (s := sT1 l) hr (by have := hb_3; omega))) ?_
    rintro ⟨rv4, hs_4⟩
    dsimp only
    refine MD 1 ?_
    have hb_5 : (sT2 l).1.length ≤ 1000000 := Nat.le_trans (tkS_len _ _) hb_3
    refine MT (H' := [.s rv4 ((sT2 l).1), .b r #[.pointer (some ⟨p, 0, none⟩), .bool false] 115, .b p #[rv4, .int .i64 (sT2 l).2] 141, .b p2_1 (anF (zA 0 0) zV) 85]) (fun W hS => hS) ?_
    refine TNp [1, 3] [0, 1] ?_
    refine TF (v := .agg (anF (zA (kT l) (eT l)) zV)) rfl (fun W hS => run_bld rfl rfl zer_wire_Answer plc_wire_Answer (fill_c (fill_c fill_n (l' := [.c (.int .i64 (byV (l, 0) : Int)), .c (.int .i64 (byV (sT1 l) : Int)), .c (.int .i64 0), .c (.int .i64 0), .a 32 0, .a 80 0, .c (.bool false), .c (.int .i64 0), .c (.slice none 0 0), .a 32 0, .a 32 0, .c (.slice none 0 0), .c (.bool false), .a 32 0, .a 32 0, .a 32 0, .a 32 0, .a 32 0, .c (.int .i64 0), .a 32 0, .c (.slice none 0 0), .c (.slice none 0 0), .c (.bool false), .a 32 0, .a 32 0, .c (.int .i64 0), .a 32 0, .a 64 0, .a 32 0, .c (.slice none 0 0), .c (.slice none 0 0), .c (.slice none 0 0), .c (.slice none 0 0), .c (.bool false), .c (.int .i64 0), .a 32 0, .c (.slice none 0 0), .a 32 0, .c (.slice none 0 0)]) (m := [.c (.int .i64 (byV (sT1 l) : Int))]) (hv := rfl) (hs := agF_setp (off := 1) 1 1) (hp := rfl) (hn := rfl) (hb := by show 1 + 1 ≤ 646; decide)) (l' := [.c (.int .i64 (byV (l, 0) : Int)), .c (.int .i64 0), .c (.int .i64 0), .c (.int .i64 0), .a 32 0, .a 80 0, .c (.bool false), .c (.int .i64 0), .c (.slice none 0 0), .a 32 0, .a 32 0, .c (.slice none 0 0), .c (.bool false), .a 32 0, .a 32 0, .a 32 0, .a 32 0, .a 32 0, .c (.int .i64 0), .a 32 0, .c (.slice none 0 0), .c (.slice none 0 0), .c (.bool false), .a 32 0, .a 32 0, .c (.int .i64 0), .a 32 0, .a 64 0, .a 32 0, .c (.slice none 0 0), .c (.slice none 0 0), .c (.slice none 0 0), .c (.slice none 0 0), .c (.bool false), .c (.int .i64 0), .a 32 0, .c (.slice none 0 0), .a 32 0, .c (.slice none 0 0)]) (m := [.c (.int .i64 (byV (l, 0) : Int))]) (hv := rfl) (hs := agF_setp (off := 0) 0 1) (hp := rfl) (hn := rfl) (hb := by show 0 + 1 ≤ 646; decide))) ?_
    refine TE (fun _ h => h.pick [1, 3]) ?_
    refine MN (z := agF (.c (.int .i64 0) :: .c (.int .i64 0) :: .c (.int .i64 0) :: .c (.int .i64 0) :: .a 32 0 :: .a 80 0 :: .c (.bool false) :: .c (.int .i64 0) :: .c (.slice none 0 0) :: .a 32 0 :: .a 32 0 :: .c (.slice none 0 0) :: .c (.bool false) :: .a 32 0 :: .a 32 0 :: .a 32 0 :: .a 32 0 :: .a 32 0 :: .c (.int .i64 0) :: .a 32 0 :: .c (.slice none 0 0) :: .c (.slice none 0 0) :: .c (.bool false) :: .a 32 0 :: .a 32 0 :: .c (.int .i64 0) :: .a 32 0 :: .a 64 0 :: .a 32 0 :: .c (.slice none 0 0) :: .c (.slice none 0 0) :: .c (.slice none 0 0) :: .c (.slice none 0 0) :: .c (.bool false) :: .c (.int .i64 0) :: .a 32 0 :: .c (.slice none 0 0) :: .a 32 0 :: .c (.slice none 0 0) :: [])) (t := 85) ?_
    intro p5_6
    refine TNp [2, 4] [0, 1] ?_
    refine TE (fun _ h => h.pick [2, 4]) ?_
    refine MR 0 ?_ (hz := by rw [agF_size]; kernel_rfl) (hs := by first | (rw [agF_size, agF_size]; rfl) | rfl) (h1 := by exact (agF_one ⟨rfl, rfl, rfl, rfl, rfl, rfl, rfl, rfl, rfl, rfl, rfl, rfl, rfl, rfl, rfl, rfl, rfl, rfl, rfl, rfl, rfl, rfl, trivial⟩))
    refine TNp [2, 4] [0, 1] ?_
    refine TZ (fun _ h => h.pick [2, 4]) fun W hS => ?_
    exact ⟨p5_6, rv4, rfl, hS.pick [0, 3, 2, 1, 4]⟩
   ·
    skip
    refine MN (z := agF (.c (.int .i64 0) :: .c (.int .i64 0) :: .c (.int .i64 0) :: .c (.int .i64 0) :: .a 32 0 :: .a 80 0 :: .c (.bool false) :: .c (.int .i64 0) :: .c (.slice none 0 0) :: .a 32 0 :: .a 32 0 :: .c (.slice none 0 0) :: .c (.bool false) :: .a 32 0 :: .a 32 0 :: .a 32 0 :: .a 32 0 :: .a 32 0 :: .c (.int .i64 0) :: .a 32 0 :: .c (.slice none 0 0) :: .c (.slice none 0 0) :: .c (.bool false) :: .a 32 0 :: .a 32 0 :: .c (.int .i64 0) :: .a 32 0 :: .a 64 0 :: .a 32 0 :: .c (.slice none 0 0) :: .c (.slice none 0 0) :: .c (.slice none 0 0) :: .c (.slice none 0 0) :: .c (.bool false) :: .c (.int .i64 0) :: .a 32 0 :: .c (.slice none 0 0) :: .a 32 0 :: .c (.slice none 0 0) :: [])) (t := 85) ?_
    intro p5_7
    refine TNp [2, 4] [0, 1] ?_
    refine TE (fun _ h => h.pick [2, 4]) ?_
    refine ME (V := fun _ => .int .i64 (byV (sT1 l) : Int)) (fun W hS => rdcall (i := 3) (j := 1) hS rfl rfl (fun hr => rbyte_t (s := sT1 l) hr (by have := hb_3; omega))) ?_
    rintro ⟨rv8, hs_8⟩
    dsimp only
    refine MD 2 ?_
    have hb_9 : (sT2 l).1.length ≤ 1000000 := Nat.le_trans (tkS_len _ _) hb_3
    refine MT (H' := [.s rv8 ((sT2 l).1), .b p5_7 (anF (zA 0 0) zV) 85, .b r #[.pointer (some ⟨p, 0, none⟩), .bool false] 115, .b p #[rv8, .int .i64 (sT2 l).2] 141, .b p2_1 (anF (zA 0 0) zV) 85]) (fun W hS => hS) ?_
    refine TNp [2, 4] [0, 1] ?_
    refine TF (v := .agg (anF (zA (kT l) (eT l)) zV)) rfl (fun W hS => run_bld rfl rfl zer_wire_Answer plc_wire_Answer (fill_c (fill_c fill_n (l' := [.c (.int .i64 (byV (l, 0) : Int)), .c (.int .i64 (byV (sT1 l) : Int)), .c (.int .i64 0), .c (.int .i64 0), .a 32 0, .a 80 0, .c (.bool false), .c (.int .i64 0), .c (.slice none 0 0), .a 32 0, .a 32 0, .c (.slice none 0 0), .c (.bool false), .a 32 0, .a 32 0, .a 32 0, .a 32 0, .a 32 0, .c (.int .i64 0), .a 32 0, .c (.slice none 0 0), .c (.slice none 0 0), .c (.bool false), .a 32 0, .a 32 0, .c (.int .i64 0), .a 32 0, .a 64 0, .a 32 0, .c (.slice none 0 0), .c (.slice none 0 0), .c (.slice none 0 0), .c (.slice none 0 0), .c (.bool false), .c (.int .i64 0), .a 32 0, .c (.slice none 0 0), .a 32 0, .c (.slice none 0 0)]) (m := [.c (.int .i64 (byV (sT1 l) : Int))]) (hv := rfl) (hs := agF_setp (off := 1) 1 1) (hp := rfl) (hn := rfl) (hb := by show 1 + 1 ≤ 646; decide)) (l' := [.c (.int .i64 (byV (l, 0) : Int)), .c (.int .i64 0), .c (.int .i64 0), .c (.int .i64 0), .a 32 0, .a 80 0, .c (.bool false), .c (.int .i64 0), .c (.slice none 0 0), .a 32 0, .a 32 0, .c (.slice none 0 0), .c (.bool false), .a 32 0, .a 32 0, .a 32 0, .a 32 0, .a 32 0, .c (.int .i64 0), .a 32 0, .c (.slice none 0 0), .c (.slice none 0 0), .c (.bool false), .a 32 0, .a 32 0, .c (.int .i64 0), .a 32 0, .a 64 0, .a 32 0, .c (.slice none 0 0), .c (.slice none 0 0), .c (.slice none 0 0), .c (.slice none 0 0), .c (.bool false), .c (.int .i64 0), .a 32 0, .c (.slice none 0 0), .a 32 0, .c (.slice none 0 0)]) (m := [.c (.int .i64 (byV (l, 0) : Int))]) (hv := rfl) (hs := agF_setp (off := 0) 0 1) (hp := rfl) (hn := rfl) (hb := by show 0 + 1 ≤ 646; decide))) ?_
    refine TE (fun _ h => h.pick [2, 4]) ?_
    refine MR 1 ?_ (hz := by rw [agF_size]; kernel_rfl) (hs := by first | (rw [agF_size, agF_size]; rfl) | rfl) (h1 := by exact (agF_one ⟨rfl, rfl, rfl, rfl, rfl, rfl, rfl, rfl, rfl, rfl, rfl, rfl, rfl, rfl, rfl, rfl, rfl, rfl, rfl, rfl, rfl, rfl, trivial⟩))
    refine TNp [2, 4] [0, 1] ?_
    refine TZ (fun _ h => h.pick [2, 4]) fun W hS => ?_
    exact ⟨p5_7, rv8, rfl, hS.pick [1, 3, 2, 0, 4]⟩
  ·
   skip
   refine MN (z := agF (.c (.int .i64 0) :: .c (.int .i64 0) :: .c (.int .i64 0) :: .c (.int .i64 0) :: .a 32 0 :: .a 80 0 :: .c (.bool false) :: .c (.int .i64 0) :: .c (.slice none 0 0) :: .a 32 0 :: .a 32 0 :: .c (.slice none 0 0) :: .c (.bool false) :: .a 32 0 :: .a 32 0 :: .a 32 0 :: .a 32 0 :: .a 32 0 :: .c (.int .i64 0) :: .a 32 0 :: .c (.slice none 0 0) :: .c (.slice none 0 0) :: .c (.bool false) :: .a 32 0 :: .a 32 0 :: .c (.int .i64 0) :: .a 32 0 :: .a 64 0 :: .a 32 0 :: .c (.slice none 0 0) :: .c (.slice none 0 0) :: .c (.slice none 0 0) :: .c (.slice none 0 0) :: .c (.bool false) :: .c (.int .i64 0) :: .a 32 0 :: .c (.slice none 0 0) :: .a 32 0 :: .c (.slice none 0 0) :: [])) (t := 85) ?_
   intro p5_10
   refine TNp [1, 4] [0, 1] ?_
   refine TE (fun _ h => h.pick [1, 4]) ?_
   refine ME (V := fun _ => .int .i64 (byV (l, 0) : Int)) (fun W hS => rdcall (i := 2) (j := 3) hS rfl rfl (fun hr => rbyte_t (s := (l, 0)) hr (by have := hb0; omega))) ?_
   rintro ⟨rv11, hs_11⟩
   dsimp only
   refine MD 4 ?_
   have hb_12 : (sT1 l).1.length ≤ 1000000 := Nat.le_trans (tkS_len _ _) hb0
   refine MT (H' := [.s rv11 ((sT1 l).1), .b p5_10 (anF (zA 0 0) zV) 85, .b r #[.pointer (some ⟨p, 0, none⟩), .bool false] 115, .b p #[rv11, .int .i64 (sT1 l).2] 141, .b p2_1 (anF (zA 0 0) zV) 85]) (fun W hS => hS) ?_
   refine TNp [2, 4] [0, 1] ?_
   refine TE (fun _ h => h.pick [2, 4]) ?_
   refine ME (V := fun _ => .int .i64 (byV (sT1 l) : Int)) (fun W hS => rdcall (i := 3) (j := 0) hS rfl rfl (fun hr => rbyte_t (s := sT1 l) hr (by have := hb_12; omega))) ?_
   rintro ⟨rv13, hs_13⟩
   dsimp only
   refine MD 1 ?_
   have hb_14 : (sT2 l).1.length ≤ 1000000 := Nat.le_trans (tkS_len _ _) hb_12
   refine MT (H' := [.s rv13 ((sT2 l).1), .b p5_10 (anF (zA 0 0) zV) 85, .b r #[.pointer (some ⟨p, 0, none⟩), .bool false] 115, .b p #[rv13, .int .i64 (sT2 l).2] 141, .b p2_1 (anF (zA 0 0) zV) 85]) (fun W hS => hS) ?_
   refine TNp [2, 4] [0, 1] ?_
   refine TF (v := .agg (anF (zA (kT l) (eT l)) zV)) rfl (fun W hS => run_bld rfl rfl zer_wire_Answer plc_wire_Answer (fill_c (fill_c fill_n (l' := [.c (.int .i64 (byV (l, 0) : Int)), .c (.int .i64 (byV (sT1 l) : Int)), .c (.int .i64 0), .c (.int .i64 0), .a 32 0, .a 80 0, .c (.bool false), .c (.int .i64 0), .c (.slice none 0 0), .a 32 0, .a 32 0, .c (.slice none 0 0), .c (.bool false), .a 32 0, .a 32 0, .a 32 0, .a 32 0, .a 32 0, .c (.int .i64 0), .a 32 0, .c (.slice none 0 0), .c (.slice none 0 0), .c (.bool false), .a 32 0, .a 32 0, .c (.int .i64 0), .a 32 0, .a 64 0, .a 32 0, .c (.slice none 0 0), .c (.slice none 0 0), .c (.slice none 0 0), .c (.slice none 0 0), .c (.bool false), .c (.int .i64 0), .a 32 0, .c (.slice none 0 0), .a 32 0, .c (.slice none 0 0)]) (m := [.c (.int .i64 (byV (sT1 l) : Int))]) (hv := rfl) (hs := agF_setp (off := 1) 1 1) (hp := rfl) (hn := rfl) (hb := by show 1 + 1 ≤ 646; decide)) (l' := [.c (.int .i64 (byV (l, 0) : Int)), .c (.int .i64 0), .c (.int .i64 0), .c (.int .i64 0), .a 32 0, .a 80 0, .c (.bool false), .c (.int .i64 0), .c (.slice none 0 0), .a 32 0, .a 32 0, .c (.slice none 0 0), .c (.bool false), .a 32 0, .a 32 0, .a 32 0, .a 32 0, .a 32 0, .c (.int .i64 0), .a 32 0, .c (.slice none 0 0), .c (.slice none 0 0), .c (.bool false), .a 32 0, .a 32 0, .c (.int .i64 0), .a 32 0, .a 64 0, .a 32 0, .c (.slice none 0 0), .c (.slice none 0 0), .c (.slice none 0 0), .c (.slice none 0 0), .c (.bool false), .c (.int .i64 0), .a 32 0, .c (.slice none 0 0), .a 32 0, .c (.slice none 0 0)]) (m := [.c (.int .i64 (byV (l, 0) : Int))]) (hv := rfl) (hs := agF_setp (off := 0) 0 1) (hp := rfl) (hn := rfl) (hb := by show 0 + 1 ≤ 646; decide))) ?_
   refine TE (fun _ h => h.pick [2, 4]) ?_
   refine MR 1 ?_ (hz := by rw [agF_size]; kernel_rfl) (hs := by first | (rw [agF_size, agF_size]; rfl) | rfl) (h1 := by exact (agF_one ⟨rfl, rfl, rfl, rfl, rfl, rfl, rfl, rfl, rfl, rfl, rfl, rfl, rfl, rfl, rfl, rfl, rfl, rfl, rfl, rfl, rfl, rfl, trivial⟩))
   refine TNp [2, 4] [0, 1] ?_
   refine TZ (fun _ h => h.pick [2, 4]) fun W hS => ?_
   exact ⟨p5_10, rv13, rfl, hS.pick [1, 3, 2, 0, 4]⟩
 rintro _ W ⟨j2_0, j2_1, rfl, hS⟩
 by_cases hk : 12 < byV (l, 0)
 ·
  have _f := hk
  have hbT : (sT2 l).1.length ≤ 1000000 := Nat.le_trans (tkS_len _ _) (Nat.le_trans (tkS_len _ _) hl)
  go_upto_region 3 with fail
  refine RL hS ?_
  clear hS
  refine MV ?_
  refine MG 0 ?_ (v := .int .i64 (byV (l, 0) : Int)) (hj := (agF_cel (off := 0) 0))
  refine MW ?_ (v := .bool true) (hv := by intro W; go_simp; first | done | omega | simp_all)
  refine MZ fun W hS => ?_
  go_upto_region 4 with fail
  refine RL hS ?_
  clear hS
  refine MF (v := .agg (anF (zA 0 0) zV)) (fun W hS => run_bld rfl rfl zer_wire_Answer plc_wire_Answer fill_n) ?_
  refine MR 4 ?_ (hz := by rw [agF_size]; kernel_rfl) (hs := by first | (rw [agF_size, agF_size]; rfl) | rfl) (h1 := by exact (agF_one ⟨rfl, rfl, rfl, rfl, rfl, rfl, rfl, rfl, rfl, rfl, rfl, rfl, rfl, rfl, rfl, rfl, rfl, rfl, rfl, rfl, rfl, rfl, trivial⟩))
  refine MW ?_ (v := .int .i64 2)
  refine MZ fun W hS => ?_
  go_wp2
  exact bodyPost_ret (res_c2 rfl rfl rfl (hS.blk (i := 4) rfl) (by kernel_rfl) (by rw [agF_size]; kernel_rfl)) rfl (show ToldR _ _ _ _ from .inl ⟨by unfold toldO; rw [decide_eq_true hk]; rfl, rfl, hS.ext⟩)
 ·
  have _f := hk
  have hbT : (sT2 l).1.length ≤ 1000000 := Nat.le_trans (tkS_len _ _) (Nat.le_trans (tkS_len _ _) hl)
  go_upto_region 3 with fail
  refine RL hS ?_
  clear hS
  refine MV ?_
  refine MG 0 ?_ (v := .int .i64 (byV (l, 0) : Int)) (hj := (agF_cel (off := 0) 0))
  refine MW ?_ (v := .bool false) (hv := by intro W; go_simp; first | done | omega | simp_all)
  refine MZ fun W hS => ?_
  by_cases he : byV (sT1 l) = 0
  ·
   have _f := he
   go_upto_region 5 with fail
   refine RL hS ?_
   clear hS
   refine MV ?_
   refine MG 0 ?_ (v := .int .i64 (byV (sT1 l) : Int)) (hj := (agF_cel (off := 1) 1))
   refine MW ?_ (v := .bool true) (hv := by intro W; go_simp; first | done | omega | simp_all)
   refine MZ fun W hS => ?_
   go_upto_region 6 with fail
   refine RL hS ?_
   clear hS
   refine MV ?_
   refine ME (V := fun x : { y : (Av × List Value) × Value // Sub y.2 (rS (kT l) (sT2 l)).1 (sb j2_1 (sT2 l).1) ∧ (∀ b ∈ anFt (rA (kT l) (eT l) y.1.2 (sT2 l)) y.1.1, w.heap.size ≤ b) ∧ ((kT l) = 7 → cV 1024 (sT2 l) = y.1.2.length) } => .tuple #[]) (fun W hS => rqcall (k := (kT l)) (er := (eT l)) (s := sT2 l) hbT [2, 1, 0, 3] [4] hS rfl) ?_
   rintro ⟨⟨⟨av, us⟩, rv15⟩, hs_15, hW, hcu⟩
   dsimp only
   refine MFact (fun W hS => anF_one (hS.pp (i := 0) rfl)) ?_
   intro hone
   refine MZ fun W hS => ?_
   rcases bool_or (okT (rB (kT l) (sT2 l)) (rS (kT l) (sT2 l))) with hr | hr
   ·
    have _f := True.intro
    go_upto_region 7 with fail
    refine RL hS ?_
    clear hS
    refine MV ?_
    refine MC (v := .bool (okT (rB (kT l) (sT2 l)) (rS (kT l) (sT2 l)))) (fun W hS => wright_o (s := rS (kT l) (sT2 l)) (bad := rB (kT l) (sT2 l)) W (hS.blk (i := 2) rfl) (rdr_at hS (i := 3) rfl (j := 1) rfl)) ?_
    refine MW ?_ (v := .bool false) (hv := by intro W; go_simp; first | done | simp [hr])
    refine MZ fun W hS => ?_
    go_upto_region 9 with fail
    refine RL hS ?_
    clear hS
    refine ML 4 ?_ (hs := by rw [agF_size]; kernel_rfl)
    refine MR 5 ?_ (hz := by rw [agF_size]; kernel_rfl) (hs := by rw [agF_size, agF_size]; rfl) (h1 := by exact hone)
    refine MW ?_ (v := .int .i64 0)
    refine MZ fun W hS => ?_
    have hZ := hS.pick [0]
    go_wp2
    exact bodyPost_ret (res_c2 rfl rfl rfl (hS.blk (i := 5) rfl) (by kernel_rfl) (by rw [agF_size]; kernel_rfl)) rfl (show ToldR _ _ _ _ from .inr ⟨by unfold toldO; rw [if_pos he, hr, decide_eq_false hk]; rfl, (av, us), by unfold toldA; rw [if_pos he]; rfl, by unfold toldA; rw [if_pos he]; exact hZ, by unfold toldA; rw [if_pos he]; exact hW, fun _ => hcu⟩)
   ·
    have _f := True.intro
    go_upto_region 7 with fail
    refine RL hS ?_
    clear hS
    refine MV ?_
    refine MC (v := .bool (okT (rB (kT l) (sT2 l)) (rS (kT l) (sT2 l)))) (fun W hS => wright_o (s := rS (kT l) (sT2 l)) (bad := rB (kT l) (sT2 l)) W (hS.blk (i := 2) rfl) (rdr_at hS (i := 3) rfl (j := 1) rfl)) ?_
    refine MW ?_ (v := .bool true) (hv := by intro W; go_simp; first | done | simp [hr])
    refine MZ fun W hS => ?_
    go_upto_region 8 with fail
    refine RL hS ?_
    clear hS
    refine MF (v := .agg (anF (zA 0 0) zV)) (fun W hS => run_bld rfl rfl zer_wire_Answer plc_wire_Answer fill_n) ?_
    refine MR 5 ?_ (hz := by rw [agF_size]; kernel_rfl) (hs := by first | (rw [agF_size, agF_size]; rfl) | rfl) (h1 := by exact (agF_one ⟨rfl, rfl, rfl, rfl, rfl, rfl, rfl, rfl, rfl, rfl, rfl, rfl, rfl, rfl, rfl, rfl, rfl, rfl, rfl, rfl, rfl, rfl, trivial⟩))
    refine MW ?_ (v := .int .i64 2)
    refine MZ fun W hS => ?_
    go_wp2
    exact bodyPost_ret (res_c2 rfl rfl rfl (hS.blk (i := 5) rfl) (by kernel_rfl) (by rw [agF_size]; kernel_rfl)) rfl (show ToldR _ _ _ _ from .inl ⟨by unfold toldO; rw [if_pos he, hr, Bool.and_false], rfl, hS.ext⟩)
  ·
   have _f := he
   go_upto_region 5 with fail
   refine RL hS ?_
   clear hS
   refine MV ?_
   refine MG 0 ?_ (v := .int .i64 (byV (sT1 l) : Int)) (hj := (agF_cel (off := 1) 1))
   refine MW ?_ (v := .bool false) (hv := by intro W; go_simp; first | done | omega | simp_all)
   refine MZ fun W hS => ?_
   rcases bool_or (okT false (sT2 l)) with hr | hr
   ·
    have _f := True.intro
    go_upto_region 7 with fail
    refine RL hS ?_
    clear hS
    refine MV ?_
    refine MC (v := .bool (okT false (sT2 l))) (fun W hS => wright_o (s := sT2 l) (bad := false) W (hS.blk (i := 2) rfl) (rdr_at hS (i := 1) rfl (j := 3) rfl)) ?_
    refine MW ?_ (v := .bool false) (hv := by intro W; go_simp; first | done | simp [hr])
    refine MZ fun W hS => ?_
    go_upto_region 9 with fail
    refine RL hS ?_
    clear hS
    refine ML 0 ?_ (hs := by rw [agF_size]; kernel_rfl)
    refine MR 4 ?_ (hz := by rw [agF_size]; kernel_rfl) (hs := by first | (rw [agF_size, agF_size]; rfl) | rfl) (h1 := by exact (agF_one ⟨rfl, rfl, rfl, rfl, rfl, rfl, rfl, rfl, rfl, rfl, rfl, rfl, rfl, rfl, rfl, rfl, rfl, rfl, rfl, rfl, rfl, rfl, trivial⟩))
    refine MW ?_ (v := .int .i64 0)
    refine MZ fun W hS => ?_
    have hZ := (SH.addq hS (anT_holds (AnR.z (kT l) (eT l) _)) (fun _ _ _ _ _ hk => by cases hk)).pick [0]
    go_wp2
    exact bodyPost_ret (res_c2 rfl rfl rfl (hS.blk (i := 4) rfl) (by kernel_rfl) (by rw [agF_size]; kernel_rfl)) rfl (show ToldR _ _ _ _ from .inr ⟨by unfold toldO; rw [if_neg he, hr, decide_eq_false hk]; rfl, (zV, []), by unfold toldA; rw [if_neg he]; rfl, by unfold toldA; rw [if_neg he]; exact hZ, by unfold toldA; rw [if_neg he]; exact (fun _ hk => by cases hk), fun h => absurd h he⟩)
   ·
    have _f := True.intro
    go_upto_region 7 with fail
    refine RL hS ?_
    clear hS
    refine MV ?_
    refine MC (v := .bool (okT false (sT2 l))) (fun W hS => wright_o (s := sT2 l) (bad := false) W (hS.blk (i := 2) rfl) (rdr_at hS (i := 1) rfl (j := 3) rfl)) ?_
    refine MW ?_ (v := .bool true) (hv := by intro W; go_simp; first | done | simp [hr])
    refine MZ fun W hS => ?_
    go_upto_region 8 with fail
    refine RL hS ?_
    clear hS
    refine MF (v := .agg (anF (zA 0 0) zV)) (fun W hS => run_bld rfl rfl zer_wire_Answer plc_wire_Answer fill_n) ?_
    refine MR 4 ?_ (hz := by rw [agF_size]; kernel_rfl) (hs := by first | (rw [agF_size, agF_size]; rfl) | rfl) (h1 := by exact (agF_one ⟨rfl, rfl, rfl, rfl, rfl, rfl, rfl, rfl, rfl, rfl, rfl, rfl, rfl, rfl, rfl, rfl, rfl, rfl, rfl, rfl, rfl, rfl, trivial⟩))
    refine MW ?_ (v := .int .i64 2)
    refine MZ fun W hS => ?_
    go_wp2
    exact bodyPost_ret (res_c2 rfl rfl rfl (hS.blk (i := 4) rfl) (by kernel_rfl) (by rw [agF_size]; kernel_rfl)) rfl (show ToldR _ _ _ _ from .inl ⟨by unfold toldO; rw [if_neg he, hr, Bool.and_false], rfl, hS.ext⟩)
end Go.Proofs.Ytlbgelbhhibikaa.Ww

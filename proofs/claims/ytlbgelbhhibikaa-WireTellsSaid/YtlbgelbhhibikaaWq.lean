/- wire's writer: sums, proofs, what a look told. Conditions: memory holds what is written. -/
import Derived.Test.YtlbgelbhhibikaaWb
import Derived.Test.YtlbgelbhhibikaaPx
set_option linter.unusedSimpArgs false
set_option linter.unusedVariables false
namespace Go.Proofs.Ytlbgelbhhibikaa.Ww
set_option maxHeartbeats 1500000
set_option maxRecDepth 100000
open Go.RowKit
attribute [local irreducible] wpList wpTr wpX
set_option linter.unusedSimpArgs false
/-- sums that are read, as a thing -/
abbrev smT (sv : Value) (ss : List Nat) : As := .p (fbR sv (ss.map b32l)) (fun W => RR 32 W sv (ss.map b32l))
theorem b32l_len {ss : List Nat} : ∀ e ∈ ss.map b32l, e.length = 32 := fun e he => (b32l_all e he).1
theorem rr_cells {k : Nat} {w : World} {v : Value} {es : List (List Value)} (h : RR k w v es) : v.cells = #[v] ∧ v.oneCell' = true := by
 obtain ⟨A, c, rfl, _⟩ := h; exact ⟨rfl, rfl⟩
/-- a proof's cells -/
abbrev pfA (sv : Value) (th : Bool) (a x : Nat) : Array Value := agF [.c sv, .c (.bool th), .a 32 a, .a 32 x]
theorem pfc_A (sv : Value) (th : Bool) (a x : Nat) : pfc sv th a x = pfA sv th a x := by
 apply Array.toList_inj.1
 rw [pfl]
 show sv :: .bool th :: (lf a x).toList = sv :: .bool th :: ((arrK .u8 32 (byt a)).toList ++ ((arrK .u8 32 (byt x)).toList ++ []))
 unfold lf
 rw [Array.toList_append, List.append_nil]
theorem ap_bb {F : List Nat} {w W : World} {H : List As} {i j p q : Nat} {cs ds : Array Value} {t u : TypeId} (hS : SH F w W H) (hi : H[i]? = some (.b p cs t)) (hj : H[j]? = some (.b q ds u)) (hn : i ≠ j) : q ≠ p := fun e =>
 (hS.ap2 hi hj hn).1 rfl p (by simp [As.foot]) (by subst e; simp [As.foot])
theorem ap_ob {F : List Nat} {w W : World} {H : List As} {i j q : Nat} {v : Value} {l : List UInt8} {ds : Array Value} {u : TypeId} (hS : SH F w W H) (hi : H[i]? = some (.o v l)) (hj : H[j]? = some (.b q ds u)) : ∀ x, v.ownBlock = some x → q ≠ x := fun x hx e => by
 have hn : i ≠ j := fun e => by subst e; rw [hi] at hj; cases hj
 exact (hS.ap2 hi hj hn).1 rfl x (by show x ∈ v.ownBlock.toList; rw [hx]; simp) (by subst e; simp [As.foot])
theorem sb_blk {q p off n c : Nat} {m : List UInt8} (h : q ≠ p) : sb (.slice (some ⟨q, off, none⟩) n c) m ≠ some p := fun e => by
 unfold sb at e
 split at e
 ·
  cases e
 ·
  exact h (Option.some.inj e)
theorem sb_own2 {q off n c : Nat} {m : List UInt8} {v : Value} (h : ∀ x, v.ownBlock = some x → q ≠ x) : ∀ x, v.ownBlock = some x → sb (.slice (some ⟨q, off, none⟩) n c) m ≠ some x := fun x hx => sb_blk (h x hx)
theorem wtext_b {bad : Bool} (p : Nat) (v : Value) (l : List UInt8) (w : World) (hwr : Wr bad w p v l false) (u : Value) (m : List UInt8) (hu : Sl w u m) (hm : m.length ≤ 65535) (hup : sb u m ≠ some p) (hub : ∀ x, v.ownBlock = some x → sb u m ≠ some x) (hl : l.length < 140737488280000) :
  Calls Try.prog 55 #[.pointer (some ⟨p, 0, none⟩), u] w fun e w' => e = .returned (.tuple #[]) ∧ ∃ v', WrTo bad w p v (l ++ tB m) false v' w' := by
 have h := wtext_c p v l false w hwr u m hu hm hup hub hl
 rw [tB_app] at h
 exact h
/-- sums' bytes -/
def sB (ss : List Nat) : List UInt8 := be8 ss.length ++ (ss.map (lb 32)).flatten
theorem sB_len (ss : List Nat) : (sB ss).length = 8 + 32 * ss.length := by unfold sB; rw [List.length_append, flat32]; rfl
theorem pB_ln {ss : List Nat} {th : Bool} {a x : Nat} : (pB ss th a x).length ≤ 73 + 32 * ss.length := by
 unfold pB
 cases th
 ·
  simp only [List.length_append, flat32, be8_len]; simp; omega
 ·
  simp only [List.length_append, flat32, be8_len, if_true, lb_length]; simp; omega
def smL (ss : List Nat) (l : List UInt8) : List UInt8 := if 256 < ss.length then l else l ++ sB ss
def smB (ss : List Nat) (bad : Bool) : Bool := if 256 < ss.length then true else bad
def pfL (ss : List Nat) (th : Bool) (a x : Nat) (l : List UInt8) : List UInt8 := if 256 < ss.length then l else l ++ pB ss th a x
theorem smL_le {ss : List Nat} {l : List UInt8} : (smL ss l).length ≤ l.length + 8200 := by
 unfold smL
 split
 ·
  omega
 ·
  rw [List.length_append, sB_len]; omega
theorem pfL_le {ss : List Nat} {th : Bool} {a x : Nat} {l : List UInt8} : (pfL ss th a x l).length ≤ l.length + 8265 := by
 unfold pfL
 split
 ·
  omega
 ·
  have := pB_ln (ss := ss) (th := th) (a := a) (x := x)
  rw [List.length_append]; omega
attribute [local irreducible] lb be8 eI tB txL txB

theorem wput_c {ss : List Nat} {sv : Value} {th : Bool} {a x : Nat} (p : Nat) (v : Value) (l : List UInt8) (bad : Bool) (hn : ss.length ≤ 1000000) (hl : l.length ≤ 1000000) (w : World) (h_ : SH (SH.feet [.b p #[v, .bool false, .bool bad] 96, .o v l, smT sv ss]) w w [.b p #[v, .bool false, .bool bad] 96, .o v l, smT sv ss]) :
  Calls Try.prog 73 #[.pointer (some ⟨p, 0, none⟩), .agg (pfA sv th a x)] w fun e w' => e = .returned (.tuple #[]) ∧ ∃ v', SH (SH.feet [.b p #[v, .bool false, .bool bad] 96, .o v l, smT sv ss]) w w' [.b p #[v', .bool false, .bool bad] 96, .o v' (l ++ pB ss th a x), smT sv ss] := by
 obtain ⟨Ap, cp, rfl, hlc_sm, HR_sm⟩ := RR.opf (h_.pp (i := 2) rfl)
 have hS := h_
 go_enter Try.func73, Try.ntmps73
 go_upto_region 0 with fail
 refine RL hS ?_
 clear hS
 refine MN (z := agF [.c (.slice Ap ss.length cp), .c (.bool th), .a 32 a, .a 32 x]) (t := 62) ?_
 intro p3_1
 refine MZ fun W hS => ?_
 go_upto_region 1 with fail
 refine RL hS ?_
 clear hS
 refine MV ?_
 refine MV ?_
 refine MG 0 ?_ (v := .slice Ap ss.length cp) (hj := (agF_cel 0))
 refine MV ?_
 refine ME (V := fun _ => .tuple #[]) (fun W hS => callX [1, 2] [0, 3] hS (fun hT => wr_call hT (fun hw => wnum_n ss.length (by omega) p v l false W hw (by first | omega | (simp only [List.length_append, List.length_cons, List.length_nil, lb_length, be8_len, eI_len, flat32, flatt]; omega)))) (fun _ => ⟨.inr ⟨rfl, rfl⟩, .inr ⟨rfl, rfl⟩, trivial⟩)) ?_
 intro w2
 have hb_3 : (l ++ (be8 ss.length)).length ≤ 1000008 := (by rw [List.length_append]; simp only [List.length_cons, List.length_nil, lb_length, be8_len, eI_len, tB_len]; omega)
 refine MZ fun W hS => ?_
 go_upto_region 2 with fail
 refine RL hS ?_
 clear hS
 refine MV ?_
 refine MG 2 ?_ (v := .slice Ap ss.length cp) (hj := (agF_cel 0))
 refine MV ?_
 refine MW ?_ (v := .int .i64 0)
 refine MZ fun W hS => ?_
 go_wp2_with fail
 go_loopw [5, 14] (fun x5 ii wr => ∃ (i : Nat) (bv : Value), (i ≤ ss.length) ∧ (ii = .int .i64 (i : Int)) ∧ SH (SH.feet [.b p #[v, .bool false, .bool bad] 96, .o v l, smT (.slice Ap ss.length cp) ss]) w wr [.b p #[bv, .bool false, .bool bad] 96, .o bv (l ++ be8 ss.length ++ ((ss.map (lb 32)).take i).flatten), smT (.slice Ap ss.length cp) ss, .b p3_1 (agF [.c (.slice Ap ss.length cp), .c (.bool th), .a 32 a, .a 32 x]) 62])
  (fun x5 ii _ => ss.length - (intOf ii).toNat)
 case atStart => exact ⟨0, w2, Nat.zero_le _, rfl, (by rw [List.take_zero, List.flatten_nil, List.append_nil]; exact (hS.pick [0, 1, 3, 2]))⟩
 clear hS
 case round =>
  obtain ⟨i, bv, hi, rfl, hS⟩ := hrel
  have hbl : (l ++ be8 ss.length ++ ((ss.map (lb 32)).take i).flatten).length ≤ 100000000 := by simp only [List.length_append, be8_len, flatt]; omega
  by_cases hlt : i < ss.length
  ·
   have _f := hlt
   obtain ⟨y, yh⟩ : ∃ x, ss[i]? = some x := ⟨_, List.getElem?_eq_getElem hlt⟩
   obtain ⟨gp, op, A0p, _⟩ := HR_sm.out i y yh
   have HAp := Lib.hid A0p
   clear A0p
   go_upto_region 3 with fail
   refine RL hS ?_
   clear hS
   refine MW ?_ (v := .bool true)
   refine MZ fun W hS => ?_
   go_upto_region 4 with fail
   refine RL hS ?_
   clear hS
   refine MW ?_ (v := .pointer (some ⟨gp, op + i * 32, none⟩)) (hv := fun _ => run_ixRA HAp.out hlt rfl rfl rfl Try.underlying48 (by kernel_rfl))
   refine MF (v := .agg (arrK .u8 32 (byt y))) (fun W hS => run_atsub rfl rfl (fun i_ v hv => (RR.cellat (hS.pp (i := 2) rfl) (by rw [List.getElem?_map, yh]; rfl) HAp.out) i_ v (by simpa using hv)) (by kernel_rfl) (by rw [arrK_size]; kernel_rfl)) ?_
   refine MN (z := arrK .u8 32 (byt 0)) (t := 27) ?_
   intro p5_4
   refine MR 0 ?_ 
   refine MZ fun W hS => ?_
   go_upto_region 5 with fail
   refine RL hS ?_
   clear hS
   refine MV ?_
   refine ML 0 ?_
   refine ME (V := fun _ => .tuple #[]) (fun W hS => callX [1, 2] [0, 3, 4] hS (fun hT => wr_call hT (fun hw => wsum_n y p bv (l ++ be8 ss.length ++ ((ss.map (lb 32)).take i).flatten) false W hw (by first | omega | (simp only [List.length_append, List.length_cons, List.length_nil, lb_length, be8_len, eI_len, flat32, flatt]; omega)))) (fun _ => ⟨.inr ⟨rfl, rfl⟩, .inr ⟨rfl, rfl⟩, trivial⟩)) ?_
   intro w5
   have hb_6 : ((l ++ be8 ss.length ++ ((ss.map (lb 32)).take i).flatten) ++ (lb 32 y)).length ≤ 100000032 := (by rw [List.length_append]; simp only [List.length_cons, List.length_nil, lb_length, be8_len, eI_len, tB_len]; omega)
   refine MZ fun W hS => ?_
   go_wp2
   go_roundw
   case rel => exact ⟨i + 1, w5, by omega, by go_num, (by rw [flat_snoc yh, ← List.append_assoc]; exact (hS.pick [0, 1, 3, 4]))⟩
   case measure => simp [intOf]; omega
  ·
   have _f := hlt
   obtain rfl : i = ss.length := by omega
   rw [take_all] at hS
   have hbe : (l ++ be8 ss.length ++ (ss.map (lb 32)).flatten).length ≤ 100000000 := by simp only [List.length_append, be8_len, flat32]; omega
   go_upto_region 3 with fail
   refine RL hS ?_
   clear hS
   refine MW ?_ (v := .bool false)
   refine MZ fun W hS => ?_
   rcases th with _ | _
   ·
    have _f := True.intro
    go_upto_region 7 with fail
    refine RL hS ?_
    clear hS
    refine MV ?_
    refine MV ?_
    refine MG 3 ?_ (v := .bool false) (hj := (agF_cel 1))
    refine ME (V := fun _ => .tuple #[]) (fun W hS => callX [0, 1] [2, 3] hS (fun hT => wr_call hT (fun hw => wflag_n false p bv (l ++ be8 ss.length ++ (ss.map (lb 32)).flatten) false W hw (by first | omega | (simp only [List.length_append, List.length_cons, List.length_nil, lb_length, be8_len, eI_len, flat32, flatt]; omega)))) (fun _ => ⟨.inr ⟨rfl, rfl⟩, .inr ⟨rfl, rfl⟩, trivial⟩)) ?_
    intro w7
    have hb_8 : ((l ++ be8 ss.length ++ (ss.map (lb 32)).flatten) ++ [0]).length ≤ 100000001 := (by rw [List.length_append]; simp only [List.length_cons, List.length_nil, lb_length, be8_len, eI_len, tB_len]; omega)
    refine MZ fun W hS => ?_
    go_upto_region 8 with fail
    refine RL hS ?_
    clear hS
    refine MV ?_
    refine MG 3 ?_ (v := .bool false) (hj := (agF_cel 1))
    refine MZ fun W hS => ?_
    go_wp2
    exact bodyPost_end (v := .tuple #[]) (by simp only [results, Try.results73]; go_simp) rfl ⟨rfl, _, by have h_ := hS.pick [0, 1, 2]; rw [← show (l ++ be8 ss.length ++ (ss.map (lb 32)).flatten) ++ [0] = l ++ pB ss false a x from by unfold pB; simp only [List.append_assoc]; rfl]; exact h_⟩
   ·
    have _f := True.intro
    go_upto_region 7 with fail
    refine RL hS ?_
    clear hS
    refine MV ?_
    refine MV ?_
    refine MG 3 ?_ (v := .bool true) (hj := (agF_cel 1))
    refine ME (V := fun _ => .tuple #[]) (fun W hS => callX [0, 1] [2, 3] hS (fun hT => wr_call hT (fun hw => wflag_n true p bv (l ++ be8 ss.length ++ (ss.map (lb 32)).flatten) false W hw (by first | omega | (simp only [List.length_append, List.length_cons, List.length_nil, lb_length, be8_len, eI_len, flat32, flatt]; omega)))) (fun _ => ⟨.inr ⟨rfl, rfl⟩, .inr ⟨rfl, rfl⟩, trivial⟩)) ?_
    intro w9
    have hb_10 : ((l ++ be8 ss.length ++ (ss.map (lb 32)).flatten) ++ [1]).length ≤ 100000001 := (by rw [List.length_append]; simp only [List.length_cons, List.length_nil, lb_length, be8_len, eI_len, tB_len]; omega)
    refine MZ fun W hS => ?_
    go_upto_region 8 with fail
    refine RL hS ?_
    clear hS
    refine MV ?_
    refine MG 3 ?_ (v := .bool true) (hj := (agF_cel 1))
    refine MZ fun W hS => ?_
    go_upto_region 9 with fail
    refine RL hS ?_
    clear hS
    refine MV ?_
    refine MV ?_
    refine MV ?_
    refine Mk 3 ?_ (sub := arrK .u8 32 (byt a)) (hs := (agF_arr 2))
    refine ME (V := fun _ => .tuple #[]) (fun W hS => callX [0, 1] [2, 3] hS (fun hT => wr_call hT (fun hw => wsum_n a p w9 ((l ++ be8 ss.length ++ (ss.map (lb 32)).flatten) ++ [1]) false W hw (by first | omega | (simp only [List.length_append, List.length_cons, List.length_nil, lb_length, be8_len, eI_len, flat32, flatt]; omega)))) (fun _ => ⟨.inr ⟨rfl, rfl⟩, .inr ⟨rfl, rfl⟩, trivial⟩)) ?_
    intro w11
    have hb_12 : (((l ++ be8 ss.length ++ (ss.map (lb 32)).flatten) ++ [1]) ++ (lb 32 a)).length ≤ 100000033 := (by rw [List.length_append]; simp only [List.length_cons, List.length_nil, lb_length, be8_len, eI_len, tB_len]; omega)
    refine MZ fun W hS => ?_
    go_upto_region 10 with fail
    refine RL hS ?_
    clear hS
    refine MV ?_
    refine MV ?_
    refine MV ?_
    refine Mk 3 ?_ (sub := arrK .u8 32 (byt x)) (hs := (agF_arr 3))
    refine ME (V := fun _ => .tuple #[]) (fun W hS => callX [0, 1] [2, 3] hS (fun hT => wr_call hT (fun hw => wsum_n x p w11 (((l ++ be8 ss.length ++ (ss.map (lb 32)).flatten) ++ [1]) ++ (lb 32 a)) false W hw (by first | omega | (simp only [List.length_append, List.length_cons, List.length_nil, lb_length, be8_len, eI_len, flat32, flatt]; omega)))) (fun _ => ⟨.inr ⟨rfl, rfl⟩, .inr ⟨rfl, rfl⟩, trivial⟩)) ?_
    intro w13
    have hb_14 : ((((l ++ be8 ss.length ++ (ss.map (lb 32)).flatten) ++ [1]) ++ (lb 32 a)) ++ (lb 32 x)).length ≤ 100000065 := (by rw [List.length_append]; simp only [List.length_cons, List.length_nil, lb_length, be8_len, eI_len, tB_len]; omega)
    refine MZ fun W hS => ?_
    go_wp2
    exact bodyPost_end (v := .tuple #[]) (by simp only [results, Try.results73]; go_simp) rfl ⟨rfl, _, by have h_ := hS.pick [0, 1, 2]; rw [← show (((l ++ be8 ss.length ++ (ss.map (lb 32)).flatten) ++ [1]) ++ (lb 32 a)) ++ (lb 32 x) = l ++ pB ss true a x from by unfold pB; simp only [List.append_assoc]; rfl]; exact h_⟩
theorem wput_n {ss : List Nat} {sv : Value} {p : Nat} {v : Value} {l : List UInt8} {bad : Bool} (th : Bool) (a x : Nat) (hn : ss.length ≤ 1000000) (hl : l.length ≤ 1000000) (w : World) (h_ : SH (SH.feet [.b p #[v, .bool false, .bool bad] 96, .o v l, smT sv ss]) w w [.b p #[v, .bool false, .bool bad] 96, .o v l, smT sv ss]) :
 Calls Try.prog 73 #[.pointer (some ⟨p, 0, none⟩), .agg (pfA sv th a x)] w fun e w' => ∃ v', e = .returned (.tuple #[]) ∧ SH (SH.feet [.b p #[v, .bool false, .bool bad] 96, .o v l, smT sv ss]) w w' [.b p #[v', .bool false, .bool bad] 96, .o v' (l ++ pB ss th a x), smT sv ss] :=
 (wput_c p v l bad hn hl w h_).mono fun _ _ ⟨h1, v', h2⟩ => ⟨v', h1, h2⟩
theorem wproof_n {ss : List Nat} {sv : Value} {p : Nat} {v : Value} {l : List UInt8} {bad : Bool} (th : Bool) (a x : Nat) (hn : ss.length ≤ 1000000) (hl : l.length ≤ 1000000) (w : World) (h_ : SH (SH.feet [.b p #[v, .bool false, .bool bad] 96, .o v l, smT sv ss]) w w [.b p #[v, .bool false, .bool bad] 96, .o v l, smT sv ss]) :
  Calls Try.prog 63 #[.pointer (some ⟨p, 0, none⟩), .agg (pfA sv th a x)] w fun e w' => ∃ v', e = .returned (.tuple #[]) ∧ SH (SH.feet [.b p #[v, .bool false, .bool bad] 96, .o v l, smT sv ss]) w w' [.b p #[v', .bool false, .bool (smB ss bad)] 96, .o v' (pfL ss th a x l), smT sv ss] := by
 obtain ⟨Ap, cp, rfl, hlc_sm, HR_sm⟩ := RR.opf (h_.pp (i := 2) rfl)
 have hS := h_
 go_enter Try.func63, Try.ntmps63
 go_upto_region 0 with fail
 refine RL hS ?_
 clear hS
 refine MN (z := agF [.c (.slice Ap ss.length cp), .c (.bool th), .a 32 a, .a 32 x]) (t := 62) ?_
 intro p3_1
 refine MZ fun W hS => ?_
 by_cases hlt : 256 < ss.length
 ·
  have _f := hlt
  go_upto_region 1 with fail
  refine RL hS ?_
  clear hS
  refine MV ?_
  refine MG 0 ?_ (v := .slice Ap ss.length cp) (hj := (agF_cel 0))
  refine MV ?_
  refine MW ?_ (v := .bool true) (hv := by intro W; go_simp; first | done | omega)
  refine MZ fun W hS => ?_
  go_upto_region 2 with fail
  refine RL hS ?_
  clear hS
  refine MV ?_
  refine MV ?_
  refine MV ?_
  refine MP 1 (v := .bool true) ?_
  refine MZ fun W hS => ?_
  go_wp2
  first | exact bodyPost_end (v := .tuple #[]) (by simp only [results, Try.results63]; go_simp) rfl ⟨_, rfl, by have h_ := hS.pick [1, 2, 3]; unfold pfL smB; rw [if_pos hlt, if_pos hlt]; exact h_⟩ | exact bodyPost_ret (v := .tuple #[]) (by simp only [results, Try.results63]; go_simp) rfl ⟨_, rfl, by have h_ := hS.pick [1, 2, 3]; unfold pfL smB; rw [if_pos hlt, if_pos hlt]; exact h_⟩
 ·
  have _f := hlt
  go_upto_region 1 with fail
  refine RL hS ?_
  clear hS
  refine MV ?_
  refine MG 0 ?_ (v := .slice Ap ss.length cp) (hj := (agF_cel 0))
  refine MV ?_
  refine MW ?_ (v := .bool false) (hv := by intro W; go_simp; first | done | omega)
  refine MZ fun W hS => ?_
  go_upto_region 3 with fail
  refine RTp [0, 3] (.q 0 (.q 1 (.q 2 (.q 3 (.e 4 .z))))) hS ?_
  clear hS
  refine TV ?_
  refine TV ?_
  refine TV ?_
  refine TL 0 ?_ (hs := by rw [agF_size]; kernel_rfl)
  refine TE (fun _ h => h.pick [0, 3]) ?_
  refine ME (V := fun _ => .tuple #[]) (fun W hS => callX [1, 2, 3] [0] hS (fun hT => wput_n (p := p) (v := v) (l := l) (bad := bad) (sv := .slice Ap ss.length cp) (ss := ss) th a x (by first | omega | (simp only [List.length_append, List.length_cons, List.length_nil, lb_length, be8_len, eI_len, flat32, flatt]; omega)) (by first | omega | (simp only [List.length_append, List.length_cons, List.length_nil, lb_length, be8_len, eI_len, flat32, flatt]; omega)) W hT) (fun _ => ⟨.inr ⟨rfl, rfl⟩, .inr ⟨rfl, rfl⟩, .inl (by simp), trivial⟩)) ?_
  intro w2
  have hb_3 : (l ++ pB ss th a x).length ≤ 10000000 := (by have := pB_ln (ss := ss) (th := th) (a := a) (x := x); rw [List.length_append]; omega)
  refine TNp [2, 3] [1, 0] ?_
  refine TZ (fun _ h => h.pick [2, 3]) fun W hS => ?_
  go_wp2
  first | exact bodyPost_end (v := .tuple #[]) (by simp only [results, Try.results63]; go_simp) rfl ⟨_, rfl, by have h_ := hS.pick [0, 1, 2]; unfold pfL smB; rw [if_neg hlt, if_neg hlt]; exact h_⟩ | exact bodyPost_ret (v := .tuple #[]) (by simp only [results, Try.results63]; go_simp) rfl ⟨_, rfl, by have h_ := hS.pick [0, 1, 2]; unfold pfL smB; rw [if_neg hlt, if_neg hlt]; exact h_⟩
theorem wsums_n {ss : List Nat} {sv : Value} {p : Nat} {v : Value} {l : List UInt8} {bad : Bool} (hn : ss.length ≤ 1000000) (hl : l.length ≤ 1000000) (w : World) (h_ : SH (SH.feet [.b p #[v, .bool false, .bool bad] 96, .o v l, smT sv ss]) w w [.b p #[v, .bool false, .bool bad] 96, .o v l, smT sv ss]) :
  Calls Try.prog 49 #[.pointer (some ⟨p, 0, none⟩), sv] w fun e w' => ∃ v', e = .returned (.tuple #[]) ∧ SH (SH.feet [.b p #[v, .bool false, .bool bad] 96, .o v l, smT sv ss]) w w' [.b p #[v', .bool false, .bool (smB ss bad)] 96, .o v' (smL ss l), smT sv ss] := by
 obtain ⟨Ap, cp, rfl, hlc_sm, HR_sm⟩ := RR.opf (h_.pp (i := 2) rfl)
 have hS := h_
 go_enter Try.func49, Try.ntmps49
 by_cases hbg : 256 < ss.length
 ·
  have _f := hbg
  go_upto_region 0 with fail
  refine RL hS ?_
  clear hS
  refine MV ?_
  refine MV ?_
  refine MW ?_ (v := .bool true) (hv := by intro W; go_simp; first | done | omega)
  refine MZ fun W hS => ?_
  go_upto_region 1 with fail
  refine RL hS ?_
  clear hS
  refine MV ?_
  refine MV ?_
  refine MV ?_
  refine MP 0 (v := .bool true) ?_
  refine MZ fun W hS => ?_
  go_wp2
  first | exact bodyPost_end (v := .tuple #[]) (by simp only [results, Try.results49]; go_simp) rfl ⟨_, rfl, by have h_ := hS.pick [0, 1, 2]; unfold smL smB sB; rw [if_pos hbg, if_pos hbg]; exact h_⟩ | exact bodyPost_ret (v := .tuple #[]) (by simp only [results, Try.results49]; go_simp) rfl ⟨_, rfl, by have h_ := hS.pick [0, 1, 2]; unfold smL smB sB; rw [if_pos hbg, if_pos hbg]; exact h_⟩
 ·
  have _f := hbg
  go_upto_region 0 with fail
  refine RL hS ?_
  clear hS
  refine MV ?_
  refine MV ?_
  refine MW ?_ (v := .bool false) (hv := by intro W; go_simp; first | done | omega)
  refine MZ fun W hS => ?_
  go_upto_region 2 with fail
  refine RL hS ?_
  clear hS
  refine MV ?_
  refine MV ?_
  refine MV ?_
  refine MV ?_
  refine MV ?_
  refine ME (V := fun _ => .tuple #[]) (fun W hS => callX [0, 1] [2] hS (fun hT => wr_call hT (fun hw => wnum_n ss.length (by omega) p v l false W hw (by first | omega | (simp only [List.length_append, List.length_cons, List.length_nil, lb_length, be8_len, eI_len, flat32, flatt]; omega)))) (fun _ => ⟨.inr ⟨rfl, rfl⟩, .inr ⟨rfl, rfl⟩, trivial⟩)) ?_
  intro w1
  have hb_2 : (l ++ (be8 ss.length)).length ≤ 1000008 := (by rw [List.length_append]; simp only [List.length_cons, List.length_nil, lb_length, be8_len, eI_len, tB_len]; omega)
  refine MZ fun W hS => ?_
  go_upto_region 3 with fail
  refine RL hS ?_
  clear hS
  refine MV ?_
  refine MV ?_
  refine MW ?_ (v := .int .i64 0)
  refine MZ fun W hS => ?_
  go_wp2_with fail
  go_loopw [5, 20] (fun x5 ii wr => ∃ (i : Nat) (bv : Value), (i ≤ ss.length) ∧ (ii = .int .i64 (i : Int)) ∧ SH (SH.feet [.b p #[v, .bool false, .bool bad] 96, .o v l, smT (.slice Ap ss.length cp) ss]) w wr [.b p #[bv, .bool false, .bool bad] 96, .o bv (l ++ be8 ss.length ++ ((ss.map (lb 32)).take i).flatten), smT (.slice Ap ss.length cp) ss])
   (fun x5 ii _ => ss.length - (intOf ii).toNat)
  case atStart => exact ⟨0, w1, Nat.zero_le _, rfl, (by rw [List.take_zero, List.flatten_nil, List.append_nil]; exact hS)⟩
  clear hS
  case round =>
   obtain ⟨i, bv, hi, rfl, hS⟩ := hrel
   have hbl : (l ++ be8 ss.length ++ ((ss.map (lb 32)).take i).flatten).length ≤ 100000000 := by simp only [List.length_append, be8_len, flatt]; omega
   by_cases hlt : i < ss.length
   ·
    have _f := hlt
    obtain ⟨y, yh⟩ : ∃ x, ss[i]? = some x := ⟨_, List.getElem?_eq_getElem hlt⟩
    obtain ⟨gp, op, A0p, _⟩ := HR_sm.out i y yh
    have HAp := Lib.hid A0p
    clear A0p
    go_upto_region 4 with fail
    refine RL hS ?_
    clear hS
    refine MW ?_ (v := .bool true)
    refine MZ fun W hS => ?_
    go_upto_region 5 with fail
    refine RL hS ?_
    clear hS
    refine MW ?_ (v := .pointer (some ⟨gp, op + i * 32, none⟩)) (hv := fun _ => run_ixRA HAp.out hlt rfl rfl rfl Try.underlying48 (by kernel_rfl))
    refine MF (v := .agg (arrK .u8 32 (byt y))) (fun W hS => run_atsub rfl rfl (fun i_ v hv => (RR.cellat (hS.pp (i := 2) rfl) (by rw [List.getElem?_map, yh]; rfl) HAp.out) i_ v (by simpa using hv)) (by kernel_rfl) (by rw [arrK_size]; kernel_rfl)) ?_
    refine MN (z := arrK .u8 32 (byt 0)) (t := 27) ?_
    intro p5_3
    refine MR 0 ?_ 
    refine MZ fun W hS => ?_
    go_upto_region 6 with fail
    refine RTp [0, 3] (.q 0 (.q 1 (.q 2 (.q 3 (.e 4 .z))))) hS ?_
    clear hS
    refine TV ?_
    refine TV ?_
    refine TV ?_
    refine TL 0 ?_
    refine TE (fun _ h => h.pick [0, 3]) ?_
    refine ME (V := fun _ => .tuple #[]) (fun W hS => callX [1, 2] [0, 3] hS (fun hT => wr_call hT (fun hw => wsum_n y p bv (l ++ be8 ss.length ++ ((ss.map (lb 32)).take i).flatten) false W hw (by first | omega | (simp only [List.length_append, List.length_cons, List.length_nil, lb_length, be8_len, eI_len, flat32, flatt]; omega)))) (fun _ => ⟨.inr ⟨rfl, rfl⟩, .inr ⟨rfl, rfl⟩, trivial⟩)) ?_
    intro w4
    have hb_5 : ((l ++ be8 ss.length ++ ((ss.map (lb 32)).take i).flatten) ++ (lb 32 y)).length ≤ 100000032 := (by rw [List.length_append]; simp only [List.length_cons, List.length_nil, lb_length, be8_len, eI_len, tB_len]; omega)
    refine TNp [2, 3] [0, 1] ?_
    refine TZ (fun _ h => h.pick [2, 3]) fun W hS => ?_
    go_wp2
    go_roundw
    case rel => exact ⟨i + 1, w4, by omega, by go_num, (by rw [flat_snoc yh, ← List.append_assoc]; exact (hS.pick [0, 1, 3]))⟩
    case measure => simp [intOf]; omega
   ·
    have _f := hlt
    obtain rfl : i = ss.length := by omega
    rw [take_all] at hS
    have hbe : (l ++ be8 ss.length ++ (ss.map (lb 32)).flatten).length ≤ 100000000 := by simp only [List.length_append, be8_len, flat32]; omega
    go_upto_region 4 with fail
    refine RL hS ?_
    clear hS
    refine MW ?_ (v := .bool false)
    refine MZ fun W hS => ?_
    go_wp2
    first | exact bodyPost_end (v := .tuple #[]) (by simp only [results, Try.results49]; go_simp) rfl ⟨_, rfl, by have h_ := hS.pick [0, 1, 2]; unfold smL smB sB; rw [if_neg hbg, if_neg hbg, ← List.append_assoc]; exact h_⟩ | exact bodyPost_ret (v := .tuple #[]) (by simp only [results, Try.results49]; go_simp) rfl ⟨_, rfl, by have h_ := hS.pick [0, 1, 2]; unfold smL smB sB; rw [if_neg hbg, if_neg hbg, ← List.append_assoc]; exact h_⟩
end Go.Proofs.Ytlbgelbhhibikaa.Ww

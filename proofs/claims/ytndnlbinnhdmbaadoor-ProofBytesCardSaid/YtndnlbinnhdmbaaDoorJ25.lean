/- codec's Writer, over one list of what lies where; Read, Bytes. Conditions: memory holds what is written. Proofs as bytes: Put, the document's Bytes; Take. Conditions: memory holds what is written. -/
import Derived.Test.YtndnlbinnhdmbaaDoorJ24
import Derived.Test.YtndnlbinnhdmbaaDoorPrA
import Derived.Test.YtndnlbinnhdmbaaDoorJ21
set_option linter.unusedSimpArgs false
set_option linter.unusedVariables false
namespace Go.Proofs.YtndnlbinnhdmbaaDoor
open Go.RowKit
attribute [local irreducible] wpList wpTr wpX
/-- a writer, as things -/
abbrev wrL (p : Nat) (v : Value) (l : List UInt8) (big : Bool) : List As := [.b p #[v, .bool big] 94, .o v l]
theorem wr_form {w w' : World} {p : Nat} {v v' : Value} {l l' : List UInt8} {big big' : Bool} (h : WrTo w p v l' big' v' w') : SH (SH.feet (wrL p v l big)) w w' (wrL p v' l' big') := by
  have hf : SH.feet (wrL p v l big) = p :: v.ownBlock.toList := by simp [SH.feet, As.mv, As.foot]
  rw [hf]
  refine ⟨h.off, fun x hx => ?_, List.pairwise_cons.2 ⟨fun y hy => ?_, List.pairwise_cons.2 ⟨fun y hy => (by cases hy), .nil⟩⟩, fun x hx hm k hk hlt => ?_⟩
  · rcases List.mem_cons.1 hx with rfl | hx
    · exact h.wr.1
    · rw [List.mem_singleton.1 hx]; exact h.wr.2
  · rw [List.mem_singleton.1 hy]
    have hne := Own.ne_blk h.wr.2 h.wr.1 (by decide)
    refine ⟨fun _ k hk hk' => ?_, fun _ k hk hk' => ?_⟩
    · obtain rfl : k = p := List.mem_singleton.1 hk
      exact hne (As.mem_toList hk')
    · obtain rfl : k = p := List.mem_singleton.1 hk'
      exact hne (As.mem_toList hk)
  · rcases List.mem_cons.1 hx with rfl | hx
    · rw [show k = p from List.mem_singleton.1 hk]; simp
    · rw [List.mem_singleton.1 hx] at hk
      exact List.mem_cons_of_mem _ (h.fr k (As.mem_toList hk) hlt)
/-- a method of a writer -/
theorem wr_call {P : Program} {f : FuncId} {args : Array Value} {val : Value} {W : World} {p : Nat} {v : Value} {l l' : List UInt8} {big big' : Bool} (hS : SH (SH.feet (wrL p v l big)) W W (wrL p v l big)) (hc : Wr W p v l big → Calls P f args W fun en W' => en = .returned val ∧ ∃ v', WrTo W p v l' big' v' W') :
    Calls P f args W fun en W' => ∃ v', en = .returned val ∧ SH (SH.feet (wrL p v l big)) W W' (wrL p v' l' big') :=
  (hc ⟨hS.blk (i := 0) rfl, hS.own (i := 1) rfl⟩).mono fun _ _ ⟨h1, v', h2⟩ => ⟨v', h1, wr_form h2⟩
theorem newB_sh {w w' : World} {l : List UInt8} {u : Value} (h : NewB w l u w') : SH [] w w' [.o u l] :=
  ⟨h.off, fun x hx => by rw [List.mem_singleton.1 hx]; exact h.own, List.pairwise_cons.2 ⟨fun y hy => (by cases hy), .nil⟩, fun x hx _ k hk hlt => by rw [List.mem_singleton.1 hx] at hk; exact h.fr k (As.mem_toList hk) hlt⟩
theorem wbytes_n {p : Nat} {v : Value} {l : List UInt8} {F : List Nat} {w W : World} {H : List As} {i j : Nat} (hS : SH F w W H) (hi : H[i]? = some (.b p #[v, .bool false] 94)) (hj : H[j]? = some (.o v l)) (hl : l.length ≤ 140737488355328) :
    Calls Tryd.prog 54 #[.pointer (some ⟨p, 0, none⟩)] W fun e w' => ∃ u, e = .returned (.tuple #[u, .int .i64 0]) ∧ SH [] W w' [.o u l] :=
  (wbytes_false p v l W ⟨hS.blk hi, hS.own hj⟩ hl).mono fun _ _ ⟨u, h1, h2⟩ => ⟨u, h1, newB_sh h2⟩
/-- what Read leaves -/
abbrev rdL (p : Nat) (v : Value) (l : List UInt8) (e : Int) : List As := [.b p #[v, .int .i64 e] 123, .s v l]
theorem read_n {u : Value} {l : List UInt8} {w : World} (hs : Sl w u l) (hl : l.length ≤ 140737488355328) :
    Calls Tryd.prog 52 #[u] w fun e w' => ∃ x : Nat × Value, e = .returned (.pointer (some ⟨x.1, 0, none⟩)) ∧ SH [] w w' (rdL x.1 x.2 l 0) ∧ ∀ y ∈ rdL x.1 x.2 l 0, y.mv = false → ∀ k ∈ y.foot, w.heap.size ≤ k := by
  refine (read_c u l w hs hl).mono fun e w' ⟨p, h1, v, h2, h3, h4, h5⟩ => ⟨(p, v), h1, ⟨h3, fun x hx => ?_, List.pairwise_cons.2 ⟨fun y hy => ?_, List.pairwise_cons.2 ⟨fun y hy => (by cases hy), .nil⟩⟩, fun x hx hm k hk hlt => ?_⟩, fun y hy hm k hk => ?_⟩
  · rcases List.mem_cons.1 hx with rfl | hx
    · exact h2.1
    · rw [List.mem_singleton.1 hx]; exact h2.2.1
  · rw [List.mem_singleton.1 hy]
    refine ⟨fun _ k hk hk' => ?_, fun hm => by cases hm⟩
    obtain rfl : k = p := List.mem_singleton.1 hk
    exact h2.2.2 (As.mem_toList hk')
  · rcases List.mem_cons.1 hx with rfl | hx
    · obtain rfl : k = p := List.mem_singleton.1 hk
      exact h4 hlt
    · rw [List.mem_singleton.1 hx] at hm; cases hm
  · rcases List.mem_cons.1 hy with rfl | hy
    · cases hm
    · rw [List.mem_singleton.1 hy] at hk
      refine Nat.le_of_not_lt fun hlt => ?_
      have := h5 k (sb_own (As.mem_toList hk)) hlt
      cases this
theorem bs8_arrW (n U : Nat) : (bs8 (lb n U)).toArray = arrK .u8 n (byt U) := by rw [bs8_lb, ← arrK_list]
theorem wsum_n (N : Nat) (p : Nat) (v : Value) (l : List UInt8) (big : Bool) (w : World) (hwr : Wr w p v l big) (hl : l.length < 140737488355290) :
    Calls Tryd.prog 75 #[.pointer (some ⟨p, 0, none⟩), .agg (arrK .u8 32 (byt N))] w fun e w' => e = .returned (.tuple #[]) ∧ ∃ v', WrTo w p v (l ++ lb 32 N) big v' w' := by
  rw [← bs8_arrW]; exact wsum_c (lb 32 N) (lb_length _ _) p v l big w hwr hl
theorem wnum_n (n : Nat) (hn : n < 9223372036854775808) (p : Nat) (v : Value) (l : List UInt8) (big : Bool) (w : World) (hwr : Wr w p v l big) (hl : l.length < 140737488355320) :
    Calls Tryd.prog 74 #[.pointer (some ⟨p, 0, none⟩), .int .i64 (n : Int)] w fun e w' => e = .returned (.tuple #[]) ∧ ∃ v', WrTo w p v (l ++ be8 n) big v' w' := wnum_c n n (by omega) p v l big w hwr hl
theorem wflag_n (b : Bool) (p : Nat) (v : Value) (l : List UInt8) (big : Bool) (w : World) (hwr : Wr w p v l big) (hl : l.length < 140737488355328) :
    Calls Tryd.prog 76 #[.pointer (some ⟨p, 0, none⟩), .bool b] w fun e w' => e = .returned (.tuple #[]) ∧ ∃ v', WrTo w p v (l ++ [if b then 1 else 0]) big v' w' := by
  cases b
  · exact wflag_false p v l big w hwr hl
  · exact wflag_true p v l big w hwr hl
end Go.Proofs.YtndnlbinnhdmbaaDoor

set_option linter.unusedSimpArgs false
set_option linter.unusedVariables false
namespace Go.Proofs.YtndnlbinnhdmbaaDoor
set_option maxHeartbeats 3000000
set_option maxRecDepth 100000
open Go.RowKit
attribute [local irreducible] wpList wpTr wpX
set_option linter.unusedSimpArgs false
/-- a proof's bytes -/
def pB (ss : List Nat) (th : Bool) (a x : Nat) : List UInt8 := be8 ss.length ++ (ss.map (lb 32)).flatten ++ (if th then [1] ++ lb 32 a ++ lb 32 x else [0])
theorem flat32 (ss : List Nat) : (ss.map (lb 32)).flatten.length = 32 * ss.length := by
 induction ss with
 | nil => rfl
 | cons s r ih => rw [List.map_cons, List.flatten_cons, List.length_append, ih, lb_length, List.length_cons]; omega
theorem flatt (ss : List Nat) (i : Nat) : ((ss.map (lb 32)).take i).flatten.length = 32 * min i ss.length := by rw [← List.map_take, flat32, List.length_take]
theorem flat_snoc {ss : List Nat} {i y : Nat} (h : ss[i]? = some y) : ((ss.map (lb 32)).take (i + 1)).flatten = ((ss.map (lb 32)).take i).flatten ++ lb 32 y := by
 rw [List.take_add_one, List.getElem?_map, h, List.flatten_append]; simp
theorem take_all (ss : List Nat) : (ss.map (lb 32)).take ss.length = ss.map (lb 32) := List.take_of_length_le (by simp)
theorem be8_len (n : Nat) : (be8 n).length = 8 := rfl
/-- what Put turns: a writer; the sums are read -/
abbrev putPL (p : Nat) (v : Value) (l : List UInt8) (big : Bool) (sv : Value) (ss : List Nat) : List As := [.b p #[v, .bool big] 94, .o v l, .p (fbR sv (ss.map b32l)) (fun W => RR 32 W sv (ss.map b32l))]
section
variable {s : Value} {th : Bool} {a x k y : Nat} {v : Value}
theorem pfl (s : Value) (th : Bool) (a x : Nat) : (pfc s th a x).toList = s :: .bool th :: (lf a x).toList := by unfold pfc; simp
theorem pf_puts : (pfc s th a x).setIfInBounds 0 v = pfc v th a x := by
 apply Array.toList_inj.1; rw [Array.toList_setIfInBounds, pfl, pfl]; rfl
theorem pf_putb {b : Bool} : (pfc s th a x).setIfInBounds 1 (.bool b) = pfc s b a x := by
 apply Array.toList_inj.1; rw [Array.toList_setIfInBounds, pfl, pfl]; rfl
theorem spl_all : ∀ (vs old pre : List Value), old.length = vs.length → spl (pre ++ old).toArray pre.length vs = (pre ++ vs).toArray
 | [], old, pre, h => by rw [List.eq_nil_of_length_eq_zero h]; rfl
 | u :: r, o :: old, pre, h => by
  show spl ((pre ++ o :: old).toArray.setIfInBounds pre.length u) (pre.length + 1) r = _
  have e : (pre ++ o :: old).toArray.setIfInBounds pre.length u = ((pre ++ [u]) ++ old).toArray := by
   apply Array.toList_inj.1
   rw [Array.toList_setIfInBounds]
   show (pre ++ o :: old).set pre.length u = _
   rw [List.set_append_right _ _ (Nat.le_refl _), Nat.sub_self]; simp
  rw [e, show pre.length + 1 = (pre ++ [u]).length by simp, spl_all r old (pre ++ [u]) (by simpa using h)]
  simp
theorem pf_pute : spl (pfc s th a x) 2 (lf k y).toList = pfc s th k y := by
 have h := spl_all (lf k y).toList (lf a x).toList [s, .bool th] (by rw [Array.length_toList, Array.length_toList, lf_size, lf_size])
 have e1 : ([s, .bool th] ++ (lf a x).toList).toArray = pfc s th a x := by apply Array.toList_inj.1; rw [pfl]; rfl
 have e2 : ([s, .bool th] ++ (lf k y).toList).toArray = pfc s th k y := by apply Array.toList_inj.1; rw [pfl]; rfl
 rw [e1, e2] at h
 exact h
end
attribute [local irreducible] hs4 sE sL sN lb be8


theorem pput_c {ss : List Nat} {sv : Value} {th : Bool} {a x : Nat} (p : Nat) (v : Value) (l : List UInt8) (big : Bool) (hn : ss.length ≤ 1000000) (hl : l.length ≤ 1000000) (w : World) (h_ : SH (SH.feet (putPL p v l big sv ss)) w w (putPL p v l big sv ss)) :
  Calls Tryd.prog 53 #[.pointer (some ⟨p, 0, none⟩), .agg (pfc sv th a x)] w fun e w' => e = .returned (.tuple #[]) ∧ ∃ v', SH (SH.feet (putPL p v l big sv ss)) w w' (putPL p v' (l ++ pB ss th a x) big sv ss) := by
 obtain ⟨Ap, cp, rfl, hlcp, HRp⟩ := RR.opf (h_.pp (i := 2) rfl)
 have hS := h_
 go_enter Tryd.func53, Tryd.ntmps53
 go_upto_region 0 with fail
 refine RL hS ?_
 clear hS
 refine MN (z := pfc (.slice Ap ss.length cp) th a x) (t := 69) ?_
 intro p3_1
 refine MZ fun W hS => ?_
 go_upto_region 1 with fail
 refine RL hS ?_
 clear hS
 refine MV ?_
 refine MV ?_
 refine MG 0 ?_ (v := .slice Ap ss.length cp) (hj := pf_s)
 refine MV ?_
 refine ME (V := fun _ => .tuple #[]) (fun W hS => callX [1, 2] [0, 3] hS (fun hS => wr_call hS (fun hw => wnum_n ss.length (by omega) p v l big W hw (by first | omega | (simp only [List.length_append, List.length_cons, List.length_nil, lb_length, be8_len, flat32, flatt]; omega)))) (fun _ => ⟨.inr ⟨rfl, rfl⟩, .inr ⟨rfl, rfl⟩, trivial⟩)) ?_
 intro w2
 refine MZ fun W hS => ?_
 go_upto_region 2 with fail
 refine RL hS ?_
 clear hS
 refine MV ?_
 refine MG 2 ?_ (v := .slice Ap ss.length cp) (hj := pf_s)
 refine MV ?_
 refine MW ?_ (v := .int .i64 0)
 refine MZ fun W hS => ?_
 go_wp2_with fail
 go_loopw [5, 14] (fun x5 ii wr => ∃ (i : Nat) (bv : Value), (i ≤ ss.length) ∧ (ii = .int .i64 (i : Int)) ∧ SH (SH.feet (putPL p v l big (.slice Ap ss.length cp) ss)) w wr [.b p #[bv, .bool big] 94, .o bv (l ++ be8 ss.length ++ ((ss.map (lb 32)).take i).flatten), .p (fbR (.slice Ap ss.length cp) (ss.map b32l)) (fun W => RR 32 W (.slice Ap ss.length cp) (ss.map b32l)), .b p3_1 (pfc (.slice Ap ss.length cp) th a x) 69])
  (fun x5 ii _ => ss.length - (intOf ii).toNat)
 case atStart => exact ⟨0, w2, Nat.zero_le _, rfl, (by rw [List.take_zero, List.flatten_nil, List.append_nil]; exact (hS.pick [0, 1, 3, 2]))⟩
 clear hS
 case round =>
  obtain ⟨i, bv, hi, rfl, hS⟩ := hrel
  by_cases hlt : i < ss.length
  ·
   have _f := hlt
   obtain ⟨y, yh⟩ : ∃ x, ss[i]? = some x := ⟨_, List.getElem?_eq_getElem hlt⟩
   obtain ⟨gp, op, A0p, _⟩ := HRp.out i y yh
   have HAp := Lib.hid A0p
   clear A0p
   go_upto_region 3 with fail
   refine RL hS ?_
   clear hS
   refine MW ?_ (v := .bool true)
   refine MZ fun W hS => ?_
   go_upto_region 4 with fail
   refine RL hS ?_
   clear hS
   refine MW ?_ (v := .pointer (some ⟨gp, op + i * 32, none⟩)) (hv := fun _ => run_ixRA HAp.out hlt rfl rfl rfl Tryd.underlying58 (by kernel_rfl))
   refine MF (v := .agg (arrK .u8 32 (byt y))) (fun W hS => run_atsub rfl rfl (fun i_ v hv => (RR.cellat (hS.pp (i := 2) rfl) (by rw [List.getElem?_map, yh]; rfl) HAp.out) i_ v (by simpa using hv)) (by kernel_rfl) (by rw [arrK_size]; kernel_rfl)) ?_
   refine MN (z := arrK .u8 32 (byt 0)) (t := 22) ?_
   intro p5_3
   refine MR 0 ?_ 
   refine MZ fun W hS => ?_
   go_upto_region 5 with fail
   refine RL hS ?_
   clear hS
   refine MV ?_
   refine ML 0 ?_
   refine ME (V := fun _ => .tuple #[]) (fun W hS => callX [1, 2] [0, 3, 4] hS (fun hS => wr_call hS (fun hw => wsum_n y p bv (l ++ be8 ss.length ++ ((ss.map (lb 32)).take i).flatten) big W hw (by first | omega | (simp only [List.length_append, List.length_cons, List.length_nil, lb_length, be8_len, flat32, flatt]; omega)))) (fun _ => ⟨.inr ⟨rfl, rfl⟩, .inr ⟨rfl, rfl⟩, trivial⟩)) ?_
   intro w4
   refine MZ fun W hS => ?_
   go_wp2
   go_roundw
   case rel => exact ⟨i + 1, w4, by omega, by go_num, (by rw [flat_snoc yh, ← List.append_assoc]; exact (hS.pick [0, 1, 3, 4]))⟩
   case measure => simp [intOf]; omega
  ·
   have _f := hlt
   obtain rfl : i = ss.length := by omega
   rw [take_all] at hS
   go_upto_region 3 with fail
   refine RL hS ?_
   clear hS
   refine MW ?_ (v := .bool false)
   refine MZ fun W hS => ?_
   rcases th with _ | _
   ·
    have _f := True.intro
    go_upto_region 7 with fail
    refine RL hS ?_
    clear hS
    refine MV ?_
    refine MV ?_
    refine MG 3 ?_ (v := .bool false) (hj := pf_t)
    refine ME (V := fun _ => .tuple #[]) (fun W hS => callX [0, 1] [2, 3] hS (fun hS => wr_call hS (fun hw => wflag_n false p bv (l ++ be8 ss.length ++ (ss.map (lb 32)).flatten) big W hw (by first | omega | (simp only [List.length_append, List.length_cons, List.length_nil, lb_length, be8_len, flat32, flatt]; omega)))) (fun _ => ⟨.inr ⟨rfl, rfl⟩, .inr ⟨rfl, rfl⟩, trivial⟩)) ?_
    intro w5
    refine MZ fun W hS => ?_
    go_upto_region 8 with fail
    refine RL hS ?_
    clear hS
    refine MV ?_
    refine MG 3 ?_ (v := .bool false) (hj := pf_t)
    refine MZ fun W hS => ?_
    go_wp2
    exact bodyPost_end (v := .tuple #[]) (by simp only [results, Tryd.results53]; go_simp) rfl ⟨rfl, _, by have h_ := hS.pick [0, 1, 2]; rw [← show (l ++ be8 ss.length ++ (ss.map (lb 32)).flatten) ++ [0] = l ++ pB ss false a x from by unfold pB; simp only [List.append_assoc]; rfl]; exact h_⟩
   ·
    have _f := True.intro
    go_upto_region 7 with fail
    refine RL hS ?_
    clear hS
    refine MV ?_
    refine MV ?_
    refine MG 3 ?_ (v := .bool true) (hj := pf_t)
    refine ME (V := fun _ => .tuple #[]) (fun W hS => callX [0, 1] [2, 3] hS (fun hS => wr_call hS (fun hw => wflag_n true p bv (l ++ be8 ss.length ++ (ss.map (lb 32)).flatten) big W hw (by first | omega | (simp only [List.length_append, List.length_cons, List.length_nil, lb_length, be8_len, flat32, flatt]; omega)))) (fun _ => ⟨.inr ⟨rfl, rfl⟩, .inr ⟨rfl, rfl⟩, trivial⟩)) ?_
    intro w6
    refine MZ fun W hS => ?_
    go_upto_region 8 with fail
    refine RL hS ?_
    clear hS
    refine MV ?_
    refine MG 3 ?_ (v := .bool true) (hj := pf_t)
    refine MZ fun W hS => ?_
    go_upto_region 9 with fail
    refine RL hS ?_
    clear hS
    refine MV ?_
    refine MV ?_
    refine MV ?_
    refine Ml 3 pf_k ?_
    refine ME (V := fun _ => .tuple #[]) (fun W hS => callX [0, 1] [2, 3] hS (fun hS => wr_call hS (fun hw => wsum_n a p w6 ((l ++ be8 ss.length ++ (ss.map (lb 32)).flatten) ++ [1]) big W hw (by first | omega | (simp only [List.length_append, List.length_cons, List.length_nil, lb_length, be8_len, flat32, flatt]; omega)))) (fun _ => ⟨.inr ⟨rfl, rfl⟩, .inr ⟨rfl, rfl⟩, trivial⟩)) ?_
    intro w7
    refine MZ fun W hS => ?_
    go_upto_region 10 with fail
    refine RL hS ?_
    clear hS
    refine MV ?_
    refine MV ?_
    refine MV ?_
    refine Ml 3 pf_v ?_
    refine ME (V := fun _ => .tuple #[]) (fun W hS => callX [0, 1] [2, 3] hS (fun hS => wr_call hS (fun hw => wsum_n x p w7 (((l ++ be8 ss.length ++ (ss.map (lb 32)).flatten) ++ [1]) ++ lb 32 a) big W hw (by first | omega | (simp only [List.length_append, List.length_cons, List.length_nil, lb_length, be8_len, flat32, flatt]; omega)))) (fun _ => ⟨.inr ⟨rfl, rfl⟩, .inr ⟨rfl, rfl⟩, trivial⟩)) ?_
    intro w8
    refine MZ fun W hS => ?_
    go_wp2
    exact bodyPost_end (v := .tuple #[]) (by simp only [results, Tryd.results53]; go_simp) rfl ⟨rfl, _, by have h_ := hS.pick [0, 1, 2]; rw [← show (((l ++ be8 ss.length ++ (ss.map (lb 32)).flatten) ++ [1]) ++ lb 32 a) ++ lb 32 x = l ++ pB ss true a x from by unfold pB; simp only [List.append_assoc]; rfl]; exact h_⟩
theorem rpbytes_c {ss : List Nat} {sv : Value} {th : Bool} {a x : Nat} (hn : ss.length ≤ 1000000) (w : World) (hp : RR 32 w sv (ss.map b32l)) :
  Calls Tryd.prog 50 #[.agg (pfc sv th a x)] w fun e w' => Ret (str (pB ss th a x)) w w' e := by
 obtain ⟨Ap, cp, rfl, hlcp, HRp⟩ := RR.opf hp
 have hS := SH.nil [] w
 go_enter Tryd.func50, Tryd.ntmps50
 go_upto_region 0 with fail
 refine RL hS ?_
 clear hS
 refine MN (z := pfc (.slice Ap ss.length cp) th a x) (t := 66) ?_
 intro p1_1
 refine MV ?_
 refine MZ fun W hS => ?_
 go_upto_region 1 with fail
 refine RL hS ?_
 clear hS
 refine MV ?_
 refine MG 0 ?_ (v := .slice Ap ss.length cp) (hj := pf_s)
 refine MV ?_
 refine MC (v := str (be8 ss.length)) (fun W hS => eight_c (ss.length : Int) ss.length (by omega) W) ?_
 refine MV ?_
 refine MZ fun W hS => ?_
 go_wp2_with fail
 go_loopw [3, 4] (fun tt ii wr => ∃ (i : Nat), (i ≤ ss.length) ∧ (tt = str (be8 ss.length ++ ((ss.map (lb 32)).take i).flatten)) ∧ (ii = .int .i64 (i : Int)) ∧ SH [] w wr [.b p1_1 (pfc (.slice Ap ss.length cp) th a x) 66])
  (fun tt ii _ => ss.length - (intOf ii).toNat)
 case atStart => exact ⟨0, Nat.zero_le _, by rw [List.take_zero, List.flatten_nil, List.append_nil], rfl, hS⟩
 clear hS
 case round =>
  obtain ⟨i, hi, rfl, rfl, hS⟩ := hrel
  by_cases hlt : i < ss.length
  ·
   have _f := hlt
   obtain ⟨y, yh⟩ : ∃ x, ss[i]? = some x := ⟨_, List.getElem?_eq_getElem hlt⟩
   obtain ⟨gp, op, A0p, c0p⟩ := HRp.out i y yh
   have HAp := Lib.hid A0p
   clear A0p
   go_upto_region 3 with fail
   refine RL hS ?_
   clear hS
   refine MV ?_
   refine MV ?_
   refine MG 0 ?_ (v := .slice Ap ss.length cp) (hj := pf_s)
   refine MV ?_
   refine MW ?_ (v := .bool true)
   refine MZ fun W hS => ?_
   go_upto_region 5 with fail
   refine RL hS ?_
   clear hS
   refine MV ?_
   refine MV ?_
   refine MG 0 ?_ (v := .slice Ap ss.length cp) (hj := pf_s)
   refine MV ?_
   refine MW ?_ (v := .pointer (some ⟨gp, op + i * 32, none⟩)) (hv := fun _ => run_ixRA HAp.out hlt rfl rfl rfl Tryd.underlying58 (by kernel_rfl))
   refine MW ?_ (v := .slice (some ⟨gp, op + i * 32, none⟩) 32 32)
   refine MF (v := str (lb 32 y)) (fun W hS => run_cvs (sl_c32 (fun i_ v_ h_ => cell_ext (c0p i_ v_ h_) hS.ext)) rfl rfl) ?_
   refine MW ?_ (v := str ((be8 ss.length ++ ((ss.map (lb 32)).take i).flatten) ++ (lb 32 y))) (hv := fun _ => run_cat (l := (be8 ss.length ++ ((ss.map (lb 32)).take i).flatten)) (m := (lb 32 y)) rfl rfl rfl (by first | omega | (simp only [List.length_append, List.length_cons, List.length_nil, lb_length, be8_len, flat32, flatt]; omega)))
   refine MV ?_
   refine MZ fun W hS => ?_
   go_wp2
   go_roundw
   case rel => exact ⟨i + 1, by omega, by rw [flat_snoc yh, ← List.append_assoc], by go_num, hS⟩
   case measure => simp [intOf]; omega
  ·
   have _f := hlt
   obtain rfl : i = ss.length := by omega
   rw [take_all]
   go_upto_region 3 with fail
   refine RL hS ?_
   clear hS
   refine MV ?_
   refine MV ?_
   refine MG 0 ?_ (v := .slice Ap ss.length cp) (hj := pf_s)
   refine MV ?_
   refine MW ?_ (v := .bool false)
   refine MZ fun W hS => ?_
   rcases th with _ | _
   ·
    have _f := True.intro
    go_upto_region 6 with fail
    refine RL hS ?_
    clear hS
    refine MV ?_
    refine MG 0 ?_ (v := .bool false) (hj := pf_t)
    refine MW ?_ (v := .bool true)
    refine MZ fun W hS => ?_
    go_upto_region 7 with fail
    refine RL hS ?_
    clear hS
    refine MV ?_
    refine MW ?_ (v := str ((be8 ss.length ++ (ss.map (lb 32)).flatten) ++ [0])) (hv := fun _ => run_cat (l := (be8 ss.length ++ (ss.map (lb 32)).flatten)) (m := [0]) rfl rfl rfl (by first | omega | (simp only [List.length_append, List.length_cons, List.length_nil, lb_length, be8_len, flat32, flatt]; omega)))
    refine MV ?_
    refine MZ fun W hS => ?_
    go_wp2
    exact bodyPost_ret (v := str ((be8 ss.length ++ (ss.map (lb 32)).flatten) ++ [0])) (by simp only [results, Tryd.results50]; go_simp) rfl ⟨by rw [show (be8 ss.length ++ (ss.map (lb 32)).flatten) ++ [0] = pB ss false a x from by unfold pB; simp only [List.append_assoc]; rfl], hS.ext⟩
   ·
    have _f := True.intro
    go_upto_region 6 with fail
    refine RL hS ?_
    clear hS
    refine MV ?_
    refine MG 0 ?_ (v := .bool true) (hj := pf_t)
    refine MW ?_ (v := .bool false)
    refine MZ fun W hS => ?_
    go_upto_region 8 with fail
    refine RTh (.q 0 (.q 1 (.q 2 (.q 3 (.q 4 (.q 5 (.q 6 (.q 7 (.q 8 (.q 9 (.q 10 (.q 11 (.q 12 .z))))))))))))) hS ?_
    clear hS
    refine TV ?_
    refine TW ?_ (v := str ((be8 ss.length ++ (ss.map (lb 32)).flatten) ++ [1])) (hv := fun _ => run_cat (l := (be8 ss.length ++ (ss.map (lb 32)).flatten)) (m := [1]) rfl rfl rfl (by first | omega | (simp only [List.length_append, List.length_cons, List.length_nil, lb_length, be8_len, flat32, flatt]; omega)))
    refine TV ?_
    refine TV ?_
    refine TW ?_ (v := .slice (some ⟨p1_1, 2, none⟩) 32 32)
    refine TF (v := str (lb 32 a)) rfl (fun W hS => run_cvs (sl_part (V := a) (n := 32) (off := 2) (c := 32) (hS.blk (i := 0) rfl) pf_k (by decide) (by decide)) rfl rfl) ?_
    refine TW ?_ (v := str (((be8 ss.length ++ (ss.map (lb 32)).flatten) ++ [1]) ++ (lb 32 a))) (hv := fun _ => run_cat (l := ((be8 ss.length ++ (ss.map (lb 32)).flatten) ++ [1])) (m := (lb 32 a)) rfl rfl rfl (by first | omega | (simp only [List.length_append, List.length_cons, List.length_nil, lb_length, be8_len, flat32, flatt]; omega)))
    refine TV ?_
    refine TV ?_
    refine TW ?_ (v := .slice (some ⟨p1_1, 34, none⟩) 32 32)
    refine TF (v := str (lb 32 x)) rfl (fun W hS => run_cvs (sl_part (V := x) (n := 32) (off := 34) (c := 32) (hS.blk (i := 0) rfl) pf_v (by decide) (by decide)) rfl rfl) ?_
    refine TW ?_ (v := str ((((be8 ss.length ++ (ss.map (lb 32)).flatten) ++ [1]) ++ (lb 32 a)) ++ (lb 32 x))) (hv := fun _ => run_cat (l := (((be8 ss.length ++ (ss.map (lb 32)).flatten) ++ [1]) ++ (lb 32 a))) (m := (lb 32 x)) rfl rfl rfl (by first | omega | (simp only [List.length_append, List.length_cons, List.length_nil, lb_length, be8_len, flat32, flatt]; omega)))
    refine TV ?_
    refine TZ (fun _ h => h) fun W hS => ?_
    go_wp2
    exact bodyPost_ret (v := str ((((be8 ss.length ++ (ss.map (lb 32)).flatten) ++ [1]) ++ (lb 32 a)) ++ (lb 32 x))) (by simp only [results, Tryd.results50]; go_simp) rfl ⟨by rw [show (((be8 ss.length ++ (ss.map (lb 32)).flatten) ++ [1]) ++ (lb 32 a)) ++ (lb 32 x) = pB ss true a x from by unfold pB; simp only [List.append_assoc]; rfl], hS.ext⟩
end Go.Proofs.YtndnlbinnhdmbaaDoor

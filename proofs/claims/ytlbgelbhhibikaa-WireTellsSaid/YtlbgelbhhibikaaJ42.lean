/- The laws of layer 24: requests are compared; from; wires. Conditions: memory holds what is written. WireAsks. Conditions: numbers have 64 bits. WireSaw. Conditions: numbers have 64 bits, sums 256. The law's answers, by their parts, without memory. No conditions. -/
import Derived.Test.YtlbgelbhhibikaaJ36
import Derived.Laws.StructEq
import Derived.Test.YtlbgelbhhibikaaWx
import Derived.Test.YtlbgelbhhibikaaWv
import Derived.Test.YtlbgelbhhibikaaYl
import Derived.Test.YtlbgelbhhibikaaJ40
set_option linter.unusedSimpArgs false
set_option linter.unusedVariables false
namespace Go.Proofs.Ytlbgelbhhibikaa.Ww
set_option maxHeartbeats 1500000
set_option maxRecDepth 100000
open Go.RowKit
attribute [local irreducible] wpList wpTr wpX
set_option linter.unusedSimpArgs false
attribute [local irreducible] lb be8 eI tB txL txB dtx dok txV txS tkS byV nuV suV enV

theorem w_ask : isK (4 : Int) ∧ askB ⟨4, [97], 0, 0, 0, 0, 0, 0, [], [], 0, 0, []⟩ = false ∧ askL ⟨4, [97], 0, 0, 0, 0, 0, 0, [], [], 0, 0, []⟩ = [4, 0, 1, 97] := ⟨by decide, by decide +kernel, by decide +kernel⟩
theorem w_asked : askedM [4, 0, 2, 97] = none := by decide +kernel
theorem ask_yes {q : Rq} {iv lv vv bv : Value} (h : isK q.k ∧ askB q = false) (w : World) (hid : Sl w iv q.id) (hlab : Sl w lv q.lab) (hval : Sl w vv q.val) (hbun : Sl w bv q.bun) :
 Calls Try.prog 10 #[.agg (rqF q iv lv vv bv)] w fun e w' => ∃ u, e = .returned (.tuple #[u, .int .i64 0]) ∧ SH [] w w' [.o u (askL q)] :=
 (ask_c w hid hlab hval hbun).mono fun e w' hc => hc.elim (fun ⟨h1, _⟩ => (h1.elim (fun h2 => absurd h.1 h2) (fun h2 => by rw [h.2] at h2; cases h2))) (fun ⟨_, h2⟩ => h2)
theorem asked_not {u : Value} {l : List UInt8} (hq : askedM l = none) (hl : l.length ≤ 1000000) (w : World) (hs : Sl w u l) :
 Calls Try.prog 14 #[u] w fun e w' => Ret (.tuple #[.agg zRQ, .int .i64 2]) w w' e :=
 (asked_c hl w hs).mono fun e w' hc => hc.elim (fun ⟨_, h2⟩ => h2) (fun ⟨q', h1, _⟩ => by rw [hq] at h1; cases h1)
theorem wires_c (w : World) :
  Calls Try.prog 12 #[] w fun e w' => Ret (.bool true) w w' e := by
 have hS := SH.nil [] w
 go_enter Try.func12, Try.ntmps12
 go_upto_region 1 with fail
 refine RL hS ?_
 clear hS
 refine MO (m := [97]) (n := 1) (z := #[.int .u8 97]) ?_
 intro v6_1
 refine MSm 0 (l := [97]) (by first | decide | (simp only [List.length_append, List.length_cons, List.length_nil]; omega)) ?_
 refine MFact (fun W hS => (sl_cells (hS.sl (i := 0) rfl)).2) ?_
 intro oc_s62
 refine MF (v := .agg (agF [.c (.int .i64 4), .c v6_1, .a 32 0, .a 32 0, .c (.int .i64 0), .c (.int .i64 0), .c (.int .i64 0), .c (.int .i64 0), .c (.slice none 0 0), .c (.slice none 0 0), .c (.int .i64 0), .c (.int .i64 0), .c (.slice none 0 0)])) (fun W hS => run_bld rfl rfl zer_wire_Request plc_wire_Request (fill_c (fill_c fill_n (l' := [.c (.int .i64 4), .c v6_1, .a 32 0, .a 32 0, .c (.int .i64 0), .c (.int .i64 0), .c (.int .i64 0), .c (.int .i64 0), .c (.slice none 0 0), .c (.slice none 0 0), .c (.int .i64 0), .c (.int .i64 0), .c (.slice none 0 0)]) (m := [.c v6_1]) (hv := (sl_cells (hS.sl (i := 0) rfl)).1) (hs := agF_setp 1 1) (hp := rfl) (hn := rfl) (hb := by show 1 + 1 ≤ 75; decide)) (l' := [.c (.int .i64 4), .c (.slice none 0 0), .a 32 0, .a 32 0, .c (.int .i64 0), .c (.int .i64 0), .c (.int .i64 0), .c (.int .i64 0), .c (.slice none 0 0), .c (.slice none 0 0), .c (.int .i64 0), .c (.int .i64 0), .c (.slice none 0 0)]) (m := [.c (.int .i64 4)]) (hv := rfl) (hs := agF_setp 0 1) (hp := rfl) (hn := rfl) (hb := by show 0 + 1 ≤ 75; decide))) ?_
 refine ME (V := fun u => .tuple #[u, .int .i64 0]) (fun W hS => ncallW (l := [4, 0, 1, 97]) hS (by have h_ := ask_yes (q := ⟨4, [97], 0, 0, 0, 0, 0, 0, [], [], 0, 0, []⟩) ⟨w_ask.1, w_ask.2.1⟩ W (hS.sl (i := 0) rfl) (sl_nil W) (sl_nil W) (sl_nil W); rw [w_ask.2.2] at h_; exact h_)) ?_
 intro ua3
 refine MV ?_
 refine MV ?_
 refine MW ?_ (v := .int .i64 0)
 refine MV ?_
 refine MW ?_ (v := .int .i64 0)
 refine MZ fun W hS => ?_
 go_upto_region 2 with fail
 refine RL hS ?_
 clear hS
 refine MO (m := [4, 0, 2, 97]) (n := 4) (z := #[.int .u8 4, .int .u8 0, .int .u8 2, .int .u8 97]) ?_
 intro v13_4
 refine MC (v := .tuple #[.agg (agF [.c (.int .i64 0), .c (.slice none 0 0), .a 32 0, .a 32 0, .c (.int .i64 0), .c (.int .i64 0), .c (.int .i64 0), .c (.int .i64 0), .c (.slice none 0 0), .c (.slice none 0 0), .c (.int .i64 0), .c (.int .i64 0), .c (.slice none 0 0)]), .int .i64 2]) (fun W hS => asked_not w_asked (by decide) W (hS.osl (i := 0) rfl)) ?_
 refine MV ?_
 refine MV ?_
 refine MW ?_ (v := .int .i64 2)
 refine MN (z := agF [.c (.int .i64 0), .c (.slice none 0 0), .a 32 0, .a 32 0, .c (.int .i64 0), .c (.int .i64 0), .c (.int .i64 0), .c (.int .i64 0), .c (.slice none 0 0), .c (.slice none 0 0), .c (.int .i64 0), .c (.int .i64 0), .c (.slice none 0 0)]) (t := 33) ?_
 intro p3_5
 refine MR 0 ?_ (hz := by rw [agF_size]; kernel_rfl) (hs := by first | (rw [agF_size, agF_size]; rfl) | rfl) (h1 := by exact (agF_one ⟨rfl, rfl, rfl, rfl, rfl, rfl, rfl, rfl, rfl, rfl, rfl, trivial⟩))
 refine MW ?_ (v := .int .i64 2)
 refine MZ fun W hS => ?_
 go_upto_region 3 with fail
 refine RL hS ?_
 clear hS
 refine MW ?_ (v := .int .i64 0)
 refine MW ?_ (v := .bool true)
 refine MW ?_ (v := .bool true)
 refine MV ?_
 refine MF (v := str [4, 0, 1, 97]) (fun W hS => run_cvs (hS.osl (i := 2) rfl) rfl rfl) ?_
 refine MW ?_ (v := .bool true) (hv := fun _ => run_streqb (l := [4, 0, 1, 97]) (m := [4, 0, 1, 97]) (b := true) (decide_eq_true rfl) rfl rfl rfl)
 refine MW ?_ (v := .bool true)
 refine MW ?_ (v := .bool true)
 refine MW ?_ (v := .int .i64 2)
 refine MW ?_ (v := .bool true)
 refine MW ?_ (v := .bool true)
 refine MW ?_ (v := .bool true)
 refine MZ fun W hS => ?_
 go_wp2
 first | exact bodyPost_ret (v := .bool true) (by simp only [results, Try.results12]; go_simp) rfl ⟨rfl, hS.ext⟩ | exact bodyPost_end (v := .bool true) (by simp only [results, Try.results12]; go_simp) rfl ⟨rfl, hS.ext⟩
end Go.Proofs.Ytlbgelbhhibikaa.Ww

set_option linter.unusedSimpArgs false
set_option linter.unusedVariables false
namespace Go.Proofs.Ytlbgelbhhibikaa.Ww
set_option maxHeartbeats 1500000
set_option maxRecDepth 100000
open Go.RowKit
attribute [local irreducible] wpList wpTr wpX
set_option linter.unusedSimpArgs false
attribute [local irreducible] lb be8 eI tB txL txB dtx dok txV txS tkS byV nuV suV enV askL askB daskL cutQ

end Go.Proofs.Ytlbgelbhhibikaa.Ww

set_option linter.unusedSimpArgs false
set_option linter.unusedVariables false
namespace Go.Proofs.Ytlbgelbhhibikaa.Ww
set_option maxHeartbeats 6000000
set_option maxRecDepth 100000
open Go.RowKit
attribute [local irreducible] wpList wpTr wpX
set_option linter.unusedSimpArgs false
theorem sized_n {d : Do} {f : Fo} {sv u : Value} (hf : szD d = f) (w : World) (hsm : RR 32 w sv (d.ss.map b32l)) (hu : ∀ W, (Instr.sliceAt 48 sv none (some (.int .i64 ((min d.ss.length 258 : Nat) : Int))) none).run Try.prog W = .ok u W) (hR : RR 32 w u (f.ss.map b32l)) :
  Calls Try.prog 16 #[.agg (doF d sv)] w fun e w' => Ret (.agg (dfF f u)) w w' e := by
 subst hf; exact sized_c w hsm hu hR
theorem fOf_toD {f : Fo} (hw : wfF f) : fOf (toD f) = f := by
 obtain ⟨ep, ix, vr, pre, ver, val, bo, op, ss, th, a, x, ro, li, ah, rd⟩ := f
 obtain ⟨_, ⟨h1, h2, h3, h4⟩, _, h5, h6, h7⟩ := hw
 have t : ∀ n X, X < 2 ^ (8 * n) → le ((lb n X).take n) = X := fun n X h => by rw [List.take_of_length_le (by rw [lb_length]; exact Nat.le_refl _), le_lb n X h]
 show Fo.mk ep (le ((lb 32 ix).take 32)) (le ((lb 80 vr).take 80)) pre ver val (le ((lb 32 bo).take 32)) (le ((lb 32 op).take 32)) ss th a x (le ((lb 32 ro).take 32)) (le ((lb 32 li).take 32)) (le ((lb 32 ah).take 32)) rd = _
 rw [t 32 ix h1, t 80 vr h2, t 32 bo h3, t 32 op h4, t 32 ro h5, t 32 li h6, t 32 ah h7]
theorem found_n {f : Fo} {sv : Value} (hw : wfF f) (hv : f.val.length ≤ 1000000) (w : World) (hsm : RR 32 w sv (f.ss.map b32l)) :
  Calls Try.prog 18 #[.agg (dfF f sv)] w fun e w' => ∃ vv, e = .returned (.agg (foF f vv sv)) ∧ SH [] w w' [.w vv f.val] := by
 have h := found_c (d := toD f) hv w hsm
 rw [fOf_toD hw] at h; exact h
theorem szD_val (d : Do) : (szD d).val.length ≤ 80 := by
 show (d.val.take _).length ≤ 80
 rw [List.length_take]; omega
theorem szD_ss (d : Do) : (szD d).ss.length ≤ 258 := by
 show (d.ss.take _).length ≤ 258
 rw [List.length_take]; omega
theorem szD_wf {d : Do} (h1 : i64 d.ep) (h2 : i64 d.ver) (h3 : i64 d.rd) (hs : ∀ y ∈ d.ss, y < 2 ^ 256) (ha : d.a < 2 ^ 256) (hx : d.x < 2 ^ 256) : wfF (szD d) := by
 have hl : ∀ (n : Nat) (x : List UInt8), le (x.take n) < 2 ^ (8 * n) := fun n x => Nat.lt_of_lt_of_le (le_lt _) (Nat.pow_le_pow_right (by decide) (by rw [List.length_take]; omega))
 exact ⟨⟨h1, h2, h3⟩, ⟨hl 32 _, hl 80 _, hl 32 _, hl 32 _⟩, ⟨fun y hy => hs y (List.mem_of_mem_take hy), ha, hx⟩, hl 32 _, hl 32 _, hl 32 _⟩
theorem head_258 (ss : List Nat) : (ss.map b32l).take (min ss.length 258) = (ss.take 258).map b32l := by
 rw [← List.map_take, Nat.min_comm, ← List.take_take, List.take_length]
attribute [local irreducible] lb be8 eI tB txL txB dtx dok pB foL foB rFo rok szD dfL

end Go.Proofs.Ytlbgelbhhibikaa.Ww

set_option linter.unusedSimpArgs false
set_option linter.unusedVariables false
namespace Go.Proofs.Ytlbgelbhhibikaa
open Go.RowKit
/-- the ways through a region meet again behind it -/
theorem RJF {P : Program} {ops : Array Oper} {id : Nat} {a : Act} {w : World} {Q : Exit → Act → World → Prop} {R : Act → World → Prop} (h : (Code.region id ops false).wp P (Nml R) a w) (hk : ∀ a' w', R a' w' → Q .normal a' w') : (Code.region id ops false).wp P Q a w :=
  Code.wp_mono (fun e a' w' h' => by cases e <;> first | exact hk _ _ h' | exact (h' : False).elim) h
/-- a row that is read lies somewhere -/
theorem rr_pure {α : Type} {f : α → List Value} {k : Nat} {w : World} {u : Value} {ls : List α} (h : RR k w u (ls.map f)) : ∃ A c, u = .slice A ls.length c ∧ ∀ (j : Nat) (x : α), ls[j]? = some x → ∃ g o, A = some ⟨g, o, none⟩ := by
  obtain ⟨A, c, h1, _, h3⟩ := RR.opf h
  exact ⟨A, c, h1, fun j x hj => by obtain ⟨g, o, h4, _⟩ := h3.out j x hj; exact ⟨g, o, h4⟩⟩
namespace SH
variable {w W W' : World} {H : List As}
/-- a fact about what is new, or was there from the beginning -/
theorem newp0 {f : List Nat} {K : World → Prop} (h : SH [] w W H) (q : Off [] W W') (hz : (As.p f K).holds W') (hf : ∀ k ∈ f, k < w.heap.size ∨ W.heap.size ≤ k) : SH [] w W' (.p f K :: H) := by
  refine addq (h.next q) hz fun y hy hm k hk hk' => ?_
  rcases hf k hk' with h1 | h1
  · have := h.old y hy hm k hk h1; cases this
  · exact Nat.not_lt.2 h1 (As.lt (h.all y hy) k hk)
theorem foldo {f G : List Nat} {N R : List As} (h : SH [] w W (N ++ R)) (hf : InN N f) (hN : ∀ x ∈ N, x.mv = false → ∀ k ∈ x.foot, k ∈ G) : ∀ k ∈ f, k ∈ G ∨ w.heap.size ≤ k := fun k hk => by
  obtain ⟨x, hx, ht, hkx⟩ := hf k hk
  cases hm : x.mv with
  | false => exact .inl (hN x hx hm k hkx)
  | true => exact .inr (Nat.le_of_not_lt fun hlt => by have := h.old x (List.mem_append.2 (.inl hx)) hm k hkx hlt; cases this)
end SH
end Go.Proofs.Ytlbgelbhhibikaa
namespace Go.Proofs.Ytlbgelbhhibikaa.Ww
open Go.RowKit
set_option linter.unusedSimpArgs false
/-- versions of one text -/
def enA (nu : Int) (u : Value) (tx : List UInt8) : Nat → List En
  | 0 => []
  | n + 1 => enA nu u tx n ++ [⟨(n : Int), nu, u, tx⟩]
def enS (nu : Int) (tx : List UInt8) : Nat → List UInt8
  | 0 => []
  | n + 1 => enS nu tx n ++ (eI (n : Int) ++ eI nu ++ tB tx)
theorem enA_len (nu : Int) (u : Value) (tx : List UInt8) (n : Nat) : (enA nu u tx n).length = n := by
  induction n with
  | zero => rfl
  | succ n ih => show (enA nu u tx n ++ [_]).length = _; rw [List.length_append, ih]; rfl
theorem enS_len (nu : Int) (tx : List UInt8) (h : tx.length ≤ 100) (n : Nat) : (enS nu tx n).length ≤ 118 * n := by
  induction n with
  | zero => exact Nat.le_refl _
  | succ n ih =>
    show (enS nu tx n ++ _).length ≤ _
    simp only [List.length_append, eI_len, tB_len]; omega
theorem enA_map (nu : Int) (u : Value) (tx : List UInt8) (n : Nat) : (enA nu u tx (n + 1)).map enC = (enA nu u tx n).map enC ++ [enC ⟨(n : Int), nu, u, tx⟩] := by
  show (enA nu u tx n ++ [_]).map enC = _
  rw [List.map_append]; rfl
theorem enA_mem {nu : Int} {u : Value} {tx : List UInt8} {n : Nat} {y : En} (h : y ∈ enA nu u tx n) : y.u = u ∧ y.val = tx := by
  induction n with
  | zero => cases h
  | succ n ih =>
    rcases List.mem_append.1 h with h | h
    · exact ih h
    · rw [List.mem_singleton.1 h]; exact ⟨rfl, rfl⟩
theorem enA_K {nu : Int} {u : Value} {tx : List UInt8} {n : Nat} {W : World} (h : Sl W u tx) : enK (enA nu u tx n) W := fun y hy => by
  obtain ⟨h1, h2⟩ := enA_mem hy
  rw [h1, h2]; exact h
theorem enA_ft {nu : Int} {u : Value} {tx : List UInt8} {n : Nat} {k : Nat} (h : k ∈ enFt (enA nu u tx n)) : k ∈ (sb u tx).toList := by
  obtain ⟨y, hy, h1⟩ := List.mem_flatMap.1 h
  obtain ⟨h2, h3⟩ := enA_mem hy
  rw [h2, h3] at h1; exact h1
theorem enS_step (b : List UInt8) (nu : Int) (tx : List UInt8) (n : Nat) : b ++ enS nu tx (n + 1) = b ++ enS nu tx n ++ eI (n : Int) ++ eI nu ++ tB tx := by
  show b ++ (enS nu tx n ++ _) = _
  simp only [List.append_assoc]
theorem enA_0 {nu : Int} {u : Value} {tx : List UInt8} : enA nu u tx 0 = [] := rfl
theorem enS_0 {nu : Int} {tx : List UInt8} : enS nu tx 0 = [] := rfl
/-- marks of roots -/
def mkA (nu : Int) (sm : Nat) (ss : List Nat) : List Mrk := ss.map fun r => ⟨nu, r, sm⟩
def mkS (nu : Int) (sm : Nat) (ss : List Nat) : List UInt8 := ((mkA nu sm ss).map mkB).flatten
theorem mkA_0 {nu : Int} {sm : Nat} : mkA nu sm [] = [] := rfl
theorem mkS_0 {nu : Int} {sm : Nat} : mkS nu sm [] = [] := rfl
theorem mkA_step {nu : Int} {sm : Nat} {ss : List Nat} {i y : Nat} (h : ss[i]? = some y) : mkA nu sm (ss.take (i + 1)) = mkA nu sm (ss.take i) ++ [⟨nu, y, sm⟩] := by
  unfold mkA
  rw [List.take_add_one, h, List.map_append]; rfl
theorem mkA_map {nu : Int} {sm : Nat} {ss : List Nat} {i y : Nat} (h : ss[i]? = some y) : (mkA nu sm (ss.take (i + 1))).map mkC = (mkA nu sm (ss.take i)).map mkC ++ [mkC ⟨nu, y, sm⟩] := by rw [mkA_step h, List.map_append]; rfl
theorem mkS_step {nu : Int} {sm : Nat} {ss : List Nat} {i y : Nat} (b : List UInt8) (h : ss[i]? = some y) : b ++ mkS nu sm (ss.take (i + 1)) = b ++ mkS nu sm (ss.take i) ++ eI nu ++ lb 32 y ++ lb 32 sm := by
  unfold mkS
  rw [mkA_step h, List.map_append, List.flatten_append]
  show b ++ (_ ++ ([mkB ⟨nu, y, sm⟩].flatten)) = _
  rw [List.flatten_singleton]
  unfold mkB
  simp only [List.append_assoc]
theorem mkA_len (nu : Int) (sm : Nat) (ss : List Nat) : (mkA nu sm ss).length = ss.length := List.length_map ..
theorem mkS_len (nu : Int) (sm : Nat) (ss : List Nat) : (mkS nu sm ss).length = 72 * ss.length := by unfold mkS; rw [flatm, mkA_len]
theorem dfL_le {f : Fo} (hn : f.ss.length ≤ 258) : (dfL f).length ≤ 10000 := by
  have h1 := dtx_le (most := 64) (m := 64) (t := f.val) rfl
  have h2 := pB_ln (ss := f.ss) (th := f.th) (a := f.a) (x := f.x)
  unfold dfL
  simp only [List.length_append, eI_len, lb_length, tB_len, List.length_cons, List.length_nil]
  omega
abbrev unS (f : Fo) (nu : Int) (sm : Nat) (sg : List UInt8) (ss : List Nat) : List UInt8 := pB f.ss f.th f.a f.x ++ eI nu ++ lb 32 sm ++ tB sg ++ lb 32 sm ++ sB ss
theorem few_or (a b : Nat) : (a ≤ 256 ∧ b ≤ 256) ∨ (a ≤ 256 ∧ ¬ b ≤ 256) ∨ ¬ a ≤ 256 := by omega
theorem frG {G : List Nat} {K : World → Prop} {N : List As} (h : N.all (·.mv) = true) : ∀ x ∈ (As.p G K :: N), x.mv = false → ∀ k ∈ x.foot, k ∈ G := fun x hx hm k hk => by
  rcases List.mem_cons.1 hx with rfl | hx
  · exact hk
  · have := List.all_eq_true.1 h x hx; rw [hm] at this; cases this
theorem fr0 {G : List Nat} {N : List As} (h : N.all (·.mv) = true) : ∀ x ∈ N, x.mv = false → ∀ k ∈ x.foot, k ∈ G := fun x hx hm k hk => by
  have := List.all_eq_true.1 h x hx; rw [hm] at this; cases this
theorem dsaw_b {f : Fo} {sv : Value} {b : Bool} (hb : dfB f = b) (hn : f.ss.length ≤ 1000000) (hv : f.val.length ≤ 1000000) (w : World) (hsm : RR 32 w sv (f.ss.map b32l)) :
    Calls Try.prog 19 #[.agg (dfF f sv)] w fun e w' => Ret (.tuple #[str (dfL f), .bool b]) w w' e := by
  have h := dsaw_c hn hv w hsm
  rw [hb] at h; exact h
/-- an answer's parts, by kinds -/
structure Tp where
  k : Int
  er : Int
  nu : Int
  f : Fo
  sm : Nat
  ss : List Nat
  sg : List UInt8
  tx : List UInt8
  gone : Bool
abbrev Tp.un (t : Tp) : Un := ⟨t.f.ss, t.f.th, t.f.a, t.f.x, t.nu, t.sm, le (t.sg.take 64), t.sm, t.ss⟩
abbrev Tp.hd (t : Tp) : List UInt8 := [u8 t.k.toNat] ++ [u8 t.er.toNat]
abbrev Tp.unS (t : Tp) : List UInt8 := pB t.f.ss t.f.th t.f.a t.f.x ++ eI t.nu ++ lb 32 t.sm ++ tB t.sg ++ lb 32 t.sm ++ sB t.ss
def Tp.few (t : Tp) : Bool := decide (t.ss.length ≤ 256) && decide (t.f.ss.length ≤ 256)
def Tp.A (t : Tp) (x : Value) : An :=
  if t.k = 1 then { zA t.k t.er with ep := t.nu }
  else if t.k = 10 then { zA t.k t.er with ep := t.nu }
  else if t.k = 6 then { zA t.k t.er with f := t.f, pub := t.sm, lat := t.ss, u := t.un }
  else if t.k = 7 then { zA t.k t.er with en := enA t.nu x t.tx t.ss.length }
  else if t.k = 8 then { zA t.k t.er with mks := mkA t.nu t.sm t.ss }
  else if t.k = 9 then { zA t.k t.er with bun := t.tx }
  else if t.k = 11 then { zA t.k t.er with m := ⟨t.tx, t.gone, t.nu, t.sm⟩, u := t.un }
  else if t.k = 12 then { zA t.k t.er with lo := t.sm, su := t.ss }
  else zA t.k t.er
def Tp.S (t : Tp) : List UInt8 :=
  if t.k = 1 then t.hd ++ eI t.nu
  else if t.k = 10 then t.hd ++ eI t.nu
  else if t.k = 6 then t.hd ++ dfL t.f ++ lb 32 t.sm ++ sB t.ss ++ t.unS
  else if t.k = 7 then t.hd ++ eI (t.ss.length : Int) ++ enS t.nu t.tx t.ss.length
  else if t.k = 8 then t.hd ++ eI (t.ss.length : Int) ++ mkS t.nu t.sm t.ss
  else if t.k = 9 then t.hd ++ tB t.tx
  else if t.k = 11 then t.hd ++ tB t.tx ++ [u8 (if t.gone = true then 1 else 0)] ++ eI t.nu ++ lb 32 t.sm ++ t.unS
  else if t.k = 12 then t.hd ++ lb 32 t.sm ++ sB t.ss
  else t.hd
def Tp.O (t : Tp) : Bool :=
  if t.k = 6 then dfB t.f && t.few
  else if t.k = 7 then decide (t.ss.length = 0) || decide (t.tx.length ≤ 64)
  else if t.k = 11 then decide (t.tx.length ≤ 16) && t.few
  else if t.k = 12 then decide (t.ss.length ≤ 256)
  else true
theorem tup3 {a a' b b' c c' : Value} (h1 : a = a') (h2 : b = b') (h3 : c = c') : Ending.returned (.tuple #[a, b, c]) = Ending.returned (.tuple #[a', b', c']) := by subst h1 h2 h3; rfl
/-- the document's answer -/
def AnsR (G : List Nat) (A : An) (S : List UInt8) (O : Bool) (w w' : World) (e : Ending) : Prop := ∃ v : Av, e = .returned (.tuple #[.agg (anF A v), str S, .bool O]) ∧ SH [] w w' [anT A v] ∧ ∀ k ∈ anFt A v, k ∈ G ∨ w.heap.size ≤ k
theorem tp_1 {t : Tp} {x : Value} (h : t.k = 1) : t.A x = { zA t.k t.er with ep := t.nu } ∧ t.S = t.hd ++ eI t.nu ∧ t.O = true := by
  obtain ⟨k, er, nu, f, sm, ss, sg, tx, gone⟩ := t
  subst h; exact ⟨rfl, rfl, rfl⟩
theorem tp_10 {t : Tp} {x : Value} (h : t.k = 10) : t.A x = { zA t.k t.er with ep := t.nu } ∧ t.S = t.hd ++ eI t.nu ∧ t.O = true := by
  obtain ⟨k, er, nu, f, sm, ss, sg, tx, gone⟩ := t
  subst h; exact ⟨rfl, rfl, rfl⟩
theorem tp_6 {t : Tp} {x : Value} (h : t.k = 6) : t.A x = { zA t.k t.er with f := t.f, pub := t.sm, lat := t.ss, u := t.un } ∧ t.S = t.hd ++ dfL t.f ++ lb 32 t.sm ++ sB t.ss ++ t.unS ∧ t.O = (dfB t.f && t.few) := by
  obtain ⟨k, er, nu, f, sm, ss, sg, tx, gone⟩ := t
  subst h; exact ⟨rfl, rfl, rfl⟩
theorem tp_7 {t : Tp} {x : Value} (h : t.k = 7) : t.A x = { zA t.k t.er with en := enA t.nu x t.tx t.ss.length } ∧ t.S = t.hd ++ eI (t.ss.length : Int) ++ enS t.nu t.tx t.ss.length ∧ t.O = (decide (t.ss.length = 0) || decide (t.tx.length ≤ 64)) := by
  obtain ⟨k, er, nu, f, sm, ss, sg, tx, gone⟩ := t
  subst h; exact ⟨rfl, rfl, rfl⟩
theorem tp_8 {t : Tp} {x : Value} (h : t.k = 8) : t.A x = { zA t.k t.er with mks := mkA t.nu t.sm t.ss } ∧ t.S = t.hd ++ eI (t.ss.length : Int) ++ mkS t.nu t.sm t.ss ∧ t.O = true := by
  obtain ⟨k, er, nu, f, sm, ss, sg, tx, gone⟩ := t
  subst h; exact ⟨rfl, rfl, rfl⟩
theorem tp_9 {t : Tp} {x : Value} (h : t.k = 9) : t.A x = { zA t.k t.er with bun := t.tx } ∧ t.S = t.hd ++ tB t.tx ∧ t.O = true := by
  obtain ⟨k, er, nu, f, sm, ss, sg, tx, gone⟩ := t
  subst h; exact ⟨rfl, rfl, rfl⟩
theorem tp_11 {t : Tp} {x : Value} (h : t.k = 11) : t.A x = { zA t.k t.er with m := ⟨t.tx, t.gone, t.nu, t.sm⟩, u := t.un } ∧ t.S = t.hd ++ tB t.tx ++ [u8 (if t.gone = true then 1 else 0)] ++ eI t.nu ++ lb 32 t.sm ++ t.unS ∧ t.O = (decide (t.tx.length ≤ 16) && t.few) := by
  obtain ⟨k, er, nu, f, sm, ss, sg, tx, gone⟩ := t
  subst h; exact ⟨rfl, rfl, rfl⟩
theorem tp_12 {t : Tp} {x : Value} (h : t.k = 12) : t.A x = { zA t.k t.er with lo := t.sm, su := t.ss } ∧ t.S = t.hd ++ lb 32 t.sm ++ sB t.ss ∧ t.O = decide (t.ss.length ≤ 256) := by
  obtain ⟨k, er, nu, f, sm, ss, sg, tx, gone⟩ := t
  subst h; exact ⟨rfl, rfl, rfl⟩
theorem tp_o {t : Tp} {x : Value} (h : noK t.k) : t.A x = zA t.k t.er ∧ t.S = t.hd ∧ t.O = true := by
  obtain ⟨h1, h2, h3, h4, h5, h6, h7, h8⟩ := h
  unfold Tp.A Tp.S Tp.O
  simp only [if_neg h1, if_neg h2, if_neg h3, if_neg h4, if_neg h5, if_neg h6, if_neg h7, if_neg h8, and_self]
/-- with the cases ahead of the kinds -/
abbrev okT2 (k er : Int) : Prop := (0 ≤ k ∧ k ≤ 12) ∧ 0 ≤ er ∧ er ≤ 255
def Tp.A2 (t : Tp) (x : Value) : An := if okT2 t.k t.er ∧ t.er = 0 then t.A x else zA t.k t.er
def Tp.S2 (t : Tp) : List UInt8 := if okT2 t.k t.er then (if t.er = 0 then t.S else t.hd) else []
def Tp.O2 (t : Tp) : Bool := if okT2 t.k t.er then (if t.er = 0 then t.O else true) else false
theorem t2_ok {t : Tp} {x : Value} (h : okT2 t.k t.er) (he : t.er = 0) : t.A2 x = t.A x ∧ t.S2 = t.S ∧ t.O2 = t.O := by
  unfold Tp.A2 Tp.S2 Tp.O2
  rw [if_pos ⟨h, he⟩, if_pos h, if_pos he, if_pos h, if_pos he]; exact ⟨rfl, rfl, rfl⟩
theorem t2_e {t : Tp} {x : Value} (h : okT2 t.k t.er) (he : ¬ t.er = 0) : t.A2 x = zA t.k t.er ∧ t.S2 = t.hd ∧ t.O2 = true := by
  unfold Tp.A2 Tp.S2 Tp.O2
  rw [if_neg (fun x => he x.2), if_pos h, if_neg he, if_pos h, if_neg he]; exact ⟨rfl, rfl, rfl⟩
theorem t2_none {t : Tp} {x : Value} (h : ¬ okT2 t.k t.er) : t.A2 x = zA t.k t.er ∧ t.S2 = [] ∧ t.O2 = false := by
  unfold Tp.A2 Tp.S2 Tp.O2
  rw [if_neg (fun x => h x.1), if_neg h, if_neg h]; exact ⟨rfl, rfl, rfl⟩
theorem tq {t : Tp} {x : Value} {X : An} {Y : List UInt8} {Z : Bool} (h : t.A2 x = t.A x ∧ t.S2 = t.S ∧ t.O2 = t.O) (h2 : t.A x = X ∧ t.S = Y ∧ t.O = Z) : t.A2 x = X ∧ t.S2 = Y ∧ t.O2 = Z := ⟨h.1.trans h2.1, h.2.1.trans h2.2.1, h.2.2.trans h2.2.2⟩
theorem ok_or (k er : Int) : okT2 k er ∨ k < 0 ∨ (¬ k < 0 ∧ 12 < k) ∨ (¬ k < 0 ∧ ¬ 12 < k ∧ er < 0) ∨ (¬ k < 0 ∧ ¬ 12 < k ∧ ¬ er < 0 ∧ 255 < er) := by unfold okT2; omega
theorem kind_or (k : Int) : noK k ∨ k = 1 ∨ k = 10 ∨ k = 9 ∨ k = 12 ∨ k = 6 ∨ k = 11 ∨ k = 7 ∨ k = 8 := by unfold noK; omega
end Go.Proofs.Ytlbgelbhhibikaa.Ww

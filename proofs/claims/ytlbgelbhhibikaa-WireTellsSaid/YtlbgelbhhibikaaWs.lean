/- wire's reader: raw, count, sums, proof. Conditions: memory holds what is written. -/
import Derived.Test.YtlbgelbhhibikaaJ18
import Derived.Test.YtlbgelbhhibikaaWq
import Derived.Test.YtlbgelbhhibikaaPrK
set_option linter.unusedSimpArgs false
set_option linter.unusedVariables false
namespace Go.Proofs.Ytlbgelbhhibikaa.Ww
set_option maxHeartbeats 1500000
set_option maxRecDepth 100000
open Go.RowKit
attribute [local irreducible] wpList wpTr wpX
set_option linter.unusedSimpArgs false
theorem own_form {w : World} {v : Value} {l : List UInt8} (h : Own w v l) (hp : 0 < l.length) : ∃ g c cur, v = .slice (some ⟨g, 0, none⟩) l.length c ∧ Blk w g cur 5 ∧ cur.toList.take l.length = bs8 l := by
 rcases h.2 with ⟨_, h0⟩ | ⟨g, c, cur, hv, _, hh, _, _, _, ht⟩
 ·
  omega
 ·
  exact ⟨g, c, cur, hv, hh, by rwa [Nat.mul_one] at ht⟩
theorem run_s2a {P : Program} {W : World} {o : Oper} {a : Act} {x : Operand} {arr e : TypeId} {n c : Nat} {ad : Addr} (ho : o.op = .sliceToArrayPointer arr x) (hx : a.eval x = .slice (some ad) n c) (hu : P.underlying arr = some (.array n e)) : (execOp a.eval o).run P W = .ok (.value (.pointer (some ad))) W := by
 simp [execOp, ho, hx, Instr.arrayAt, run_underlying hu, Sem.run_bind]
theorem own_cells {W : World} {l : List UInt8} {g c n : Nat} (h : Own W (.slice (some ⟨g, 0, none⟩) n c) l) (hn : l.length = n) (hp : 0 < n) : ∀ i v, (arrK .u8 n (byt (le l)))[i]? = some v → W.cell? ⟨g, 0 + i, none⟩ = some v := fun i x hx => by
 obtain ⟨g', c', cur, e', hB, ht⟩ := own_form h (by omega)
 injection e' with e1 _ _
 injection e1 with e1
 injection e1 with e1 _ _
 subst e1
 have hi : i < n := by have := (Array.getElem?_eq_some_iff.1 hx).1; rwa [arrK_size] at this
 rw [blk_cell hB, Nat.zero_add, ← Array.getElem?_toList, ← List.getElem?_take_of_lt (l := cur.toList) (show i < l.length by rw [hn]; exact hi), ht, ← lb_le' hn, bs8_lb, ← arrK_list, Array.getElem?_toList]
 exact hx
/-- what a method of wire's reader leaves -/
def WRet {α : Type} (r p : Nat) (v : Value) (s : RSt) (bad : Bool) (s2 : RSt) (bad2 : Bool) (V : α → Value) (X : α → List As) (W W' : World) (e : Ending) : Prop :=
 ∃ y v', e = .returned (V y) ∧ SH [r, p] W W' (.s v' s2.1 :: .b r #[.pointer (some ⟨p, 0, none⟩), .bool bad2] 115 :: .b p #[v', .int .i64 s2.2] 141 :: X y) ∧ Sub v' s2.1 (sb v s.1)
/-- a method of wire's reader, among other things -/
theorem wrcall {P : Program} {f : FuncId} {args : Array Value} {F : List Nat} {w W : World} {H R : List As} {α : Type} {r p : Nat} {v : Value} {s s2 : RSt} {bad bad2 : Bool} {V : α → Value} {X : α → List As} (I J : List Nat) (hS : SH F w W H)
  (hc : SH [r, p] W W (wrdL r p v s bad) → Calls P f args W fun e W' => WRet r p v s bad s2 bad2 V X W W' e) (ok : ∀ y v', SH.okL [.b r #[.pointer (some ⟨p, 0, none⟩), .bool bad] 115, .b p #[v, .int .i64 s.2] 141] (.s v s.1 :: R) (.b r #[.pointer (some ⟨p, 0, none⟩), .bool bad2] 115 :: .b p #[v', .int .i64 s2.2] 141 :: X y))
  (hI : pk H I = wrdL r p v s bad := by exact rfl) (hJ : pk H J = R := by exact rfl) (hn : (I ++ J).Nodup := by decide) :
  Calls P f args W fun e W' => ∃ x : { y : α × Value // Sub y.2 s2.1 (sb v s.1) }, e = .returned (V x.1.1) ∧ SH F w W' (.s x.1.2 s2.1 :: .b r #[.pointer (some ⟨p, 0, none⟩), .bool bad2] 115 :: .b p #[x.1.2, .int .i64 s2.2] 141 :: (X x.1.1 ++ R)) := by
 subst hJ
 have h : SH F w W (wrdL r p v s bad ++ pk H J) := hS.pick (I ++ J) (by rw [← hI]; exact pk_app H I J) hn
 refine (hc h.here).mono fun e W' ⟨y, v', h1, h2, h3⟩ => ⟨⟨(y, v'), h3⟩, h1, ?_⟩
 have h4 : SH (SH.feet [.b r #[.pointer (some ⟨p, 0, none⟩), .bool bad] 115, .b p #[v, .int .i64 s.2] 141]) W W' (.b r #[.pointer (some ⟨p, 0, none⟩), .bool bad2] 115 :: .b p #[v', .int .i64 s2.2] 141 :: X y) := h2.tl
 have h5 := SH.frame (L := [.b r #[.pointer (some ⟨p, 0, none⟩), .bool bad] 115, .b p #[v, .int .i64 s.2] 141]) (R := .s v s.1 :: pk H J) h h4 (ok y v')
 have h6 := h5.sub (i := (X y).length + 2) (u := v') (l' := s2.1) (by simp) (h2.sl (i := 0) rfl) h3
 refine h6.less ?_
 refine List.Sublist.cons_cons _ (List.Sublist.cons_cons _ (List.Sublist.cons_cons _ ?_))
 exact (List.Sublist.refl (X y)).append (List.sublist_cons_self _ _)
/-- raw bytes -/
def rawV (n : Nat) (s : RSt) : List UInt8 := if (txV (n : Int) s).length = n then txV (n : Int) s else List.replicate n 0
def rawB (n : Nat) (s : RSt) (bad : Bool) : Bool := if (txV (n : Int) s).length = n then bad else true
theorem rawV_len {n : Nat} {s : RSt} : (rawV n s).length = n := by
 unfold rawV; split
 ·
  assumption
 ·
  exact List.length_replicate ..
/-- a count of rows -/
def cV (m : Nat) (s : RSt) : Nat := if nuV s < 0 ∨ (m : Int) < nuV s then 0 else (nuV s).toNat
def cB (m : Nat) (s : RSt) (bad : Bool) : Bool := if nuV s < 0 ∨ (m : Int) < nuV s then true else bad
theorem cV_le {m : Nat} {s : RSt} : cV m s ≤ m := by unfold cV; split <;> omega
def pB2 (s : RSt) (bad : Bool) : Bool := if (takeM s).1.2.2.2.2 = 0 then bad else true
theorem takeM_len (s : RSt) : (takeM s).2.1.length ≤ s.1.length := by
 unfold takeM
 split
 ·
  exact tkS_len 8 s
 ·
  have hE : ∀ ss th a x (t : RSt), (takeE ss th a x t).2 = t := by intro ss th a x t; unfold takeE; split <;> rfl
  unfold takeB
  split
  ·
   rw [hE]; exact Nat.le_trans (tkS_len _ _) (Nat.le_trans (tkS_len _ _) (Nat.le_trans (flS_len _) (Nat.le_trans (sumsS_len _ _) (tkS_len _ _))))
  ·
   rw [hE]; exact Nat.le_trans (flS_len _) (Nat.le_trans (sumsS_len _ _) (tkS_len _ _))
theorem take_len (s : RSt) : (takeM s).1.1.length ≤ 256 := by
 unfold takeM
 split
 ·
  exact Nat.zero_le _
 ·
  have hE : ∀ ss th a x (t : RSt), ss.length ≤ 256 → (takeE ss th a x t).1.1.length ≤ 256 := by
   intro ss th a x t h; unfold takeE; split
   ·
    exact Nat.zero_le _
   ·
    exact h
  unfold takeB
  split
  ·
   exact hE _ _ _ _ _ (by rw [sumsV_len]; omega)
  ·
   exact hE _ _ _ _ _ (by rw [sumsV_len]; omega)
attribute [local irreducible] lb be8 eI tB txL txB txV txS tkS byV nuV suV enV takeM

theorem wraw_c {n : Nat} (h0 : 0 < n) (h1 : n ≤ 1000) {r p : Nat} {v : Value} {s : RSt} {bad : Bool} (hb0 : s.1.length ≤ 1000000) (w : World) (h_ : SH [r, p] w w (wrdL r p v s bad)) :
  Calls Try.prog 64 #[.pointer (some ⟨r, 0, none⟩), .int .i64 (n : Int)] w fun e w' => WRet r p v s bad (txS (n : Int) s) (rawB n s bad) (α := Nat × Nat) (fun y => .slice (some ⟨y.1, 0, none⟩) n y.2) (fun y => [.o (.slice (some ⟨y.1, 0, none⟩) n y.2) (rawV n s)]) w w' e := by
 have hS := h_
 go_enter Try.func64, Try.ntmps64
 go_upto_region 1 with fail
 refine RL hS ?_
 clear hS
 refine MV ?_
 refine MV ?_
 refine MV ?_
 refine MG 0 ?_ (v := .pointer (some ⟨p, 0, none⟩))
 refine MV ?_
 refine ME (V := fun x : Value × { u : Value // Sub u (txS (n : Int) s).1 (sb v (s).1) } => x.1) (fun W hS => rdcallT (i := 1) (j := 2) (t := txV (n : Int) s) hS rfl rfl (fun hr => rtext_t (s := s) (n : Int) hr (by have := hb0; omega)) (fun _ _ => rfl)) ?_
 rintro ⟨ut1, rv1, hs_1⟩
 dsimp only
 refine MD 4 ?_
 have hb_2 : (txS (n : Int) s).1.length ≤ 1000000 := Nat.le_trans (txS_len _ _) hb0
 refine MV ?_
 refine MZ fun W hS => ?_
 by_cases heq : (txV (n : Int) s).length = n
 ·
  have _f := heq
  go_upto_region 2 with fail
  refine RL hS ?_
  clear hS
  refine MV ?_
  refine MF (v := .int .i64 ((txV (n : Int) s).length : Int)) (fun W hS => run_lenA (hS.osl (i := 0) rfl) rfl rfl) ?_
  refine MV ?_
  refine MW ?_ (v := .bool false) (hv := by intro W; go_simp; first | done | omega)
  refine MZ fun W hS => ?_
  obtain ⟨gz, cz, _, hz, _, _⟩ := own_form (hS.own (i := 0) rfl) (by omega)
  rw [heq] at hz
  subst hz
  go_wp2
  first | exact bodyPost_ret (v := .slice (some ⟨gz, 0, none⟩) n cz) (by simp only [results, Try.results64]; first | (go_simp; done) | (go_simp; rfl)) rfl (by unfold rawV rawB; rw [if_pos heq, if_pos heq]; exact ⟨(gz, cz), rv1, rfl, hS.pick [1, 2, 3, 0], (sub_tr hs_1 sub_refl)⟩) | exact bodyPost_end (v := .slice (some ⟨gz, 0, none⟩) n cz) (by simp only [results, Try.results64]; first | (go_simp; done) | (go_simp; rfl)) rfl (by unfold rawV rawB; rw [if_pos heq, if_pos heq]; exact ⟨(gz, cz), rv1, rfl, hS.pick [1, 2, 3, 0], (sub_tr hs_1 sub_refl)⟩)
 ·
  have _f := heq
  go_upto_region 2 with fail
  refine RL hS ?_
  clear hS
  refine MV ?_
  refine MF (v := .int .i64 ((txV (n : Int) s).length : Int)) (fun W hS => run_lenA (hS.osl (i := 0) rfl) rfl rfl) ?_
  refine MV ?_
  refine MW ?_ (v := .bool true) (hv := by intro W; go_simp; first | done | omega)
  refine MZ fun W hS => ?_
  go_upto_region 3 with fail
  refine RL hS ?_
  clear hS
  refine MV ?_
  refine MV ?_
  refine MV ?_
  refine MP 2 (v := .bool true) ?_
  refine MZ fun W hS => ?_
  go_upto_region 4 with fail
  refine RL hS ?_
  clear hS
  refine MV ?_
  refine MK (n := n) (by first | omega | (rw [List.length_map]; omega) | assumption) ?_
  intro v20_3
  refine MV ?_
  refine MZ fun W hS => ?_
  obtain ⟨gz, cz, _, hz, _, _⟩ := own_form (hS.own (i := 0) rfl) (by rw [List.length_replicate]; omega)
  rw [List.length_replicate] at hz
  subst hz
  go_wp2
  first | exact bodyPost_ret (v := .slice (some ⟨gz, 0, none⟩) n cz) (by simp only [results, Try.results64]; first | (go_simp; done) | (go_simp; rfl)) rfl (by unfold rawV rawB; rw [if_neg heq, if_neg heq]; exact ⟨(gz, cz), rv1, rfl, hS.pick [2, 3, 4, 0], (sub_tr hs_1 sub_refl)⟩) | exact bodyPost_end (v := .slice (some ⟨gz, 0, none⟩) n cz) (by simp only [results, Try.results64]; first | (go_simp; done) | (go_simp; rfl)) rfl (by unfold rawV rawB; rw [if_neg heq, if_neg heq]; exact ⟨(gz, cz), rv1, rfl, hS.pick [2, 3, 4, 0], (sub_tr hs_1 sub_refl)⟩)
theorem cV_in {m : Nat} {s : RSt} (h : ¬ (nuV s < 0 ∨ (m : Int) < nuV s)) : (cV m s : Int) = nuV s := by unfold cV; rw [if_neg h]; omega
theorem cV_out {m : Nat} {s : RSt} (h : nuV s < 0 ∨ (m : Int) < nuV s) : (cV m s : Int) = 0 := by unfold cV; rw [if_pos h]; rfl
theorem nu_or2 (N : Int) (m : Nat) : N < 0 ∨ (¬ N < 0 ∧ (m : Int) < N) ∨ (¬ N < 0 ∧ ¬ (m : Int) < N) := by omega
theorem wcount_c (m : Nat) {r p : Nat} {v : Value} {s : RSt} {bad : Bool} (hb0 : s.1.length ≤ 1000000) (w : World) (h_ : SH [r, p] w w (wrdL r p v s bad)) :
  Calls Try.prog 75 #[.pointer (some ⟨r, 0, none⟩), .int .i64 (m : Int)] w fun e w' => WRet r p v s bad (tkS 8 s) (cB m s bad) (α := Unit) (fun y => .int .i64 (cV m s : Int)) (fun y => []) w w' e := by
 have hS := h_
 go_enter Try.func75, Try.ntmps75
 go_upto_region 1 with fail
 refine RL hS ?_
 clear hS
 refine MV ?_
 refine MV ?_
 refine MV ?_
 refine MG 0 ?_ (v := .pointer (some ⟨p, 0, none⟩))
 refine ME (V := fun _ => .int .i64 (nuV s)) (fun W hS => rdcall (i := 1) (j := 2) hS rfl rfl (fun hr => rnum_t (s := s) hr (by have := hb0; omega))) ?_
 rintro ⟨rv1, hs_1⟩
 dsimp only
 refine MD 3 ?_
 have hb_2 : (tkS 8 s).1.length ≤ 1000000 := Nat.le_trans (tkS_len _ _) hb0
 refine MV ?_
 refine MZ fun W hS => ?_
 rcases nu_or2 (nuV s) m with h1 | h1 | h1
 ·
  have _f := True.intro
  go_upto_region 2 with fail
  refine RL hS ?_
  clear hS
  refine MV ?_
  refine MW ?_ (v := .bool true) (hv := by intro W; go_simp; first | done | omega)
  refine MW ?_ (v := .bool true)
  refine MS ?_
  refine MS ?_
  refine MS ?_
  refine MW ?_ (v := .bool true) (hv := by intro W; go_simp; first | done | omega)
  refine MZ fun W hS => ?_
  go_upto_region 3 with fail
  refine RL hS ?_
  clear hS
  refine MV ?_
  refine MV ?_
  refine MV ?_
  refine MP 1 (v := .bool true) ?_
  refine MZ fun W hS => ?_
  go_wp2
  first | exact bodyPost_ret (v := .int .i64 0) (by simp only [results, Try.results75]; first | (go_simp; done) | (go_simp; rfl)) rfl (by rw [cV_out (by omega)]; unfold cB; rw [if_pos (by omega)]; exact ⟨(), rv1, rfl, hS.pick [0, 1, 2], (sub_tr hs_1 sub_refl)⟩) | exact bodyPost_end (v := .int .i64 0) (by simp only [results, Try.results75]; first | (go_simp; done) | (go_simp; rfl)) rfl (by rw [cV_out (by omega)]; unfold cB; rw [if_pos (by omega)]; exact ⟨(), rv1, rfl, hS.pick [0, 1, 2], (sub_tr hs_1 sub_refl)⟩)
 ·
  have _f := True.intro
  go_upto_region 2 with fail
  refine RL hS ?_
  clear hS
  refine MV ?_
  refine MW ?_ (v := .bool false) (hv := by intro W; go_simp; first | done | omega)
  refine MW ?_ (v := .bool false)
  refine MV ?_
  refine MV ?_
  refine MW ?_ (v := .bool true) (hv := by intro W; go_simp; first | done | omega)
  refine MW ?_ (v := .bool true) (hv := by intro W; go_simp; first | done | omega)
  refine MZ fun W hS => ?_
  go_upto_region 3 with fail
  refine RL hS ?_
  clear hS
  refine MV ?_
  refine MV ?_
  refine MV ?_
  refine MP 1 (v := .bool true) ?_
  refine MZ fun W hS => ?_
  go_wp2
  first | exact bodyPost_ret (v := .int .i64 0) (by simp only [results, Try.results75]; first | (go_simp; done) | (go_simp; rfl)) rfl (by rw [cV_out (by omega)]; unfold cB; rw [if_pos (by omega)]; exact ⟨(), rv1, rfl, hS.pick [0, 1, 2], (sub_tr hs_1 sub_refl)⟩) | exact bodyPost_end (v := .int .i64 0) (by simp only [results, Try.results75]; first | (go_simp; done) | (go_simp; rfl)) rfl (by rw [cV_out (by omega)]; unfold cB; rw [if_pos (by omega)]; exact ⟨(), rv1, rfl, hS.pick [0, 1, 2], (sub_tr hs_1 sub_refl)⟩)
 ·
  have _f := True.intro
  go_upto_region 2 with fail
  refine RL hS ?_
  clear hS
  refine MV ?_
  refine MW ?_ (v := .bool false) (hv := by intro W; go_simp; first | done | omega)
  refine MW ?_ (v := .bool false)
  refine MV ?_
  refine MV ?_
  refine MW ?_ (v := .bool false) (hv := by intro W; go_simp; first | done | omega)
  refine MW ?_ (v := .bool false) (hv := by intro W; go_simp; first | done | omega)
  refine MZ fun W hS => ?_
  go_wp2
  first | exact bodyPost_ret (v := .int .i64 (nuV s)) (by simp only [results, Try.results75]; first | (go_simp; done) | (go_simp; rfl)) rfl (by rw [cV_in (by omega)]; unfold cB; rw [if_neg (by omega)]; exact ⟨(), rv1, rfl, hS.pick [0, 1, 2], (sub_tr hs_1 sub_refl)⟩) | exact bodyPost_end (v := .int .i64 (nuV s)) (by simp only [results, Try.results75]; first | (go_simp; done) | (go_simp; rfl)) rfl (by rw [cV_in (by omega)]; unfold cB; rw [if_neg (by omega)]; exact ⟨(), rv1, rfl, hS.pick [0, 1, 2], (sub_tr hs_1 sub_refl)⟩)
theorem wrsums_c {r p : Nat} {v : Value} {s : RSt} {bad : Bool} (hb0 : s.1.length ≤ 1000000) (w : World) (h_ : SH [r, p] w w (wrdL r p v s bad)) :
  Calls Try.prog 68 #[.pointer (some ⟨r, 0, none⟩)] w fun e w' => WRet r p v s bad (sumsS (cV 256 s) (tkS 8 s)) (cB 256 s bad) (α := Value) (fun y => y) (fun y => [.r 27 32 y (List.map b32l (sumsV (cV 256 s) (tkS 8 s)))]) w w' e := by
 have hS := h_
 go_enter Try.func68, Try.ntmps68
 go_upto_region 2 with fail
 refine RL hS ?_
 clear hS
 refine MV ?_
 refine ME (V := fun x : { y : (Unit) × Value // Sub y.2 (tkS 8 s).1 (sb v (s).1) } => .int .i64 (cV 256 s : Int)) (fun W hS => wrcall (V := fun y => .int .i64 (cV 256 s : Int)) (X := fun y => []) [0, 1, 2] [] hS (fun hT => wcount_c 256 hb0 W hT) (fun _ _ => ⟨.inr ⟨rfl, rfl⟩, .inr ⟨rfl, rfl⟩, trivial⟩)) ?_
 rintro ⟨⟨_, rv1⟩, hs_1⟩
 dsimp only
 have hb_2 : (tkS 8 s).1.length ≤ 1000000 := Nat.le_trans (tkS_len _ _) hb0
 refine MT (H' := [.s rv1 ((tkS 8 s).1), .b r #[.pointer (some ⟨p, 0, none⟩), .bool (cB 256 s bad)] 115, .b p #[rv1, .int .i64 (tkS 8 s).2] 141]) (fun W hS => hS) ?_
 refine MW ?_ (v := .int .i64 0)
 refine MZ fun W hS => ?_
 have hS := hS.rnil 27 32 rfl
 have hst0 := tkS_len 8 s
 go_wp2_with fail
 go_loopw [3, 6] (fun uv ii wr => ∃ (i : Nat) (sv : Value) (rv : Value), (i ≤ cV 256 s) ∧ (Sub rv (sumsS i (tkS 8 s)).1 (sb v s.1)) ∧ (sv = uv) ∧ (ii = .int .i64 (i : Int)) ∧ SH [r, p] w wr [.r 27 32 sv (List.map b32l (sumsV i (tkS 8 s))), .s rv ((sumsS i (tkS 8 s)).1), .b r #[.pointer (some ⟨p, 0, none⟩), .bool (cB 256 s bad)] 115, .b p #[rv, .int .i64 (sumsS i (tkS 8 s)).2] 141])
  (fun uv ii _ => cV 256 s - (intOf ii).toNat)
 case atStart => exact ⟨0, _, rv1, Nat.zero_le _, (sub_tr hs_1 sub_refl), rfl, rfl, hS⟩
 clear hS
 case round =>
  obtain ⟨i, sv, rv, hi, hsub, rfl, rfl, hS⟩ := hrel
  by_cases hlt : i < cV 256 s
  ·
   have _f := hlt
   have hcv := cV_le (m := 256) (s := s)
   have hsl_ : (sumsV i (tkS 8 s)).length ≤ 256 := by rw [sumsV_len]; omega
   go_upto_region 3 with fail
   refine RL hS ?_
   clear hS
   refine MW ?_ (v := .bool true) (hv := by intro W; go_simp; first | done | omega)
   refine MZ fun W hS => ?_
   go_upto_region 4 with fail
   refine RL hS ?_
   clear hS
   refine MV ?_
   refine MV ?_
   refine MV ?_
   refine MV ?_
   refine MG 2 ?_ (v := .pointer (some ⟨p, 0, none⟩))
   refine ME (V := fun _ => .agg (arrK .u8 32 (byt (suV (sumsS i (tkS 8 s)))))) (fun W hS => rdcall (i := 3) (j := 1) hS rfl rfl (fun hr => rsum_t (s := sumsS i (tkS 8 s)) hr (by have := (Nat.le_trans (sumsS_len i _) (Nat.le_trans (tkS_len 8 s) hb0)); omega))) ?_
   rintro ⟨rv3, hs_3⟩
   dsimp only
   refine MD 2 ?_
   have hb_4 : (tkS 32 (sumsS i (tkS 8 s))).1.length ≤ 1000000 := Nat.le_trans (tkS_len _ _) (Nat.le_trans (sumsS_len i _) (Nat.le_trans (tkS_len 8 s) hb0))
   refine MB (z := (arrK .u8 32 (byt (suV (sumsS i (tkS 8 s)))))) (t := 27) (n := 1) (c := 1) ?_ (hr := fun W _ => run_bsA rfl rfl rfl Try.underlying48 (by rw [arrK_size]; kernel_rfl) (by rw [arrK_size]; kernel_rfl) (by rw [arrK_size]; decide) (by rw [arrK_size]; decide))
   intro p14_5
   refine MAr 2 0 (tS := 48) (bytes := 32) (es := (List.map b32l (sumsV i (tkS 8 s)))) (by first | omega | (rw [List.length_map]; omega) | assumption) (e := (arrK .u8 32 (byt (suV (sumsS i (tkS 8 s))))).toList) (hk := arrK_size _ _ _) (h1 := arrK_one _ _ _) ?_
   intro v15_6
   refine MV ?_
   refine MZ fun W hS => ?_
   go_wp2
   go_roundw
   case rel => exact ⟨i + 1, v15_6, rv3, by omega, (sub_tr hs_3 hsub), rfl, by go_num, (by rw [sums_map]; exact (hS.pick [2, 1, 3, 4]))⟩
   case measure => simp [intOf]; omega
  ·
   have _f := hlt
   obtain rfl : cV 256 s = i := by omega
   go_upto_region 3 with fail
   refine RL hS ?_
   clear hS
   refine MW ?_ (v := .bool false) (hv := by intro W; go_simp; first | done | omega)
   refine MZ fun W hS => ?_
   go_wp2
   first | exact bodyPost_ret (v := sv) (by simp only [results, Try.results68]; first | (go_simp; done) | (go_simp; rfl)) rfl ⟨sv, rv, rfl, hS.pick [1, 2, 3, 0], hsub⟩ | exact bodyPost_end (v := sv) (by simp only [results, Try.results68]; first | (go_simp; done) | (go_simp; rfl)) rfl ⟨sv, rv, rfl, hS.pick [1, 2, 3, 0], hsub⟩
theorem tkcallA {args : Array Value} {f : FuncId} {F : List Nat} {w W : World} {R : List As} {j p : Nat} {v : Value} {l : List UInt8} {e : Int} {r : (List Nat × Bool × Nat × Nat × Int) × RSt} (hS : SH F w W (.b p #[v, .int .i64 e] 141 :: R)) (hj : R[j]? = some (.s v l)) (ht : R.all (SH.tyOk (.r 27 32 undef [])) = true) (ht2 : R.all (SH.tyOk (.b 0 #[] 141)) = true)
  (hc : Rdr W p v l e → Calls Try.prog f args W fun en W' => TKR p v l r W W' en) :
  Calls Try.prog f args W fun en W' => ∃ x : { y : Value × Value // Sub y.2 r.2.1 (sb v l) }, en = .returned (.tuple #[.agg (pfA x.1.1 r.1.2.1 r.1.2.2.1 r.1.2.2.2.1), .int .i64 r.1.2.2.2.2]) ∧ SH F w W' (.s x.1.2 r.2.1 :: .b p #[x.1.2, .int .i64 r.2.2] 141 :: .r 27 32 x.1.1 (r.1.1.map b32l) :: R) :=
 (tkcall hS hj ht ht2 hc).mono fun _ _ ⟨x, h1, h2⟩ => ⟨x, by rw [h1, pfc_A], h2⟩
theorem res_cell1 {P : Program} {fn : Func} {p : Tmp} {ty t : TypeId} {tmps : Array Value} {w : World} {g : Nat} {cs : Array Value} (h : fn.results = #[.cell p ty])
  (hp : tmps.getD p undef = .pointer (some ⟨g, 0, none⟩)) (hB : Blk w g cs t) (hk : (P.underlying ty).map TypeDesc.isRow = some true) (hi : (P.info? ty).map (·.size) = some cs.size) :
  (results fn tmps).run P w = .ok (.agg cs) w := by
 cases hu : P.underlying ty with
 | none => simp [hu] at hk
 | some d =>
  have hd : d.isRow = true := by simpa [hu] using hk
  have hp' : tmps[p]?.getD undef = .pointer (some ⟨g, 0, none⟩) := by simpa using hp
  simp [results, h, hp', asAddr, run_loadVar_row w g t ty cs _ d hB hu (by cases d <;> simp_all [TypeDesc.isRow]) hi]
theorem wrproof_c {r p : Nat} {v : Value} {s : RSt} {bad : Bool} (hb0 : s.1.length ≤ 1000000) (w : World) (h_ : SH [r, p] w w (wrdL r p v s bad)) :
  Calls Try.prog 66 #[.pointer (some ⟨r, 0, none⟩)] w fun e w' => WRet r p v s bad ((takeM s).2) (pB2 s bad) (α := Value) (fun y => .agg (agF [.c y, .c (.bool (takeM s).1.2.1), .a 32 (takeM s).1.2.2.1, .a 32 (takeM s).1.2.2.2.1])) (fun y => [.r 27 32 y (List.map b32l (takeM s).1.1)]) w w' e := by
 have hS := h_
 go_enter Try.func66, Try.ntmps66
 go_upto_region 0 with fail
 refine RL hS ?_
 clear hS
 refine MN (z := agF [.c (.slice none 0 0), .c (.bool false), .a 32 0, .a 32 0]) (t := 62) ?_
 intro p2_1
 refine MZ fun W hS => ?_
 go_upto_region 1 with fail
 refine RL hS ?_
 clear hS
 refine MV ?_
 refine MV ?_
 refine MV ?_
 refine MG 1 ?_ (v := .pointer (some ⟨p, 0, none⟩))
 refine ME (V := fun z_ : { y_ : Value × Value // Sub y_.2 (takeM s).2.1 (sb v (s).1) } => .tuple #[.agg (pfA z_.1.1 (takeM s).1.2.1 (takeM s).1.2.2.1 (takeM s).1.2.2.2.1), .int .i64 (takeM s).1.2.2.2.2]) (fun W hS => tkcallA (r := takeM s) (hS.pick [2, 0, 1, 3]) (j := 2) rfl rfl rfl (fun hr => ptake_c p v s (by have := hb0; omega) W hr)) ?_
 rintro ⟨⟨u_2, rv2⟩, hs_2⟩
 dsimp only
 refine MD 5 ?_
 have hb_3 : ((takeM s).2).1.length ≤ 1000000 := Nat.le_trans (takeM_len _) hb0
 refine MT (H' := [.s rv2 (((takeM s).2).1), .b p #[rv2, .int .i64 ((takeM s).2).2] 141, .r 27 32 u_2 (List.map b32l (takeM s).1.1), .b p2_1 (agF [.c (.slice none 0 0), .c (.bool false), .a 32 0, .a 32 0]) 62, .b r #[.pointer (some ⟨p, 0, none⟩), .bool bad] 115]) (fun W hS => hS) ?_
 refine MFact (fun W hS => (hS.row (i := 2) rfl).cells) ?_
 intro hsc
 refine MV ?_
 refine MV ?_
 refine MV ?_
 refine MN (z := agF [.c (.slice none 0 0), .c (.bool false), .a 32 0, .a 32 0]) (t := 62) ?_
 intro p3_4
 refine MR 0 ?_ (hz := by rw [agF_size]; kernel_rfl) (hs := by first | (rw [agF_size, agF_size]; rfl) | rfl) (h1 := by exact (agF_one ⟨hsc.2, rfl, trivial⟩))
 refine MV ?_
 refine MZ fun W hS => ?_
 by_cases h0 : (takeM s).1.2.2.2.2 = 0
 ·
  have _f := h0
  go_upto_region 2 with fail
  refine RL hS ?_
  clear hS
  refine MV ?_
  refine MW ?_ (v := .bool false) (hv := by intro W; go_simp; first | done | omega)
  refine MZ fun W hS => ?_
  go_upto_region 4 with fail
  refine RL hS ?_
  clear hS
  refine ML 0 ?_ (hs := by rw [agF_size]; kernel_rfl)
  refine MR 4 ?_ (hz := by rw [agF_size]; kernel_rfl) (hs := by first | (rw [agF_size, agF_size]; rfl) | rfl) (h1 := by exact (agF_one ⟨hsc.2, rfl, trivial⟩))
  refine MZ fun W hS => ?_
  skip
  go_wp2
  first | exact bodyPost_ret (res_cell1 rfl rfl (hS.blk (i := 4) rfl) (by kernel_rfl) (by rw [agF_size]; kernel_rfl)) rfl (by unfold pB2; rw [if_pos h0]; exact ⟨_, _, rfl, hS.pick [1, 5, 2, 3], (sub_tr hs_2 sub_refl)⟩) | exact bodyPost_end (res_cell1 rfl rfl (hS.blk (i := 4) rfl) (by kernel_rfl) (by rw [agF_size]; kernel_rfl)) rfl (by unfold pB2; rw [if_pos h0]; exact ⟨_, _, rfl, hS.pick [1, 5, 2, 3], (sub_tr hs_2 sub_refl)⟩)
 ·
  have _f := h0
  go_upto_region 2 with fail
  refine RL hS ?_
  clear hS
  refine MV ?_
  refine MW ?_ (v := .bool true) (hv := by intro W; go_simp; first | done | omega)
  refine MZ fun W hS => ?_
  go_upto_region 3 with fail
  refine RL hS ?_
  clear hS
  refine MV ?_
  refine MV ?_
  refine MV ?_
  refine MP 5 (v := .bool true) ?_
  refine MZ fun W hS => ?_
  go_upto_region 4 with fail
  refine RL hS ?_
  clear hS
  refine ML 0 ?_ (hs := by rw [agF_size]; kernel_rfl)
  refine MR 4 ?_ (hz := by rw [agF_size]; kernel_rfl) (hs := by first | (rw [agF_size, agF_size]; rfl) | rfl) (h1 := by exact (agF_one ⟨hsc.2, rfl, trivial⟩))
  refine MZ fun W hS => ?_
  skip
  go_wp2
  first | exact bodyPost_ret (res_cell1 rfl rfl (hS.blk (i := 4) rfl) (by kernel_rfl) (by rw [agF_size]; kernel_rfl)) rfl (by unfold pB2; rw [if_neg h0]; exact ⟨_, _, rfl, hS.pick [1, 5, 2, 3], (sub_tr hs_2 sub_refl)⟩) | exact bodyPost_end (res_cell1 rfl rfl (hS.blk (i := 4) rfl) (by kernel_rfl) (by rw [agF_size]; kernel_rfl)) rfl (by unfold pB2; rw [if_neg h0]; exact ⟨_, _, rfl, hS.pick [1, 5, 2, 3], (sub_tr hs_2 sub_refl)⟩)
end Go.Proofs.Ytlbgelbhhibikaa.Ww

/- append to a slice of bytes that has no room, over the list of what lies where; press by a slice. Conditions: the tables hold their numbers. sha2: bytes written into a sum that goes on. Conditions: the tables hold their numbers. -/
import Derived.Test.YtejkmhgkkibafaaGreatDoorJ32
import Derived.Test.YtejkmhgkkibafaaGreatDoorJ7
set_option linter.unusedSimpArgs false
set_option linter.unusedVariables false
namespace Go.Proofs.YtejkmhgkkibafaaGreatDoor
open Go.RowKit
section
variable {ops : Array Oper} {k : Wk} {Q : Exit → Act → World → Prop} {F : List Nat} {w : World} {H : List As} {l : List Oper} {o : Oper} {a : Act}
/-- thing i, as it is, with no room behind it: v[:n:n] -/
theorem MQ (i : Nat) {x y z : Operand} {v : Value} {m : List UInt8} {a' : Value → Act} (h : ∀ A, wpM Tryz.prog ops k F w (.s (.slice A m.length m.length) m :: H) l (a' (.slice A m.length m.length))) (hi : H[i]? = some (.s v m) := by exact rfl) (hw : Region.wanted o (yielded ops a.tmps) = true := by exact rfl)
    (ho : o.op = .slice 22 x none (some y) (some z) := by exact rfl) (hx : a.eval x = v := by exact rfl) (hy : a.eval y = .int .i64 (m.length : Int) := by exact rfl) (hz : a.eval z = .int .i64 (m.length : Int) := by exact rfl) (hp : ∀ v, a.put o.dst v = a' v := by intro b; first | exact pl (by dsimp only [mB, mC]; first | done | exact rfl) | exact pn | exact rfl) : wpM Tryz.prog ops k F w H (o :: l) a := by
  intro W hS
  obtain ⟨A, hr, h1, h2⟩ := run_tight (hS.sl hi)
  have hS' := hS.sub hi h1 fun x hx => by
    have hm : m ≠ [] := fun e => by subst e; unfold sb at hx; rw [if_pos rfl] at hx; cases hx
    unfold sb; rw [if_neg hm]; exact h2 x (sb_own hx)
  have hrun : ∀ W, (execOp a.eval o).run Tryz.prog W = .ok (.value (.slice A m.length m.length)) W := fun W => by simp [execOp, ho, hx, hy, hz, hr W, Sem.run_bind]
  cases k with
  | L Q => exact wpL_val hw (hrun W) (by rw [hp]; exact h A W hS')
  | X E => exact wpX_val hw (fun W' _ => hrun W') (by rw [hp]; exact h A W hS')
/-- append to such a one -/
theorem MAt (i : Nat) {s x : Operand} {A : Option Addr} {u : Value} {xs ys : List UInt8} {a' : Value → Act} (hsl : ∀ W, SH F w W H → Sl W u ys) (hlen : xs.length + ys.length ≤ 140737488355328) (h : ∀ v', wpM Tryz.prog ops (.L Q) F w (.s v' (xs ++ ys) :: H) l (a' v')) (hi : H[i]? = some (.s (.slice A xs.length xs.length) xs) := by exact rfl) (hw : Region.wanted o (yielded ops a.tmps) = true := by exact rfl)
    (ho : o.op = .call { callee := .builtin .append, args := #[s, x], argTypes := #[22, 22] } := by exact rfl) (hs : a.eval s = .slice A xs.length xs.length := by exact rfl) (hx : a.eval x = u := by exact rfl)
    (hp : ∀ v, a.put o.dst v = a' v := by intro b; first | exact pl (by dsimp only [mB, mC]; first | done | exact rfl) | exact pn | exact rfl) : wpM Tryz.prog ops (.L Q) F w H (o :: l) a := by
  intro W hS
  obtain ⟨v', W', hrun, h1, h2, h3⟩ := run_append_tight W o.type (hS.sl hi) (hsl W hS) hlen
  have hS' : SH F w W' (.s v' (xs ++ ys) :: H) := by
    rcases h3 with ⟨e1, e2⟩ | h3
    · subst e1 e2
      refine (hS.next h2).sub hi h1 ?_
      rw [List.append_nil]; exact sub_refl
    · refine hS.newS h2 h1 fun k hk => ?_
      have := sb_own hk
      rw [h3] at this
      exact Nat.le_of_eq (Option.some.inj this)
  refine wpL_run hw (v := v') (W := W') ?_ (by rw [hp]; exact h v' W' hS')
  unfold execOp
  simp only [ho, resolve, invoke, builtin, Sem.run_bind, Sem.run_pure, Result.andThen_ok, List.map_toArray, List.map_cons, List.map_nil, hs, hx, hrun]
end
theorem press4_t (h : Nat → Int) (L m : List UInt8) (u : Value) (hl : 64 ≤ L.length) (hm : m = L.take 64) (w : World) (hs : Sl w u m) (hG : GS4 w) : Calls Tryz.prog 128 #[.agg (arrK .u32 8 h), u] w fun e w' => Ret (.agg (arrK .u32 8 (prs4 h (bt L)))) w w' e := by
  have hml : m.length = 64 := by rw [hm, List.length_take]; omega
  obtain ⟨ad, c, rfl, _⟩ := sl_form hs (by omega)
  have hlc : m.length ≤ c := by obtain ⟨A, c', e, h1, _⟩ := hs; injection e with _ _ e; omega
  have hc := press4_c h m ad c (by omega) hlc w hs hG
  rw [show prs4 h (bt L) = prs4 h (bt m) from prs_congr4 fun j hj => by
    unfold bt; rw [hm, List.getD_eq_getElem?_getD, List.getD_eq_getElem?_getD, List.getElem?_take_of_lt hj]]
  exact hc
/-- the tables as one thing -/
abbrev gs4 : As := .p [11, 4] GS4
theorem gs4_holds {w : World} (h : GS4 w) : gs4.holds w :=
  ⟨h, fun k hk => by
    rcases List.mem_cons.1 hk with rfl | hk
    · exact h.1.2
    · rw [List.mem_singleton.1 hk]; exact h.2.2, fun W hs he => ⟨rd_keep h.1 hs (he _ (by simp)), rd_keep h.2 hs (he _ (by simp))⟩⟩
end Go.Proofs.YtejkmhgkkibafaaGreatDoor

set_option linter.unusedSimpArgs false
set_option linter.unusedVariables false
namespace Go.Proofs.YtejkmhgkkibafaaGreatDoor
set_option maxHeartbeats 1500000
set_option maxRecDepth 100000
open Go.RowKit
attribute [local irreducible] wpList wpTr wpX
set_option linter.unusedSimpArgs false
theorem write4_c (p : Nat) (v u : Value) (F b : List UInt8) (hlen : F.length + b.length ≤ 140737488355200) (w : World) (h_ : SH (SH.feet [.b p (hcs v F) 196, .o v (hr4 F), .s u b, gs4]) w w [.b p (hcs v F) 196, .o v (hr4 F), .s u b, gs4]) :
  Calls Tryz.prog 85 #[.pointer (some ⟨p, 0, none⟩), u] w fun e w' => ∃ v', e = .returned (.tuple #[]) ∧ SH (SH.feet [.b p (hcs v F) 196, .o v (hr4 F), .s u b, gs4]) w w' [.b p (hcs v' (F ++ b)) 196, .o v' (hr4 (F ++ b)), .s u b, gs4] := by
 have hl3 := hr_lt4 F
 have hS := h_
 clear h_
 go_enter Tryz.func85, Tryz.ntmps85
 go_upto_region 1 with fail
 refine RL hS ?_
 clear hS
 refine MV ?_
 refine MV ?_
 refine MV ?_
 refine MG 0 ?_ (v := .int .i64 (F.length : Int)) (hj := hc_count)
 refine MV ?_
 refine MF (v := .int .i64 (b.length : Int)) (fun W hS => run_lenA (hS.sl (i := 2) rfl) rfl rfl) ?_
 refine MW ?_ (v := .int .i64 ((F ++ b).length : Int)) (hv := by intro W; go_simp; (try simp only [List.length_append, IntKind.wrap_i64]); (try omega))
 refine MV ?_
 refine MV ?_
 refine MP 0 (v := .int .i64 ((F ++ b).length : Int)) (cs' := hc8 (hw4 F) v (.int .i64 ((F ++ b).length : Int))) ?_ (hs := by rw [hc_size]; decide) (hc := hc_putcount)
 refine MZ fun W hS => ?_
 go_upto_region 2 with fail
 refine RX 16 hS ?_
 clear hS
 refine MV ?_
 refine MV ?_
 refine MV ?_
 refine MG 0 ?_ (v := v) (hj := hc_rest)
 refine MV ?_
 refine MV ?_
 refine MV ?_
 refine MG 0 ?_ (v := v) (hj := hc_rest)
 refine MF (v := .int .i64 ((hr4 F).length : Int)) (fun W hS => run_lenA (hS.osl (i := 1) rfl) rfl rfl) ?_
 refine MV ?_
 refine MV ?_
 refine MV ?_
 refine MG 0 ?_ (v := v) (hj := hc_rest)
 refine MF (v := .int .i64 ((hr4 F).length : Int)) (fun W hS => run_lenA (hS.osl (i := 1) rfl) rfl rfl) ?_
 refine MT (fun W hS => hS.read (i := 1) rfl (hS.osl (i := 1) rfl) sub_refl) ?_
 refine MQ 1 ?_
 intro A30
 refine MV ?_
 refine MZt ?_
 refine MAt 0 (xs := hr4 F) (ys := b) (fun W hS => (hS.sl (i := 3) rfl)) (by omega) ?_
 intro v32
 refine MV ?_
 refine MZn fun W hS => ?_
 rw [hw_app4 F b] at hS
 go_wp2_with fail
 go_loopw [4] (fun sv wr => ∃ (k : Nat) (a : Value), (64 * k ≤ (hr4 F ++ b).length) ∧ (a = sv) ∧ SH (SH.feet [.b p (hcs v F) 196, .o v (hr4 F), .s u b, gs4]) w wr [.b p (hc8 (Hs4 (F ++ b) (F.length / 64 + k)) v (.int .i64 ((F ++ b).length : Int))) 196, .s a (List.drop (64 * k) (hr4 F ++ b)), .s u b, gs4])
  (fun sv _ => slLen sv)
 case atStart => exact ⟨0, _, Nat.zero_le _, rfl, (hS.pick [2, 0, 4, 5])⟩
 clear hS
 case round =>
  obtain ⟨k, a, hk, rfl, hS⟩ := hrel
  have lb := sl_len (hS.sl (i := 1) rfl)
  by_cases hz : 64 ≤ (List.drop (64 * k) (hr4 F ++ b)).length
  ·
   have _f := hz
   go_upto_region 3 with fail
   refine RL hS ?_
   clear hS
   refine MV ?_
   refine MF (v := .int .i64 ((List.drop (64 * k) (hr4 F ++ b)).length : Int)) (fun W hS => run_lenA (hS.sl (i := 1) rfl) rfl rfl) ?_
   refine MW ?_ (v := .bool true) (hv := by intro W; have hz_ := hz; simp only [List.length_drop, List.length_append] at hz_; go_simp; omega)
   refine MZ fun W hS => ?_
   go_upto_region 4 with fail
   refine RX 10 hS ?_
   clear hS
   refine MV ?_
   refine MV ?_
   refine MV ?_
   refine MV ?_
   refine Ml 0 hc_words ?_
   refine MV ?_
   refine MH 1 64 (m' := (List.take 64 (List.drop (64 * k) (hr4 F ++ b)))) (by exact hz) ?_
   intro u42_1
   refine MC (v := .agg (arrK .u32 8 (prs4 (Hs4 (F ++ b) (F.length / 64 + k)) (bt (List.drop (64 * k) (hr4 F ++ b)))))) (fun W hS => press4_t (Hs4 (F ++ b) (F.length / 64 + k)) (List.drop (64 * k) (hr4 F ++ b)) (List.take 64 (List.drop (64 * k) (hr4 F ++ b))) u42_1 hz rfl W (hS.sl (i := 0) rfl) (hS.pp (i := 4) rfl)) ?_
   refine MV ?_
   refine MV ?_
   refine MZt ?_
   refine Mr 1 (new := hc8 (prs4 (Hs4 (F ++ b) (F.length / 64 + k)) (bt (List.drop (64 * k) (hr4 F ++ b)))) v (.int .i64 ((F ++ b).length : Int))) hc_putwords ?_ (hs := by rw [hc_size, arrK_size]; decide)
   refine MZn fun W hS => ?_
   go_upto_region 5 with fail
   refine RL hS ?_
   clear hS
   refine MV ?_
   refine Mt 2 64 (m' := (List.drop (64 * (k + 1)) (hr4 F ++ b))) (by exact hz) ?_ (hm := drop_next4 _ _)
   intro u47_2
   refine MV ?_
   refine MZ fun W hS => ?_
   have la := sl_len (hS.sl (i := 0) rfl)
   simp only [List.length_drop] at la lb hz
   rw [hs_next4] at hS
   go_wp2
   go_roundw
   case rel => exact ⟨k + 1, _, by omega, rfl, (hS.pick [2, 0, 4, 5])⟩
   case measure => simp only [la, lb]; omega
  ·
   have _f := hz
   go_upto_region 3 with fail
   refine RL hS ?_
   clear hS
   refine MV ?_
   refine MF (v := .int .i64 ((List.drop (64 * k) (hr4 F ++ b)).length : Int)) (fun W hS => run_lenA (hS.sl (i := 1) rfl) rfl rfl) ?_
   refine MW ?_ (v := .bool false) (hv := by intro W; have hz_ := hz; simp only [List.length_drop, List.length_append] at hz_; go_simp; omega)
   refine MZ fun W hS => ?_
   obtain ⟨e1_, e2_⟩ := hs_end4 (F := F) (b := b) (k := k) (by simp only [List.length_drop] at hz; omega)
   rw [e1_, e2_] at hS
   clear e1_ e2_
   have hl4 := hr_lt4 (F ++ b)
   go_upto_region 6 with fail
   refine RL hS ?_
   clear hS
   refine MV ?_
   refine MO (m := []) (n := 0) (z := #[]) ?_
   intro v49_3
   refine MV ?_
   refine MA 0 (xs := []) (ys := (hr4 (F ++ b))) (fun W hS => (hS.sl (i := 2) rfl)) (by first | omega | (simp only [List.length_append, List.length_drop, List.length_nil]; omega)) ?_
   intro v51_4
   refine MT (fun W hS => by rw [List.nil_append] at hS; exact hS) ?_
   refine MV ?_
   refine MV ?_
   refine MP 1 (v := v51_4) (cs' := hc8 (hw4 (F ++ b)) v51_4 (.int .i64 ((F ++ b).length : Int))) ?_ (hv := fun W hS => sl_cells (hS.osl (i := 0) rfl)) (hs := by rw [hc_size]; decide) (hc := hc_putrest)
   refine MZ fun W hS => ?_
   go_wp2
   exact bodyPost_end (v := .tuple #[]) (by simp only [results, Tryz.results85]; go_simp) rfl ⟨_, rfl, hS.pick [1, 0, 3, 4]⟩
end Go.Proofs.YtejkmhgkkibafaaGreatDoor

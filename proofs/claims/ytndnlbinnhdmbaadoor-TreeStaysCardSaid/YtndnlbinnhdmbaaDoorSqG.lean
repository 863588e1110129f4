/- append to a slice of bytes that has no room, over the list of what lies where; press by a slice. Conditions: the tables hold their numbers. -/
import Derived.Test.YtndnlbinnhdmbaaDoorSqF
import Derived.Test.YtndnlbinnhdmbaaDoorMc
set_option linter.unusedSimpArgs false
set_option linter.unusedVariables false
namespace Go.Proofs.YtndnlbinnhdmbaaDoor
open Go.RowKit
section
variable {ops : Array Oper} {k : Wk} {Q : Exit → Act → World → Prop} {F : List Nat} {w : World} {H : List As} {l : List Oper} {o : Oper} {a : Act}
/-- thing i, as it is, with no room behind it: v[:n:n] -/
theorem MQ (i : Nat) {x y z : Operand} {v : Value} {m : List UInt8} {a' : Value → Act} (h : ∀ A, wpM Tryd.prog ops k F w (.s (.slice A m.length m.length) m :: H) l (a' (.slice A m.length m.length))) (hi : H[i]? = some (.s v m) := by exact rfl) (hw : Region.wanted o (yielded ops a.tmps) = true := by exact rfl)
    (ho : o.op = .slice 33 x none (some y) (some z) := by exact rfl) (hx : a.eval x = v := by exact rfl) (hy : a.eval y = .int .i64 (m.length : Int) := by exact rfl) (hz : a.eval z = .int .i64 (m.length : Int) := by exact rfl) (hp : ∀ v, a.put o.dst v = a' v := by intro b; first | exact pl (by dsimp only [mB, mC]; first | done | exact rfl) | exact pn | exact rfl) : wpM Tryd.prog ops k F w H (o :: l) a := by
  intro W hS
  obtain ⟨A, hr, h1, h2⟩ := run_tight (hS.sl hi)
  have hS' := hS.sub hi h1 fun x hx => by
    have hm : m ≠ [] := fun e => by subst e; unfold sb at hx; rw [if_pos rfl] at hx; cases hx
    unfold sb; rw [if_neg hm]; exact h2 x (sb_own hx)
  have hrun : ∀ W, (execOp a.eval o).run Tryd.prog W = .ok (.value (.slice A m.length m.length)) W := fun W => by simp [execOp, ho, hx, hy, hz, hr W, Sem.run_bind]
  cases k with
  | L Q => exact wpL_val hw (hrun W) (by rw [hp]; exact h A W hS')
  | X E => exact wpX_val hw (fun W' _ => hrun W') (by rw [hp]; exact h A W hS')
/-- append to such a one -/
theorem MAt (i : Nat) {s x : Operand} {A : Option Addr} {u : Value} {xs ys : List UInt8} {a' : Value → Act} (hsl : ∀ W, SH F w W H → Sl W u ys) (hlen : xs.length + ys.length ≤ 140737488355328) (h : ∀ v', wpM Tryd.prog ops (.L Q) F w (.s v' (xs ++ ys) :: H) l (a' v')) (hi : H[i]? = some (.s (.slice A xs.length xs.length) xs) := by exact rfl) (hw : Region.wanted o (yielded ops a.tmps) = true := by exact rfl)
    (ho : o.op = .call { callee := .builtin .append, args := #[s, x], argTypes := #[33, 33] } := by exact rfl) (hs : a.eval s = .slice A xs.length xs.length := by exact rfl) (hx : a.eval x = u := by exact rfl)
    (hp : ∀ v, a.put o.dst v = a' v := by intro b; first | exact pl (by dsimp only [mB, mC]; first | done | exact rfl) | exact pn | exact rfl) : wpM Tryd.prog ops (.L Q) F w H (o :: l) a := by
  intro W hS
  obtain ⟨v', W', hrun, h1, h2, h3⟩ := run_append_tight W o.type (hS.sl hi) (hsl W hS) hlen
  have hS' : SH F w W' (.s v' (xs ++ ys) :: H) := by
    rcases h3 with ⟨e1, e2⟩ | h3
    · subst e1 e2
      refine (hS.next h2).sub hi h1 ?_
      rw [List.append_nil]; exact sub_refl
    · refine hS.newS h2 h1 fun k hk => ?_
      have := sb_own hk
      rw [h3] at this
      exact Nat.le_of_eq (Option.some.inj this)
  refine wpL_run hw (v := v') (W := W') ?_ (by rw [hp]; exact h v' W' hS')
  unfold execOp
  simp only [ho, resolve, invoke, builtin, Sem.run_bind, Sem.run_pure, Result.andThen_ok, List.map_toArray, List.map_cons, List.map_nil, hs, hx, hrun]
end
theorem press4_t (h : Nat → Int) (L m : List UInt8) (u : Value) (hl : 64 ≤ L.length) (hm : m = L.take 64) (w : World) (hs : Sl w u m) (hG : GS4 w) : Calls Tryd.prog 88 #[.agg (arrK .u32 8 h), u] w fun e w' => Ret (.agg (arrK .u32 8 (prs4 h (bt L)))) w w' e := by
  have hml : m.length = 64 := by rw [hm, List.length_take]; omega
  obtain ⟨ad, c, rfl, _⟩ := sl_form hs (by omega)
  have hlc : m.length ≤ c := by obtain ⟨A, c', e, h1, _⟩ := hs; injection e with _ _ e; omega
  have hc := press4_c h m ad c (by omega) hlc w hs hG
  rw [show prs4 h (bt L) = prs4 h (bt m) from prs_congr4 fun j hj => by
    unfold bt; rw [hm, List.getD_eq_getElem?_getD, List.getD_eq_getElem?_getD, List.getElem?_take_of_lt hj]]
  exact hc
/-- the tables as one thing -/
abbrev gs4 : As := .p [3, 2] GS4
theorem gs4_holds {w : World} (h : GS4 w) : gs4.holds w :=
  ⟨h, fun k hk => by
    rcases List.mem_cons.1 hk with rfl | hk
    · exact h.1.2
    · rw [List.mem_singleton.1 hk]; exact h.2.2, fun W hs he => ⟨rd_keep h.1 hs (he _ (by simp)), rd_keep h.2 hs (he _ (by simp))⟩⟩
end Go.Proofs.YtndnlbinnhdmbaaDoor

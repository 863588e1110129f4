/- Contracts and plain laws that superChecks_holds rests on. Conditions: the variables' cells hold the numbers of the program's text. -/
import Derived.Test.YtejkmhgkkibafaaGreatDoorMa
open Go.RowKit
set_option linter.unusedSimpArgs false
set_option linter.unusedVariables false
namespace Go.Proofs.YtejkmhgkkibafaaGreatDoor
section
inductive Wk where
  | L : (Exit → Act → World → Prop) → Wk
  | X : (Act → World → Prop) → Wk
def wpM (P : Program) (ops : Array Oper) (k : Wk) (F : List Nat) (w : World) (H : List As) (l : List Oper) (a : Act) : Prop :=
  ∀ W, SH F w W H → match k with
    | .L Q => wpList P ops Q l a W
    | .X E => wpX P ops W (fun a' => ∀ W', Ext W W' → E a' W') l a
theorem V3a {l l' : List Value} {i : Nat} {v : Value} (h : l.set i v = l') : l.toArray.setIfInBounds i v = l'.toArray := by subst h; exact mA l i v
theorem sB (a b : As) (l : List As) : (a :: l).set 0 b = b :: l := rfl
theorem sC (a b : As) (l : List As) (n : Nat) : (a :: l).set (n + 1) b = a :: l.set n b := rfl
theorem eB (a : As) (l : List As) : (a :: l).eraseIdx 0 = l := rfl
theorem eC (a : As) (l : List As) (n : Nat) : (a :: l).eraseIdx (n + 1) = a :: l.eraseIdx n := rfl
section
variable {P : Program} {ops : Array Oper} {k : Wk} {Q : Exit → Act → World → Prop} {E : Act → World → Prop} {F : List Nat} {w : World} {H H' : List As} {l : List Oper} {o : Oper} {a a' : Act}
theorem wpM.val {v : Value} (hw : Region.wanted o (yielded ops a.tmps) = true) (hv : ∀ W, SH F w W H → (execOp a.eval o).run P W = .ok (.value v) W) (h : wpM P ops k F w H l (a.put o.dst v)) : wpM P ops k F w H (o :: l) a := by
  intro W hS
  cases k with
  | L Q => exact J2a hw (hv W hS) (h W hS)
  | X E => exact J3d hw (fun W' hW => hv W' (hS.grow hW)) (h W hS)
theorem MS (h : wpM P ops k F w H l a') (hw : Region.wanted o (yielded ops a.tmps) = false := by exact rfl) (hp : a.put o.dst undef = a' := by first | exact pl (by dsimp only [mB, mC]; first | done | exact rfl) | exact pn | exact rfl) : wpM P ops k F w H (o :: l) a := by
  subst hp
  intro W hS
  cases k with
  | L Q => exact Q6l hw (h W hS)
  | X E => exact Z51 hw (h W hS)
theorem MV {v : Value} (h : wpM P ops k F w H l a') (hw : Region.wanted o (yielded ops a.tmps) = true := by exact rfl) (hv : ∀ W, (execOp a.eval o).run P W = .ok (.value v) W := by intro W; (go_simp; first | done | with_reducible rfl)) (hp : a.put o.dst v = a' := by first | exact pl (by dsimp only [mB, mC]; first | done | exact rfl) | exact pn | exact rfl) : wpM P ops k F w H (o :: l) a := by
  subst hp; exact wpM.val hw (fun W _ => hv W) h
theorem MW {v : Value} (h : wpM P ops k F w H l a') (hw : Region.wanted o (yielded ops a.tmps) = true := by exact rfl) (hv : ∀ W, (execOp a.eval o).run P W = .ok (.value v) W := by intro W; first | rfl | (go_simp; done) | (go_simp; with_reducible rfl) | (go_simp; omega)) (hp : a.put o.dst v = a' := by first | exact pl (by dsimp only [mB, mC]; first | done | exact rfl) | exact pn | exact rfl) : wpM P ops k F w H (o :: l) a := by
  subst hp; exact wpM.val hw (fun W _ => hv W) h
theorem MF {v : Value} (hv : ∀ W, SH F w W H → (execOp a.eval o).run P W = .ok (.value v) W) (h : wpM P ops k F w H l a') (hw : Region.wanted o (yielded ops a.tmps) = true := by exact rfl) (hp : a.put o.dst v = a' := by first | exact pl (by dsimp only [mB, mC]; first | done | exact rfl) | exact pn | exact rfl) : wpM P ops k F w H (o :: l) a := by
  subst hp; exact wpM.val hw hv h
theorem MG (i : Nat) {b j : Nat} {cs : Array Value} {t ty : TypeId} {v : Value} {x : Operand} (h : wpM P ops k F w H l a') (hi : H[i]? = some (.b b cs t) := by exact rfl) (hw : Region.wanted o (yielded ops a.tmps) = true := by exact rfl) (ho : o.op = .load ty x := by exact rfl) (hx : a.eval x = .pointer (some ⟨b, j, none⟩) := by exact rfl) (hj : cs[j]? = some v := by exact rfl)
    (hk : (P.underlying ty).map TypeDesc.isRow = some false := by as_aux_lemma => kernel_rfl) (hp : a.put o.dst v = a' := by first | exact pl (by dsimp only [mB, mC]; first | done | exact rfl) | exact pn | exact rfl) : wpM P ops k F w H (o :: l) a := by
  subst hp; exact wpM.val hw (fun W hS => X8 ho hx (by rw [J7 (hS.blk hi)]; exact hj) hk) h
theorem ML (i : Nat) {b : Nat} {cs : Array Value} {t ty : TypeId} {x : Operand} (h : wpM P ops k F w H l a') (hi : H[i]? = some (.b b cs t) := by exact rfl) (hw : Region.wanted o (yielded ops a.tmps) = true := by exact rfl) (ho : o.op = .load ty x := by exact rfl) (hx : a.eval x = .pointer (some ⟨b, 0, none⟩) := by exact rfl)
    (hk : (P.underlying ty).map TypeDesc.isRow = some true := by as_aux_lemma => kernel_rfl) (hs : (P.info? ty).map (·.size) = some cs.size := by first | kernel_rfl | (rw [J1]; kernel_rfl)) (hp : a.put o.dst (.agg cs) = a' := by first | exact pl (by dsimp only [mB, mC]; first | done | exact rfl) | exact pn | exact rfl) : wpM P ops k F w H (o :: l) a := by
  subst hp; exact wpM.val hw (fun W hS => Q6t ho hx (hS.blk hi) hk hs) h
theorem Ml (i : Nat) {b j : Nat} {cs sub : Array Value} {t ty : TypeId} {x : Operand} (hs : ∀ i v, sub[i]? = some v → cs[j + i]? = some v) (h : wpM P ops k F w H l a') (hi : H[i]? = some (.b b cs t) := by exact rfl) (hw : Region.wanted o (yielded ops a.tmps) = true := by exact rfl) (ho : o.op = .load ty x := by exact rfl) (hx : a.eval x = .pointer (some ⟨b, j, none⟩) := by exact rfl)
    (hk : (P.underlying ty).map TypeDesc.isRow = some true := by as_aux_lemma => kernel_rfl) (hz : (P.info? ty).map (·.size) = some sub.size := by first | kernel_rfl | (rw [J1]; kernel_rfl)) (hp : a.put o.dst (.agg sub) = a' := by first | exact pl (by dsimp only [mB, mC]; first | done | exact rfl) | exact pn | exact rfl) : wpM P ops k F w H (o :: l) a := by
  subst hp
  refine wpM.val hw (fun W hS => ?_) h
  exact J0g (vs := sub.toList) ho hx (fun i v hv => by rw [J7 (hS.blk hi)]; exact hs i v (by simpa using hv)) hk (by simpa using hz)
theorem MC {f : FuncId} {xl : List Operand} {ts : Array TypeId} {args : Array Value} {v : Value} (hc : ∀ W, SH F w W H → Calls P f args W fun e W' => K7 v W W' e) (h : wpM P ops k F w H l a') (hw : Region.wanted o (yielded ops a.tmps) = true := by exact rfl)
    (ho : o.op = .call { callee := .value (.func f), args := xl.toArray, argTypes := ts } := by with_reducible rfl) (hg : Q1q P f = true := by as_aux_lemma => kernel_rfl) (ha : (xl.map a.eval).toArray = args := by exact rfl) (hp : a.put o.dst v = a' := by first | exact pl (by dsimp only [mB, mC]; first | done | exact rfl) | exact pn | exact rfl) : wpM P ops k F w H (o :: l) a := by
  subst hp
  intro W hS
  cases k with
  | L Q => exact Z0f (hc W hS) hw ho hg ha fun W' hO => h W' (hS.next hO)
  | X E => exact Z53 (fun W' hW => hc W' (hS.grow hW)) hw ho hg ha (h W hS)
theorem ME {α : Type} {f : FuncId} {xl : List Operand} {ts : Array TypeId} {args : Array Value} {V : α → Value} {X : α → List As} {a' : α → Act} (hc : ∀ W, SH F w W H → Calls P f args W fun e W' => ∃ v, e = .returned (V v) ∧ SH F w W' (X v)) (h : ∀ v, wpM P ops (.L Q) F w (X v) l (a' v)) (hw : Region.wanted o (yielded ops a.tmps) = true := by exact rfl)
    (ho : o.op = .call { callee := .value (.func f), args := xl.toArray, argTypes := ts } := by with_reducible rfl) (hg : Q1q P f = true := by as_aux_lemma => kernel_rfl) (ha : (xl.map a.eval).toArray = args := by exact rfl) (hp : ∀ v, a.put o.dst (V v) = a' v := by intro v; first | exact pl (by dsimp only [mB, mC]; first | done | exact rfl) | exact pn | exact rfl) : wpM P ops (.L Q) F w H (o :: l) a := by
  intro W hS
  refine Z57 (R := fun v W' => ∃ x, v = V x ∧ SH F w W' (X x)) ((hc W hS).mono fun e W' ⟨x, h1, h2⟩ => ⟨V x, h1, x, rfl, h2⟩) hw ho hg ha fun v W' ⟨x, e, hX⟩ => ?_
  subst e
  rw [hp x]; exact h x W' hX
theorem Me {f : FuncId} {xl : List Operand} {ts : Array TypeId} {args : Array Value} {v : Value} (hc : ∀ W, SH F w W H → Calls P f args W fun e W' => e = .returned v ∧ SH F w W' H') (h : wpM P ops (.L Q) F w H' l a') (hw : Region.wanted o (yielded ops a.tmps) = true := by exact rfl)
    (ho : o.op = .call { callee := .value (.func f), args := xl.toArray, argTypes := ts } := by with_reducible rfl) (hg : Q1q P f = true := by as_aux_lemma => kernel_rfl) (ha : (xl.map a.eval).toArray = args := by exact rfl) (hp : a.put o.dst v = a' := by first | exact pl (by dsimp only [mB, mC]; first | done | exact rfl) | exact pn | exact rfl) : wpM P ops (.L Q) F w H (o :: l) a := by
  subst hp
  intro W hS
  exact Q3s (hc W hS) hw ho hg ha fun W' hX => h W' hX
theorem MN {z : Array Value} {t : TypeId} {a' : Nat → Act} (h : ∀ b, wpM P ops (.L Q) F w (.b b z t :: H) l (a' b)) (ht : H.all (SH.tyOk (.b 0 z t)) = true := by exact rfl) (hw : Region.wanted o (yielded ops a.tmps) = true := by exact rfl)
    (hr : ∀ w, (execOp a.eval o).run P w = .ok (.value (.pointer (some ⟨w.heap.size, 0, none⟩))) (w.alloc (.cells z t)) := by intro w; first | kernel_rfl | (go_simp; done) | (go_simp; rfl))
    (hp : ∀ b, a.put o.dst (.pointer (some ⟨b, 0, none⟩)) = a' b := by intro b; first | exact pl (by dsimp only [mB, mC]; first | done | exact rfl) | exact pn | exact rfl) : wpM P ops (.L Q) F w H (o :: l) a := by
  intro W hS
  refine Q0w hw (hr W) fun b W' hn hO hB => ?_
  rw [hp b]
  exact h b W' (hS.new (x := .b b z t) hO hB (fun k hk => by rw [List.mem_singleton.1 hk]; exact hn) rfl ht)
theorem MB {z : Array Value} {t : TypeId} {n c : Nat} {a' : Nat → Act} (h : ∀ b, wpM P ops (.L Q) F w (.b b z t :: H) l (a' b)) (ht : H.all (SH.tyOk (.b 0 z t)) = true := by exact rfl) (hw : Region.wanted o (yielded ops a.tmps) = true := by exact rfl)
    (hr : ∀ W, SH F w W H → (execOp a.eval o).run P W = .ok (.value (.slice (some ⟨W.heap.size, 0, none⟩) n c)) (W.alloc (.cells z t)) := by intro w _; first | kernel_rfl | (go_simp; done) | (go_simp; rfl))
    (hp : ∀ b, a.put o.dst (.slice (some ⟨b, 0, none⟩) n c) = a' b := by intro b; first | exact pl (by dsimp only [mB, mC]; first | done | exact rfl) | exact pn | exact rfl) : wpM P ops (.L Q) F w H (o :: l) a := by
  intro W hS
  refine Q1u hw (hr W hS) fun b W' hn hO hB => ?_
  rw [hp b]
  exact h b W' (hS.new (x := .b b z t) hO hB (fun k hk => by rw [List.mem_singleton.1 hk]; exact hn) rfl ht)
theorem MO {z : Array Value} {m : List UInt8} {n : Nat} {a' : Value → Act} (h : ∀ v, wpM P ops (.L Q) F w (.o v m :: H) l (a' v)) (hz : z.toList = bs8 m := by exact rfl) (hn : m.length = n := by exact rfl) (hm : n ≤ maxLen := by decide) (ht : H.all (SH.tyOk (.o undef [])) = true := by exact rfl) (hw : Region.wanted o (yielded ops a.tmps) = true := by exact rfl)
    (hr : ∀ w, (execOp a.eval o).run P w = .ok (.value (.slice (some ⟨w.heap.size, 0, none⟩) n n)) (w.alloc (.cells z 5)) := by intro w; first | kernel_rfl | (go_simp; done) | (go_simp; rfl))
    (hp : ∀ v, a.put o.dst v = a' v := by intro b; first | exact pl (by dsimp only [mB, mC]; first | done | exact rfl) | exact pn | exact rfl) : wpM P ops (.L Q) F w H (o :: l) a := by
  subst hn
  intro W hS
  refine Q1u hw (hr W) fun b W' hn hO hB => ?_
  rw [hp]
  refine h _ W' (hS.new (x := .o (.slice (some ⟨b, 0, none⟩) m.length m.length) m) hO (J3e hB hz hm) (fun k hk => by rw [show k = b from List.mem_singleton.1 hk]; exact hn) rfl ht)
theorem MP (i : Nat) {b off : Nat} {cs cs' : Array Value} {t ty : TypeId} {v : Value} {x y : Operand} (h : wpM P ops (.L Q) F w H' l a') (hi : H[i]? = some (.b b cs t) := by exact rfl) (hv : ∀ W, SH F w W H → v.cells = #[v] ∧ v.oneCell' = true := by exact fun _ _ => ⟨rfl, rfl⟩) (hw : Region.wanted o (yielded ops a.tmps) = true := by exact rfl) (ho : o.op = .store ty x y := by exact rfl)
    (hx : a.eval x = .pointer (some ⟨b, off, none⟩) := by exact rfl) (hy : a.eval y = v := by exact rfl) (hs : off < cs.size := by first | decide | simp) (hz : (P.info? ty).map (·.size) = some 1 := by kernel_rfl) (hc : cs.setIfInBounds off v = cs' := by first | exact V3a (by dsimp only [mB, mC]; first | done | exact rfl) | exact rfl)
    (hH : H.set i (.b b cs' t) = H' := by dsimp only [sB, sC]; first | done | exact rfl) (hp : a.put o.dst undef = a' := by first | exact pl (by dsimp only [mB, mC]; first | done | exact rfl) | exact pn | exact rfl) : wpM P ops (.L Q) F w H (o :: l) a := by
  subst hp hc hH
  intro W hS
  exact J42 (hv W hS) hw ho hx hy (hS.blk hi) hs hz fun W' hO hB => h W' (hS.setb hi hO hB)
theorem MR (i : Nat) {g : Nat} {cells old : Array Value} {t ty : TypeId} {x y : Operand} (h : wpM P ops (.L Q) F w H' l a') (hi : H[i]? = some (.b g old t) := by exact rfl) (hw : Region.wanted o (yielded ops a.tmps) = true := by exact rfl) (ho : o.op = .store ty x y := by exact rfl)
    (hx : a.eval x = .pointer (some ⟨g, 0, none⟩) := by exact rfl) (hy : a.eval y = .agg cells := by exact rfl) (hz : (P.info? ty).map (·.size) = some cells.size := by first | kernel_rfl | (rw [J1]; kernel_rfl)) (hs : old.size = cells.size := by first | kernel_rfl | rw [J1, J1] | rw [J1]) (h1 : cells.all (·.oneCell') = true := by first | kernel_rfl | exact Z9 _ _ _)
    (hH : H.set i (.b g cells t) = H' := by dsimp only [sB, sC]; first | done | exact rfl) (hp : a.put o.dst undef = a' := by first | exact pl (by dsimp only [mB, mC]; first | done | exact rfl) | exact pn | exact rfl) : wpM P ops (.L Q) F w H (o :: l) a := by
  subst hp hH
  intro W hS
  exact J4s hw ho hx hy (hS.blk hi) hz hs h1 fun W' hO hB => h W' (hS.setb hi hO hB)
theorem Mr (i : Nat) {g off : Nat} {cells old new : Array Value} {t ty : TypeId} {x y : Operand} (hc : spl old off cells.toList = new) (h : wpM P ops (.L Q) F w H' l a') (hi : H[i]? = some (.b g old t) := by exact rfl) (hw : Region.wanted o (yielded ops a.tmps) = true := by exact rfl) (ho : o.op = .store ty x y := by exact rfl)
    (hx : a.eval x = .pointer (some ⟨g, off, none⟩) := by exact rfl) (hy : a.eval y = .agg cells := by exact rfl) (hz : (P.info? ty).map (·.size) = some cells.size := by first | kernel_rfl | (rw [J1]; kernel_rfl)) (hs : off + cells.size ≤ old.size := by first | decide | (rw [J1]; decide)) (h1 : cells.all (·.oneCell') = true := by first | kernel_rfl | exact Z9 _ _ _)
    (hH : H.set i (.b g new t) = H' := by dsimp only [sB, sC]; first | done | exact rfl) (hp : a.put o.dst undef = a' := by first | exact pl (by dsimp only [mB, mC]; first | done | exact rfl) | exact pn | exact rfl) : wpM P ops (.L Q) F w H (o :: l) a := by
  subst hp hc hH
  intro W hS
  exact Q4m (v := .agg cells) hw ho hx hy (hS.blk hi) hs hz h1 fun W' hO hB => h W' (hS.setb hi hO hB)
theorem MT (hs : ∀ W, SH F w W H → SH F w W H') (h : wpM P ops k F w H' l a) : wpM P ops k F w H l a := by
  intro W hS; exact h W (hs W hS)
theorem MD (i : Nat) (h : wpM P ops k F w H' l a) (hH : H.eraseIdx i = H' := by dsimp only [eB, eC]; first | done | exact rfl) : wpM P ops k F w H l a := by
  subst hH; exact MT (fun W hS => hS.drop i) h
theorem MZ (h : ∀ W, SH F w W H → Q .normal a W) : wpM P ops (.L Q) F w H [] a := fun W hS => J9 (h W hS)
theorem MZn (h : ∀ W, SH F w W H → Q .normal a W) : wpM P ops (.L (NoPanic Q)) F w H [] a := fun W hS => J9 (NoPanic.normal (h W hS))
theorem MZx (h : ∀ W, SH F w W H → E a W) : wpM P ops (.X E) F w H [] a := fun _ hS => V7 fun W' hW => h W' (hS.grow hW)
theorem MZt {Q : Exit → Act → World → Prop} {l2 : List Oper} (h : wpM P ops (.L Q) F w H l2 a) : wpM P ops (.X (fun a1 W => wpList P ops Q l2 a1 W)) F w H [] a := fun _ hS => V7 fun W' hW => h W' (hS.grow hW)
theorem RL {id : Nat} {W : World} (hS : SH F w W H) (h : wpM P l.toArray (.L Q) F w H l a') (hp : a = a' := by (try simp only [Act.put, mA, mB, mC]); exact rfl) : (Code.region id l.toArray false).wp P Q a W := by
  subst hp; exact wp_region_lit (h W hS)
theorem RX {id : Nat} {W : World} {l1 l2 : List Oper} (m : Nat) (hS : SH F w W H) (h : wpM P l.toArray (.X (fun a1 W => wpList P l.toArray (NoPanic Q) l2 a1 W)) F w H l1 a') (hm : P.follows .mixedOrders = true := by as_aux_lemma => kernel_rfl)
    (hB : (Region.noSelect l.toArray && Q0k .any l.toArray m m 0 (Array.replicate l.length false) && decide (m ≤ l.length) &&
      (Region.ready .any l.toArray (X4 m 0 (Array.replicate l.length false))).all (fun j => decide (m ≤ j)) &&
      Region.seqB .any l.toArray (l.length - m) m (X4 m 0 (Array.replicate l.length false))) = true := by as_aux_lemma => kernel_rfl) (h1 : l.take m = l1 := by (try simp only [List.append, List.take_succ_cons, List.take_zero, List.take_nil]); exact rfl) (h2 : l.drop m = l2 := by (try simp only [List.append, List.drop_succ_cons, List.drop_zero, List.drop_nil]); exact rfl)
    (hp : a = a' := by (try simp only [Act.put, mA, mB, mC]); exact rfl) : (Code.region id l.toArray true).wp P Q a W := by
  subst hp h1 h2; exact J8u m hm hB (h W hS)
theorem RS {id : Nat} {W : World} (hS : SH F w W H) (h : wpM P l.toArray (.X (fun a1 W => Q .normal a1 W)) F w H l a') (hm : P.follows .mixedOrders = true := by as_aux_lemma => kernel_rfl)
    (hB : (Region.noSelect l.toArray && Q0k .any l.toArray l.length l.length 0 (Array.replicate l.length false) && decide (Region.ready .any l.toArray (X4 l.length 0 (Array.replicate l.length false)) = [])) = true := by as_aux_lemma => kernel_rfl)
    (hp : a = a' := by (try simp only [Act.put, mA, mB, mC]); exact rfl) : (Code.region id l.toArray true).wp P Q a W := by
  subst hp; exact Q4g hm hB (h W hS)
/-! ### By a plan -/
def wpP (P : Program) (ops : Array Oper) (K : Act → World → Prop) (F : List Nat) (w : World) (G H : List As) (t : Tr) (a : Act) : Prop :=
  (∀ W, SH F w W H → SH F w W G) ∧ ∀ W, SH F w W H → U0 P ops K t (fun W => SH F w W G) a W
section
variable {K : Act → World → Prop} {t u : Tr} {G G' : List As} {i : Nat}
theorem RT {id : Nat} {W : World} {ops : Array Oper} (t : Tr) (hS : SH F w W H) (h : wpP P ops (Q .normal) F w G H t a') (hm : P.follows .mixedOrders = true := by as_aux_lemma => kernel_rfl)
    (hB : (Region.noSelect ops && decide (t.len ≤ ops.size) && t.ok .any ops (Array.replicate ops.size false)) = true := by as_aux_lemma => kernel_rfl)
    (hp : a = a' := by (try simp only [Act.put, mA, mB, mC]); exact rfl) : (Code.region id ops true).wp P Q a W := by
  subst hp
  exact Q4o t (fun W => SH F w W G) hm hB fun W' hO => ⟨h.1 W' (hS.next hO), h.2 W' (hS.next hO)⟩
theorem RTh {id : Nat} {W : World} {ops : Array Oper} (t : Tr) (hS : SH F w W H) (h : wpP P ops (Q .normal) F w H H t a') (hm : P.follows .mixedOrders = true := by as_aux_lemma => kernel_rfl)
    (hB : (Region.noSelect ops && decide (t.len ≤ ops.size) && t.ok .any ops (Array.replicate ops.size false)) = true := by as_aux_lemma => kernel_rfl)
    (hp : a = a' := by (try simp only [Act.put, mA, mB, mC]); exact rfl) : (Code.region id ops true).wp P Q a W := RT t hS h hm hB hp
theorem RTp (I : List Nat) {id : Nat} {W : World} {ops : Array Oper} (t : Tr) (hS : SH F w W H) (h : wpP P ops (Q .normal) F w G H t a') (hG : pk H I = G := by dsimp only [pk, List.getElem?_cons_zero, List.getElem?_cons_succ]; first | done | exact rfl) (hm : P.follows .mixedOrders = true := by as_aux_lemma => kernel_rfl)
    (hB : (Region.noSelect ops && decide (t.len ≤ ops.size) && t.ok .any ops (Array.replicate ops.size false)) = true := by as_aux_lemma => kernel_rfl)
    (hp : a = a' := by (try simp only [Act.put, mA, mB, mC]); exact rfl) : (Code.region id ops true).wp P Q a W := RT t hS h hm hB hp
theorem wpP.val {v : Value} (ho : ops.toList[i]? = some o) (hw : Region.wanted o (yielded ops a.tmps) = true) (hv : ∀ W, SH F w W G → (execOp a.eval o).run P W = .ok (.value v) W) (h : wpP P ops K F w G H t (a.put o.dst v)) : wpP P ops K F w G H (.q i t) a :=
  ⟨h.1, fun W hS => Y9c ho hw hv (h.2 W hS)⟩
theorem TS (h : wpP P ops K F w G H t a') (ho : ops.toList[i]? = some o := by exact rfl) (hw : Region.wanted o (yielded ops a.tmps) = false := by exact rfl) (hp : a.put o.dst undef = a' := by first | exact pl (by dsimp only [mB, mC]; first | done | exact rfl) | exact pn | exact rfl) : wpP P ops K F w G H (.q i t) a := by
  subst hp; exact ⟨h.1, fun W hS => Z5f ho hw (h.2 W hS)⟩
theorem TV {v : Value} (h : wpP P ops K F w G H t a') (ho : ops.toList[i]? = some o := by exact rfl) (hw : Region.wanted o (yielded ops a.tmps) = true := by exact rfl) (hv : ∀ W, (execOp a.eval o).run P W = .ok (.value v) W := by intro W; (go_simp; first | done | with_reducible rfl)) (hp : a.put o.dst v = a' := by first | exact pl (by dsimp only [mB, mC]; first | done | exact rfl) | exact pn | exact rfl) : wpP P ops K F w G H (.q i t) a := by
  subst hp; exact wpP.val ho hw (fun W _ => hv W) h
theorem TW {v : Value} (h : wpP P ops K F w G H t a') (ho : ops.toList[i]? = some o := by exact rfl) (hw : Region.wanted o (yielded ops a.tmps) = true := by exact rfl) (hv : ∀ W, (execOp a.eval o).run P W = .ok (.value v) W := by intro W; first | rfl | (go_simp; done) | (go_simp; with_reducible rfl) | (go_simp; omega)) (hp : a.put o.dst v = a' := by first | exact pl (by dsimp only [mB, mC]; first | done | exact rfl) | exact pn | exact rfl) : wpP P ops K F w G H (.q i t) a := by
  subst hp; exact wpP.val ho hw (fun W _ => hv W) h
theorem TF {v : Value} (ho : ops.toList[i]? = some o) (hv : ∀ W, SH F w W G → (execOp a.eval o).run P W = .ok (.value v) W) (h : wpP P ops K F w G H t a') (hw : Region.wanted o (yielded ops a.tmps) = true := by exact rfl) (hp : a.put o.dst v = a' := by first | exact pl (by dsimp only [mB, mC]; first | done | exact rfl) | exact pn | exact rfl) : wpP P ops K F w G H (.q i t) a := by
  subst hp; exact wpP.val ho hw hv h
theorem TG (n : Nat) {b j : Nat} {cs : Array Value} {tt ty : TypeId} {v : Value} {x : Operand} (h : wpP P ops K F w G H t a') (hi : G[n]? = some (.b b cs tt) := by exact rfl) (hoo : ops.toList[i]? = some o := by exact rfl) (hw : Region.wanted o (yielded ops a.tmps) = true := by exact rfl) (ho : o.op = .load ty x := by exact rfl) (hx : a.eval x = .pointer (some ⟨b, j, none⟩) := by exact rfl) (hj : cs[j]? = some v := by exact rfl)
    (hk : (P.underlying ty).map TypeDesc.isRow = some false := by as_aux_lemma => kernel_rfl) (hp : a.put o.dst v = a' := by first | exact pl (by dsimp only [mB, mC]; first | done | exact rfl) | exact pn | exact rfl) : wpP P ops K F w G H (.q i t) a := by
  subst hp; exact wpP.val hoo hw (fun W hS => X8 ho hx (by rw [J7 (hS.blk hi)]; exact hj) hk) h
theorem TL (n : Nat) {b : Nat} {cs : Array Value} {tt ty : TypeId} {x : Operand} (h : wpP P ops K F w G H t a') (hi : G[n]? = some (.b b cs tt) := by exact rfl) (hoo : ops.toList[i]? = some o := by exact rfl) (hw : Region.wanted o (yielded ops a.tmps) = true := by exact rfl) (ho : o.op = .load ty x := by exact rfl) (hx : a.eval x = .pointer (some ⟨b, 0, none⟩) := by exact rfl)
    (hk : (P.underlying ty).map TypeDesc.isRow = some true := by as_aux_lemma => kernel_rfl) (hs : (P.info? ty).map (·.size) = some cs.size := by first | kernel_rfl | (rw [J1]; kernel_rfl)) (hp : a.put o.dst (.agg cs) = a' := by first | exact pl (by dsimp only [mB, mC]; first | done | exact rfl) | exact pn | exact rfl) : wpP P ops K F w G H (.q i t) a := by
  subst hp; exact wpP.val hoo hw (fun W hS => Q6t ho hx (hS.blk hi) hk hs) h
theorem Tl (n : Nat) {b j : Nat} {cs sub : Array Value} {tt ty : TypeId} {x : Operand} (hs : ∀ i v, sub[i]? = some v → cs[j + i]? = some v) (h : wpP P ops K F w G H t a') (hi : G[n]? = some (.b b cs tt) := by exact rfl) (hoo : ops.toList[i]? = some o := by exact rfl) (hw : Region.wanted o (yielded ops a.tmps) = true := by exact rfl) (ho : o.op = .load ty x := by exact rfl) (hx : a.eval x = .pointer (some ⟨b, j, none⟩) := by exact rfl)
    (hk : (P.underlying ty).map TypeDesc.isRow = some true := by as_aux_lemma => kernel_rfl) (hz : (P.info? ty).map (·.size) = some sub.size := by first | kernel_rfl | (rw [J1]; kernel_rfl)) (hp : a.put o.dst (.agg sub) = a' := by first | exact pl (by dsimp only [mB, mC]; first | done | exact rfl) | exact pn | exact rfl) : wpP P ops K F w G H (.q i t) a := by
  subst hp
  exact wpP.val hoo hw (fun W hS => J0g (vs := sub.toList) ho hx (fun i v hv => by rw [J7 (hS.blk hi)]; exact hs i v (by simpa using hv)) hk (by simpa using hz)) h
theorem TZ (hG : ∀ W, SH F w W H → SH F w W G) (h : ∀ W, SH F w W H → K a W) : wpP P ops K F w G H .z a := ⟨hG, fun W hS => h W hS⟩
abbrev Nx (P : Program) (ops : Array Oper) (K : Act → World → Prop) (F : List Nat) (w : World) (G : List As) (t : Tr) : Exit → Act → World → Prop :=
  Nml fun a' w' => ∃ S' : World → Prop, (∀ W, S' W → SH F w W G) ∧ S' w' ∧ U0 P ops K t S' a' w'
theorem TE (hG : ∀ W, SH F w W H → SH F w W G) (h : wpM P ops (.L (Nx P ops K F w G t)) F w H [o] a) (ho : ops.toList[i]? = some o := by exact rfl) : wpP P ops K F w G H (.e i t) a :=
  ⟨hG, fun W hS => Y9d ho (h W hS)⟩
theorem TB {j : Nat} {o2 : Oper} (hG : ∀ W, SH F w W H → SH F w W G) (h : wpM P ops (.L (Nx P ops K F w G t)) F w H [o] a) (h2 : wpM P ops (.L (Nx P ops K F w G u)) F w H [o2] a) (ho : ops.toList[i]? = some o := by exact rfl) (ho2 : ops.toList[j]? = some o2 := by exact rfl) : wpP P ops K F w G H (.b i t j u) a :=
  ⟨hG, fun W hS => Y9e ho ho2 (h W hS) (h2 W hS)⟩
theorem TN (G' : List As) (hg : ∀ W, SH F w W G' → SH F w W G) (h : wpP P ops K F w G' H t a) : wpM P ops (.L (Nx P ops K F w G t)) F w H [] a :=
  fun W hS => Y9f (S := fun W => SH F w W G) (fun W => SH F w W G') hg (h.1 W hS) (h.2 W hS)
theorem TNp (I J : List Nat) (h : wpP P ops K F w G' H t a) (hG : pk H I = G' := by dsimp only [pk, List.getElem?_cons_zero, List.getElem?_cons_succ]; first | done | exact rfl) (hg : pk G' J = G := by dsimp only [pk, List.getElem?_cons_zero, List.getElem?_cons_succ]; first | done | exact rfl) (hn : J.Nodup := by decide) : wpM P ops (.L (Nx P ops K F w G t)) F w H [] a := TN G' (fun _ hS => hS.pick J hg hn) h
theorem TNh (hg : ∀ W, SH F w W H → SH F w W G) (h : wpP P ops K F w H H t a) : wpM P ops (.L (Nx P ops K F w G t)) F w H [] a := TN H hg h
end
end
/-! ### Calls that turn some of it, by what they turn -/
section
variable {P : Program} {f : FuncId} {args : Array Value} {F : List Nat} {w W : World} {H L R : List As}
theorem Y9i (I J : List Nat) {v : Value} {L' : List As} {H' : List As} (hS : SH F w W H) (hc : SH (SH.feet L) W W L → Calls P f args W fun e W' => e = .returned v ∧ SH (SH.feet L) W W' L') (ok : SH.okL L R L') (hI : pk H I = L := by exact rfl) (hJ : pk H J = R := by exact rfl) (hn : (I ++ J).Nodup := by decide) (hH : L' ++ R = H' := by exact rfl) : Calls P f args W fun e W' => e = .returned v ∧ SH F w W' H' := by
  subst hI hJ hH
  have h : SH F w W (pk H I ++ pk H J) := hS.pick (I ++ J) (by
    exact Q25 H I J) hn
  exact (hc h.here).mono fun e W' ⟨h1, h2⟩ => ⟨h1, h.frame h2 ok⟩
theorem Q6x {α : Type} (I J : List Nat) {V : α → Value} {L' H' : α → List As} (hS : SH F w W H) (hc : SH (SH.feet L) W W L → Calls P f args W fun e W' => ∃ x, e = .returned (V x) ∧ SH (SH.feet L) W W' (L' x)) (ok : ∀ x, SH.okL L R (L' x)) (hI : pk H I = L := by exact rfl) (hJ : pk H J = R := by exact rfl) (hn : (I ++ J).Nodup := by decide) (hH : ∀ x, L' x ++ R = H' x := by exact fun _ => rfl) : Calls P f args W fun e W' => ∃ x, e = .returned (V x) ∧ SH F w W' (H' x) := by
  subst hI hJ
  have h : SH F w W (pk H I ++ pk H J) := hS.pick (I ++ J) (by
    exact Q25 H I J) hn
  exact (hc h.here).mono fun e W' ⟨x, h1, h2⟩ => ⟨x, h1, by rw [← hH x]; exact h.frame h2 (ok x)⟩
end
end

section
theorem J1j {P : Program} {a : Act} {W : World} {o : Oper} {b j : Nat} {sub : Array Value} {ty : TypeId} {x : Operand} (ho : o.op = .load ty x) (hx : a.eval x = .pointer (some ⟨b, j, none⟩)) (hc : ∀ i v, sub[i]? = some v → W.cell? ⟨b, j + i, none⟩ = some v)
    (hk : (P.underlying ty).map TypeDesc.isRow = some true) (hi : (P.info? ty).map (·.size) = some sub.size) : (execOp a.eval o).run P W = .ok (.value (.agg sub)) W :=
  J0g (vs := sub.toList) ho hx (fun i v hv => hc i v (by simpa using hv)) hk (by simpa using hi)
theorem J10 {P : Program} {w : World} {o : Oper} {a : Act} {x y : Operand} {t e : TypeId} {kk : IntKind} {m k b off j : Nat} (hj : j < m) (ht : P.underlying t = some (.array m e)) (he : (P.info? e).map (·.size) = some k) (ho : o.op = .indexAddr t x y) (hx : a.eval x = .pointer (some ⟨b, off, none⟩)) (hy : a.eval y = .int kk (j : Int)) :
    (execOp a.eval o).run P w = .ok (.value (.pointer (some ⟨b, off + j * k, none⟩))) w := by
  cases hq : P.info? e with
  | none => simp [hq] at he
  | some i =>
    have hs : i.size = k := by simpa [hq] using he
    simp [execOp, ho, hx, hy, Instr.indexAt, asIntOf, Instr.sureAddr, run_underlying ht, Sem.run_bind, sizeOf, typeInfo, hq, hs, hj, Addr.add_mid]
theorem J1v {P : Program} {a : Act} {W : World} {o : Oper} {b : Nat} {cs : Array Value} {ty : TypeId} {x : Operand} (ho : o.op = .load ty x) (hx : a.eval x = .pointer (some ⟨b, 0, none⟩)) (hB : Rd W b cs)
    (hk : (P.underlying ty).map TypeDesc.isRow = some true) (hi : (P.info? ty).map (·.size) = some cs.size) : (execOp a.eval o).run P W = .ok (.value (.agg cs)) W :=
  J0g (vs := cs.toList) ho hx (fun i v hv => by rw [Nat.zero_add]; exact hB.1 i v (by simpa using hv)) hk (by simpa using hi)
section
variable {ops : Array Oper} {k : Wk} {Q : Exit → Act → World → Prop} {F : List Nat} {w : World} {H : List As} {l : List Oper} {o : Oper} {a : Act}
theorem MA (i : Nat) {s x : Operand} {v u : Value} {xs ys : List UInt8} {H' : Value → List As} {a' : Value → Act} (hsl : ∀ W, SH F w W H → Sl W u ys) (hlen : xs.length + ys.length ≤ 140737488355328) (h : ∀ v', wpM Tryz.prog ops (.L Q) F w (H' v') l (a' v')) (hi : H[i]? = some (.o v xs) := by exact rfl) (hw : Region.wanted o (yielded ops a.tmps) = true := by exact rfl)
    (ho : o.op = .call { callee := .builtin .append, args := #[s, x], argTypes := #[22, 22] } := by exact rfl) (hs : a.eval s = v := by exact rfl) (hx : a.eval x = u := by exact rfl)
    (hH : ∀ v', H.set i (.o v' (xs ++ ys)) = H' v' := by intro v'; dsimp only [sB, sC]; first | done | exact rfl) (hp : ∀ v, a.put o.dst v = a' v := by intro b; first | exact pl (by dsimp only [mB, mC]; first | done | exact rfl) | exact pn | exact rfl) : wpM Tryz.prog ops (.L Q) F w H (o :: l) a := by
  intro W hS
  refine J0z hw ho hs hx (hS.own hi) (hsl W hS) hlen fun v' W' h1 h2 h3 _ => ?_
  rw [hp]
  exact h v' W' (by rw [← hH]; exact hS.seto hi h2 h1 h3)
theorem MAz (i : Nat) {s x : Operand} {v u : Value} {xs ys : List UInt8} {H' : Value → List As} {a' : Value → Act} (hsl : ∀ W, SH F w W H → Sl W u ys) (hlen : xs.length + ys.length ≤ 140737488355328) (h : ∀ v', wpM Tryz.prog ops (.L Q) F w (H' v') l (a' v')) (hi : H[i]? = some (.w v xs) := by exact rfl) (hw : Region.wanted o (yielded ops a.tmps) = true := by exact rfl)
    (ho : o.op = .call { callee := .builtin .append, args := #[s, x], argTypes := #[22, 22] } := by exact rfl) (hs : a.eval s = v := by exact rfl) (hx : a.eval x = u := by exact rfl)
    (hH : ∀ v', H.set i (.w v' (xs ++ ys)) = H' v' := by intro v'; dsimp only [sB, sC]; first | done | exact rfl) (hp : ∀ v, a.put o.dst v = a' v := by intro b; first | exact pl (by dsimp only [mB, mC]; first | done | exact rfl) | exact pn | exact rfl) : wpM Tryz.prog ops (.L Q) F w H (o :: l) a := by
  intro W hS
  refine Q6y hw ho hs hx (hS.at_ hi) (hsl W hS) hlen fun v' W' h1 h2 h3 => ?_
  rw [hp]
  exact h v' W' (by rw [← hH]; exact hS.setw hi h2 h1 h3)
theorem MAr (i j : Nat) {s x : Operand} {v : Value} {es : List (List Value)} {t t2 tS : TypeId} {n g c bytes : Nat} {cs : Array Value} {e : List Value} {H' : Value → List As} {a' : Value → Act} (hlen : es.length + 1 ≤ 1099511627776) (h : ∀ v', wpM Tryz.prog ops (.L Q) F w (H' v') l (a' v')) (he : cs.toList = e := by exact rfl) (hi : H[i]? = some (.r t n v es) := by exact rfl) (hj : H[j]? = some (.b g cs t2) := by exact rfl)
    (hk : cs.size = n := by first | kernel_rfl | rfl) (h1 : cs.all (·.oneCell') = true := by first | kernel_rfl | rfl) (hk0 : 0 < n := by decide) (ht : Tryz.prog.underlying tS = some (.slice t) := by as_aux_lemma => kernel_rfl) (hb : (Tryz.prog.info? t).map (fun i => (i.zero.map (·.cells.size), i.size, i.bytes)) = some (some n, n, bytes) := by as_aux_lemma => kernel_rfl) (hbb : bytes ≤ 128 := by decide)
    (hw : Region.wanted o (yielded ops a.tmps) = true := by exact rfl) (ho : o.op = .call { callee := .builtin .append, args := #[s, x], argTypes := #[tS, tS] } := by exact rfl) (hs : a.eval s = v := by exact rfl) (hx : a.eval x = .slice (some ⟨g, 0, none⟩) 1 c := by exact rfl)
    (hH : ∀ v', H.set i (.r t n v' (es ++ [e])) = H' v' := by intro v'; dsimp only [sB, sC]; first | done | exact rfl) (hp : ∀ v, a.put o.dst v = a' v := by intro b; first | exact pl (by dsimp only [mB, mC]; first | done | exact rfl) | exact pn | exact rfl) : wpM Tryz.prog ops (.L Q) F w H (o :: l) a := by
  subst he
  intro W hS
  refine Q6u hw ho hs hx (hS.row hi) (hS.blk hj) hk h1 hk0 ht hb (Nat.le_trans (Nat.mul_le_mul hlen hbb) (by decide)) (by unfold maxLen; omega) fun v' W' h1 h2 h3 => ?_
  rw [hp]
  exact h v' W' (by rw [← hH]; exact hS.setr hi h2 h1 h3)
theorem MY {x : Operand} {m : List UInt8} {a' : Value → Act} (hl : m.length ≤ 140737488355328) (h : ∀ v, wpM Tryz.prog ops (.L Q) F w (.w v m :: H) l (a' v)) (ht : H.all (SH.tyOk (.o undef [])) = true := by exact rfl) (hw : Region.wanted o (yielded ops a.tmps) = true := by exact rfl)
    (ho : o.op = .convert 9 22 x := by exact rfl) (hx : a.eval x = str m := by exact rfl) (hp : ∀ v, a.put o.dst v = a' v := by intro b; first | exact pl (by dsimp only [mB, mC]; first | done | exact rfl) | exact pn | exact rfl) : wpM Tryz.prog ops (.L Q) F w H (o :: l) a := by
  intro W hS
  refine Q8o hl hw ho hx fun v W' h1 h2 h3 => ?_
  rw [hp]
  exact h v W' (hS.new (x := .w v m) h2 h3 (fun k hk => Nat.le_of_not_lt fun D => by have := h1 k (As.mem_toList hk) D; cases this) rfl ht)
theorem MH (i n : Nat) {x y : Operand} {v : Value} {m m' : List UInt8} {a' : Value → Act} (hn : n ≤ m.length) (h : ∀ u, wpM Tryz.prog ops k F w (.s u m' :: H) l (a' u)) (hi : H[i]? = some (.s v m) := by exact rfl) (hm : m.take n = m' := by exact rfl) (hw : Region.wanted o (yielded ops a.tmps) = true := by exact rfl)
    (ho : o.op = .slice 22 x none (some y) none := by exact rfl) (hx : a.eval x = v := by exact rfl) (hy : a.eval y = .int .i64 (n : Int) := by exact rfl) (hp : ∀ v, a.put o.dst v = a' v := by intro b; first | exact pl (by dsimp only [mB, mC]; first | done | exact rfl) | exact pn | exact rfl) : wpM Tryz.prog ops k F w H (o :: l) a := by
  subst hm
  intro W hS
  obtain ⟨u, hr, h1, h2, _⟩ := Z5a (hS.sl hi) hn
  have hS' := hS.sub hi h1 h2
  have D : ∀ W, (execOp a.eval o).run Tryz.prog W = .ok (.value u) W := fun W => by simp [execOp, ho, hx, hy, hr W, Sem.run_bind]
  cases k with
  | L Q => exact J2a hw (D W) (by rw [hp]; exact h u W hS')
  | X E => exact J3d hw (fun W' _ => D W') (by rw [hp]; exact h u W hS')
theorem Mt (i n : Nat) {x y : Operand} {v : Value} {m m' : List UInt8} {a' : Value → Act} (hn : n ≤ m.length) (h : ∀ u, wpM Tryz.prog ops k F w (.s u m' :: H) l (a' u)) (hi : H[i]? = some (.s v m) := by exact rfl) (hm : m.drop n = m' := by exact rfl) (hw : Region.wanted o (yielded ops a.tmps) = true := by exact rfl)
    (ho : o.op = .slice 22 x (some y) none none := by exact rfl) (hx : a.eval x = v := by exact rfl) (hy : a.eval y = .int .i64 (n : Int) := by exact rfl) (hp : ∀ v, a.put o.dst v = a' v := by intro b; first | exact pl (by dsimp only [mB, mC]; first | done | exact rfl) | exact pn | exact rfl) : wpM Tryz.prog ops k F w H (o :: l) a := by
  subst hm
  intro W hS
  obtain ⟨u, hr, h1, h2⟩ := Q6n (hS.sl hi) hn
  have hS' := hS.sub hi h1 h2
  have D : ∀ W, (execOp a.eval o).run Tryz.prog W = .ok (.value u) W := fun W => by simp [execOp, ho, hx, hy, hr W, Sem.run_bind]
  cases k with
  | L Q => exact J2a hw (D W) (by rw [hp]; exact h u W hS')
  | X E => exact J3d hw (fun W' _ => D W') (by rw [hp]; exact h u W hS')
theorem MJ (i j : Nat) {x y : Operand} {v : Value} {m : List UInt8} {b : UInt8} {kk : IntKind} {a' : Addr → Act} (hj : m[j]? = some b) (h : ∀ ad c, RowKit.Hid (v = .slice (some ad) m.length c) → wpM Tryz.prog ops k F w H l (a' ad)) (hi : H[i]? = some (.s v m) := by exact rfl) (hw : Region.wanted o (yielded ops a.tmps) = true := by exact rfl)
    (ho : o.op = .indexAddr 22 x y := by exact rfl) (hx : a.eval x = v := by exact rfl) (hy : a.eval y = .int kk (j : Int) := by exact rfl)
    (hp : ∀ ad, a.put o.dst (.pointer (some (ad.add j))) = a' ad := by intro b; first | exact pl (by dsimp only [mB, mC]; first | done | exact rfl) | exact pn | exact rfl) : wpM Tryz.prog ops k F w H (o :: l) a := by
  intro W hS
  have G := (List.getElem?_eq_some_iff.1 hj).1
  obtain ⟨ad, c, hv, _⟩ := Q4n (hS.sl hi) (by omega)
  have D : ∀ W, (execOp a.eval o).run Tryz.prog W = .ok (.value (.pointer (some (ad.add j)))) W := fun W => Q0x G ho (hx.trans hv) hy
  cases k with
  | L Q => exact J2a hw (D W) (by rw [hp]; exact h ad c (Lib.hid hv) W hS)
  | X E => exact J3d hw (fun W' _ => D W') (by rw [hp]; exact h ad c (Lib.hid hv) W hS)
end
namespace SH
variable {F : List Nat} {w W W' : World} {H : List As}
theorem newS {v : Value} {l : List UInt8} (h : SH F w W H) (q : Off [] W W') (hs : Sl W' v l) (hf : ∀ k, sb v l = some k → W.heap.size ≤ k) : SH F w W' (.s v l :: H) := by
  have h' := h.next q
  refine ⟨h'.off, fun y hy => ?_, List.pairwise_cons.2 ⟨fun y hy => ⟨fun h => by (cases h), fun _ k hk D => ?_⟩, h'.ap⟩, fun y hy hm k hk G => ?_⟩
  · rcases List.mem_cons.1 hy with rfl | hy
    · exact hs
    exact h'.all y hy
  · exact Nat.not_lt.2 (hf k (As.mem_toList D)) (As.lt (h.all y hy) k hk)
  rcases List.mem_cons.1 hy with rfl | hy
  · cases hm
  exact h.old y hy hm k hk G
theorem entp {f : List Nat} {K : World → Prop} (h : SH [] w W H) (hs : (As.p f K).holds w) : SH [] w W (.p f K :: H) := by
  refine ⟨h.off, fun y hy => ?_, List.pairwise_cons.2 ⟨fun y hy => ⟨fun h => by (cases h), fun hm k hk D => ?_⟩, h.ap⟩, fun y hy hm k hk G => ?_⟩
  · rcases List.mem_cons.1 hy with rfl | hy
    · exact As.keep0 h.off hs
    exact h.all y hy
  · have := h.old y hy hm k hk (hs.2.1 k D)
    cases this
  rcases List.mem_cons.1 hy with rfl | hy
  · cases hm
  exact h.old y hy hm k hk G
end SH
theorem J2v {w W : World} {b : Nat} {cs : Array Value} (h : Rd w b cs) (hs : w.heap.size ≤ W.heap.size) (e : W.heap[b]? = w.heap[b]?) : Rd W b cs :=
  ⟨fun j v hv => (World.cell?_of_block (w := w) e).trans (h.1 j v hv), Nat.lt_of_lt_of_le h.2 hs⟩
section
variable {ops : Array Oper} {k : Wk} {Q : Exit → Act → World → Prop} {F : List Nat} {w : World} {H : List As} {l : List Oper} {o : Oper} {a : Act}
end
end
end Go.Proofs.YtejkmhgkkibafaaGreatDoor

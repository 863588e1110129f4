/- The steps of a walk that keeps one list of what lies where (XMa). No conditions. -/
import Derived.Test.YtejkmhgkkibafaaGreatDoorMa
set_option linter.unusedSimpArgs false
set_option linter.unusedVariables false
namespace Go.Proofs.YtejkmhgkkibafaaGreatDoor
open Go.RowKit
/-- a walk in the text's order, or one of operations that turn nothing old -/
inductive Wk where
  | L : (Exit → Act → World → Prop) → Wk
  | X : (Act → World → Prop) → Wk
def wpM (P : Program) (ops : Array Oper) (k : Wk) (F : List Nat) (w : World) (H : List As) (l : List Oper) (a : Act) : Prop :=
  ∀ W, SH F w W H → match k with
    | .L Q => wpList P ops Q l a W
    | .X E => wpX P ops W (fun a' => ∀ W', Ext W W' → E a' W') l a
theorem setl {l l' : List Value} {i : Nat} {v : Value} (h : l.set i v = l') : l.toArray.setIfInBounds i v = l'.toArray := by subst h; exact mA l i v
theorem sB (a b : As) (l : List As) : (a :: l).set 0 b = b :: l := rfl
theorem sC (a b : As) (l : List As) (n : Nat) : (a :: l).set (n + 1) b = a :: l.set n b := rfl
theorem eB (a : As) (l : List As) : (a :: l).eraseIdx 0 = l := rfl
theorem eC (a : As) (l : List As) (n : Nat) : (a :: l).eraseIdx (n + 1) = a :: l.eraseIdx n := rfl
section
variable {P : Program} {ops : Array Oper} {k : Wk} {Q : Exit → Act → World → Prop} {E : Act → World → Prop} {F : List Nat} {w : World} {H H' : List As} {l : List Oper} {o : Oper} {a a' : Act}
theorem wpM.val {v : Value} (hw : Region.wanted o (yielded ops a.tmps) = true) (hv : ∀ W, SH F w W H → (execOp a.eval o).run P W = .ok (.value v) W) (h : wpM P ops k F w H l (a.put o.dst v)) : wpM P ops k F w H (o :: l) a := by
  intro W hS
  cases k with
  | L Q => exact wpL_val hw (hv W hS) (h W hS)
  | X E => exact wpX_val hw (fun W' hW => hv W' (hS.grow hW)) (h W hS)
theorem MV {v : Value} (h : wpM P ops k F w H l a') (hw : Region.wanted o (yielded ops a.tmps) = true := by exact rfl) (hv : ∀ W, (execOp a.eval o).run P W = .ok (.value v) W := by intro W; (go_simp; first | done | with_reducible rfl)) (hp : a.put o.dst v = a' := by first | exact pl (by dsimp only [mB, mC]; first | done | exact rfl) | exact pn | exact rfl) : wpM P ops k F w H (o :: l) a := by
  subst hp; exact wpM.val hw (fun W _ => hv W) h
theorem MW {v : Value} (h : wpM P ops k F w H l a') (hw : Region.wanted o (yielded ops a.tmps) = true := by exact rfl) (hv : ∀ W, (execOp a.eval o).run P W = .ok (.value v) W := by intro W; first | rfl | (go_simp; done) | (go_simp; with_reducible rfl) | (go_simp; omega)) (hp : a.put o.dst v = a' := by first | exact pl (by dsimp only [mB, mC]; first | done | exact rfl) | exact pn | exact rfl) : wpM P ops k F w H (o :: l) a := by
  subst hp; exact wpM.val hw (fun W _ => hv W) h
/-- a value by what is known of the world -/
theorem MF {v : Value} (hv : ∀ W, SH F w W H → (execOp a.eval o).run P W = .ok (.value v) W) (h : wpM P ops k F w H l a') (hw : Region.wanted o (yielded ops a.tmps) = true := by exact rfl) (hp : a.put o.dst v = a' := by first | exact pl (by dsimp only [mB, mC]; first | done | exact rfl) | exact pn | exact rfl) : wpM P ops k F w H (o :: l) a := by
  subst hp; exact wpM.val hw hv h
/-- a load of a cell of thing i -/
theorem MG (i : Nat) {b j : Nat} {cs : Array Value} {t ty : TypeId} {v : Value} {x : Operand} (h : wpM P ops k F w H l a') (hi : H[i]? = some (.b b cs t) := by exact rfl) (hw : Region.wanted o (yielded ops a.tmps) = true := by exact rfl) (ho : o.op = .load ty x := by exact rfl) (hx : a.eval x = .pointer (some ⟨b, j, none⟩) := by exact rfl) (hj : cs[j]? = some v := by exact rfl)
    (hk : (P.underlying ty).map TypeDesc.isRow = some false := by as_aux_lemma => kernel_rfl) (hp : a.put o.dst v = a' := by first | exact pl (by dsimp only [mB, mC]; first | done | exact rfl) | exact pn | exact rfl) : wpM P ops k F w H (o :: l) a := by
  subst hp; exact wpM.val hw (fun W hS => run_at ho hx (by rw [blk_cell (hS.blk hi)]; exact hj) hk) h
/-- a load of all of thing i -/
theorem ML (i : Nat) {b : Nat} {cs : Array Value} {t ty : TypeId} {x : Operand} (h : wpM P ops k F w H l a') (hi : H[i]? = some (.b b cs t) := by exact rfl) (hw : Region.wanted o (yielded ops a.tmps) = true := by exact rfl) (ho : o.op = .load ty x := by exact rfl) (hx : a.eval x = .pointer (some ⟨b, 0, none⟩) := by exact rfl)
    (hk : (P.underlying ty).map TypeDesc.isRow = some true := by as_aux_lemma => kernel_rfl) (hs : (P.info? ty).map (·.size) = some cs.size := by first | kernel_rfl | (rw [arrK_size]; kernel_rfl)) (hp : a.put o.dst (.agg cs) = a' := by first | exact pl (by dsimp only [mB, mC]; first | done | exact rfl) | exact pn | exact rfl) : wpM P ops k F w H (o :: l) a := by
  subst hp; exact wpM.val hw (fun W hS => run_row0 ho hx (hS.blk hi) hk hs) h
/-- a load of a part of thing i -/
theorem Ml (i : Nat) {b j : Nat} {cs sub : Array Value} {t ty : TypeId} {x : Operand} (hs : ∀ i v, sub[i]? = some v → cs[j + i]? = some v) (h : wpM P ops k F w H l a') (hi : H[i]? = some (.b b cs t) := by exact rfl) (hw : Region.wanted o (yielded ops a.tmps) = true := by exact rfl) (ho : o.op = .load ty x := by exact rfl) (hx : a.eval x = .pointer (some ⟨b, j, none⟩) := by exact rfl)
    (hk : (P.underlying ty).map TypeDesc.isRow = some true := by as_aux_lemma => kernel_rfl) (hz : (P.info? ty).map (·.size) = some sub.size := by first | kernel_rfl | (rw [arrK_size]; kernel_rfl)) (hp : a.put o.dst (.agg sub) = a' := by first | exact pl (by dsimp only [mB, mC]; first | done | exact rfl) | exact pn | exact rfl) : wpM P ops k F w H (o :: l) a := by
  subst hp
  refine wpM.val hw (fun W hS => ?_) h
  exact run_atrow (vs := sub.toList) ho hx (fun i v hv => by rw [blk_cell (hS.blk hi)]; exact hs i v (by simpa using hv)) hk (by simpa using hz)
/-- a call that turns nothing old -/
theorem MC {f : FuncId} {xl : List Operand} {ts : Array TypeId} {args : Array Value} {v : Value} (hc : ∀ W, SH F w W H → Calls P f args W fun e W' => Ret v W W' e) (h : wpM P ops k F w H l a') (hw : Region.wanted o (yielded ops a.tmps) = true := by exact rfl)
    (ho : o.op = .call { callee := .value (.func f), args := xl.toArray, argTypes := ts } := by with_reducible rfl) (hg : isGo P f = true := by as_aux_lemma => kernel_rfl) (ha : (xl.map a.eval).toArray = args := by exact rfl) (hp : a.put o.dst v = a' := by first | exact pl (by dsimp only [mB, mC]; first | done | exact rfl) | exact pn | exact rfl) : wpM P ops k F w H (o :: l) a := by
  subst hp
  intro W hS
  cases k with
  | L Q => exact wpL_ret (hc W hS) hw ho hg ha fun W' hO => h W' (hS.next hO)
  | X E => exact wpX_fn (fun W' hW => hc W' (hS.grow hW)) hw ho hg ha (h W hS)
/-- a call that turns some of it: X tells, by the value, what is known behind it -/
theorem ME {α : Type} {f : FuncId} {xl : List Operand} {ts : Array TypeId} {args : Array Value} {V : α → Value} {X : α → List As} {a' : α → Act} (hc : ∀ W, SH F w W H → Calls P f args W fun e W' => ∃ v, e = .returned (V v) ∧ SH F w W' (X v)) (h : ∀ v, wpM P ops (.L Q) F w (X v) l (a' v)) (hw : Region.wanted o (yielded ops a.tmps) = true := by exact rfl)
    (ho : o.op = .call { callee := .value (.func f), args := xl.toArray, argTypes := ts } := by with_reducible rfl) (hg : isGo P f = true := by as_aux_lemma => kernel_rfl) (ha : (xl.map a.eval).toArray = args := by exact rfl) (hp : ∀ v, a.put o.dst (V v) = a' v := by intro v; first | exact pl (by dsimp only [mB, mC]; first | done | exact rfl) | exact pn | exact rfl) : wpM P ops (.L Q) F w H (o :: l) a := by
  intro W hS
  refine wpL_call (R := fun v W' => ∃ x, v = V x ∧ SH F w W' (X x)) ((hc W hS).mono fun e W' ⟨x, h1, h2⟩ => ⟨V x, h1, x, rfl, h2⟩) hw ho hg ha fun v W' ⟨x, e, hX⟩ => ?_
  subst e
  rw [hp x]; exact h x W' hX
/-- a new block -/
theorem MN {z : Array Value} {t : TypeId} {a' : Nat → Act} (h : ∀ b, wpM P ops (.L Q) F w (.b b z t :: H) l (a' b)) (ht : H.all (SH.tyOk (.b 0 z t)) = true := by exact rfl) (hw : Region.wanted o (yielded ops a.tmps) = true := by exact rfl)
    (hr : ∀ w, (execOp a.eval o).run P w = .ok (.value (.pointer (some ⟨w.heap.size, 0, none⟩))) (w.alloc (.cells z t)) := by intro w; first | kernel_rfl | (go_simp; done) | (go_simp; rfl))
    (hp : ∀ b, a.put o.dst (.pointer (some ⟨b, 0, none⟩)) = a' b := by intro b; first | exact pl (by dsimp only [mB, mC]; first | done | exact rfl) | exact pn | exact rfl) : wpM P ops (.L Q) F w H (o :: l) a := by
  intro W hS
  refine wpL_new hw (hr W) fun b W' hn hO hB => ?_
  rw [hp b]
  exact h b W' (hS.new (x := .b b z t) hO hB (fun k hk => by rw [List.mem_singleton.1 hk]; exact hn) rfl ht)
/-- a slice built in a new block -/
theorem MB {z : Array Value} {t : TypeId} {n c : Nat} {a' : Nat → Act} (h : ∀ b, wpM P ops (.L Q) F w (.b b z t :: H) l (a' b)) (ht : H.all (SH.tyOk (.b 0 z t)) = true := by exact rfl) (hw : Region.wanted o (yielded ops a.tmps) = true := by exact rfl)
    (hr : ∀ W, SH F w W H → (execOp a.eval o).run P W = .ok (.value (.slice (some ⟨W.heap.size, 0, none⟩) n c)) (W.alloc (.cells z t)) := by intro w _; first | kernel_rfl | (go_simp; done) | (go_simp; rfl))
    (hp : ∀ b, a.put o.dst (.slice (some ⟨b, 0, none⟩) n c) = a' b := by intro b; first | exact pl (by dsimp only [mB, mC]; first | done | exact rfl) | exact pn | exact rfl) : wpM P ops (.L Q) F w H (o :: l) a := by
  intro W hS
  refine wpL_newS hw (hr W hS) fun b W' hn hO hB => ?_
  rw [hp b]
  exact h b W' (hS.new (x := .b b z t) hO hB (fun k hk => by rw [List.mem_singleton.1 hk]; exact hn) rfl ht)
/-- bytes in a new row: []byte{..} -/
theorem MO {z : Array Value} {m : List UInt8} {n : Nat} {a' : Value → Act} (h : ∀ v, wpM P ops (.L Q) F w (.o v m :: H) l (a' v)) (hz : z.toList = bs8 m := by exact rfl) (hn : m.length = n := by exact rfl) (hm : n ≤ maxLen := by decide) (ht : H.all (SH.tyOk (.o undef [])) = true := by exact rfl) (hw : Region.wanted o (yielded ops a.tmps) = true := by exact rfl)
    (hr : ∀ w, (execOp a.eval o).run P w = .ok (.value (.slice (some ⟨w.heap.size, 0, none⟩) n n)) (w.alloc (.cells z 5)) := by intro w; first | kernel_rfl | (go_simp; done) | (go_simp; rfl))
    (hp : ∀ v, a.put o.dst v = a' v := by intro b; first | exact pl (by dsimp only [mB, mC]; first | done | exact rfl) | exact pn | exact rfl) : wpM P ops (.L Q) F w H (o :: l) a := by
  subst hn
  intro W hS
  refine wpL_newS hw (hr W) fun b W' hn hO hB => ?_
  rw [hp]
  refine h _ W' (hS.new (x := .o (.slice (some ⟨b, 0, none⟩) m.length m.length) m) hO (own_blk hB hz hm) (fun k hk => by rw [show k = b from List.mem_singleton.1 hk]; exact hn) rfl ht)
/-- a store of one cell in thing i -/
theorem MP (i : Nat) {b off : Nat} {cs cs' : Array Value} {t ty : TypeId} {v : Value} {x y : Operand} (h : wpM P ops (.L Q) F w H' l a') (hi : H[i]? = some (.b b cs t) := by exact rfl) (hv : ∀ W, SH F w W H → v.cells = #[v] ∧ v.oneCell' = true := by exact fun _ _ => ⟨rfl, rfl⟩) (hw : Region.wanted o (yielded ops a.tmps) = true := by exact rfl) (ho : o.op = .store ty x y := by exact rfl)
    (hx : a.eval x = .pointer (some ⟨b, off, none⟩) := by exact rfl) (hy : a.eval y = v := by exact rfl) (hs : off < cs.size := by first | decide | simp) (hz : (P.info? ty).map (·.size) = some 1 := by kernel_rfl) (hc : cs.setIfInBounds off v = cs' := by first | exact setl (by dsimp only [mB, mC]; first | done | exact rfl) | exact rfl)
    (hH : H.set i (.b b cs' t) = H' := by dsimp only [sB, sC]; first | done | exact rfl) (hp : a.put o.dst undef = a' := by first | exact pl (by dsimp only [mB, mC]; first | done | exact rfl) | exact pn | exact rfl) : wpM P ops (.L Q) F w H (o :: l) a := by
  subst hp hc hH
  intro W hS
  exact wpL_put1 (hv W hS) hw ho hx hy (hS.blk hi) hs hz fun W' hO hB => h W' (hS.setb hi hO hB)
/-- a store of a row in all of thing i -/
theorem MR (i : Nat) {g : Nat} {cells old : Array Value} {t ty : TypeId} {x y : Operand} (h : wpM P ops (.L Q) F w H' l a') (hi : H[i]? = some (.b g old t) := by exact rfl) (hw : Region.wanted o (yielded ops a.tmps) = true := by exact rfl) (ho : o.op = .store ty x y := by exact rfl)
    (hx : a.eval x = .pointer (some ⟨g, 0, none⟩) := by exact rfl) (hy : a.eval y = .agg cells := by exact rfl) (hz : (P.info? ty).map (·.size) = some cells.size := by first | kernel_rfl | (rw [arrK_size]; kernel_rfl)) (hs : old.size = cells.size := by first | kernel_rfl | rw [arrK_size, arrK_size] | rw [arrK_size]) (h1 : cells.all (·.oneCell') = true := by first | kernel_rfl | exact arrK_one _ _ _)
    (hH : H.set i (.b g cells t) = H' := by dsimp only [sB, sC]; first | done | exact rfl) (hp : a.put o.dst undef = a' := by first | exact pl (by dsimp only [mB, mC]; first | done | exact rfl) | exact pn | exact rfl) : wpM P ops (.L Q) F w H (o :: l) a := by
  subst hp hH
  intro W hS
  exact wpL_putrow hw ho hx hy (hS.blk hi) hz hs h1 fun W' hO hB => h W' (hS.setb hi hO hB)
/-- a store in a part of thing i -/
theorem Mr (i : Nat) {g off : Nat} {cells old new : Array Value} {t ty : TypeId} {x y : Operand} (hc : spl old off cells.toList = new) (h : wpM P ops (.L Q) F w H' l a') (hi : H[i]? = some (.b g old t) := by exact rfl) (hw : Region.wanted o (yielded ops a.tmps) = true := by exact rfl) (ho : o.op = .store ty x y := by exact rfl)
    (hx : a.eval x = .pointer (some ⟨g, off, none⟩) := by exact rfl) (hy : a.eval y = .agg cells := by exact rfl) (hz : (P.info? ty).map (·.size) = some cells.size := by first | kernel_rfl | (rw [arrK_size]; kernel_rfl)) (hs : off + cells.size ≤ old.size := by first | decide | (rw [arrK_size]; decide)) (h1 : cells.all (·.oneCell') = true := by first | kernel_rfl | exact arrK_one _ _ _)
    (hH : H.set i (.b g new t) = H' := by dsimp only [sB, sC]; first | done | exact rfl) (hp : a.put o.dst undef = a' := by first | exact pl (by dsimp only [mB, mC]; first | done | exact rfl) | exact pn | exact rfl) : wpM P ops (.L Q) F w H (o :: l) a := by
  subst hp hc hH
  intro W hS
  exact wpL_put (v := .agg cells) hw ho hx hy (hS.blk hi) hs hz h1 fun W' hO hB => h W' (hS.setb hi hO hB)
/-- what is known is turned: some is left out, some is added -/
theorem MT (hs : ∀ W, SH F w W H → SH F w W H') (h : wpM P ops k F w H' l a) : wpM P ops k F w H l a := by
  intro W hS; exact h W (hs W hS)
theorem MD (i : Nat) (h : wpM P ops k F w H' l a) (hH : H.eraseIdx i = H' := by dsimp only [eB, eC]; first | done | exact rfl) : wpM P ops k F w H l a := by
  subst hH; exact MT (fun W hS => hS.drop i) h
/-- at the end -/
theorem MZ (h : ∀ W, SH F w W H → Q .normal a W) : wpM P ops (.L Q) F w H [] a := fun W hS => wpL_nil (h W hS)
theorem MZn (h : ∀ W, SH F w W H → Q .normal a W) : wpM P ops (.L (NoPanic Q)) F w H [] a := fun W hS => wpL_nil (NoPanic.normal (h W hS))
theorem MZx (h : ∀ W, SH F w W H → E a W) : wpM P ops (.X E) F w H [] a := fun _ hS => wpX_nil fun W' hW => h W' (hS.grow hW)
/-- the tail of a region, behind the operations of one value -/
theorem MZt {Q : Exit → Act → World → Prop} {l2 : List Oper} (h : wpM P ops (.L Q) F w H l2 a) : wpM P ops (.X (fun a1 W => wpList P ops Q l2 a1 W)) F w H [] a := fun _ hS => wpX_nil fun W' hW => h W' (hS.grow hW)
/-- a region whose order is fixed -/
theorem RL {id : Nat} {W : World} (hS : SH F w W H) (h : wpM P l.toArray (.L Q) F w H l a') (hp : a = a' := by (try simp only [Act.put, mA, mB, mC]); exact rfl) : (Code.region id l.toArray false).wp P Q a W := by
  subst hp; exact wp_region_lit (h W hS)
/-- a region whose order is open: m operations of one value, the others are forced -/
theorem RX {id : Nat} {W : World} {l1 l2 : List Oper} (m : Nat) (hS : SH F w W H) (h : wpM P l.toArray (.X (fun a1 W => wpList P l.toArray (NoPanic Q) l2 a1 W)) F w H l1 a') (hm : P.follows .mixedOrders = true := by as_aux_lemma => kernel_rfl)
    (hB : (Region.noSelect l.toArray && lexX .any l.toArray m m 0 (Array.replicate l.length false) && decide (m ≤ l.length) &&
      (Region.ready .any l.toArray (markFrom m 0 (Array.replicate l.length false))).all (fun j => decide (m ≤ j)) &&
      Region.seqB .any l.toArray (l.length - m) m (markFrom m 0 (Array.replicate l.length false))) = true := by as_aux_lemma => kernel_rfl) (h1 : l.take m = l1 := by (try simp only [List.append, List.take_succ_cons, List.take_zero, List.take_nil]); exact rfl) (h2 : l.drop m = l2 := by (try simp only [List.append, List.drop_succ_cons, List.drop_zero, List.drop_nil]); exact rfl)
    (hp : a = a' := by (try simp only [Act.put, mA, mB, mC]); exact rfl) : (Code.region id l.toArray true).wp P Q a W := by
  subst hp h1 h2; exact wp_region_xt m hm hB (h W hS)
/-- a region whose order is open, of operations of one value alone -/
theorem RS {id : Nat} {W : World} (hS : SH F w W H) (h : wpM P l.toArray (.X (fun a1 W => Q .normal a1 W)) F w H l a') (hm : P.follows .mixedOrders = true := by as_aux_lemma => kernel_rfl)
    (hB : (Region.noSelect l.toArray && lexX .any l.toArray l.length l.length 0 (Array.replicate l.length false) && decide (Region.ready .any l.toArray (markFrom l.length 0 (Array.replicate l.length false)) = [])) = true := by as_aux_lemma => kernel_rfl)
    (hp : a = a' := by (try simp only [Act.put, mA, mB, mC]); exact rfl) : (Code.region id l.toArray true).wp P Q a W := by
  subst hp; exact wp_region_xs hm hB (h W hS)
/-! ### By a plan -/
/-- the plan t from here on; G is known, whatever of the plan has been done -/
def wpP (P : Program) (ops : Array Oper) (K : Act → World → Prop) (F : List Nat) (w : World) (G H : List As) (t : Tr) (a : Act) : Prop :=
  (∀ W, SH F w W H → SH F w W G) ∧ ∀ W, SH F w W H → wpTr P ops K t (fun W => SH F w W G) a W
section
variable {K : Act → World → Prop} {t u : Tr} {G G' : List As} {i : Nat}
theorem RT {id : Nat} {W : World} {ops : Array Oper} (t : Tr) (hS : SH F w W H) (h : wpP P ops (Q .normal) F w G H t a') (hm : P.follows .mixedOrders = true := by as_aux_lemma => kernel_rfl)
    (hB : (Region.noSelect ops && decide (t.len ≤ ops.size) && t.ok .any ops (Array.replicate ops.size false)) = true := by as_aux_lemma => kernel_rfl)
    (hp : a = a' := by (try simp only [Act.put, mA, mB, mC]); exact rfl) : (Code.region id ops true).wp P Q a W := by
  subst hp
  exact wp_region_tr t (fun W => SH F w W G) hm hB fun W' hO => ⟨h.1 W' (hS.next hO), h.2 W' (hS.next hO)⟩
theorem RTh {id : Nat} {W : World} {ops : Array Oper} (t : Tr) (hS : SH F w W H) (h : wpP P ops (Q .normal) F w H H t a') (hm : P.follows .mixedOrders = true := by as_aux_lemma => kernel_rfl)
    (hB : (Region.noSelect ops && decide (t.len ≤ ops.size) && t.ok .any ops (Array.replicate ops.size false)) = true := by as_aux_lemma => kernel_rfl)
    (hp : a = a' := by (try simp only [Act.put, mA, mB, mC]); exact rfl) : (Code.region id ops true).wp P Q a W := RT t hS h hm hB hp
theorem RTp (I : List Nat) {id : Nat} {W : World} {ops : Array Oper} (t : Tr) (hS : SH F w W H) (h : wpP P ops (Q .normal) F w G H t a') (hG : pk H I = G := by dsimp only [pk, List.getElem?_cons_zero, List.getElem?_cons_succ]; first | done | exact rfl) (hm : P.follows .mixedOrders = true := by as_aux_lemma => kernel_rfl)
    (hB : (Region.noSelect ops && decide (t.len ≤ ops.size) && t.ok .any ops (Array.replicate ops.size false)) = true := by as_aux_lemma => kernel_rfl)
    (hp : a = a' := by (try simp only [Act.put, mA, mB, mC]); exact rfl) : (Code.region id ops true).wp P Q a W := RT t hS h hm hB hp
theorem wpP.val {v : Value} (ho : ops.toList[i]? = some o) (hw : Region.wanted o (yielded ops a.tmps) = true) (hv : ∀ W, SH F w W G → (execOp a.eval o).run P W = .ok (.value v) W) (h : wpP P ops K F w G H t (a.put o.dst v)) : wpP P ops K F w G H (.q i t) a :=
  ⟨h.1, fun W hS => wpT_q ho hw hv (h.2 W hS)⟩
theorem TS (h : wpP P ops K F w G H t a') (ho : ops.toList[i]? = some o := by exact rfl) (hw : Region.wanted o (yielded ops a.tmps) = false := by exact rfl) (hp : a.put o.dst undef = a' := by first | exact pl (by dsimp only [mB, mC]; first | done | exact rfl) | exact pn | exact rfl) : wpP P ops K F w G H (.q i t) a := by
  subst hp; exact ⟨h.1, fun W hS => wpT_skip ho hw (h.2 W hS)⟩
theorem TV {v : Value} (h : wpP P ops K F w G H t a') (ho : ops.toList[i]? = some o := by exact rfl) (hw : Region.wanted o (yielded ops a.tmps) = true := by exact rfl) (hv : ∀ W, (execOp a.eval o).run P W = .ok (.value v) W := by intro W; (go_simp; first | done | with_reducible rfl)) (hp : a.put o.dst v = a' := by first | exact pl (by dsimp only [mB, mC]; first | done | exact rfl) | exact pn | exact rfl) : wpP P ops K F w G H (.q i t) a := by
  subst hp; exact wpP.val ho hw (fun W _ => hv W) h
theorem TW {v : Value} (h : wpP P ops K F w G H t a') (ho : ops.toList[i]? = some o := by exact rfl) (hw : Region.wanted o (yielded ops a.tmps) = true := by exact rfl) (hv : ∀ W, (execOp a.eval o).run P W = .ok (.value v) W := by intro W; first | rfl | (go_simp; done) | (go_simp; with_reducible rfl) | (go_simp; omega)) (hp : a.put o.dst v = a' := by first | exact pl (by dsimp only [mB, mC]; first | done | exact rfl) | exact pn | exact rfl) : wpP P ops K F w G H (.q i t) a := by
  subst hp; exact wpP.val ho hw (fun W _ => hv W) h
theorem TF {v : Value} (ho : ops.toList[i]? = some o) (hv : ∀ W, SH F w W G → (execOp a.eval o).run P W = .ok (.value v) W) (h : wpP P ops K F w G H t a') (hw : Region.wanted o (yielded ops a.tmps) = true := by exact rfl) (hp : a.put o.dst v = a' := by first | exact pl (by dsimp only [mB, mC]; first | done | exact rfl) | exact pn | exact rfl) : wpP P ops K F w G H (.q i t) a := by
  subst hp; exact wpP.val ho hw hv h
theorem TG (n : Nat) {b j : Nat} {cs : Array Value} {tt ty : TypeId} {v : Value} {x : Operand} (h : wpP P ops K F w G H t a') (hi : G[n]? = some (.b b cs tt) := by exact rfl) (hoo : ops.toList[i]? = some o := by exact rfl) (hw : Region.wanted o (yielded ops a.tmps) = true := by exact rfl) (ho : o.op = .load ty x := by exact rfl) (hx : a.eval x = .pointer (some ⟨b, j, none⟩) := by exact rfl) (hj : cs[j]? = some v := by exact rfl)
    (hk : (P.underlying ty).map TypeDesc.isRow = some false := by as_aux_lemma => kernel_rfl) (hp : a.put o.dst v = a' := by first | exact pl (by dsimp only [mB, mC]; first | done | exact rfl) | exact pn | exact rfl) : wpP P ops K F w G H (.q i t) a := by
  subst hp; exact wpP.val hoo hw (fun W hS => run_at ho hx (by rw [blk_cell (hS.blk hi)]; exact hj) hk) h
theorem TL (n : Nat) {b : Nat} {cs : Array Value} {tt ty : TypeId} {x : Operand} (h : wpP P ops K F w G H t a') (hi : G[n]? = some (.b b cs tt) := by exact rfl) (hoo : ops.toList[i]? = some o := by exact rfl) (hw : Region.wanted o (yielded ops a.tmps) = true := by exact rfl) (ho : o.op = .load ty x := by exact rfl) (hx : a.eval x = .pointer (some ⟨b, 0, none⟩) := by exact rfl)
    (hk : (P.underlying ty).map TypeDesc.isRow = some true := by as_aux_lemma => kernel_rfl) (hs : (P.info? ty).map (·.size) = some cs.size := by first | kernel_rfl | (rw [arrK_size]; kernel_rfl)) (hp : a.put o.dst (.agg cs) = a' := by first | exact pl (by dsimp only [mB, mC]; first | done | exact rfl) | exact pn | exact rfl) : wpP P ops K F w G H (.q i t) a := by
  subst hp; exact wpP.val hoo hw (fun W hS => run_row0 ho hx (hS.blk hi) hk hs) h
theorem Tl (n : Nat) {b j : Nat} {cs sub : Array Value} {tt ty : TypeId} {x : Operand} (hs : ∀ i v, sub[i]? = some v → cs[j + i]? = some v) (h : wpP P ops K F w G H t a') (hi : G[n]? = some (.b b cs tt) := by exact rfl) (hoo : ops.toList[i]? = some o := by exact rfl) (hw : Region.wanted o (yielded ops a.tmps) = true := by exact rfl) (ho : o.op = .load ty x := by exact rfl) (hx : a.eval x = .pointer (some ⟨b, j, none⟩) := by exact rfl)
    (hk : (P.underlying ty).map TypeDesc.isRow = some true := by as_aux_lemma => kernel_rfl) (hz : (P.info? ty).map (·.size) = some sub.size := by first | kernel_rfl | (rw [arrK_size]; kernel_rfl)) (hp : a.put o.dst (.agg sub) = a' := by first | exact pl (by dsimp only [mB, mC]; first | done | exact rfl) | exact pn | exact rfl) : wpP P ops K F w G H (.q i t) a := by
  subst hp
  exact wpP.val hoo hw (fun W hS => run_atrow (vs := sub.toList) ho hx (fun i v hv => by rw [blk_cell (hS.blk hi)]; exact hs i v (by simpa using hv)) hk (by simpa using hz)) h
theorem TZ (hG : ∀ W, SH F w W H → SH F w W G) (h : ∀ W, SH F w W H → K a W) : wpP P ops K F w G H .z a := ⟨hG, fun W hS => h W hS⟩
/-- what lies behind an effect -/
abbrev Nx (P : Program) (ops : Array Oper) (K : Act → World → Prop) (F : List Nat) (w : World) (G : List As) (t : Tr) : Exit → Act → World → Prop :=
  Nml fun a' w' => ∃ S' : World → Prop, (∀ W, S' W → SH F w W G) ∧ S' w' ∧ wpTr P ops K t S' a' w'
/-- one operation that does something -/
theorem TE (hG : ∀ W, SH F w W H → SH F w W G) (h : wpM P ops (.L (Nx P ops K F w G t)) F w H [o] a) (ho : ops.toList[i]? = some o := by exact rfl) : wpP P ops K F w G H (.e i t) a :=
  ⟨hG, fun W hS => wpT_e ho (h W hS)⟩
theorem TB {j : Nat} {o2 : Oper} (hG : ∀ W, SH F w W H → SH F w W G) (h : wpM P ops (.L (Nx P ops K F w G t)) F w H [o] a) (h2 : wpM P ops (.L (Nx P ops K F w G u)) F w H [o2] a) (ho : ops.toList[i]? = some o := by exact rfl) (ho2 : ops.toList[j]? = some o2 := by exact rfl) : wpP P ops K F w G H (.b i t j u) a :=
  ⟨hG, fun W hS => wpT_b ho ho2 (h W hS) (h2 W hS)⟩
theorem TC {x : Tr} {j n : Nat} {o2 o3 : Oper} (hG : ∀ W, SH F w W H → SH F w W G) (h : wpM P ops (.L (Nx P ops K F w G t)) F w H [o] a) (h2 : wpM P ops (.L (Nx P ops K F w G u)) F w H [o2] a) (h3 : wpM P ops (.L (Nx P ops K F w G x)) F w H [o3] a) (ho : ops.toList[i]? = some o := by exact rfl) (ho2 : ops.toList[j]? = some o2 := by exact rfl) (ho3 : ops.toList[n]? = some o3 := by exact rfl) : wpP P ops K F w G H (.c i t j u n x) a :=
  ⟨hG, fun W hS => wpT_c ho ho2 ho3 (h W hS) (h2 W hS) (h3 W hS)⟩
/-- the operation is done; G' is known from here on -/
theorem TN (G' : List As) (hg : ∀ W, SH F w W G' → SH F w W G) (h : wpP P ops K F w G' H t a) : wpM P ops (.L (Nx P ops K F w G t)) F w H [] a :=
  fun W hS => wpT_n (S := fun W => SH F w W G) (fun W => SH F w W G') hg (h.1 W hS) (h.2 W hS)
theorem TNp (I J : List Nat) (h : wpP P ops K F w G' H t a) (hG : pk H I = G' := by dsimp only [pk, List.getElem?_cons_zero, List.getElem?_cons_succ]; first | done | exact rfl) (hg : pk G' J = G := by dsimp only [pk, List.getElem?_cons_zero, List.getElem?_cons_succ]; first | done | exact rfl) (hn : J.Nodup := by decide) : wpM P ops (.L (Nx P ops K F w G t)) F w H [] a := TN G' (fun _ hS => hS.pick J hg hn) h
theorem TNh (hg : ∀ W, SH F w W H → SH F w W G) (h : wpP P ops K F w H H t a) : wpM P ops (.L (Nx P ops K F w G t)) F w H [] a := TN H hg h
end
end
/-! ### Calls that turn some of it, by what they turn -/
section
variable {P : Program} {f : FuncId} {args : Array Value} {F : List Nat} {w W : World} {H L R : List As}
theorem callX {α : Type} (I J : List Nat) {V : α → Value} {L' H' : α → List As} (hS : SH F w W H) (hc : SH (SH.feet L) W W L → Calls P f args W fun e W' => ∃ x, e = .returned (V x) ∧ SH (SH.feet L) W W' (L' x)) (ok : ∀ x, SH.okL L R (L' x)) (hI : pk H I = L := by exact rfl) (hJ : pk H J = R := by exact rfl) (hn : (I ++ J).Nodup := by decide) (hH : ∀ x, L' x ++ R = H' x := by exact fun _ => rfl) : Calls P f args W fun e W' => ∃ x, e = .returned (V x) ∧ SH F w W' (H' x) := by
  subst hI hJ
  have h : SH F w W (pk H I ++ pk H J) := hS.pick (I ++ J) (by
    exact pk_app H I J) hn
  exact (hc h.here).mono fun e W' ⟨x, h1, h2⟩ => ⟨x, h1, by rw [← hH x]; exact h.frame h2 (ok x)⟩
end
end Go.Proofs.YtejkmhgkkibafaaGreatDoor

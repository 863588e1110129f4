/- Rows of elements that are only read; a row behind a row. No conditions. Rows that are read, as a thing in the list. No conditions. Words of 32 bits as the model reckons with them; arrays by a place that varies. No conditions. sha2.turn, small, big: a word of 32 bits turned to the right, mixed. No conditions. -/
import Derived.Test.YtndnlbinnhdmbaaDoorMc
import Derived.Test.YtndnlbinnhdmbaaDoorGc
import Derived.Laws.BitsLemmas
set_option linter.unusedSimpArgs false
set_option linter.unusedVariables false
namespace Go.Proofs.YtndnlbinnhdmbaaDoor
open Go.RowKit
theorem run_ixRA {P : Program} {a : Act} {o : Oper} {x y : Operand} {tS t : TypeId} {k g oo : Nat} {W : World} {kk : IntKind} {A : Option Addr} {n c j : Nat} (hA : A = some ⟨g, oo, none⟩) (hj : j < n) (ho : o.op = .indexAddr tS x y) (hx : a.eval x = .slice A n c) (hy : a.eval y = .int kk (j : Int)) (ht : P.underlying tS = some (.slice t)) (hi : (P.info? t).map (·.size) = some k) :
    (execOp a.eval o).run P W = .ok (.value (.pointer (some ⟨g, oo + j * k, none⟩))) W := by
  subst hA; rw [run_ixR hj ho hx hy ht hi, Addr.add_mid]
/-- The value v is read as a row of the elements es (their cells). -/
def RR (k : Nat) (w : World) (v : Value) (es : List (List Value)) : Prop :=
  ∃ A c, v = .slice A es.length c ∧ es.length ≤ c ∧ (A = none → c = 0) ∧ ∀ (j : Nat) (e : List Value), es[j]? = some e → ∃ g o, A = some ⟨g, o, none⟩ ∧ ∀ (i : Nat) (x : Value), e[i]? = some x → w.cell? ⟨g, o + j * k + i, none⟩ = some x
theorem RR.ext {k : Nat} {w W : World} {v : Value} {es : List (List Value)} (h : RR k w v es) (q : Ext w W) : RR k W v es := by
  obtain ⟨A, c, h1, h2, h0, h3⟩ := h
  refine ⟨A, c, h1, h2, h0, fun j e hj => ?_⟩
  obtain ⟨g, o, h4, h5⟩ := h3 j e hj
  exact ⟨g, o, h4, fun i x hx => cell_ext (h5 i x hx) q⟩
theorem RR.cellat {k n c j g o : Nat} {w : World} {A : Option Addr} {es : List (List Value)} {e : List Value} (h : RR k w (.slice A n c) es) (hj : es[j]? = some e) (hA : A = some ⟨g, o, none⟩) : ∀ (i : Nat) (x : Value), e[i]? = some x → w.cell? ⟨g, o + j * k + i, none⟩ = some x := by
  obtain ⟨A', c', h1, _, _, h3⟩ := h
  injection h1 with h1
  obtain ⟨g', o', h4, h5⟩ := h3 j e hj
  rw [← h1, hA] at h4
  injection h4 with h4
  injection h4 with h6 h7
  subst h6; subst h7
  exact h5
theorem rr_nil (k : Nat) (w : World) : RR k w (.slice none 0 0) [] := ⟨none, 0, rfl, Nat.le_refl _, fun _ => rfl, fun j e h => by simp at h⟩
theorem Row.rr {t : TypeId} {k : Nat} {w : World} {v : Value} {es : List (List Value)} (h : Row t k w v es) : RR k w v es := by
  have h0 : ∃ A c, v = .slice A es.length c ∧ es.length ≤ c ∧ (A = none → c = 0) := by
    rcases h.1.2 with ⟨rfl, hn⟩ | ⟨g, cap, cur, rfl, _, hh, hc, _⟩
    · exact ⟨none, 0, by rw [hn], by omega, fun _ => rfl⟩
    · exact ⟨_, _, rfl, hc, fun e => by cases e⟩
  obtain ⟨A, c, h1, h2, h3⟩ := h0
  refine ⟨A, c, h1, h2, h3, fun j e hj => ?_⟩
  obtain ⟨g, c', h3, h4⟩ := h.at hj
  rw [h1] at h3
  injection h3 with h3
  exact ⟨g, 0, h3, fun i x hx => by rw [Nat.zero_add]; exact h4 i x hx⟩
theorem flt_at {k : Nat} : ∀ {fs : List (List Value)} {j : Nat} {u : Value}, (∀ e ∈ fs, e.length = k) → fs.flatten[j]? = some u → ∃ q e r, fs[q]? = some e ∧ e[r]? = some u ∧ j = q * k + r
  | [], j, u, _, h => by simp at h
  | f :: fs, j, u, hk, h => by
    have hf := hk f (by simp)
    rw [List.flatten_cons] at h
    rcases Nat.lt_or_ge j f.length with hj | hj
    · rw [List.getElem?_append_left hj] at h
      exact ⟨0, f, j, rfl, h, by omega⟩
    · rw [List.getElem?_append_right hj] at h
      obtain ⟨q, e, r, h1, h2, h3⟩ := flt_at (fun e he => hk e (by simp [he])) h
      exact ⟨q + 1, e, r, h1, h2, by rw [Nat.add_mul, Nat.one_mul]; omega⟩
theorem flt_len {k : Nat} : ∀ {fs : List (List Value)}, (∀ e ∈ fs, e.length = k) → fs.flatten.length = fs.length * k
  | [], _ => by simp
  | f :: fs, h => by rw [List.flatten_cons, List.length_append, h f (by simp), flt_len fun e he => h e (by simp [he]), List.length_cons, Nat.add_mul, Nat.one_mul, Nat.add_comm]
/-- x[:m] of a row that is read -/
theorem rr_head {P : Program} {tS t : TypeId} {k m : Nat} {w : World} {v : Value} {es : List (List Value)} (h : RR k w v es) (hm : m ≤ es.length) (ht : P.underlying tS = some (.slice t)) (hi : (P.info? t).map (·.size) = some k) :
    ∃ u, (∀ W, (Instr.sliceAt tS v none (some (.int .i64 (m : Int))) none).run P W = .ok u W) ∧ ∀ W, RR k W v es → RR k W u (es.take m) := by
  obtain ⟨A, c, rfl, h1, h0, _⟩ := h
  have hr : ∀ W, (Instr.sliceAt tS (.slice A es.length c) none (some (.int .i64 (m : Int))) none).run P W = .ok (.slice (if c = 0 then A else A.map (·.add 0)) m c) W := by
    intro W
    have hnc : m ≤ c := by omega
    cases hq : P.info? t with
    | none => simp [hq] at hi
    | some i => simp [Instr.sliceAt, Instr.slice, Instr.sliceBounds, Instr.sliceBound, asIntOf, run_underlying ht, Sem.run_bind, sizeOf, typeInfo, hq, hnc]
  have hA : (if c = 0 then A else A.map (·.add 0)) = A := by
    have : ∀ a : Addr, a.add 0 = a := fun a => by unfold Addr.add; simp
    cases A <;> simp [this]
  rw [hA] at hr
  refine ⟨_, hr, fun W hW => ?_⟩
  obtain ⟨A', c', he, _, _, h3⟩ := hW
  injection he with e1 _ e2
  subst e1 e2
  have hl : (es.take m).length = m := by rw [List.length_take]; omega
  refine ⟨A, c, by rw [hl], by omega, h0, fun j e hj => h3 j e ?_⟩
  rw [List.getElem?_take] at hj
  split at hj
  · exact hj
  · cases hj
theorem run_strneB {W : World} {o : Oper} {a : Act} {x y : Operand} {t : TypeId} {l m : List UInt8} {b : Bool} (hb : decide (l = m) = b) (ho : o.op = .binOp .neq 9 x y t) (hx : a.eval x = str l) (hy : a.eval y = str m) : (execOp a.eval o).run Tryd.prog W = .ok (.value (.bool (!b))) W := hb ▸ run_strne ho hx hy
theorem run_headV {P : Program} {a : Act} {o : Oper} {x y : Operand} {tS : TypeId} {v k u : Value} {W : World} (hr : ∀ W, (Instr.sliceAt tS v none (some k) none).run P W = .ok u W) (ho : o.op = .slice tS x none (some y) none) (hx : a.eval x = v) (hy : a.eval y = k) : (execOp a.eval o).run P W = .ok (.value u) W := by
  simp [execOp, ho, hx, hy, hr W, Sem.run_bind]
section
variable {ops : Array Oper} {Q : Exit → Act → World → Prop} {F : List Nat} {w : World} {H : List As} {l : List Oper} {o : Oper} {a : Act}
theorem wpL_appendR {P : Program} {s x : Operand} {v u : Value} {es fs : List (List Value)} {t tS : TypeId} {k bytes : Nat} (hw : Region.wanted o (yielded ops a.tmps) = true) (ho : o.op = .call { callee := .builtin .append, args := #[s, x], argTypes := #[tS, tS] }) (hs : a.eval s = v) (hx : a.eval x = u)
    (hown : Row t k w v es) (hR : RR k w u fs) (hk : ∀ e ∈ fs, e.length = k ∧ ∀ x ∈ e, x.oneCell' = true) (hk0 : 0 < k) (ht : P.underlying tS = some (.slice t)) (hi : (P.info? t).map (fun i => (i.zero.map (·.cells.size), i.size, i.bytes)) = some (some k, k, bytes))
    (hlen : (es.length + fs.length) * bytes ≤ 140737488355328) (hl2 : es.length + fs.length ≤ maxLen)
    (h : ∀ v' W, Row t k W v' (es ++ fs) → Off v.ownBlock.toList w W → Of v'.ownBlock v.ownBlock w.heap.size → wpList P ops Q l (a.put o.dst v') W) : wpList P ops Q (o :: l) a w := by
  obtain ⟨i, z, hi, hz, hsz, hby, hzs⟩ := info_cells hi
  have hkl : ∀ e ∈ fs, e.length = k := fun e he => (hk e he).1
  obtain ⟨A, c, rfl, h1, h0, h3⟩ := hR
  have hrow : ∀ e ∈ es ++ fs, e.length = k := fun e he => by
    rcases List.mem_append.1 he with he | he
    · exact hown.2 e he
    · exact hkl e he
  cases A with
  | none =>
    have hc := h0 rfl
    have hf : fs = [] := List.eq_nil_of_length_eq_zero (by omega)
    subst hf; subst hc
    have hrun := run_append_owned_none (P := P) w 0 tS o.type t i k ht hi v es.length es.flatten hown.1
    refine wpL_run hw (v := v) (W := w) ?_ (h v w (by rw [List.append_nil]; exact hown) (Off.refl _ _) (of_or (.inl rfl)))
    unfold execOp
    simp only [ho, resolve, invoke, builtin, Sem.run_bind, Sem.run_pure, Result.andThen_ok, List.map_toArray, List.map_cons, List.map_nil, hs, hx]
    simp only [List.length_nil, hrun, Result.andThen_ok]
  | some ad =>
    obtain ⟨v', W, hrun, h2, h3', h4, h5⟩ := run_append_own_at (P := P) w 0 tS o.type t i z k bytes ht hi hz hsz hby hzs hk0 v es.length es.flatten hown.1 ad fs.length c fs.flatten (flt_len hkl)
      (fun j u hu => by
        obtain ⟨q, e, r, q1, q2, rfl⟩ := flt_at hkl hu
        obtain ⟨g, oo, hA, hc⟩ := h3 q e q1
        obtain rfl := Option.some.inj hA
        rw [Addr.add_mid, ← Nat.add_assoc]; exact hc r u q2)
      (fun u hu => by obtain ⟨e, he, hu⟩ := List.mem_flatten.1 hu; exact (hk e he).2 u hu) hl2 hlen (Nat.zero_le _)
    refine wpL_run hw (v := v') (W := W) ?_ (h v' W ⟨?_, hrow⟩ (off_grown h3') (of_or h5))
    · unfold execOp
      simp only [ho, resolve, invoke, builtin, Sem.run_bind, Sem.run_pure, Result.andThen_ok, List.map_toArray, List.map_cons, List.map_nil, hs, hx, hrun]
    · rw [List.length_append, List.flatten_append]; exact h2
/-- append of a row that is read to row i -/
theorem MAR (i : Nat) {s x : Operand} {v u : Value} {es fs : List (List Value)} {t tS : TypeId} {n bytes : Nat} {H' : Value → List As} {a' : Value → Act} (hR : ∀ W, SH F w W H → RR n W u fs) (hk : ∀ e ∈ fs, e.length = n ∧ ∀ x ∈ e, x.oneCell' = true) (hlen : es.length + fs.length ≤ 1099511627776) (h : ∀ v', wpM Tryd.prog ops (.L Q) F w (H' v') l (a' v')) (hi : H[i]? = some (.r t n v es) := by exact rfl)
    (hk0 : 0 < n := by decide) (ht : Tryd.prog.underlying tS = some (.slice t) := by as_aux_lemma => kernel_rfl) (hb : (Tryd.prog.info? t).map (fun i => (i.zero.map (·.cells.size), i.size, i.bytes)) = some (some n, n, bytes) := by as_aux_lemma => kernel_rfl) (hbb : bytes ≤ 128 := by decide)
    (hw : Region.wanted o (yielded ops a.tmps) = true := by exact rfl) (ho : o.op = .call { callee := .builtin .append, args := #[s, x], argTypes := #[tS, tS] } := by exact rfl) (hs : a.eval s = v := by exact rfl) (hx : a.eval x = u := by exact rfl)
    (hH : ∀ v', H.set i (.r t n v' (es ++ fs)) = H' v' := by intro v'; dsimp only [sB, sC]; first | done | exact rfl) (hp : ∀ v, a.put o.dst v = a' v := by intro b; first | exact pl (by dsimp only [mB, mC]; first | done | exact rfl) | exact pn | exact rfl) : wpM Tryd.prog ops (.L Q) F w H (o :: l) a := by
  intro W hS
  refine wpL_appendR hw ho hs hx (hS.row hi) (hR W hS) hk hk0 ht hb (Nat.le_trans (Nat.mul_le_mul hlen hbb) (by decide)) (by unfold maxLen; omega) fun v' W' h1 h2 h3 => ?_
  rw [hp]
  exact h v' W' (by rw [← hH]; exact hS.setr hi h2 h1 h3)
/-- a row of the call's own, as a block that was built -/
theorem SH.b2r {t : TypeId} {k b n : Nat} {cs : Array Value} {es : List (List Value)} {W : World} (h : SH F w W (.b b cs t :: H)) (hc : cs.toList = es.flatten) (hl : ∀ e ∈ es, e.length = k) (hn : es.length = n) (hm : n ≤ maxLen) : SH F w W (.r t k (.slice (some ⟨b, 0, none⟩) n n) es :: H) := by
  subst hn
  exact h.set (i := 0) (x := .b b cs t) rfl rfl (Off.refl [] W) (fun k hk => by cases hk) (row_blk (h.blk (i := 0) rfl) hc hl hm) (fun k hk _ => hk) (.inr rfl) (fun _ _ e => by cases e)
end
end Go.Proofs.YtndnlbinnhdmbaaDoor

set_option linter.unusedSimpArgs false
set_option linter.unusedVariables false
namespace Go.Proofs.YtndnlbinnhdmbaaDoor
open Go.RowKit
/-- the block that a row that is read looks at -/
def fbR (v : Value) (es : List (List Value)) : List Nat := match v, es with
  | .slice (some a) _ _, _ :: _ => [a.block]
  | _, _ => []
theorem RR.keep {k : Nat} {w W : World} {v : Value} {es : List (List Value)} (h : RR k w v es) (e : ∀ b ∈ fbR v es, W.heap[b]? = w.heap[b]?) : RR k W v es := by
  obtain ⟨A, c, rfl, h2, h0, h3⟩ := h
  refine ⟨A, c, rfl, h2, h0, fun j x hj => ?_⟩
  obtain ⟨g, o, h4, h5⟩ := h3 j x hj
  refine ⟨g, o, h4, fun i y hy => ?_⟩
  subst h4
  have hb : W.heap[g]? = w.heap[g]? := by
    refine e g ?_
    cases es with
    | nil => simp at hj
    | cons f fs => exact List.mem_singleton.2 rfl
  rw [← h5 i y hy]
  unfold World.cell?
  rw [hb]
end Go.Proofs.YtndnlbinnhdmbaaDoor

set_option linter.unusedSimpArgs false
set_option linter.unusedVariables false
namespace Go.Proofs.YtndnlbinnhdmbaaDoor
open Go.RowKit

def xo4 (p q : Int) : Int := bits .xor .u32 p q
def an4 (p q : Int) : Int := bits .and .u32 p q
def oo4 (p q : Int) : Int := bits .or .u32 p q
def nt4 (p : Int) : Int := bits .xor .u32 4294967295 p
def ad4 (p q : Int) : Int := IntKind.wrap .u32 (p + q)
def sl4 (p : Int) (n : Nat) : Int := IntKind.wrap .u32 (p * 2 ^ n)
def sr4 (p : Int) (n : Nat) : Int := p / 2 ^ n
/-- turned to the right -/
def rt4 (p : Int) (n : Nat) : Int := oo4 (sr4 p n) (sl4 p (32 - n))
theorem oo_comm4 (p q : Int) : oo4 p q = oo4 q p := by unfold oo4; simp only [bits, BitVec.or_comm]
section
variable {P : Program} {w : World} {o : Oper} {a : Act} {x y : Operand} {t t' : TypeId} {p q : Int}
theorem run_xor4 (ho : o.op = .binOp .xor t x y t') (hx : a.eval x = .int .u32 p) (hy : a.eval y = .int .u32 q) : (execOp a.eval o).run P w = .ok (.value (.int .u32 (xo4 p q))) w := by
  simp only [execOp, ho, hx, hy]; rfl
theorem run_and4 (ho : o.op = .binOp .and t x y t') (hx : a.eval x = .int .u32 p) (hy : a.eval y = .int .u32 q) : (execOp a.eval o).run P w = .ok (.value (.int .u32 (an4 p q))) w := by
  simp only [execOp, ho, hx, hy]; rfl
theorem run_or4 (ho : o.op = .binOp .or t x y t') (hx : a.eval x = .int .u32 p) (hy : a.eval y = .int .u32 q) : (execOp a.eval o).run P w = .ok (.value (.int .u32 (oo4 p q))) w := by
  simp only [execOp, ho, hx, hy]; rfl
theorem run_add4 (ho : o.op = .binOp .add t x y t') (hx : a.eval x = .int .u32 p) (hy : a.eval y = .int .u32 q) : (execOp a.eval o).run P w = .ok (.value (.int .u32 (ad4 p q))) w := by
  simp only [execOp, ho, hx, hy]; rfl
theorem run_not4 (ho : o.op = .unOp .xor t x) (hx : a.eval x = .int .u32 p) : (execOp a.eval o).run P w = .ok (.value (.int .u32 (nt4 p))) w := by
  simp only [execOp, ho, hx]; rfl
theorem run_shl4 {k : IntKind} {n : Nat} (hn : n ≤ 32) (ho : o.op = .binOp .shl t x y t') (hx : a.eval x = .int .u32 p) (hy : a.eval y = .int k (n : Int)) : (execOp a.eval o).run P w = .ok (.value (.int .u32 (sl4 p n))) w := by
  have h : min ((n : Int)).toNat IntKind.u32.bits = n := by rw [Int.toNat_natCast]; exact Nat.min_eq_left hn
  simp only [execOp, ho, hx, hy, eqGuard, binOp, Sem.run_bind]
  simp [Op.shift, h, sl4, go_sem, Sem.run_bind]
theorem run_shr4 {k : IntKind} {n : Nat} (hn : n ≤ 32) (ho : o.op = .binOp .shr t x y t') (hx : a.eval x = .int .u32 p) (hy : a.eval y = .int k (n : Int)) : (execOp a.eval o).run P w = .ok (.value (.int .u32 (sr4 p n))) w := by
  have h : min ((n : Int)).toNat IntKind.u32.bits = n := by rw [Int.toNat_natCast]; exact Nat.min_eq_left hn
  simp only [execOp, ho, hx, hy, eqGuard, binOp, Sem.run_bind]
  simp [Op.shift, h, sr4, go_sem, Sem.run_bind]
end
end Go.Proofs.YtndnlbinnhdmbaaDoor

set_option linter.unusedSimpArgs false
set_option linter.unusedVariables false
namespace Go.Proofs.YtndnlbinnhdmbaaDoor
set_option maxHeartbeats 1500000
set_option maxRecDepth 100000
open Go.RowKit
attribute [local irreducible] wpList

theorem and31 (n : Nat) (h1 : 1 ≤ n) (h2 : n ≤ 31) : bits .and .u64 (18446744073709551616 - (n : Int)) 31 = ((32 - n : Nat) : Int) := by
  obtain ⟨m, hm⟩ : ∃ m : Nat, m = 18446744073709551616 - n := ⟨_, rfl⟩
  have e : (18446744073709551616 - (n : Int)) = (m : Int) := by omega
  have h63 : (BitVec.ofInt 64 31).toNat = 2 ^ 5 - 1 := by decide
  have key : (BitVec.ofInt 64 (m : Int) &&& BitVec.ofInt 64 31).toNat = m % 2 ^ 5 := by
    rw [BitVec.toNat_and, BitVec.toNat_ofInt, h63, Nat.and_two_pow_sub_one_eq_mod]
    omega
  rw [e]
  show IntKind.u64.wrap ((BitVec.ofInt 64 (m : Int) &&& BitVec.ofInt 64 31).toNat : Nat) = _
  rw [key, IntKind.wrap_u64]
  omega
def small4 (p : Int) (a b c : Nat) : Int := xo4 (xo4 (rt4 p a) (rt4 p b)) (sr4 p c)
def big4 (p : Int) (a b c : Nat) : Int := xo4 (xo4 (rt4 p a) (rt4 p b)) (rt4 p c)

theorem rotl4_c (p : Int) (n : Nat) (h1 : 1 ≤ n) (h2 : n ≤ 31) (w : World) :
  Calls Tryd.prog 96 #[.int .u32 p, .int .i64 (-(n : Int))] w fun e w' => Ret (.int .u32 (rt4 p n)) w w' e := by
 have n0 : (1 : Int) ≤ (n : Int) := by omega
 have n1 : (n : Int) ≤ 31 := by omega
 have ha := and31 n h1 h2
 have off0 : Off [] w w := Off.refl _ _
 go_enter Tryd.func96, Tryd.ntmps96
 go_upto_region 1 with fail
 refine wp_region_lit ?_
 refine Lv ?_
 refine Lw ?_ (v := .int .u64 (18446744073709551616 - (n : Int))) (hv := by go_simp; (try simp only [IntKind.wrap_u64, IntKind.wrap_i64]); (try omega))
 refine Lw ?_ (v := .int .u64 (((32 - n : Nat) : Int))) (hv := by first | (go_simp; done) | (go_simp; (try rw [ha]); (try omega)))
 refine Lv ?_
 refine wpL_nil ?_
 go_upto_region 2 with fail
 refine wp_region_lit ?_
 refine Lv ?_
 refine Lv ?_
 refine Lw ?_ (v := .int .u32 (sl4 p (32 - n))) (hv := run_shl4 (n := (32 - n)) (by omega) rfl rfl rfl)
 refine Lv ?_
 refine Lv ?_
 refine Lw ?_ (v := .int .u64 ((n : Int))) (hv := by go_simp; (try simp only [IntKind.wrap_u64, IntKind.wrap_i64]); (try omega))
 refine Lw ?_ (v := .int .u32 (sr4 p n)) (hv := run_shr4 (n := n) (by omega) rfl rfl rfl)
 refine Lw ?_ (v := .int .u32 (oo4 (sl4 p (32 - n)) (sr4 p n))) (hv := run_or4 rfl rfl rfl)
 refine Lv ?_
 refine wpL_nil ?_
 go_wp2
 exact bodyPost_ret (v := .int .u32 (oo4 (sl4 p (32 - n)) (sr4 p n))) (by simp only [results, Tryd.results96]; go_simp) rfl ⟨congrArg (fun z => Ending.returned (.int .u32 z)) (oo_comm4 _ _), off0.ext⟩
theorem turn4_c (p : Int) (n : Nat) (h1 : 1 ≤ n) (h2 : n ≤ 31) (w : World) :
  Calls Tryd.prog 95 #[.int .u32 p, .int .i64 (n : Int)] w fun e w' => Ret (.int .u32 (rt4 p n)) w w' e := by
 have n0 : (1 : Int) ≤ (n : Int) := by omega
 have n1 : (n : Int) ≤ 31 := by omega
 have off0 : Off [] w w := Off.refl _ _
 go_enter Tryd.func95, Tryd.ntmps95
 go_upto_region 1 with fail
 refine wp_region_lit ?_
 refine Lv ?_
 refine Lv ?_
 refine Lw ?_ (v := .int .i64 (-(n : Int))) (hv := by go_simp; (try simp only [IntKind.wrap_u64, IntKind.wrap_i64]); (try omega))
 refine Lr ?_ (rotl4_c p n h1 h2 w)
 intro W1 hO
 replace off0 := off0.o hO
 clear hO
 refine Lv ?_
 refine wpL_nil ?_
 go_wp2
 exact bodyPost_ret (v := .int .u32 (rt4 p n)) (by simp only [results, Tryd.results95]; go_simp) rfl ⟨rfl, off0.ext⟩
theorem big4_c (p : Int) (a b c : Nat) (ha : 1 ≤ a ∧ a ≤ 31) (hb : 1 ≤ b ∧ b ≤ 31) (hc : 1 ≤ c ∧ c ≤ 31) (w : World) :
  Calls Tryd.prog 92 #[.int .u32 p, .int .i64 (a : Int), .int .i64 (b : Int), .int .i64 (c : Int)] w fun e w' => Ret (.int .u32 (big4 p a b c)) w w' e := by
 have off0 : Off [] w w := Off.refl _ _
 go_enter Tryd.func92, Tryd.ntmps92
 go_upto_region 1 with fail
 refine wp_region_lit ?_
 refine Lv ?_
 refine Lv ?_
 refine Lr ?_ (turn4_c p a (by omega) (by omega) w)
 intro W1 hO
 replace off0 := off0.o hO
 clear hO
 refine Lv ?_
 refine Lv ?_
 refine Lr ?_ (turn4_c p b (by omega) (by omega) W1)
 intro W2 hO
 replace off0 := off0.o hO
 clear hO
 refine Lw ?_ (v := .int .u32 (xo4 (rt4 p a) (rt4 p b))) (hv := run_xor4 rfl rfl rfl)
 refine Lv ?_
 refine Lv ?_
 refine Lr ?_ (turn4_c p c (by omega) (by omega) W2)
 intro W3 hO
 replace off0 := off0.o hO
 clear hO
 refine Lw ?_ (v := .int .u32 (xo4 (xo4 (rt4 p a) (rt4 p b)) (rt4 p c))) (hv := run_xor4 rfl rfl rfl)
 refine Lv ?_
 refine wpL_nil ?_
 go_wp2
 exact bodyPost_ret (v := .int .u32 (xo4 (xo4 (rt4 p a) (rt4 p b)) (rt4 p c))) (by simp only [results, Tryd.results92]; go_simp) rfl ⟨rfl, off0.ext⟩
theorem small4_c (p : Int) (a b c : Nat) (ha : 1 ≤ a ∧ a ≤ 31) (hb : 1 ≤ b ∧ b ≤ 31) (hc : 1 ≤ c ∧ c ≤ 31) (w : World) :
  Calls Tryd.prog 94 #[.int .u32 p, .int .i64 (a : Int), .int .i64 (b : Int), .int .i64 (c : Int)] w fun e w' => Ret (.int .u32 (small4 p a b c)) w w' e := by
 have off0 : Off [] w w := Off.refl _ _
 go_enter Tryd.func94, Tryd.ntmps94
 go_upto_region 1 with fail
 refine Rx 12 ?_
 refine Xv ?_
 refine Xv ?_
 refine Xf ?_ (fun W hW => turn4_c p a (by omega) (by omega) W)
 refine Xv ?_
 refine Xv ?_
 refine Xf ?_ (fun W hW => turn4_c p b (by omega) (by omega) W)
 refine Xw ?_ (v := .int .u32 (xo4 (rt4 p a) (rt4 p b))) (hv := fun _ _ => run_xor4 rfl rfl rfl)
 refine Xv ?_
 refine Xv ?_
 refine Xw ?_ (v := .int .u32 (sr4 p c)) (hv := fun _ _ => run_shr4 (n := c) (by omega) rfl rfl rfl)
 refine Xw ?_ (v := .int .u32 (xo4 (xo4 (rt4 p a) (rt4 p b)) (sr4 p c))) (hv := fun _ _ => run_xor4 rfl rfl rfl)
 refine Xv ?_
 refine wpX_nil fun W1 hE => ?_
 have hO := off_ext hE
 replace off0 := off0.o hO
 clear hO hE
 refine LN ?_
 go_wp2
 exact bodyPost_ret (v := .int .u32 (xo4 (xo4 (rt4 p a) (rt4 p b)) (sr4 p c))) (by simp only [results, Tryd.results94]; go_simp) rfl ⟨rfl, off0.ext⟩
end Go.Proofs.YtndnlbinnhdmbaaDoor

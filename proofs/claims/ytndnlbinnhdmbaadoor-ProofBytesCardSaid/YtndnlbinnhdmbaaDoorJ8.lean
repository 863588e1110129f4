/- Rows that are read, as a thing in the list. No conditions. Words of 32 bits as the model reckons with them; arrays by a place that varies. No conditions. sha2.turn, small, big: a word of 32 bits turned to the right, mixed. No conditions. -/
import Derived.Test.YtndnlbinnhdmbaaDoorJ7
import Derived.Test.YtndnlbinnhdmbaaDoorGc
import Derived.Laws.BitsLemmas
set_option linter.unusedSimpArgs false
set_option linter.unusedVariables false
namespace Go.Proofs.YtndnlbinnhdmbaaDoor
open Go.RowKit
/-- the block that a row that is read looks at -/
def fbR (v : Value) (es : List (List Value)) : List Nat := match v, es with
  | .slice (some a) _ _, _ :: _ => [a.block]
  | _, _ => []
theorem RR.keep {k : Nat} {w W : World} {v : Value} {es : List (List Value)} (h : RR k w v es) (e : ∀ b ∈ fbR v es, W.heap[b]? = w.heap[b]?) : RR k W v es := by
  obtain ⟨A, c, rfl, h2, h0, h3⟩ := h
  refine ⟨A, c, rfl, h2, h0, fun j x hj => ?_⟩
  obtain ⟨g, o, h4, h5⟩ := h3 j x hj
  refine ⟨g, o, h4, fun i y hy => ?_⟩
  subst h4
  have hb : W.heap[g]? = w.heap[g]? := by
    refine e g ?_
    cases es with
    | nil => simp at hj
    | cons f fs => exact List.mem_singleton.2 rfl
  rw [← h5 i y hy]
  unfold World.cell?
  rw [hb]
theorem RR.pholds {k : Nat} {w : World} {v : Value} {es : List (List Value)} (hk : 0 < k) (hes : ∀ e ∈ es, e.length = k) (h : RR k w v es) : (As.p (fbR v es) (fun W => RR k W v es)).holds w := by
  refine ⟨h, fun b hb => ?_, fun W _ e => h.keep e⟩
  obtain ⟨A, c, rfl, h2, h0, h3⟩ := h
  cases A with
  | none => cases es <;> cases hb
  | some a =>
    cases es with
    | nil => cases hb
    | cons f fs =>
      obtain ⟨g, o, h4, h5⟩ := h3 0 f rfl
      have hf := hes f (by simp)
      have h6 := h5 0 f[0] (List.getElem?_eq_getElem (by omega))
      rw [List.mem_singleton.1 hb, Option.some.inj h4]
      have h7 := World.block_lt_of_cell? w _ h6
      exact h7
theorem fbR_own {t : TypeId} {k : Nat} {w : World} {v : Value} {es : List (List Value)} (h : Row t k w v es) : ∀ b ∈ fbR v es, b ∈ v.ownBlock.toList := fun b hb => by
  rcases h.1.2 with ⟨rfl, _⟩ | ⟨g, cap, cur, rfl, _⟩
  · cases es <;> cases hb
  · cases es with
    | nil => cases hb
    | cons f fs => exact hb
/-- a row of the call's own is only read from here on -/
theorem SH.r2p {F : List Nat} {w W : World} {H : List As} {t : TypeId} {k i : Nat} {v : Value} {es : List (List Value)} (h : SH F w W H) (hi : H[i]? = some (.r t k v es)) (hk : 0 < k) : SH F w W (H.set i (.p (fbR v es) (fun W => RR k W v es))) :=
  h.set hi rfl (Off.refl [] W) (fun _ hk => by cases hk) ((h.row hi).rr.pholds hk (h.row hi).2) (fun b hb _ => fbR_own (h.row hi) b hb) (.inl rfl) (fun _ _ e => by cases e)
end Go.Proofs.YtndnlbinnhdmbaaDoor

set_option linter.unusedSimpArgs false
set_option linter.unusedVariables false
namespace Go.Proofs.YtndnlbinnhdmbaaDoor
open Go.RowKit

def xo4 (p q : Int) : Int := bits .xor .u32 p q
def an4 (p q : Int) : Int := bits .and .u32 p q
def oo4 (p q : Int) : Int := bits .or .u32 p q
def nt4 (p : Int) : Int := bits .xor .u32 4294967295 p
def ad4 (p q : Int) : Int := IntKind.wrap .u32 (p + q)
def sl4 (p : Int) (n : Nat) : Int := IntKind.wrap .u32 (p * 2 ^ n)
def sr4 (p : Int) (n : Nat) : Int := p / 2 ^ n
/-- turned to the right -/
def rt4 (p : Int) (n : Nat) : Int := oo4 (sr4 p n) (sl4 p (32 - n))
theorem oo_comm4 (p q : Int) : oo4 p q = oo4 q p := by unfold oo4; simp only [bits, BitVec.or_comm]
section
variable {P : Program} {w : World} {o : Oper} {a : Act} {x y : Operand} {t t' : TypeId} {p q : Int}
theorem run_xor4 (ho : o.op = .binOp .xor t x y t') (hx : a.eval x = .int .u32 p) (hy : a.eval y = .int .u32 q) : (execOp a.eval o).run P w = .ok (.value (.int .u32 (xo4 p q))) w := by
  simp only [execOp, ho, hx, hy]; rfl
theorem run_and4 (ho : o.op = .binOp .and t x y t') (hx : a.eval x = .int .u32 p) (hy : a.eval y = .int .u32 q) : (execOp a.eval o).run P w = .ok (.value (.int .u32 (an4 p q))) w := by
  simp only [execOp, ho, hx, hy]; rfl
theorem run_or4 (ho : o.op = .binOp .or t x y t') (hx : a.eval x = .int .u32 p) (hy : a.eval y = .int .u32 q) : (execOp a.eval o).run P w = .ok (.value (.int .u32 (oo4 p q))) w := by
  simp only [execOp, ho, hx, hy]; rfl
theorem run_add4 (ho : o.op = .binOp .add t x y t') (hx : a.eval x = .int .u32 p) (hy : a.eval y = .int .u32 q) : (execOp a.eval o).run P w = .ok (.value (.int .u32 (ad4 p q))) w := by
  simp only [execOp, ho, hx, hy]; rfl
theorem run_not4 (ho : o.op = .unOp .xor t x) (hx : a.eval x = .int .u32 p) : (execOp a.eval o).run P w = .ok (.value (.int .u32 (nt4 p))) w := by
  simp only [execOp, ho, hx]; rfl
theorem run_shl4 {k : IntKind} {n : Nat} (hn : n ≤ 32) (ho : o.op = .binOp .shl t x y t') (hx : a.eval x = .int .u32 p) (hy : a.eval y = .int k (n : Int)) : (execOp a.eval o).run P w = .ok (.value (.int .u32 (sl4 p n))) w := by
  have h : min ((n : Int)).toNat IntKind.u32.bits = n := by rw [Int.toNat_natCast]; exact Nat.min_eq_left hn
  simp only [execOp, ho, hx, hy, eqGuard, binOp, Sem.run_bind]
  simp [Op.shift, h, sl4, go_sem, Sem.run_bind]
theorem run_shr4 {k : IntKind} {n : Nat} (hn : n ≤ 32) (ho : o.op = .binOp .shr t x y t') (hx : a.eval x = .int .u32 p) (hy : a.eval y = .int k (n : Int)) : (execOp a.eval o).run P w = .ok (.value (.int .u32 (sr4 p n))) w := by
  have h : min ((n : Int)).toNat IntKind.u32.bits = n := by rw [Int.toNat_natCast]; exact Nat.min_eq_left hn
  simp only [execOp, ho, hx, hy, eqGuard, binOp, Sem.run_bind]
  simp [Op.shift, h, sr4, go_sem, Sem.run_bind]
end
end Go.Proofs.YtndnlbinnhdmbaaDoor

set_option linter.unusedSimpArgs false
set_option linter.unusedVariables false
namespace Go.Proofs.YtndnlbinnhdmbaaDoor
set_option maxHeartbeats 1500000
set_option maxRecDepth 100000
open Go.RowKit
attribute [local irreducible] wpList

theorem and31 (n : Nat) (h1 : 1 ≤ n) (h2 : n ≤ 31) : bits .and .u64 (18446744073709551616 - (n : Int)) 31 = ((32 - n : Nat) : Int) := by
  obtain ⟨m, hm⟩ : ∃ m : Nat, m = 18446744073709551616 - n := ⟨_, rfl⟩
  have e : (18446744073709551616 - (n : Int)) = (m : Int) := by omega
  have h63 : (BitVec.ofInt 64 31).toNat = 2 ^ 5 - 1 := by decide
  have key : (BitVec.ofInt 64 (m : Int) &&& BitVec.ofInt 64 31).toNat = m % 2 ^ 5 := by
    rw [BitVec.toNat_and, BitVec.toNat_ofInt, h63, Nat.and_two_pow_sub_one_eq_mod]
    omega
  rw [e]
  show IntKind.u64.wrap ((BitVec.ofInt 64 (m : Int) &&& BitVec.ofInt 64 31).toNat : Nat) = _
  rw [key, IntKind.wrap_u64]
  omega
def small4 (p : Int) (a b c : Nat) : Int := xo4 (xo4 (rt4 p a) (rt4 p b)) (sr4 p c)
def big4 (p : Int) (a b c : Nat) : Int := xo4 (xo4 (rt4 p a) (rt4 p b)) (rt4 p c)

theorem rotl4_c (p : Int) (n : Nat) (h1 : 1 ≤ n) (h2 : n ≤ 31) (w : World) :
  Calls Tryd.prog 96 #[.int .u32 p, .int .i64 (-(n : Int))] w fun e w' => Ret (.int .u32 (rt4 p n)) w w' e := by
 have n0 : (1 : Int) ≤ (n : Int) := by omega
 have n1 : (n : Int) ≤ 31 := by omega
 have ha := and31 n h1 h2
 have off0 : Off [] w w := Off.refl _ _
 go_enter Tryd.func96, Tryd.ntmps96
 go_upto_region 1 with fail
 refine wp_region_lit ?_
 refine Lv ?_
 refine Lw ?_ (v := .int .u64 (18446744073709551616 - (n : Int))) (hv := by go_simp; (try simp only [IntKind.wrap_u64, IntKind.wrap_i64]); (try omega))
 refine Lw ?_ (v := .int .u64 (((32 - n : Nat) : Int))) (hv := by first | (go_simp; done) | (go_simp; (try rw [ha]); (try omega)))
 refine Lv ?_
 refine wpL_nil ?_
 go_upto_region 2 with fail
 refine wp_region_lit ?_
 refine Lv ?_
 refine Lv ?_
 refine Lw ?_ (v := .int .u32 (sl4 p (32 - n))) (hv := run_shl4 (n := (32 - n)) (by omega) rfl rfl rfl)
 refine Lv ?_
 refine Lv ?_
 refine Lw ?_ (v := .int .u64 ((n : Int))) (hv := by go_simp; (try simp only [IntKind.wrap_u64, IntKind.wrap_i64]); (try omega))
 refine Lw ?_ (v := .int .u32 (sr4 p n)) (hv := run_shr4 (n := n) (by omega) rfl rfl rfl)
 refine Lw ?_ (v := .int .u32 (oo4 (sl4 p (32 - n)) (sr4 p n))) (hv := run_or4 rfl rfl rfl)
 refine Lv ?_
 refine wpL_nil ?_
 go_wp2
 exact bodyPost_ret (v := .int .u32 (oo4 (sl4 p (32 - n)) (sr4 p n))) (by simp only [results, Tryd.results96]; go_simp) rfl ⟨congrArg (fun z => Ending.returned (.int .u32 z)) (oo_comm4 _ _), off0.ext⟩
theorem turn4_c (p : Int) (n : Nat) (h1 : 1 ≤ n) (h2 : n ≤ 31) (w : World) :
  Calls Tryd.prog 95 #[.int .u32 p, .int .i64 (n : Int)] w fun e w' => Ret (.int .u32 (rt4 p n)) w w' e := by
 have n0 : (1 : Int) ≤ (n : Int) := by omega
 have n1 : (n : Int) ≤ 31 := by omega
 have off0 : Off [] w w := Off.refl _ _
 go_enter Tryd.func95, Tryd.ntmps95
 go_upto_region 1 with fail
 refine wp_region_lit ?_
 refine Lv ?_
 refine Lv ?_
 refine Lw ?_ (v := .int .i64 (-(n : Int))) (hv := by go_simp; (try simp only [IntKind.wrap_u64, IntKind.wrap_i64]); (try omega))
 refine Lr ?_ (rotl4_c p n h1 h2 w)
 intro W1 hO
 replace off0 := off0.o hO
 clear hO
 refine Lv ?_
 refine wpL_nil ?_
 go_wp2
 exact bodyPost_ret (v := .int .u32 (rt4 p n)) (by simp only [results, Tryd.results95]; go_simp) rfl ⟨rfl, off0.ext⟩
theorem big4_c (p : Int) (a b c : Nat) (ha : 1 ≤ a ∧ a ≤ 31) (hb : 1 ≤ b ∧ b ≤ 31) (hc : 1 ≤ c ∧ c ≤ 31) (w : World) :
  Calls Tryd.prog 92 #[.int .u32 p, .int .i64 (a : Int), .int .i64 (b : Int), .int .i64 (c : Int)] w fun e w' => Ret (.int .u32 (big4 p a b c)) w w' e := by
 have off0 : Off [] w w := Off.refl _ _
 go_enter Tryd.func92, Tryd.ntmps92
 go_upto_region 1 with fail
 refine wp_region_lit ?_
 refine Lv ?_
 refine Lv ?_
 refine Lr ?_ (turn4_c p a (by omega) (by omega) w)
 intro W1 hO
 replace off0 := off0.o hO
 clear hO
 refine Lv ?_
 refine Lv ?_
 refine Lr ?_ (turn4_c p b (by omega) (by omega) W1)
 intro W2 hO
 replace off0 := off0.o hO
 clear hO
 refine Lw ?_ (v := .int .u32 (xo4 (rt4 p a) (rt4 p b))) (hv := run_xor4 rfl rfl rfl)
 refine Lv ?_
 refine Lv ?_
 refine Lr ?_ (turn4_c p c (by omega) (by omega) W2)
 intro W3 hO
 replace off0 := off0.o hO
 clear hO
 refine Lw ?_ (v := .int .u32 (xo4 (xo4 (rt4 p a) (rt4 p b)) (rt4 p c))) (hv := run_xor4 rfl rfl rfl)
 refine Lv ?_
 refine wpL_nil ?_
 go_wp2
 exact bodyPost_ret (v := .int .u32 (xo4 (xo4 (rt4 p a) (rt4 p b)) (rt4 p c))) (by simp only [results, Tryd.results92]; go_simp) rfl ⟨rfl, off0.ext⟩
theorem small4_c (p : Int) (a b c : Nat) (ha : 1 ≤ a ∧ a ≤ 31) (hb : 1 ≤ b ∧ b ≤ 31) (hc : 1 ≤ c ∧ c ≤ 31) (w : World) :
  Calls Tryd.prog 94 #[.int .u32 p, .int .i64 (a : Int), .int .i64 (b : Int), .int .i64 (c : Int)] w fun e w' => Ret (.int .u32 (small4 p a b c)) w w' e := by
 have off0 : Off [] w w := Off.refl _ _
 go_enter Tryd.func94, Tryd.ntmps94
 go_upto_region 1 with fail
 refine Rx 12 ?_
 refine Xv ?_
 refine Xv ?_
 refine Xf ?_ (fun W hW => turn4_c p a (by omega) (by omega) W)
 refine Xv ?_
 refine Xv ?_
 refine Xf ?_ (fun W hW => turn4_c p b (by omega) (by omega) W)
 refine Xw ?_ (v := .int .u32 (xo4 (rt4 p a) (rt4 p b))) (hv := fun _ _ => run_xor4 rfl rfl rfl)
 refine Xv ?_
 refine Xv ?_
 refine Xw ?_ (v := .int .u32 (sr4 p c)) (hv := fun _ _ => run_shr4 (n := c) (by omega) rfl rfl rfl)
 refine Xw ?_ (v := .int .u32 (xo4 (xo4 (rt4 p a) (rt4 p b)) (sr4 p c))) (hv := fun _ _ => run_xor4 rfl rfl rfl)
 refine Xv ?_
 refine wpX_nil fun W1 hE => ?_
 have hO := off_ext hE
 replace off0 := off0.o hO
 clear hO hE
 refine LN ?_
 go_wp2
 exact bodyPost_ret (v := .int .u32 (xo4 (xo4 (rt4 p a) (rt4 p b)) (sr4 p c))) (by simp only [results, Tryd.results94]; go_simp) rfl ⟨rfl, off0.ext⟩
end Go.Proofs.YtndnlbinnhdmbaaDoor

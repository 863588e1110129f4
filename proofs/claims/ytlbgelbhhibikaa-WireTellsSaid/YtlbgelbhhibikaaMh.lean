/- Generic parts: texts in rows, facts, calls that leave new things, results in cells. No conditions. -/
import Derived.Test.YtlbgelbhhibikaaJ8
import Derived.Test.YtlbgelbhhibikaaJ7
set_option linter.unusedSimpArgs false
set_option linter.unusedVariables false
namespace Go.Proofs.Ytlbgelbhhibikaa
open Go.RowKit
attribute [local irreducible] wpList wpTr wpX
set_option linter.unusedSimpArgs false
abbrev b32l (x : Nat) : List Value := (arrK .u8 32 (byt x)).toList
theorem RR.opf {α : Type} {f : α → List Value} {k : Nat} {w : World} {u : Value} {ls : List α} (h : RR k w u (ls.map f)) : ∃ A c, u = .slice A ls.length c ∧ ls.length ≤ c ∧ Hid (∀ (j : Nat) (x : α), ls[j]? = some x → ∃ g o, A = some ⟨g, o, none⟩ ∧ ∀ (i : Nat) (v : Value), (f x)[i]? = some v → w.cell? ⟨g, o + j * k + i, none⟩ = some v) := by
 obtain ⟨A, c, h1, h2, _, h3⟩ := h
 rw [List.length_map] at h1 h2
 exact ⟨A, c, h1, h2, Lib.hid fun j x hj => h3 j (f x) (by rw [List.getElem?_map, hj]; rfl)⟩
theorem b32l_all {ls : List Nat} : ∀ e ∈ ls.map b32l, e.length = 32 ∧ ∀ x ∈ e, x.oneCell' = true := fun e he => by
 obtain ⟨y, _, rfl⟩ := List.mem_map.1 he
 exact ⟨by show (arrK .u8 32 (byt y)).toList.length = 32; rw [Array.length_toList, arrK_size], fun x hx => Array.all_eq_true_iff_forall_mem.1 (arrK_one .u8 32 (byt y)) x (by simpa using hx)⟩
/-- slices that read as texts -/
def TXS (W : World) (us : List Value) (ts : List (List UInt8)) : Prop := us.length = ts.length ∧ ∀ (i : Nat) (u : Value) (t : List UInt8), us[i]? = some u → ts[i]? = some t → Sl W u t
/-- the blocks that they look at -/
def txF : List Value → List (List UInt8) → List Nat
 | u :: us, t :: ts => (sb u t).toList ++ txF us ts
 | _, _ => []
theorem mem_txF {k : Nat} : ∀ {us : List Value} {ts : List (List UInt8)}, k ∈ txF us ts ↔ ∃ (i : Nat) (u : Value) (t : List UInt8), us[i]? = some u ∧ ts[i]? = some t ∧ sb u t = some k
 | [], _ => ⟨fun h => (by cases h), fun ⟨i, u, t, h, _⟩ => by simp at h⟩
 | _ :: _, [] => ⟨fun h => (by cases h), fun ⟨i, u, t, _, h, _⟩ => by simp at h⟩
 | u :: us, t :: ts => by
  show k ∈ (sb u t).toList ++ txF us ts ↔ _
  rw [List.mem_append, mem_txF]
  constructor
  ·
   rintro (h | ⟨i, v, s, h1, h2, h3⟩)
   ·
    exact ⟨0, u, t, rfl, rfl, As.mem_toList h⟩
   ·
    exact ⟨i + 1, v, s, h1, h2, h3⟩
  ·
   rintro ⟨i, v, s, h1, h2, h3⟩
   cases i with
   | zero =>
    obtain rfl : u = v := by simpa using h1
    obtain rfl : t = s := by simpa using h2
    exact .inl (by rw [h3]; simp)
   | succ i => exact .inr ⟨i, v, s, by simpa using h1, by simpa using h2, h3⟩
theorem sl_keep {w W : World} {v : Value} {l : List UInt8} (h : Sl w v l) (e : ∀ b, sb v l = some b → W.heap[b]? = w.heap[b]?) : Sl W v l := by
 obtain ⟨A, c, rfl, h1, h2, h0, h3⟩ := h
 refine ⟨A, c, rfl, h1, h2, h0, fun j x hj => ?_⟩
 obtain ⟨ad, hA, hc⟩ := h3 j x hj
 refine ⟨ad, hA, ?_⟩
 have hb : sb (.slice A l.length c) l = some ad.block := by
  unfold sb
  rw [if_neg (by rintro rfl; simp at hj), hA]; rfl
 have h4 := e _ hb
 rw [← hc]
 exact World.cell?_of_block (a := ad.add j) (w := w) (w' := W) (by rw [show (ad.add j).block = ad.block from by unfold Addr.add; split <;> rfl]; exact h4)
theorem TXS.holds {W : World} {us : List Value} {ts : List (List UInt8)} (h : TXS W us ts) : (As.p (txF us ts) (fun W => TXS W us ts)).holds W :=
 ⟨h, fun k hk => by obtain ⟨i, u, t, h1, h2, h3⟩ := mem_txF.1 hk; exact Sl.lt (h.2 i u t h1 h2) k h3,
 fun W' _ e => ⟨h.1, fun i u t h1 h2 => sl_keep (h.2 i u t h1 h2) fun b hb => e b (mem_txF.2 ⟨i, u, t, h1, h2, hb⟩)⟩⟩
namespace SH
variable {F : List Nat} {w W W' : World} {H X : List As} {i j : Nat}
/-- the things that a call has left, all of them new -/
theorem newL (h : SH F w W H) (h' : SH [] W W' X) (hf : ∀ y ∈ X, y.mv = false → ∀ k ∈ y.foot, W.heap.size ≤ k) (hx : X.all (fun y => (match y with | .t _ _ => false | _ => true) && H.all (tyOk y)) = true) : SH F w W' (X ++ H) := by
 have hn : ∀ y ∈ X, ∀ k ∈ y.foot, W.heap.size ≤ k := fun y hy k hk => by
  cases hm : y.mv with
  | false => exact hf y hy hm k hk
  | true => exact Nat.le_of_not_lt fun hlt => by have := h'.old y hy hm k hk hlt; cases this
 have h2 := h.next h'.off
 refine ⟨h2.off, fun y hy => ?_, List.pairwise_append.2 ⟨h'.ap, h2.ap, fun y hy z hz => ⟨fun hm => ?_, fun hm => ?_⟩⟩, fun y hy hm k hk hlt => ?_⟩
 ·
  rcases List.mem_append.1 hy with hy | hy
  ·
   exact h'.all y hy
  ·
   exact h2.all y hy
 ·
  have h3 := List.all_eq_true.1 hx y hy
  have h4 := As.lt (h.all z hz)
  cases z with
  | t T K =>
   have h5 := List.all_eq_true.1 (Bool.and_eq_true_iff.1 h3).2 _ hz
   simpa [tyOk, hm] using h5
  | _ => exact fun k hk hk' => Nat.not_lt.2 (hn y hy k hk) (h4 k hk')
 ·
  have h3 := List.all_eq_true.1 hx y hy
  have h4 := As.lt (h.all z hz)
  cases y with
  | t T K => simp at h3
  | _ => exact fun k hk hk' => Nat.not_lt.2 (hn _ hy k hk') (h4 k hk)
 ·
  rcases List.mem_append.1 hy with hy | hy
  ·
   have := hn y hy k hk; have := h.size; omega
  ·
   exact h2.old y hy hm k hk hlt
end SH
/-- a fact of no world -/
theorem MFact {P : Program} {ops : Array Oper} {k : Wk} {F : List Nat} {w : World} {H : List As} {l : List Oper} {a : Act} {p : Prop} (hp : ∀ W, SH F w W H → p) (h : p → wpM P ops k F w H l a) : wpM P ops k F w H l a := fun W hS => h (hp W hS) W hS
/-- a call that leaves new things -/
theorem ncallL {P : Program} {α : Type} {f : FuncId} {args : Array Value} {F : List Nat} {w W : World} {H : List As} {V : α → Value} {X : α → List As} (hS : SH F w W H) (hc : Calls P f args W fun e W' => ∃ x, e = .returned (V x) ∧ SH [] W W' (X x) ∧ ∀ y ∈ X x, y.mv = false → ∀ k ∈ y.foot, W.heap.size ≤ k) (ht : ∀ x, (X x).all (fun y => (match y with | .t _ _ => false | _ => true) && H.all (SH.tyOk y)) = true) :
  Calls P f args W fun e W' => ∃ x, e = .returned (V x) ∧ SH F w W' (X x ++ H) :=
 hc.mono fun e W' ⟨x, h1, h2, h3⟩ => ⟨x, h1, hS.newL h2 h3 (ht x)⟩
theorem run_lenV {P : Program} {a : Act} {o : Oper} {x : Operand} {tS t : TypeId} {W : World} {A : Option Addr} {n c : Nat} (ho : o.op = .call { callee := .builtin .len, args := #[x], argTypes := #[tS] }) (hx : a.eval x = .slice A n c) (ht : P.underlying tS = some (.slice t)) : (execOp a.eval o).run P W = .ok (.value (.int .i64 (n : Int))) W := by
 unfold execOp
 simp only [ho, resolve, invoke, builtin, Sem.run_bind, Sem.run_pure, Result.andThen_ok, List.map_toArray, List.map_cons, List.map_nil, hx]
 simp [Builtin.len_, run_underlying ht, goInt, Sem.run_bind]
/-- a call that leaves one new thing -/
theorem ncall {P : Program} {α : Type} {f : FuncId} {args : Array Value} {F : List Nat} {w W : World} {H : List As} {V : α → Value} {X : α → As} (hS : SH F w W H) (hc : Calls P f args W fun e W' => ∃ x, e = .returned (V x) ∧ SH [] W W' [X x]) (ht : ∀ x, (X x).mv = true ∧ H.all (SH.tyOk (X x)) = true) :
  Calls P f args W fun e W' => ∃ x, e = .returned (V x) ∧ SH F w W' (X x :: H) :=
 hc.mono fun e W' ⟨x, h1, h2⟩ => ⟨x, h1, SH.frame (L := []) (L' := [X x]) (R := H) hS h2 ⟨.inr (ht x), trivial⟩⟩
theorem res_c3 {P : Program} {fn : Func} {p q r : Tmp} {ty t : TypeId} {tmps : Array Value} {w : World} {g : Nat} {cs : Array Value} {v u : Value} (h : fn.results = #[.cell p ty, .tmp q, .tmp r])
  (hp : tmps.getD p undef = .pointer (some ⟨g, 0, none⟩)) (hq : tmps.getD q undef = v) (hr : tmps.getD r undef = u) (hB : Blk w g cs t) (hk : (P.underlying ty).map TypeDesc.isRow = some true) (hi : (P.info? ty).map (·.size) = some cs.size) :
  (results fn tmps).run P w = .ok (.tuple #[.agg cs, v, u]) w := by
 cases hu : P.underlying ty with
 | none => simp [hu] at hk
 | some d =>
  have hd : d.isRow = true := by simpa [hu] using hk
  have hp' : tmps[p]?.getD undef = .pointer (some ⟨g, 0, none⟩) := by simpa using hp
  have hq' : tmps[q]?.getD undef = v := by simpa using hq
  have hr' : tmps[r]?.getD undef = u := by simpa using hr
  simp [results, h, hp', hq', hr', asAddr, run_loadVar_row w g t ty cs _ d hB hu (by cases d <;> simp_all [TypeDesc.isRow]) hi]
theorem res_c2 {P : Program} {fn : Func} {p q : Tmp} {ty t : TypeId} {tmps : Array Value} {w : World} {g : Nat} {cs : Array Value} {v : Value} (h : fn.results = #[.cell p ty, .tmp q])
  (hp : tmps.getD p undef = .pointer (some ⟨g, 0, none⟩)) (hq : tmps.getD q undef = v) (hB : Blk w g cs t) (hk : (P.underlying ty).map TypeDesc.isRow = some true) (hi : (P.info? ty).map (·.size) = some cs.size) :
  (results fn tmps).run P w = .ok (.tuple #[.agg cs, v]) w := by
 cases hu : P.underlying ty with
 | none => simp [hu] at hk
 | some d =>
  have hd : d.isRow = true := by simpa [hu] using hk
  have hp' : tmps[p]?.getD undef = .pointer (some ⟨g, 0, none⟩) := by simpa using hp
  have hq' : tmps[q]?.getD undef = v := by simpa using hq
  simp [results, h, hp', hq', asAddr, run_loadVar_row w g t ty cs _ d hB hu (by cases d <;> simp_all [TypeDesc.isRow]) hi]
theorem Row.form {α : Type} {f : α → List Value} {ls : List α} {t : TypeId} {k : Nat} {w : World} {v : Value} (h : Row t k w v (ls.map f)) : ∃ A c, v = .slice A ls.length c := by
 obtain ⟨A, c, h1, _⟩ := RR.opf h.rr
 exact ⟨A, c, h1⟩
end Go.Proofs.Ytlbgelbhhibikaa

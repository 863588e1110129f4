/- Generic parts: texts in rows, facts, calls that leave new things, results in cells. No conditions. What the rows of this seat share: structs, texts, slices, sums out of the arguments; a world for the witness. No conditions. An argument that is an array of integers, opened: its cells are integers of its kind. No conditions. -/
import Derived.Test.YtejkmhgkkibafaaGreatDoorJ8
import Derived.Test.YtejkmhgkkibafaaGreatDoorJ7
import Derived.Test.YtejkmhgkkibafaaGreatDoorRows
import Derived.ProofKit
import Derived.OpenShut
import Derived.Deep.Slices
import Derived.Deep.DeepHandedRow
import Derived.Carry
import Derived.Test.YtejkmhgkkibafaaGreatDoorGa
import Derived.WalkKit
import Derived.Lib.LaidTab
set_option linter.unusedSimpArgs false
set_option linter.unusedVariables false
namespace Go.Proofs.YtejkmhgkkibafaaGreatDoor
open Go.RowKit
attribute [local irreducible] wpList wpTr wpX
set_option linter.unusedSimpArgs false
abbrev b32l (x : Nat) : List Value := (arrK .u8 32 (byt x)).toList
theorem RR.opf {α : Type} {f : α → List Value} {k : Nat} {w : World} {u : Value} {ls : List α} (h : RR k w u (ls.map f)) : ∃ A c, u = .slice A ls.length c ∧ ls.length ≤ c ∧ Hid (∀ (j : Nat) (x : α), ls[j]? = some x → ∃ g o, A = some ⟨g, o, none⟩ ∧ ∀ (i : Nat) (v : Value), (f x)[i]? = some v → w.cell? ⟨g, o + j * k + i, none⟩ = some v) := by
 obtain ⟨A, c, h1, h2, _, h3⟩ := h
 rw [List.length_map] at h1 h2
 exact ⟨A, c, h1, h2, Lib.hid fun j x hj => h3 j (f x) (by rw [List.getElem?_map, hj]; rfl)⟩
/-- slices that read as texts -/
def TXS (W : World) (us : List Value) (ts : List (List UInt8)) : Prop := us.length = ts.length ∧ ∀ (i : Nat) (u : Value) (t : List UInt8), us[i]? = some u → ts[i]? = some t → Sl W u t
/-- the blocks that they look at -/
def txF : List Value → List (List UInt8) → List Nat
 | u :: us, t :: ts => (sb u t).toList ++ txF us ts
 | _, _ => []
theorem mem_txF {k : Nat} : ∀ {us : List Value} {ts : List (List UInt8)}, k ∈ txF us ts ↔ ∃ (i : Nat) (u : Value) (t : List UInt8), us[i]? = some u ∧ ts[i]? = some t ∧ sb u t = some k
 | [], _ => ⟨fun h => (by cases h), fun ⟨i, u, t, h, _⟩ => by simp at h⟩
 | _ :: _, [] => ⟨fun h => (by cases h), fun ⟨i, u, t, _, h, _⟩ => by simp at h⟩
 | u :: us, t :: ts => by
  show k ∈ (sb u t).toList ++ txF us ts ↔ _
  rw [List.mem_append, mem_txF]
  constructor
  ·
   rintro (h | ⟨i, v, s, h1, h2, h3⟩)
   ·
    exact ⟨0, u, t, rfl, rfl, As.mem_toList h⟩
   ·
    exact ⟨i + 1, v, s, h1, h2, h3⟩
  ·
   rintro ⟨i, v, s, h1, h2, h3⟩
   cases i with
   | zero =>
    obtain rfl : u = v := by simpa using h1
    obtain rfl : t = s := by simpa using h2
    exact .inl (by rw [h3]; simp)
   | succ i => exact .inr ⟨i, v, s, by simpa using h1, by simpa using h2, h3⟩
theorem sl_keep {w W : World} {v : Value} {l : List UInt8} (h : Sl w v l) (e : ∀ b, sb v l = some b → W.heap[b]? = w.heap[b]?) : Sl W v l := by
 obtain ⟨A, c, rfl, h1, h2, h0, h3⟩ := h
 refine ⟨A, c, rfl, h1, h2, h0, fun j x hj => ?_⟩
 obtain ⟨ad, hA, hc⟩ := h3 j x hj
 refine ⟨ad, hA, ?_⟩
 have hb : sb (.slice A l.length c) l = some ad.block := by
  unfold sb
  rw [if_neg (by rintro rfl; simp at hj), hA]; rfl
 have h4 := e _ hb
 rw [← hc]
 exact World.cell?_of_block (a := ad.add j) (w := w) (w' := W) (by rw [show (ad.add j).block = ad.block from by unfold Addr.add; split <;> rfl]; exact h4)
theorem TXS.holds {W : World} {us : List Value} {ts : List (List UInt8)} (h : TXS W us ts) : (As.p (txF us ts) (fun W => TXS W us ts)).holds W :=
 ⟨h, fun k hk => by obtain ⟨i, u, t, h1, h2, h3⟩ := mem_txF.1 hk; exact Sl.lt (h.2 i u t h1 h2) k h3,
 fun W' _ e => ⟨h.1, fun i u t h1 h2 => sl_keep (h.2 i u t h1 h2) fun b hb => e b (mem_txF.2 ⟨i, u, t, h1, h2, hb⟩)⟩⟩
namespace SH
variable {F : List Nat} {w W W' : World} {H X : List As} {i j : Nat}
/-- a fact about blocks of things that are only read -/
theorem addp {f : List Nat} {K : World → Prop} (h : SH F w W H) (hz : (As.p f K).holds W) (hf : ∀ k ∈ f, ∃ (i : Nat) (x : As), H[i]? = some x ∧ x.mv = false ∧ k ∈ x.foot) : SH F w W (.p f K :: H) := by
 refine ⟨h.off, fun y hy => ?_, List.pairwise_cons.2 ⟨fun y hy => ⟨fun h => by (cases h), fun hm k hk hk' => ?_⟩, h.ap⟩, fun y hy hm k hk hlt => ?_⟩
 ·
  rcases List.mem_cons.1 hy with rfl | hy
  ·
   exact hz
  ·
   exact h.all y hy
 ·
  obtain ⟨i, x, hi, hx, hkx⟩ := hf k hk'
  obtain ⟨j, hj, e⟩ := List.mem_iff_getElem.1 hy
  have hj' : H[j]? = some y := by rw [List.getElem?_eq_getElem hj, e]
  have hn : j ≠ i := fun e => by subst e; rw [hi] at hj'; obtain rfl := Option.some.inj hj'; rw [hx] at hm; cases hm
  have h1 := (h.ap2 hj' hi hn).1 hm
  cases x with
  | t T K => cases hkx
  | _ => exact h1 k hk hkx
 ·
  rcases List.mem_cons.1 hy with rfl | hy
  ·
   cases hm
  ·
   exact h.old y hy hm k hk hlt
end SH
/-- a fact of no world -/
theorem MFact {P : Program} {ops : Array Oper} {k : Wk} {F : List Nat} {w : World} {H : List As} {l : List Oper} {a : Act} {p : Prop} (hp : ∀ W, SH F w W H → p) (h : p → wpM P ops k F w H l a) : wpM P ops k F w H l a := fun W hS => h (hp W hS) W hS
theorem run_lenV {P : Program} {a : Act} {o : Oper} {x : Operand} {tS t : TypeId} {W : World} {A : Option Addr} {n c : Nat} (ho : o.op = .call { callee := .builtin .len, args := #[x], argTypes := #[tS] }) (hx : a.eval x = .slice A n c) (ht : P.underlying tS = some (.slice t)) : (execOp a.eval o).run P W = .ok (.value (.int .i64 (n : Int))) W := by
 unfold execOp
 simp only [ho, resolve, invoke, builtin, Sem.run_bind, Sem.run_pure, Result.andThen_ok, List.map_toArray, List.map_cons, List.map_nil, hx]
 simp [Builtin.len_, run_underlying ht, goInt, Sem.run_bind]
/-- a call that leaves one new thing -/
theorem ncall {P : Program} {α : Type} {f : FuncId} {args : Array Value} {F : List Nat} {w W : World} {H : List As} {V : α → Value} {X : α → As} (hS : SH F w W H) (hc : Calls P f args W fun e W' => ∃ x, e = .returned (V x) ∧ SH [] W W' [X x]) (ht : ∀ x, (X x).mv = true ∧ H.all (SH.tyOk (X x)) = true) :
  Calls P f args W fun e W' => ∃ x, e = .returned (V x) ∧ SH F w W' (X x :: H) :=
 hc.mono fun e W' ⟨x, h1, h2⟩ => ⟨x, h1, SH.frame (L := []) (L' := [X x]) (R := H) hS h2 ⟨.inr (ht x), trivial⟩⟩
theorem Row.form {α : Type} {f : α → List Value} {ls : List α} {t : TypeId} {k : Nat} {w : World} {v : Value} (h : Row t k w v (ls.map f)) : ∃ A c, v = .slice A ls.length c := by
 obtain ⟨A, c, h1, _⟩ := RR.opf h.rr
 exact ⟨A, c, h1⟩
end Go.Proofs.YtejkmhgkkibafaaGreatDoor

set_option linter.unusedSimpArgs false
set_option linter.unusedVariables false
namespace Go.Proofs.YtejkmhgkkibafaaGreatDoor
set_option maxRecDepth 100000
open Go.ChangeShapes Go.WideShapes Go.ChangeAt Go.RowKit Go.Deep
theorem own : ownKnob Tryz.prog.godebug = none := by kernel_rfl
theorem laidOut : laidOutB Tryz.prog = true := by kernel_rfl
theorem cellsU8 : Tryz.prog.cellsOf 5 = 1 := by kernel_rfl
theorem cutp {cs : List Value} {o s o' : Nat} (h : o' = o + s) : cs.drop o = (cs.drop o).take s ++ cs.drop o' := by
  subst h; rw [← List.drop_drop, List.take_append_drop]
section
variable {H : Type} {enc : TypeId × Value → H} {W : World} {base : Nat} {sp : Nat → Bool} {held : Bool}
/-- an argument without memory reads in any world as before -/
theorem stays {t : TypeId} (hr : Tryz.prog.readableRec t = true) (hrow : t < Tryz.prog.types.size) {W W' : World} {sp' : Nat → Bool} {v : Value} {d : DataW H}
    (h : DataW.Trod enc Tryz.prog W 0 (fun _ => true) true t v d []) : DataW.Trod enc Tryz.prog W' 0 sp' true t v d [] :=
  WideElems.Trod_stays laidOut hr hrow h (fun _ hp => by cases hp) (fun _ hp => by cases hp)
theorem trod_bytes {fuel : Nat} {t e : TypeId} {n : Nat} {cs : List Value} {x : DataW H × List MemPlace} (ht : Tryz.prog.underlying t = some (.array n e)) (he : Tryz.prog.underlying e = some (.int .u8)) (hc : Tryz.prog.cellsOf e = 1) (hct : Tryz.prog.cellsOf t = n)
    (h : DataW.trod enc Tryz.prog W base sp held fuel t cs = some x) : ∃ S : List UInt8, cs = bs8 S ∧ S.length = n := by
  obtain ⟨xs, m, _, _, hl, hxl, hg⟩ := DataW.trod_array ht h
  rw [hct] at hl
  have key : ∀ i, i < n → ∃ c : UInt8, cs[i]? = some (.int .u8 (c.toNat : Int)) := by
    intro i hi
    have h1 := hg i hi
    rw [hc, Nat.mul_one, List.getElem?_eq_getElem (by omega)] at h1
    obtain ⟨z, hz, _, hw⟩ := DataW.trod_int he h1
    have hb := bounds_u8 hw
    have h0 := congrArg (fun l : List Value => l[0]?) hz
    rw [List.getElem?_take_of_lt (by omega), List.getElem?_drop] at h0
    refine ⟨UInt8.ofNat z.toNat, ?_⟩
    have e : ((UInt8.ofNat z.toNat).toNat : Int) = z := by
      rw [UInt8.toNat_ofNat']; omega
    rw [e]
    simpa using h0
  refine ⟨(List.range n).map fun i => if h : i < n then Classical.choose (key i h) else 0, ?_, by simp⟩
  apply List.ext_getElem?
  intro i
  by_cases hi : i < n
  · have := Classical.choose_spec (key i hi)
    rw [this]
    simp [bs8, hi]
  · rw [List.getElem?_eq_none (by omega), List.getElem?_eq_none (by simp [bs8]; omega)]
theorem trod_arrN {fuel : Nat} {t : TypeId} {n : Nat} {cs : List Value} {x : DataW H × List MemPlace} (ht : Tryz.prog.underlying t = some (.array n 5)) (hct : Tryz.prog.cellsOf t = n)
    (h : DataW.trod enc Tryz.prog W base sp held fuel t cs = some x) : ∃ X : Nat, X < 2 ^ (8 * n) ∧ cs = (arrK .u8 n (byt X)).toList := by
  obtain ⟨L, rfl, hl⟩ := trod_bytes ht Tryz.underlying5 cellsU8 hct h
  exact ⟨le L, by rw [← hl]; exact le_lt L, by rw [arrL, lb_le' hl]⟩
theorem trod_i {fuel : Nat} {t : TypeId} {cs : List Value} {x : DataW H × List MemPlace} (ht : Tryz.prog.underlying t = some (.int .i64)) (h : DataW.trod enc Tryz.prog W base sp held fuel t cs = some x) : ∃ n : Int, (-9223372036854775808 ≤ n ∧ n < 9223372036854775808) ∧ cs = [.int .i64 n] := by
  obtain ⟨n, hn, _, hw⟩ := DataW.trod_int ht h
  exact ⟨n, by have := bounds_i64 hw; omega, hn⟩
theorem trod_bo {fuel : Nat} {t : TypeId} {cs : List Value} {x : DataW H × List MemPlace} (ht : Tryz.prog.underlying t = some .bool) (h : DataW.trod enc Tryz.prog W base sp held fuel t cs = some x) : ∃ b : Bool, True ∧ cs = [.bool b] := by
  obtain ⟨b, hb, _⟩ := DataW.trod_bool ht h
  exact ⟨b, trivial, hb⟩
theorem sl_of_trod {fuel : Nat} {cs : List Value} {x : DataW H × List MemPlace} (h : DataW.trod enc Tryz.prog W base sp held fuel 22 cs = some x) : ∃ u l, (Sl W u l ∧ l.length ≤ maxLen) ∧ cs = [u] := by
  rcases open_slice Tryz.underlying22 h with ⟨rfl, _⟩ | ⟨a, len, cap, m, n, D, Pl, rfl, _, hl, hm, hmm, _, hi⟩
  · exact ⟨_, [], ⟨sl_nil W, by simp⟩, rfl⟩
  · have hlm : len ≤ m := by rw [hmm]; split <;> omega
    have key : ∀ i, i < len → ∃ c : UInt8, W.cell? (a.add i) = some (.int .u8 (c.toNat : Int)) := by
      intro i hi'
      obtain ⟨cs', h1, h2⟩ := hi i (by omega)
      rw [cellsU8, Nat.mul_one] at h1
      obtain ⟨_, hcl, hcell⟩ := World.cells?_some h1
      obtain ⟨z, hz, _, hw⟩ := DataW.trod_int Tryz.underlying5 h2
      have hb := bounds_u8 hw
      refine ⟨UInt8.ofNat z.toNat, ?_⟩
      have e : ((UInt8.ofNat z.toNat).toNat : Int) = z := by rw [UInt8.toNat_ofNat']; omega
      have := hcell 0 (by omega)
      rw [hz] at this
      rw [e]
      have e0 : ∀ b : Addr, b.add 0 = b := fun b => by unfold Addr.add; simp
      rw [e0] at this
      simpa using this
    refine ⟨_, (List.range len).map fun i => if h : i < len then Classical.choose (key i h) else 0, ⟨⟨some a, cap, by simp, by simpa using hl, hm, (fun h => by cases h), fun j x hj => ⟨a, rfl, ?_⟩⟩, by simp; omega⟩, rfl⟩
    have hjl : j < len := by have := (List.getElem?_eq_some_iff.1 hj).1; simpa using this
    simp [hjl] at hj
    subst hj
    exact Classical.choose_spec (key j hjl)
theorem open_i {r : Reach} {b0 : Nat} {v : Value} {d : DataW H} {ps : List MemPlace} (hval : Value.okWide Tryz.prog W r b0 3 v) (hd : DataW.Trod enc Tryz.prog W base sp held 3 v d ps) : ∃ n : Int, v = .int .i64 n ∧ ps = [] ∧ (-9223372036854775808 ≤ n ∧ n < 9223372036854775808) := by
  obtain ⟨n, h1, _, hp, hw⟩ := open_int Tryz.underlying3 hval hd
  exact ⟨n, h1, hp, by have := bounds_i64 hw; omega⟩
theorem trod_super_Member {fuel : Nat} {cs : List Value} {x : DataW H × List MemPlace} (h : DataW.trod enc Tryz.prog W base sp held fuel 25 cs = some x) : ∃ (v1 : Value) (l2 : List UInt8) (b3 : Bool) (n4 : Int) (X5 : Nat), (Sl W v1 l2 ∧ l2.length ≤ maxLen) ∧ True ∧ (-9223372036854775808 ≤ n4 ∧ n4 < 9223372036854775808) ∧ X5 < 2 ^ (8 * 32) ∧ cs = fcs [.c v1, .c (.bool b3), .c (.int .i64 n4), .a 32 X5] := by
  obtain ⟨xs, n, _, _, hl, hxl, hg⟩ := DataW.trod_struct Tryz.underlying25 h
  rw [show Tryz.prog.cellsOf 25 = 35 by kernel_rfl] at hl
  have hxs : xs.length = 4 := hxl
  have g0 : DataW.trod enc Tryz.prog W base sp held n 22 ((cs.drop 0).take (Tryz.prog.cellsOf 22)) = xs[0]? := hg 0 _ rfl
  rw [show Tryz.prog.cellsOf 22 = 1 by kernel_rfl, List.getElem?_eq_getElem (by omega)] at g0
  replace g0 : DataW.trod enc Tryz.prog W base sp held n 22 ((cs.drop 0).take 1) = some (xs[0]'(by omega)) := g0
  obtain ⟨v1, l2, hf0_0, e0⟩ := sl_of_trod g0
  have g1 : DataW.trod enc Tryz.prog W base sp held n 4 ((cs.drop 1).take (Tryz.prog.cellsOf 4)) = xs[1]? := hg 1 _ rfl
  rw [show Tryz.prog.cellsOf 4 = 1 by kernel_rfl, List.getElem?_eq_getElem (by omega)] at g1
  replace g1 : DataW.trod enc Tryz.prog W base sp held n 4 ((cs.drop 1).take 1) = some (xs[1]'(by omega)) := g1
  obtain ⟨b3, hf1_0, e1⟩ := trod_bo Tryz.underlying4 g1
  have g2 : DataW.trod enc Tryz.prog W base sp held n 3 ((cs.drop 2).take (Tryz.prog.cellsOf 3)) = xs[2]? := hg 2 _ rfl
  rw [show Tryz.prog.cellsOf 3 = 1 by kernel_rfl, List.getElem?_eq_getElem (by omega)] at g2
  replace g2 : DataW.trod enc Tryz.prog W base sp held n 3 ((cs.drop 2).take 1) = some (xs[2]'(by omega)) := g2
  obtain ⟨n4, hf2_0, e2⟩ := trod_i Tryz.underlying3 g2
  have g3 : DataW.trod enc Tryz.prog W base sp held n 23 ((cs.drop 3).take (Tryz.prog.cellsOf 23)) = xs[3]? := hg 3 _ rfl
  rw [show Tryz.prog.cellsOf 23 = 32 by kernel_rfl, List.getElem?_eq_getElem (by omega)] at g3
  replace g3 : DataW.trod enc Tryz.prog W base sp held n 23 ((cs.drop 3).take 32) = some (xs[3]'(by omega)) := g3
  obtain ⟨X5, hf3_0, e3⟩ := trod_arrN Tryz.underlying23 (by kernel_rfl) g3
  refine ⟨v1, l2, b3, n4, X5, hf0_0, hf1_0, hf2_0, hf3_0, ?_⟩
  rw [show cs = cs.drop 0 from rfl]
  rw [cutp (cs := cs) (o := 0) (s := 1) (o' := 1) rfl, e0]
  conv => lhs; rw [cutp (cs := cs) (o := 1) (s := 1) (o' := 2) rfl, e1]
  conv => lhs; rw [cutp (cs := cs) (o := 2) (s := 1) (o' := 3) rfl, e2]
  conv => lhs; rw [cutp (cs := cs) (o := 3) (s := 32) (o' := 35) rfl, e3]
  rw [List.drop_eq_nil_of_le (Nat.le_of_eq hl)]
  rfl
theorem open_super_Member {r : Reach} {b0 : Nat} {v : Value} {d : DataW H} {ps : List MemPlace} (hval : Value.okWide Tryz.prog W r b0 25 v) (hd : DataW.Trod enc Tryz.prog W base sp held 25 v d ps) : ∃ (v1 : Value) (l2 : List UInt8) (b3 : Bool) (n4 : Int) (X5 : Nat), (Sl W v1 l2 ∧ l2.length ≤ maxLen) ∧ True ∧ (-9223372036854775808 ≤ n4 ∧ n4 < 9223372036854775808) ∧ X5 < 2 ^ (8 * 32) ∧ v = .agg (agF [.c v1, .c (.bool b3), .c (.int .i64 n4), .a 32 X5]) := by
  obtain ⟨cs, rfl, _⟩ := okWide_struct Tryz.underlying25 hval
  obtain ⟨fuel, hf⟩ := hd
  obtain ⟨v1, l2, b3, n4, X5, h0, h1, h2, h3, e⟩ := trod_super_Member hf
  exact ⟨v1, l2, b3, n4, X5, h0, h1, h2, h3, by rw [show cs = agF [.c v1, .c (.bool b3), .c (.int .i64 n4), .a 32 X5] from Array.toList_inj.1 e]⟩
end
end Go.Proofs.YtejkmhgkkibafaaGreatDoor

set_option linter.unusedSimpArgs false
set_option linter.unusedVariables false
namespace Go.Proofs.YtejkmhgkkibafaaGreatDoor
open Go.RowKit Go.ChangeShapes Go.WideShapes Go.ChangeAt

end Go.Proofs.YtejkmhgkkibafaaGreatDoor

/- append(b, make([]byte, n)...): the builtin is given the number n. -/
import Derived.Test.YtfkhogeaadldnaaDoorGc
import Derived.Lib.AppendZeros
namespace Go.Proofs.YtfkhogeaadldnaaDoor
set_option linter.unusedSimpArgs false
set_option linter.unusedVariables false
open Go.RowKit
set_option linter.unusedSimpArgs false
theorem zc_list (n : Nat) : (Builtin.zeroCells (Value.int .u8 0).cells n).toList = bs8 (List.replicate n 0) := by
  simp [Builtin.zeroCells, bs8, Value.cells, List.map_replicate, Nat.mod_one, List.map_const']
theorem run_append_own_zeros {P : Program} (w : World) (t tn ty e : TypeId) (i : TypeInfo) (k : IntKind) (ht : P.underlying t = some (.slice e)) (htn : P.underlying tn = some (.int k)) (hi : P.info? e = some i) (hz : i.zero = some (.int .u8 0)) (hsz : i.size = 1) (hby : i.bytes = 1)
    (v : Value) (n : Nat) (xs : List Value) (hown : w.ownsRow 0 e 1 v n xs) (m : Nat) (hm : 0 < m) (hlen : n + m ≤ 140737488355328) :
    ∃ v' w', (Builtin.append_ #[t, tn] ty #[v, .int .i64 (m : Int)]).run P w = .ok v' w' ∧ w'.ownsRow 0 e 1 v' (n + m) (xs ++ bs8 (List.replicate m 0)) ∧ w.grownBy w' v.ownBlock ∧ (v'.ownBlock = v.ownBlock ∨ v'.ownBlock = some w.heap.size) := by
  have hlen' : (xs ++ bs8 (List.replicate m 0)).length = (n + m) * 1 := by rw [List.length_append, hown.1, bs8_length, List.length_replicate]; omega
  have grown : ∀ (old : Nat), old < n + m → ∀ (row : Option Nat),
      (w.drew.alloc (.cells (xs.toArray ++ (bs8 (List.replicate m 0)).toArray ++ Builtin.zeroCells (Value.int .u8 0).cells (grownCap w (n + m) old e - (n + m))) e)).ownsRow 0 e 1
        (.slice (some ⟨w.heap.size, 0, none⟩) (n + m) (grownCap w (n + m) old e)) (n + m) (xs ++ bs8 (List.replicate m 0)) ∧
      w.grownBy (w.drew.alloc (.cells (xs.toArray ++ (bs8 (List.replicate m 0)).toArray ++ Builtin.zeroCells (Value.int .u8 0).cells (grownCap w (n + m) old e - (n + m))) e)) row := by
    intro old ho row
    have hge := grownCap_ge w (n + m) old e
    have hcm : grownCap w (n + m) old e ≤ maxLen := grownCap_le_maxLen w (n + m) old e (by unfold maxLen; omega)
    refine ⟨⟨hlen', .inr ⟨w.heap.size, _, _, rfl, Nat.zero_le _, heap_alloc_new w.drew _, hge, hcm, ?_, ?_⟩⟩, ⟨rfl, rfl, rfl, by simp, fun k hk _ => _root_.Go.heap_alloc_old w.drew _ (by simpa using hk)⟩⟩
    · simp only [Array.size_append, List.size_toArray, size_zeroCells, hown.1, bs8_length, List.length_replicate, Value.cells, List.size_toArray]
      simp
      omega
    · simp only [Array.toList_append, List.append_assoc]
      rw [← List.append_assoc, ← hlen']
      exact List.take_left
  have hw : IntKind.i64.wrap (m : Int) = m := by rw [IntKind.wrap_i64]; omega
  have hneg : ¬ ((m : Int) < 0) := by omega
  have h48i : ¬ (281474976710656 < (m : Int)) := by omega
  have hzc : Builtin.zeroCells (Value.int .u8 0).cells m = (bs8 (List.replicate m 0)).toArray := Array.toList_inj.1 (zc_list m)
  rcases hown.2 with ⟨rfl, rfl⟩ | ⟨g, cap, cur, rfl, _, hg, hnc, hcm, hcs, htake⟩
  · have hx : xs = [] := List.eq_nil_of_length_eq_zero (by simpa using hown.1)
    subst hx
    have hr   := Lib.run_append_nil_zeros (P := P) w t tn ty e i (.int .u8 0) .i64 k ht htn hi hz m hm (by omega) (by omega) (by rw [hby]; omega)
    have hgr := grown 0 (by omega) (Value.ownBlock (.slice none 0 0))
    simp only [Nat.zero_add, List.nil_append, Array.empty_append] at hgr ⊢
    rw [hzc] at hr
    exact ⟨_, _, hr, by simpa using hgr.1, hgr.2, .inr rfl⟩
  · by_cases hroom : n + m ≤ cap
    · have hst := run_storeCells_at P g (n * 1) e (bs8 (List.replicate m 0)) 0 cur w hg (by rw [bs8_length, List.length_replicate, hcs]; simp; omega) (bs8_one _)
      simp only [Nat.add_zero, Nat.mul_one] at hst
      refine ⟨.slice (some ⟨g, 0, none⟩) (n + m) cap, w.setRow g (cur.toList.take n ++ bs8 (List.replicate m 0) ++ cur.toList.drop (n + (bs8 (List.replicate m 0)).length)).toArray, ?_, ?_, ?_, .inl rfl⟩
      · have hm0 : m ≠ 0 := by omega
        simp [Builtin.append_, run_underlying ht, run_underlying htn, sizeOf, typeInfo, zeroValue, hi, hz, asInt, asIntOf, hw, hneg, hby, h48i, hsz, hm0, hroom, hzc, Addr.add_lit, hst]
      · refine ⟨hlen', .inr ⟨g, cap, _, rfl, Nat.zero_le _, setRow_heap w g cur _ e _ hg, hroom, hcm, ?_, ?_⟩⟩
        · simp only [List.size_toArray, List.length_append, List.length_take, List.length_drop, Array.length_toList, bs8_length, List.length_replicate]
          omega
        · have ht' : cur.toList.take n = xs := by simpa using htake
          rw [ht', ← hlen']
          exact List.take_left
      · exact ⟨rfl, rfl, rfl, by simp, fun k _ hk => setRow_other w g k _ (fun e => hk (by simp [Value.ownBlock, e]))⟩
    · have holds : ∀ j u, xs[j]? = some u → w.cell? ((⟨g, 0, none⟩ : Addr).add j) = some u := hown.cells (g := g) rfl
      have hfo := run_firstCells_some (P := P) w.drew 1 n ⟨g, 0, none⟩ n cap xs hown.1 (by simpa using holds)
      have hgr := grown cap (by omega) (Value.ownBlock (.slice (some ⟨g, 0, none⟩) n cap))
      have h63' : ¬ (9223372036854775807 < ((n : Int) + (m : Int))) := by omega
      have hf := growslice_fits (need := n + m) (old := cap) (bytes := 1) (by omega) (by omega)
      have h48' : ¬ (281474976710656 < Builtin.nextslicecap (n + m) cap) := by omega
      refine ⟨_, _, ?_, hgr.1, hgr.2, .inr rfl⟩
      have hm0 : m ≠ 0 := by omega
      simp [Builtin.append_, run_underlying ht, run_underlying htn, sizeOf, typeInfo, zeroValue, hi, hz, asInt, asIntOf, hw, hneg, hby, h48i, hsz, hm0, hroom, h63', h48', Question.forced, hzc, hfo, newRow, grownCap, Array.append_assoc]
      congr 2
      simp [← List.append_toArray]
theorem wpL_append0 {ops : Array Oper} {Q : Exit → Act → World → Prop} {w : World} {l : List Oper} {o : Oper} {a : Act} {s x : Operand} {v : Value} {xs : List UInt8} {m : Nat} (hm : 0 < m) (hw : Region.wanted o (yielded ops a.tmps) = true)
    (ho : o.op = .call { callee := .builtin .append, args := #[s, x], argTypes := #[28, 3] }) (hs : a.eval s = v) (hx : a.eval x = .int .i64 (m : Int)) (hown : Own w v xs) (hlen : xs.length + m ≤ 140737488355328)
    (h : ∀ v' W, Own W v' (xs ++ List.replicate m 0) → Off v.ownBlock.toList w W → Of v'.ownBlock v.ownBlock w.heap.size → wpList Tryd.prog ops Q l (a.put o.dst v') W) : wpList Tryd.prog ops Q (o :: l) a w := by
  obtain ⟨i, hi, hz, hsz, hby⟩ := info_parts bytes_info
  obtain ⟨v', W, hrun, h1, h2, h3⟩ := run_append_own_zeros (P := Tryd.prog) w 28 3 o.type 5 i .i64 Tryd.underlying28 Tryd.underlying3 hi hz hsz hby v xs.length (bs8 xs) hown m hm hlen
  refine wpL_run hw (v := v') (W := W) ?_ (h v' W ?_ (off_grown h2) (of_or h3))
  · unfold execOp
    simp only [ho, resolve, invoke, builtin, Sem.run_bind, Sem.run_pure, Result.andThen_ok, List.map_toArray, List.map_cons, List.map_nil, hs, hx, hrun]
  · unfold Own; rw [List.length_append, bs8_append, List.length_replicate]; exact h1
end Go.Proofs.YtfkhogeaadldnaaDoor

/- wire's answers without memory: what stands under a root, members, rows of versions and of marks; their bytes. No conditions. -/
import Derived.Test.YtlbgelbhhibikaaWr
set_option linter.unusedSimpArgs false
set_option linter.unusedVariables false
namespace Go.Proofs.Ytlbgelbhhibikaa.Ww
open Go.RowKit
set_option linter.unusedSimpArgs false
/-- what shows how a tenant stands -/
structure Un where
  ss : List Nat
  th : Bool
  a : Nat
  x : Nat
  ep : Int
  ro : Nat
  sig : Nat
  lo : Nat
  us : List Nat
abbrev unF (u : Un) (sv uv : Value) : Array Value := agF [.c sv, .c (.bool u.th), .a 32 u.a, .a 32 u.x, .c (.int .i64 u.ep), .a 32 u.ro, .a 64 u.sig, .a 32 u.lo, .c uv]
def unL (u : Un) (l : List UInt8) : List UInt8 := smL u.us (pfL u.ss u.th u.a u.x l ++ eI u.ep ++ lb 32 u.ro ++ tB (lb 64 u.sig) ++ lb 32 u.lo)
def unB (u : Un) (bad : Bool) : Bool := smB u.us (smB u.ss bad)
theorem unL_le {u : Un} {l : List UInt8} : (unL u l).length ≤ l.length + 16700 := by
  have h1 := pfL_le (ss := u.ss) (th := u.th) (a := u.a) (x := u.x) (l := l)
  have h2 := smL_le (ss := u.us) (l := pfL u.ss u.th u.a u.x l ++ eI u.ep ++ lb 32 u.ro ++ tB (lb 64 u.sig) ++ lb 32 u.lo)
  unfold unL
  simp only [List.length_append, eI_len, lb_length, tB_len] at h2 ⊢
  omega
/-- a member -/
structure Mbr where
  id : List UInt8
  gone : Bool
  ep : Int
  li : Nat
abbrev mbF (m : Mbr) (iv : Value) : Array Value := agF [.c iv, .c (.bool m.gone), .c (.int .i64 m.ep), .a 32 m.li]
def mbL (m : Mbr) (l : List UInt8) : List UInt8 := txL 16 m.id l ++ [if m.gone then 1 else 0] ++ eI m.ep ++ lb 32 m.li
def mbB (m : Mbr) (bad : Bool) : Bool := txB 16 m.id bad
theorem mbL_le {m : Mbr} {l : List UInt8} : (mbL m l).length ≤ l.length + 59 := by
  have h2 := txL_le (most := 16) (m := 16) (t := m.id) (l := l) rfl
  unfold mbL
  simp only [List.length_append, eI_len, lb_length, List.length_cons, List.length_nil]
  omega
/-- a mark -/
structure Mrk where
  ep : Int
  ro : Nat
  li : Nat
def mkC (m : Mrk) : List Value := fcs [.c (.int .i64 m.ep), .a 32 m.ro, .a 32 m.li]
theorem mkC_len {ms : List Mrk} : ∀ e ∈ ms.map mkC, e.length = 65 := fun e he => by
  obtain ⟨y, _, rfl⟩ := List.mem_map.1 he
  unfold mkC; rw [fcs_len]; rfl
/-- marks that are read, as a thing -/
abbrev mkT (v : Value) (ms : List Mrk) : As := .p (fbR v (ms.map mkC)) (fun W => RR 65 W v (ms.map mkC))
def mkB (m : Mrk) : List UInt8 := eI m.ep ++ lb 32 m.ro ++ lb 32 m.li
theorem mkB_len (m : Mrk) : (mkB m).length = 72 := by unfold mkB; simp only [List.length_append, eI_len, lb_length]
/-- a version: its value lies somewhere -/
structure En where
  ep : Int
  ver : Int
  u : Value
  val : List UInt8
def enC (y : En) : List Value := fcs [.c (.int .i64 y.ep), .c (.int .i64 y.ver), .c y.u]
theorem enC_len {q : List En} : ∀ e ∈ q.map enC, e.length = 3 := fun e he => by
  obtain ⟨y, _, rfl⟩ := List.mem_map.1 he
  rfl
/-- the values of versions, as a thing -/
def enFt (q : List En) : List Nat := q.flatMap fun y => (sb y.u y.val).toList
def enK (q : List En) (W : World) : Prop := ∀ y ∈ q, Sl W y.u y.val
theorem enK_holds {q : List En} {w : World} (h : enK q w) : (As.p (enFt q) (enK q)).holds w := by
  refine ⟨h, fun k hk => ?_, fun W' _ e y hy => ?_⟩
  · obtain ⟨y, hy, h1⟩ := List.mem_flatMap.1 hk
    exact Sl.lt (h y hy) k (As.mem_toList h1)
  · exact sl_keep (h y hy) fun b hb => e b (List.mem_flatMap.2 ⟨y, hy, by rw [hb]; simp⟩)
/-- versions that are read -/
def EnR (v : Value) (q : List En) (W : World) : Prop := RR 3 W v (q.map enC) ∧ enK q W
abbrev enT (v : Value) (q : List En) : As := .p (fbR v (q.map enC) ++ enFt q) (EnR v q)
theorem enT_holds {v : Value} {q : List En} {w : World} (h : EnR v q w) : (enT v q).holds w := by
  have h1 := RR.pholds (by decide) enC_len h.1
  have h2 := enK_holds h.2
  exact ⟨h, fun k hk => (List.mem_append.1 hk).elim (h1.2.1 k) (h2.2.1 k), fun W' hs e => ⟨h1.2.2 W' hs fun k hk => e k (List.mem_append.2 (.inl hk)), h2.2.2 W' hs fun k hk => e k (List.mem_append.2 (.inr hk))⟩⟩
def enB (most : Int) (y : En) (l : List UInt8) : List UInt8 := txL most y.val (l ++ eI y.ep ++ eI y.ver)
/-- what rows of versions add to the bytes -/
def ensL : List En → List UInt8 → List UInt8
  | [], l => l
  | y :: q, l => ensL q (enB 64 y l)
def ensB : List En → Bool → Bool
  | [], b => b
  | y :: q, b => ensB q (txB 64 y.val b)
theorem ensL_snoc (q : List En) (y : En) (l : List UInt8) : ensL (q ++ [y]) l = enB 64 y (ensL q l) := by
  induction q generalizing l with
  | nil => rfl
  | cons x q ih => exact ih _
theorem ensB_snoc (q : List En) (y : En) (b : Bool) : ensB (q ++ [y]) b = txB 64 y.val (ensB q b) := by
  induction q generalizing b with
  | nil => rfl
  | cons x q ih => exact ih _
theorem ens_step {q : List En} {i : Nat} {y : En} (h : q[i]? = some y) (l : List UInt8) (b : Bool) : ensL (q.take (i + 1)) l = enB 64 y (ensL (q.take i) l) ∧ ensB (q.take (i + 1)) b = txB 64 y.val (ensB (q.take i) b) := by
  have e : q.take (i + 1) = q.take i ++ [y] := by rw [List.take_add_one, h]; rfl
  rw [e, ensL_snoc, ensB_snoc]; exact ⟨rfl, rfl⟩
theorem enB_le {y : En} {l : List UInt8} : (enB 64 y l).length ≤ l.length + 82 := by
  have h2 := txL_le (most := 64) (m := 64) (t := y.val) (l := l ++ eI y.ep ++ eI y.ver) rfl
  unfold enB
  simp only [List.length_append, eI_len] at h2
  omega
theorem ensL_le (q : List En) (l : List UInt8) : (ensL q l).length ≤ l.length + 82 * q.length := by
  induction q generalizing l with
  | nil => exact Nat.le_refl _
  | cons x q ih =>
    have h1 := ih (enB 64 x l)
    have h2 := enB_le (y := x) (l := l)
    rw [List.length_cons]
    show (ensL q (enB 64 x l)).length ≤ _
    omega
theorem eI_nat {n : Nat} (h : n < 18446744073709551616) : eI (n : Int) = be8 n := by
  unfold eI; congr 1; omega
/-- rows' bytes -/
def rwB (n : Nat) (bad : Bool) : Bool := if 1024 < n then true else bad
def mksL (ms : List Mrk) (l : List UInt8) : List UInt8 := if 1024 < ms.length then l else l ++ be8 ms.length ++ (ms.map mkB).flatten
def mksB (ms : List Mrk) (bad : Bool) : Bool := rwB ms.length bad
def esL (q : List En) (l : List UInt8) : List UInt8 := if 1024 < q.length then l else ensL q (l ++ be8 q.length)
def esB (q : List En) (bad : Bool) : Bool := if 1024 < q.length then true else ensB q bad
theorem flatm (ms : List Mrk) : (ms.map mkB).flatten.length = 72 * ms.length := by
  induction ms with
  | nil => rfl
  | cons s r ih => rw [List.map_cons, List.flatten_cons, List.length_append, ih, mkB_len, List.length_cons]; omega
theorem flatmt (ms : List Mrk) (i : Nat) : ((ms.map mkB).take i).flatten.length = 72 * min i ms.length := by rw [← List.map_take, flatm, List.length_take]
theorem flatm_snoc {ms : List Mrk} {i : Nat} {y : Mrk} (h : ms[i]? = some y) : ((ms.map mkB).take (i + 1)).flatten = ((ms.map mkB).take i).flatten ++ mkB y := by
  rw [List.take_add_one, List.getElem?_map, h, List.flatten_append]; simp
theorem flatm_step {ms : List Mrk} {i : Nat} {y : Mrk} (h : ms[i]? = some y) (l : List UInt8) : l ++ ((ms.map mkB).take (i + 1)).flatten = l ++ ((ms.map mkB).take i).flatten ++ eI y.ep ++ lb 32 y.ro ++ lb 32 y.li := by
  rw [flatm_snoc h]; unfold mkB; simp only [List.append_assoc]
theorem takem_all (ms : List Mrk) : (ms.map mkB).take ms.length = ms.map mkB := List.take_of_length_le (by simp)
theorem mksL_le {ms : List Mrk} {l : List UInt8} : (mksL ms l).length ≤ l.length + 73800 := by
  unfold mksL
  split
  · omega
  · simp only [List.length_append, flatm, be8_len]; omega
theorem esL_le {q : List En} {l : List UInt8} : (esL q l).length ≤ l.length + 84000 := by
  unfold esL
  split
  · omega
  · have := ensL_le q (l ++ be8 q.length)
    simp only [List.length_append, be8_len] at this; omega
end Go.Proofs.Ytlbgelbhhibikaa.Ww
namespace Go.Proofs.Ytlbgelbhhibikaa.SH
variable {F : List Nat} {w W : World} {H : List As} {i : Nat}
/-- bytes that a known fact looks at -/
theorem part {f : List Nat} {K : World → Prop} {u : Value} {l : List UInt8} (h : SH F w W H) (hi : H[i]? = some (.p f K)) (hs : Sl W u l) (hf : ∀ k, sb u l = some k → k ∈ f) : SH F w W (.s u l :: H) := by
  refine ⟨h.off, fun y hy => ?_, List.pairwise_cons.2 ⟨fun y hy => ⟨fun h => by (cases h), fun hm k hk hk' => ?_⟩, h.ap⟩, fun y hy hm k hk hlt => ?_⟩
  · rcases List.mem_cons.1 hy with rfl | hy
    · exact hs
    · exact h.all y hy
  · obtain ⟨j, hj⟩ := List.getElem?_of_mem hy
    have hn : j ≠ i := fun e => by subst e; rw [hi] at hj; obtain rfl := Option.some.inj hj; cases hm
    exact (h.ap2 hj hi hn).1 hm k hk (hf k (As.mem_toList hk'))
  · rcases List.mem_cons.1 hy with rfl | hy
    · cases hm
    · exact h.old y hy hm k hk hlt
end Go.Proofs.Ytlbgelbhhibikaa.SH

/- Lists of leaves: the document's Put, Side, Same; the laws' to, from, few, list. Conditions: keys and values have 256 bits. -/
import Derived.Test.YtndnlbinnhdmbaaDoorTsN
set_option linter.unusedSimpArgs false
set_option linter.unusedVariables false
namespace Go.Proofs.YtndnlbinnhdmbaaDoor
set_option maxRecDepth 100000
open Go.RowKit
attribute [local irreducible] wpList wpTr wpX
set_option linter.unusedSimpArgs false
theorem RR.op {w : World} {u : Value} {ls : List Lf} (h : RR 64 w u (ls.map lfl)) : ∃ A c, u = .slice A ls.length c ∧ ls.length ≤ c ∧ Hid (∀ (j : Nat) (x : Lf), ls[j]? = some x → ∃ g o, A = some ⟨g, o, none⟩ ∧ ∀ (i : Nat) (v : Value), (lfl x)[i]? = some v → w.cell? ⟨g, o + j * 64 + i, none⟩ = some v) := by
 obtain ⟨A, c, h1, h2, _, h3⟩ := h
 rw [List.length_map] at h1 h2
 exact ⟨A, c, h1, h2, Lib.hid fun j x hj => h3 j (lfl x) (by rw [List.getElem?_map, hj]; rfl)⟩
theorem lfl_all {ls : List Lf} : ∀ e ∈ ls.map lfl, e.length = 64 ∧ ∀ x ∈ e, x.oneCell' = true := fun e he => by
 obtain ⟨y, _, rfl⟩ := List.mem_map.1 he
 exact ⟨by show (lf y.1 y.2).toList.length = 64; rw [Array.length_toList]; exact lf_size, fun x hx => Array.all_eq_true_iff_forall_mem.1 (lf_one (k := y.1) (v := y.2)) x (by simpa using hx)⟩
/-- the call hands back a row of its own; nothing old has turned -/
def RRet (t : TypeId) (ls : List Lf) (w w' : World) (e : Ending) : Prop := ∃ u, e = .returned u ∧ SH [] w w' [.r t 64 u (ls.map lfl)]
theorem rcall {f : FuncId} {args : Array Value} {F : List Nat} {w W : World} {H : List As} {t : TypeId} {ls : List Lf} (hS : SH F w W H) (hc : Calls Tryd.prog f args W fun e W' => RRet t ls W W' e) (ht : H.all (SH.tyOk (.r t 64 undef [])) = true) :
  Calls Tryd.prog f args W fun e W' => ∃ u, e = .returned u ∧ SH F w W' (.r t 64 u (ls.map lfl) :: H) :=
 hc.mono fun e W' ⟨u, h1, h2⟩ => ⟨u, h1, SH.frame (L := []) (L' := [.r t 64 u (ls.map lfl)]) (R := H) hS h2 ⟨.inr ⟨rfl, ht⟩, trivial⟩⟩
theorem fields_step {P : Program} {d : Nat} {xs ys : Array Value} {w : World} {f : Field} {fs : List Field} {a b : Value} {r : Bool} (hn : f.name ≠ "_") (h1 : (part f.type xs f.offset).run P w = .ok a w) (h2 : (part f.type ys f.offset).run P w = .ok b w) (h3 : (Op.equalIn d f.type a b).run P w = .ok r w) :
  (Op.eqFields d xs ys (f :: fs)).run P w = if r = true then (Op.eqFields d xs ys fs).run P w else .ok false w := by
 rw [Op.eqFields, if_pos hn]
 cases r with
 | true => rw [if_pos rfl]; simp only [Sem.run_bind, h1, h2, h3, Result.andThen_ok, Bool.not_true, Bool.false_eq_true, if_false]
 | false => rw [if_neg (by decide)]; simp only [Sem.run_bind, h1, h2, h3, Result.andThen_ok, Bool.not_false, if_true, Sem.run_pure]
theorem part_arr {P : Program} (w : World) (t n e : Nat) (xs : Array Value) (off : Nat) (ht : P.underlying t = some (.array n e)) (hs : (P.info? t).map (·.size) = some n) (ho : off + n ≤ xs.size) : (part t xs off).run P w = .ok (.agg (xs.extract off (off + n))) w := by
 have h1 : (isAgg t).run P w = .ok true w := by
  unfold isAgg; rw [Sem.run_bind, run_underlying ht w]; rfl
 cases hq : P.info? t with
 | none => simp [hq] at hs
 | some i =>
  have hsz : i.size = n := by simpa [hq] using hs
  simp [part, Sem.run_bind, h1, sizeOf, typeInfo, hq, hsz, ho]
theorem eqB (d : Nat) (A B : Nat) (hA : A < 2 ^ 256) (hB : B < 2 ^ 256) (xs ys : Array Value) (hx : ∀ i, i < 32 → xs[i]? = some (.int .u8 (byt A i))) (hy : ∀ i, i < 32 → ys[i]? = some (.int .u8 (byt B i))) (w : World) : (Op.equalIn (d + 2) 22 (.agg xs) (.agg ys)).run Tryd.prog w = .ok (decide (A = B)) w := by
 rw [run_equalIn_arr (P := Tryd.prog) w d 22 5 32 .u8 xs ys (byt A) (byt B) Tryd.underlying22 Tryd.underlying5 (by kernel_rfl) hx hy]
 congr 1
 rw [Bool.eq_iff_iff, eqArr_true, decide_eq_true_iff]
 exact ⟨byt_inj hA hB, fun h => by subst h; intro _ _; rfl⟩
theorem ext_k {k v : Nat} : ∀ i, i < 32 → ((lf k v).extract 0 (0 + 32))[i]? = some (.int .u8 (byt k i)) := fun i hi => by
 rw [Array.getElem?_extract]; simp only [lf_size]
 rw [if_pos (by omega)]; exact lf_k i _ (arrK_get _ _ _ _ hi)
theorem ext_v {k v : Nat} : ∀ i, i < 32 → ((lf k v).extract 32 (32 + 32))[i]? = some (.int .u8 (byt v i)) := fun i hi => by
 rw [Array.getElem?_extract]; simp only [lf_size]
 rw [if_pos (by omega)]; exact lf_v i _ (arrK_get _ _ _ _ hi)
theorem eqRL (x y : Lf) (hx : x.1 < 2 ^ 256 ∧ x.2 < 2 ^ 256) (hy : y.1 < 2 ^ 256 ∧ y.2 < 2 ^ 256) (w : World) : (Op.equalIn 10000 24 (.agg (lf x.1 x.2)) (.agg (lf y.1 y.2))).run Tryd.prog w = .ok (decide (x = y)) w := by
 have hu := Tryd.underlying24
 have hf : Tryd.prog.fieldsOf 24 = (match Tryd.prog.underlying 24 with | some (.struct fs) => fs | _ => #[]) := rfl
 rw [hu] at hf
 rw [run_equalIn_struct w 9999 24 _ _ (by rw [hf]; exact hu) (by kernel_rfl), hf]
 have p1 := fun k v => part_arr (P := Tryd.prog) w 22 32 5 (lf k v) 0 Tryd.underlying22 (by kernel_rfl) (by rw [lf_size]; decide)
 have p2 := fun k v => part_arr (P := Tryd.prog) w 22 32 5 (lf k v) 32 Tryd.underlying22 (by kernel_rfl) (by rw [lf_size]; decide)
 refine (fields_step (by decide) (p1 _ _) (p1 _ _) (eqB 9997 x.1 y.1 hx.1 hy.1 _ _ ext_k ext_k w)).trans ?_
 by_cases h : x.1 = y.1
 ·
  rw [if_pos (decide_eq_true h)]
  refine (fields_step (by decide) (p2 _ _) (p2 _ _) (eqB 9997 x.2 y.2 hx.2 hy.2 _ _ ext_v ext_v w)).trans ?_
  by_cases h2 : x.2 = y.2
  ·
   rw [if_pos (decide_eq_true h2), decide_eq_true (Prod.ext h h2)]; simp [Op.eqFields]
  ·
   rw [if_neg (by simp [h2]), decide_eq_false fun e => h2 (by rw [e])]
 ·
  rw [if_neg (by simp [h]), decide_eq_false fun e => h (by rw [e])]

end Go.Proofs.YtndnlbinnhdmbaaDoor

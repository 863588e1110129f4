/- What CodecBack needs: the parts that are written, reading any kind, '==' of a part and itself. No conditions. -/
import Derived.Test.YteniajdmmffamaaCdU
import Derived.Test.YteniajdmmffamaaGr
import Derived.Test.YteniajdmmffamaaEq
import Derived.Laws.StructEq
namespace Go.Proofs.Yteniajdmmffamaa
set_option linter.unusedSimpArgs false
set_option linter.unusedVariables false
open Go.RowKit

/-- the parts that are parts, of the first k -/
def gs (ps : List Pt) (k : Nat) : List Pt := (ps.take k).filter fun q => partOk q.kind q.N
def fB (G : List Pt) : List UInt8 := G.flatMap ptB
def eP (q : Pt) : List Value := (partC (q.kind : Int) q.N q.S q.text).toList
def eS (G : List Pt) : List (List Value) := G.map eP
theorem gs_yes {ps : List Pt} {k : Nat} {q : Pt} (h : ps[k]? = some q) (hk : partOk q.kind q.N = true) : gs ps (k + 1) = gs ps k ++ [q] := by
  unfold gs; rw [List.take_add_one, h]; simp [hk]
theorem gs_no {ps : List Pt} {k : Nat} {q : Pt} (h : ps[k]? = some q) (hk : ¬ partOk q.kind q.N = true) : gs ps (k + 1) = gs ps k := by
  unfold gs; rw [List.take_add_one, h]; simp [hk]
theorem gs_len (ps : List Pt) (k : Nat) : (gs ps k).length ≤ k := by
  unfold gs
  refine Nat.le_trans (List.length_filter_le _ _) ?_
  rw [List.length_take]; omega
theorem gs_ok {ps : List Pt} {k : Nat} : ∀ q ∈ gs ps k, partOk q.kind q.N = true := fun q h => (List.mem_filter.1 h).2
theorem fB_len (G : List Pt) : (fB G).length ≤ 302 * G.length := by
  induction G with
  | nil => simp [fB]
  | cons q G ih =>
    have h := ptB_len q
    show (ptB q ++ fB G).length ≤ _
    rw [List.length_append, List.length_cons]; omega
theorem fB_snoc (G : List Pt) (q : Pt) : fB (G ++ [q]) = fB G ++ ptB q := by simp [fB]
theorem eS_snoc (G : List Pt) (q : Pt) : eS (G ++ [q]) = eS G ++ [eP q] := by simp [eS]
theorem eS_len (G : List Pt) : (eS G).length = G.length := by simp [eS]
theorem eS_at {G : List Pt} {j : Nat} {q : Pt} (h : G[j]? = some q) : (eS G)[j]? = some (eP q) := by simp [eS, h]
theorem fB_drop {G : List Pt} {j : Nat} {q : Pt} (h : G[j]? = some q) : fB (G.drop j) = ptB q ++ fB (G.drop (j + 1)) := by
  have hl := (List.getElem?_eq_some_iff.1 h).1
  rw [List.drop_eq_getElem_cons hl]
  have : G[j] = q := by rw [List.getElem?_eq_getElem hl] at h; exact Option.some.inj h
  rw [this]; rfl
theorem fB_drop_len (G : List Pt) (j : Nat) : (fB (G.drop j)).length ≤ 302 * G.length := by
  refine Nat.le_trans (fB_len _) (Nat.mul_le_mul_left _ ?_)
  rw [List.length_drop]; omega
theorem tame_q (q : Pt) (w : World) : Calls Try.prog 9 #[.agg (partC q.K q.N q.S q.T)] w fun e w' => Ret (.agg (partC (q.kind : Int) q.N q.S q.text)) w w' e :=
  tame_c q.K q.N (q.K % 18446744073709551616).toNat (by omega) q.S q.T q.hS w
theorem rwrite_q (q : Pt) (b : Bool) (hb : partOk q.kind q.N = b) (w : World) : Calls Try.prog 11 #[.agg (partC (q.kind : Int) q.N q.S q.text)] w fun e w' => Ret (.tuple #[str (ptB q), .bool b]) w w' e := by
  subst hb
  exact rwrite_c q.kind q.N q.S q.text q.hS q.kind_ok (by have := q.text_len; omega) w
theorem write_q (q : Pt) (hb : partOk q.kind q.N = true) (p : Nat) (v : Value) (l : List UInt8) (w : World) (hwr : Wr w p v l false) (hl : l.length < 140737488000000) :
    Calls Try.prog 10 #[.pointer (some ⟨p, 0, none⟩), .agg (partC (q.kind : Int) q.N q.S q.text)] w fun e w' => e = .returned (.tuple #[]) ∧ ∃ v', WrTo w p v (l ++ ptB q) false v' w' := by
  have h := write_c q.kind q.N q.S q.text q.hS q.kind_ok (by have := q.text_len; omega) p v l false w hwr hl
  rw [hb] at h
  exact h
/-- a part of any kind is read -/
theorem next_q (q : Pt) (hb : partOk q.kind q.N = true) (p : Nat) (v : Value) (r : List UInt8) (w : World) (hrd : Rdr w p v (ptB q ++ r) 0) (hl : (ptB q ++ r).length < 140737488000000) :
    Calls Try.prog 17 #[.pointer (some ⟨p, 0, none⟩), .int .i64 (q.kind : Int), .int .i64 300] w fun e w' => e = .returned (.agg (partW q.kind q.N q.S q.text)) ∧ ∃ v', RdTo w p v (ptB q ++ r) r 0 v' w' := by
  have hk := q.kind_ok
  have hT := q.text_len
  have hN := q.hN
  have hS := q.hS
  unfold ptB at *
  generalize q.kind = K at *
  generalize q.text = T at *
  generalize q.N = N at *
  generalize q.S = S at *
  have : K = 1 ∨ K = 2 ∨ K = 3 ∨ K = 4 ∨ K = 5 := by omega
  rcases this with rfl | rfl | rfl | rfl | rfl
  · have hN2 : 0 ≤ N ∧ N ≤ 255 := by simpa [partOk] using hb
    have e : partB 1 N S T = [u8 N.toNat] := by unfold partB; rw [if_pos rfl, if_pos hN2]
    have e2 : ((u8 N.toNat).toNat : Int) = N := by rw [u8_cast]; omega
    rw [e] at hrd hl ⊢
    have h := next_1 p v 300 r (u8 N.toNat) w hrd hl
    rw [e2] at h
    exact h
  · have hm : N % 2 = 0 ∨ N % 2 = 1 := by omega
    have e : partB 2 N S T = [u8 (N % 2).toNat] := by unfold partB; rw [if_neg (by decide), if_pos rfl]
    rw [e] at hrd hl ⊢
    have hW : partW 2 N S T = partC 2 (N % 2) (List.replicate 32 0) [] := rfl
    rw [hW]
    rcases hm with h0 | h0
    · rw [h0] at hrd hl ⊢; exact next_20 p v 300 r w hrd hl
    · rw [h0] at hrd hl ⊢; exact next_21 p v 300 r w hrd hl
  · have e : partB 3 N S T = be8 (N % 18446744073709551616).toNat := by unfold partB; rw [if_neg (by decide), if_neg (by decide), if_pos rfl]
    rw [e] at hrd hl ⊢
    have h := next_3 p v 300 r (N % 18446744073709551616).toNat (by omega) w hrd hl
    have e2 : IntKind.wrap .i64 (((N % 18446744073709551616).toNat : Nat) : Int) = N := by rw [IntKind.wrap_i64]; omega
    rw [e2] at h
    exact h
  · have e : partB 4 N S T = S := by unfold partB; rw [if_neg (by decide), if_neg (by decide), if_neg (by decide), if_pos rfl]
    rw [e] at hrd hl ⊢
    exact next_4 p v 300 r S hS w hrd hl
  · have e : partB 5 N S T ++ r = u8 (T.length / 256) :: u8 T.length :: (T ++ r) := by unfold partB; rw [if_neg (by decide), if_neg (by decide), if_neg (by decide), if_neg (by decide)]; simp
    rw [e] at hrd hl ⊢
    exact next_5 p v 300 r T.length T rfl (by omega) (by omega) w hrd hl
/-! ### '==' of a part and itself -/
theorem fields_self {P : Program} (d : Nat) (xs : Array Value) (w : World) : ∀ (fs : List Field), (∀ f ∈ fs, ∃ v, (part f.type xs f.offset).run P w = .ok v w ∧ (Op.equalIn d f.type v v).run P w = .ok true w) → (Op.eqFields d xs xs fs).run P w = .ok true w
  | [], _ => by simp [Op.eqFields]
  | f :: fs, h => by
    obtain ⟨v, h1, h2⟩ := h f (by simp)
    have ih := fields_self d xs w fs (fun g hg => h g (by simp [hg]))
    unfold Op.eqFields
    split
    · simp [Sem.run_bind, h1, h2, ih]
    · exact ih
theorem part_arr {P : Program} (w : World) (t n e : Nat) (xs : Array Value) (off : Nat) (ht : P.underlying t = some (.array n e)) (hs : (P.info? t).map (·.size) = some n) (ho : off + n ≤ xs.size) : (part t xs off).run P w = .ok (.agg (xs.extract off (off + n))) w := by
  have h1 : (isAgg t).run P w = .ok true w := by
    unfold isAgg; rw [Sem.run_bind, run_underlying ht w]; rfl
  cases hq : P.info? t with
  | none => simp [hq] at hs
  | some i =>
    have hsz : i.size = n := by simpa [hq] using hs
    simp [part, Sem.run_bind, h1, sizeOf, typeInfo, hq, hsz, ho]
theorem partC_self (K N : Int) (S T : List UInt8) (hS : S.length = 32) (w : World) : (Op.equalIn 10000 34 (.agg (partC K N S T)) (.agg (partC K N S T))).run Try.prog w = .ok true w := by
  have hu := Try.underlying34
  have hf : Try.prog.fieldsOf 34 = (match Try.prog.underlying 34 with | some (.struct fs) => fs | _ => #[]) := rfl
  rw [hu] at hf
  rw [run_equalIn_struct w 9999 34 _ _ (by rw [hf]; exact hu) (by kernel_rfl)]
  refine fields_self 9999 _ w _ ?_
  rw [hf]
  intro f hm
  simp only [List.mem_cons, List.not_mem_nil, or_false] at hm
  have hsz := partC_size (K := K) (N := N) (T := T) hS
  rcases hm with rfl | rfl | rfl | rfl
  · exact ⟨.int .i64 K, run_part_int w _ .i64 Try.underlying3 _ _ _ rfl, by rw [run_equalIn_int w 9998 _ .i64 .i64 K K Try.underlying3]; simp⟩
  · exact ⟨.int .i64 N, run_part_int w _ .i64 Try.underlying3 _ _ _ rfl, by rw [run_equalIn_int w 9998 _ .i64 .i64 N N Try.underlying3]; simp⟩
  · refine ⟨_, part_arr w _ 32 5 _ _ Try.underlying32 (by kernel_rfl) (by rw [hsz]; decide), ?_⟩
    have hg : ∀ i, i < 32 → ((partC K N S T).extract 2 (2 + 32))[i]? = some (.int .u8 (bt S i)) := by
      intro i hi
      have := partC_sum K N S T i (.int .u8 (bt S i)) (bs8_get (getD_some (by omega)))
      rw [Array.getElem?_extract]
      simp [hsz, hi]
      exact this
    have h := run_equalIn_arr (P := Try.prog) w 9997 32 5 32 .u8 _ _ (bt S) (bt S) Try.underlying32 Try.underlying5 (by kernel_rfl) hg hg
    rw [(eqArr_true 32 (bt S) (bt S)).2 fun _ _ => rfl] at h
    exact h
  · refine ⟨str T, ?_, ?_⟩
    · have h1 : (isAgg 9).run Try.prog w = .ok false w := by
        unfold isAgg; rw [Sem.run_bind, run_underlying Try.underlying9 w]; rfl
      have h2 := partC_text K N S T hS
      simp [part, Sem.run_bind, h1, h2]
    · unfold str
      rw [run_equalIn_string w 9998 _ _ _ Try.underlying9]
      simp
end Go.Proofs.Yteniajdmmffamaa

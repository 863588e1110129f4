/- Trees of leaves; whether a tree of one leaf has its sum; TreeSums. Conditions: the tables hold their numbers; the keys and values have 256 bits. Trees, the plain law: the tree of leaves is that of the leaves in order, however they are put. No conditions. -/
import Derived.Test.YtndnlbinnhdmbaaDoorTsF
import Derived.Test.YtndnlbinnhdmbaaDoorJ7
set_option linter.unusedSimpArgs false
set_option linter.unusedVariables false
namespace Go.Proofs.YtndnlbinnhdmbaaDoor
set_option maxHeartbeats 3000000
set_option maxRecDepth 100000
open Go.RowKit
attribute [local irreducible] wpList wpTr wpX
set_option linter.unusedSimpArgs false
abbrev lfl (x : Nat × Nat) : List Value := (lf x.1 x.2).toList
/-- the tree of leaves -/
def ofT (ls : List (Nat × Nat)) : TR := ls.foldl (fun T x => putT x.1 x.2 T 0) .nil
theorem ofT_snoc (ls : List (Nat × Nat)) (x : Nat × Nat) : ofT (ls ++ [x]) = putT x.1 x.2 (ofT ls) 0 := by unfold ofT; rw [List.foldl_append]; rfl
theorem ofT_take {ls : List (Nat × Nat)} {i : Nat} {x : Nat × Nat} (h : ls[i]? = some x) : ofT (ls.take (i + 1)) = putT x.1 x.2 (ofT (ls.take i)) 0 := by
 rw [List.take_add_one, h]; exact ofT_snoc _ _
theorem chain_tsz (K d : Nat) : ∀ (m : Nat) (T : TR), tsz (chain K d m T) ≤ m + tsz T
 | 0, T => by show tsz T ≤ 0 + tsz T; omega
 | m + 1, T => by
  unfold chain
  split
  ·
   refine Nat.le_trans (chain_tsz K d m _) ?_
   split
   ·
    show m + (1 + tsz T + 0) ≤ _; omega
   ·
    show m + (1 + 0 + tsz T) ≤ _; omega
  ·
   omega
theorem partT_tsz (a x b y d : Nat) : tsz (partT a x b y d) ≤ 259 := by
 have h := kcom_le (byt a) (byt b)
 unfold partT
 split
 ·
  refine Nat.le_trans (chain_tsz _ _ _ _) ?_; show _ + (1 + 1 + 1) ≤ 259; omega
 ·
  refine Nat.le_trans (chain_tsz _ _ _ _) ?_; show _ + (1 + 1 + 1) ≤ 259; omega
theorem putT_tsz (k v : Nat) : ∀ (T : TR) (d : Nat), tsz (putT k v T d) ≤ tsz T + 260
 | .nil, _ => by show 1 ≤ 0 + 260; omega
 | .leaf a x, d => by
  show tsz (if a = k then TR.leaf k v else partT a x k v d) ≤ 1 + 260
  split
  ·
   show 1 ≤ 261; omega
  ·
   have := partT_tsz a x k v d; omega
 | .node e l r, d => by
  have h1 := putT_tsz k v l (d + 1)
  have h2 := putT_tsz k v r (d + 1)
  show tsz (if kb k d = 0 then TR.node d (putT k v l (d + 1)) r else TR.node d l (putT k v r (d + 1))) ≤ 1 + tsz l + tsz r + 260
  split
  ·
   show 1 + tsz (putT k v l (d + 1)) + tsz r ≤ _; omega
  ·
   show 1 + tsz l + tsz (putT k v r (d + 1)) ≤ _; omega
theorem ofT_le : ∀ (n : Nat) (ls : List (Nat × Nat)), tsz (ofT (ls.take n)) ≤ 260 * n ∧ cnt (ofT (ls.take n)) ≤ n
 | 0, ls => by rw [List.take_zero]; exact ⟨Nat.le_refl _, Nat.le_refl _⟩
 | n + 1, ls => by
  have ih := ofT_le n ls
  cases h : ls[n]? with
  | none => rw [List.take_add_one, h]; simp only [Option.toList_none, List.append_nil]; omega
  | some x =>
   rw [ofT_take h]
   have h1 := putT_tsz x.1 x.2 (ofT (ls.take n)) 0
   have h2 := putT_cnt x.1 x.2 (ofT (ls.take n)) 0
   omega
/-- keys and values of 256 bits -/
def okL256 (ls : List (Nat × Nat)) : Prop := ∀ (i : Nat) (x : Nat × Nat), ls[i]? = some x → x.1 < 2 ^ 256 ∧ x.2 < 2 ^ 256
theorem eqS32 {A B : Nat} (h : A = B) (w : World) : (Op.equalIn 10000 22 (.agg (arrK .u8 32 (byt A))) (.agg (arrK .u8 32 (byt B)))).run Tryd.prog w = .ok true w := by
 subst h
 rw [run_equalIn_arr (P := Tryd.prog) w 9998 22 5 32 .u8 (arrK .u8 32 (byt A)) (arrK .u8 32 (byt A)) (byt A) (byt A) Tryd.underlying22 Tryd.underlying5 (by kernel_rfl) (fun i hi => arrK_get _ _ _ _ hi) (fun i hi => arrK_get _ _ _ _ hi)]
 rw [(eqArr_true _ _ _).2 fun _ _ => rfl]
attribute [local irreducible] hs4 sE sL sN

theorem Put_c {q : Prop} {k v : Nat} (hk : k < 2 ^ 256) (hv : v < 2 ^ 256) {T : TR} {u : Value} (hz : tsz T < 4611686018427387904) (hcn : cnt T < 2305843009213693952) (w : World) (hG : GT q w) (h : TA w T u) :
  Calls Tryd.prog 24 #[u, .agg (lf k v)] w fun e w' => TRet (putT k v T 0) w w' e := by
 have hS := SH.nil [] w
 go_enter Tryd.func24, Tryd.ntmps24
 go_upto_region 0 with fail
 refine RL hS ?_
 clear hS
 refine MN (z := lf k v) (t := 30) ?_
 intro p3_1
 refine MV ?_
 refine MZ fun W hS => ?_
 go_upto_region 1 with fail
 refine RL hS ?_
 clear hS
 refine MV ?_
 refine ML 0 ?_ (hs := by rw [lf_size]; kernel_rfl)
 refine ME (fun W hS => tcall hS (put_c hk hv 0 (by omega) hcn W (GT_ext hG hS.ext) (TA.ext h hS.ext)) rfl) ?_
 intro u_tq2
 refine MV ?_
 refine MZ fun W hS => ?_
 go_wp2
 exact bodyPost_ret (v := u_tq2) (by simp only [results, Tryd.results24]; go_simp) rfl ⟨_, rfl, hS.ext, (by exact hS.tt (i := 0) rfl)⟩
theorem of_c {q : Prop} {ls : List (Nat × Nat)} (hls : okL256 ls) (hn : ls.length ≤ 1099511627776) {A : Option Addr} {c : Nat} (w : World) (hG : GT q w) (h : ∀ (j : Nat) (e : List Value), (ls.map lfl)[j]? = some e → ∃ g o, A = some ⟨g, o, none⟩ ∧ ∀ (i : Nat) (x : Value), e[i]? = some x → w.cell? ⟨g, o + j * 64 + i, none⟩ = some x) :
  Calls Tryd.prog 23 #[.slice A ls.length c] w fun e w' => TRet (ofT ls) w w' e := by
 have HR := Lib.hid h
 clear h
 have hS := SH.nil [] w
 go_enter Tryd.func23, Tryd.ntmps23
 go_upto_region 2 with fail
 refine RL hS ?_
 clear hS
 refine MV ?_
 refine MV ?_
 refine MW ?_ (v := .int .i64 0)
 refine MZ fun W hS => ?_
 have hS := hS.fact (TA.holds (show TA _ (ofT (List.take 0 ls)) nlp from rfl)) rfl
 go_wp2_with fail
 go_loopw [3, 8] (fun uv ii wr => ∃ (i : Nat) (u : Value), (i ≤ ls.length) ∧ (u = uv) ∧ (ii = .int .i64 (i : Int)) ∧ SH [] w wr [.t 105 (fun W => TA W (ofT (List.take i ls)) u)])
  (fun uv ii _ => ls.length - (intOf ii).toNat)
 case atStart => exact ⟨0, nlp, Nat.zero_le _, rfl, rfl, hS⟩
 clear hS
 case round =>
  obtain ⟨i, u, hi, rfl, rfl, hS⟩ := hrel
  have hle := ofT_le i ls
  by_cases hlt : i < ls.length
  ·
   have _f := hlt
   obtain ⟨x, hx_⟩ : ∃ x, ls[i]? = some x := ⟨_, List.getElem?_eq_getElem hlt⟩
   obtain ⟨g_, o_, hA0, hc_⟩ := HR.out i (lfl x) (by rw [List.getElem?_map, hx_]; rfl)
   have hA_ := Lib.hid hA0
   clear hA0
   have hkv := hls i x hx_
   go_upto_region 3 with fail
   refine RL hS ?_
   clear hS
   refine MW ?_ (v := .bool true)
   refine MZ fun W hS => ?_
   go_upto_region 4 with fail
   refine RL hS ?_
   clear hS
   refine MW ?_ (v := .pointer (some ⟨g_, o_ + i * 64, none⟩)) (hv := fun _ => run_ixRA hA_.out hlt rfl rfl rfl Tryd.underlying40 (by kernel_rfl))
   refine MF (v := .agg (lf x.1 x.2)) (fun W hS => run_atsub rfl rfl (fun i_ v hv => cell_ext (hc_ i_ v (by simpa using hv)) hS.ext) (by kernel_rfl) (by rw [lf_size]; kernel_rfl)) ?_
   refine MN (z := lf 0 0) (t := 30) ?_
   intro p5_1
   refine MR 0 ?_ (hz := by rw [lf_size]; kernel_rfl) (hs := by first | rw [lf_size, lf_size] | rw [lf_size] | kernel_rfl) (h1 := lf_one)
   refine MZ fun W hS => ?_
   go_upto_region 5 with fail
   refine RL hS ?_
   clear hS
   refine MV ?_
   refine ML 0 ?_ (hs := by rw [lf_size]; kernel_rfl)
   refine ME (fun W hS => tcall hS (Put_c hkv.1 hkv.2 (by omega) (by omega) W (GT_ext hG hS.ext) (hS.tt (i := 1) rfl)) rfl) ?_
   intro u_tq2
   refine MV ?_
   refine MZ fun W hS => ?_
   go_wp2
   go_roundw
   case rel => exact ⟨i + 1, u_tq2, by omega, rfl, by go_num, (by rw [ofT_take hx_]; exact (hS.pick [0]))⟩
   case measure => simp [intOf]; omega
  ·
   have _f := hlt
   obtain rfl : i = ls.length := by omega
   rw [List.take_length] at hS
   go_upto_region 3 with fail
   refine RL hS ?_
   clear hS
   refine MW ?_ (v := .bool false)
   refine MZ fun W hS => ?_
   go_wp2
   exact bodyPost_ret (v := u) (by simp only [results, Tryd.results23]; go_simp) rfl ⟨_, rfl, hS.ext, hS.tt (i := 0) rfl⟩
end Go.Proofs.YtndnlbinnhdmbaaDoor

set_option linter.unusedSimpArgs false
set_option linter.unusedVariables false
namespace Go.Proofs.YtndnlbinnhdmbaaDoor
/-- the document's order -/
def kl (a b : Nat) : Bool := kless (byt a) (byt b)
theorem kb_kbit {a b i : Nat} (h : i < 256) : kb a i = kb b i ↔ kbit (byt a) i = kbit (byt b) i := by
  rw [← kb_cast h, ← kb_cast h]; omega
theorem kcom_spec (a b : Nat) : (∀ i, i < kcom (byt a) (byt b) → kb a i = kb b i) ∧ (kcom (byt a) (byt b) < 256 → kb a (kcom (byt a) (byt b)) ≠ kb b (kcom (byt a) (byt b))) := by
  have key : ∀ n i, n + i = 256 → (∀ j, j < i → kb a j = kb b j) → (∀ j, j < kcomF (byt a) (byt b) (256 - i) i → kb a j = kb b j) ∧ (kcomF (byt a) (byt b) (256 - i) i < 256 → kb a (kcomF (byt a) (byt b) (256 - i) i) ≠ kb b (kcomF (byt a) (byt b) (256 - i) i)) := by
    intro n
    induction n with
    | zero =>
      intro i hi h
      obtain rfl : i = 256 := by omega
      exact ⟨h, fun h1 => absurd h1 (by show ¬ 256 < 256; omega)⟩
    | succ n ih =>
      intro i hi h
      rw [kcom_step (by omega)]
      split
      · rename_i he
        exact ih (i + 1) (by omega) fun j hj => by
          rcases Nat.lt_succ_iff_lt_or_eq.1 hj with hj | rfl
          · exact h j hj
          · exact (kb_kbit (by omega)).2 he
      · rename_i he
        exact ⟨h, fun h1 => fun h2 => he ((kb_kbit h1).1 h2)⟩
  exact key 256 0 rfl (fun j hj => absurd hj (Nat.not_lt_zero _))
theorem kcom_eq {a b m : Nat} (hm : m ≤ 256) (hlt : ∀ i, i < m → kb a i = kb b i) (he : m < 256 → kb a m ≠ kb b m) : kcom (byt a) (byt b) = m :=
  kcom_at hm (fun i hi => (kb_kbit (by omega)).1 (hlt i hi)) fun h => fun h2 => he h ((kb_kbit h).2 h2)
theorem kcom_symm (a b : Nat) : kcom (byt a) (byt b) = kcom (byt b) (byt a) := by
  obtain ⟨h1, h2⟩ := kcom_spec b a
  exact kcom_eq (kcom_le _ _) (fun i hi => (h1 i hi).symm) fun h => (h2 h).symm
theorem kl_iff {a b : Nat} : kl a b = true ↔ kcom (byt a) (byt b) < 256 ∧ kb a (kcom (byt a) (byt b)) = 0 := by
  unfold kl kless
  simp only [Bool.and_eq_true, decide_eq_true_eq]
  constructor
  · rintro ⟨h1, h2⟩; exact ⟨h1, by have := kb_cast (k := a) h1; omega⟩
  · rintro ⟨h1, h2⟩; exact ⟨h1, by have := kb_cast (k := a) h1; omega⟩
theorem kl_bit {a b : Nat} (h : kl a b = true) : kb b (kcom (byt a) (byt b)) = 1 := by
  obtain ⟨h1, h2⟩ := kl_iff.1 h
  have h3 := (kcom_spec a b).2 h1
  have := kb_le b (kcom (byt a) (byt b))
  omega
theorem kl_irr (a : Nat) : kl a a = false := by
  cases h : kl a a with
  | false => rfl
  | true => have h1 := kl_iff.1 h; exact absurd rfl ((kcom_spec a a).2 h1.1)
theorem kl_trans {a b c : Nat} (h1 : kl a b = true) (h2 : kl b c = true) : kl a c = true := by
  obtain ⟨p1, p2⟩ := kl_iff.1 h1
  obtain ⟨q1, q2⟩ := kl_iff.1 h2
  have p3 := kl_bit h1
  have q3 := kl_bit h2
  have sa := (kcom_spec a b).1
  have sb := (kcom_spec b c).1
  generalize kcom (byt a) (byt b) = m at *
  generalize kcom (byt b) (byt c) = n at *
  rcases Nat.lt_trichotomy m n with h | h | h
  · have e : kcom (byt a) (byt c) = m := kcom_eq (by omega) (fun i hi => (sa i hi).trans (sb i (by omega))) fun _ => by rw [p2, ← sb m h, p3]; decide
    exact kl_iff.2 (by rw [e]; exact ⟨p1, p2⟩)
  · subst h; omega
  · have e : kcom (byt a) (byt c) = n := kcom_eq (by omega) (fun i hi => (sa i (by omega)).trans (sb i hi)) fun _ => by rw [sa n h, q2, q3]; decide
    exact kl_iff.2 (by rw [e]; exact ⟨q1, by rw [sa n h, q2]⟩)
theorem kl_total {a b : Nat} (ha : a < 2 ^ 256) (hb : b < 2 ^ 256) (hne : a ≠ b) (h : kl a b = false) : kl b a = true := by
  have h1 := kcom_lt ha hb hne
  have h2 := (kcom_spec a b).2 h1
  have h3 : kb a (kcom (byt a) (byt b)) ≠ 0 := fun e => by rw [kl_iff.2 ⟨h1, e⟩] at h; cases h
  have h4 := kb_le a (kcom (byt a) (byt b))
  have h5 := kb_le b (kcom (byt a) (byt b))
  have h6 : kb b (kcom (byt a) (byt b)) = 0 := by omega
  exact kl_iff.2 (by rw [kcom_symm b a]; exact ⟨h1, h6⟩)
/-! ### Lists of leaves, by the document -/
abbrev Lf := Nat × Nat
def rputF (x : Lf) : Bool → List Lf → List Lf
  | done, [] => if done = true then [] else [x]
  | done, y :: r => (if done = false ∧ kl y.1 x.1 = false then [x] else []) ++ ((if y.1 = x.1 then [] else [y]) ++ rputF x (done || !kl y.1 x.1) r)
def rput (l : List Lf) (x : Lf) : List Lf := rputF x false l
def rlist (ls : List Lf) : List Lf := ls.foldl rput []
def rside (l : List Lf) (d b : Nat) : List Lf := l.filter fun y => decide (kb y.1 d = b)
/-- in order, each key once -/
def Srt (l : List Lf) : Prop := l.Pairwise (fun a b => kl a.1 b.1 = true)
def ok256 (l : List Lf) : Prop := ∀ y ∈ l, y.1 < 2 ^ 256 ∧ y.2 < 2 ^ 256
theorem rputF_done (x : Lf) : ∀ l : List Lf, rputF x true l = l.filter fun y => decide (y.1 ≠ x.1)
  | [] => rfl
  | y :: r => by
    show ([] : List Lf) ++ ((if y.1 = x.1 then [] else [y]) ++ rputF x true r) = _
    rw [rputF_done x r, List.filter_cons]
    by_cases h : y.1 = x.1
    · rw [if_pos h, if_neg (by simp [h])]; rfl
    · rw [if_neg h, if_pos (by simp [h])]; rfl
theorem rput_lt {x y : Lf} {r : List Lf} (h : kl y.1 x.1 = true) : rput (y :: r) x = y :: rput r x := by
  have hne : y.1 ≠ x.1 := fun e => by rw [e, kl_irr] at h; cases h
  show rputF x false (y :: r) = y :: rputF x false r
  simp [rputF, h, hne]
theorem rput_ge {x y : Lf} {r : List Lf} (h : kl y.1 x.1 = false) : rput (y :: r) x = x :: (if y.1 = x.1 then [] else [y]) ++ r.filter fun z => decide (z.1 ≠ x.1) := by
  show (if (false = false ∧ kl y.1 x.1 = false) then [x] else []) ++ ((if y.1 = x.1 then [] else [y]) ++ rputF x (false || !kl y.1 x.1) r) = _
  rw [if_pos ⟨rfl, h⟩, h]
  show [x] ++ (_ ++ rputF x true r) = _
  rw [rputF_done]; simp
theorem srt_filter {l : List Lf} (p : Lf → Bool) (h : Srt l) : Srt (l.filter p) := List.Pairwise.filter p h
theorem mem_rput {x z : Lf} : ∀ {l : List Lf}, z ∈ rput l x → z = x ∨ z ∈ l
  | [], h => by rw [show rput [] x = [x] from rfl] at h; exact .inl (List.mem_singleton.1 h)
  | y :: r, h => by
    cases hk : kl y.1 x.1 with
    | true =>
      rw [rput_lt hk] at h
      rcases List.mem_cons.1 h with rfl | h
      · exact .inr (by simp)
      · rcases mem_rput h with h | h
        · exact .inl h
        · exact .inr (by simp [h])
    | false =>
      rw [rput_ge hk] at h
      simp only [List.cons_append, List.mem_cons, List.mem_append, List.mem_filter] at h
      rcases h with h | h | h
      · exact .inl h
      · split at h
        · cases h
        · exact .inr (by simp at h; simp [h])
      · exact .inr (by simp [h.1])
theorem rput_ok {l : List Lf} {x : Lf} (h : ok256 l) (hx : x.1 < 2 ^ 256 ∧ x.2 < 2 ^ 256) : ok256 (rput l x) := fun z hz => by
  rcases mem_rput hz with rfl | hz
  · exact hx
  · exact h z hz
theorem rput_srt {x : Lf} (hx : x.1 < 2 ^ 256) : ∀ {l : List Lf}, ok256 l → Srt l → Srt (rput l x)
  | [], _, _ => by show Srt [x]; exact List.pairwise_singleton _ _
  | y :: r, ho, hs => by
    have hc := List.pairwise_cons.1 hs
    have hy := ho y (by simp)
    cases hk : kl y.1 x.1 with
    | true =>
      rw [rput_lt hk]
      refine List.pairwise_cons.2 ⟨fun z hz => ?_, rput_srt hx (fun z hz => ho z (by simp [hz])) hc.2⟩
      rcases mem_rput hz with rfl | hz
      · exact hk
      · exact hc.1 z hz
    | false =>
      rw [rput_ge hk]
      have hxy : y.1 = x.1 ∨ kl x.1 y.1 = true := by
        by_cases e : y.1 = x.1
        · exact .inl e
        · exact .inr (kl_total hy.1 hx e hk)
      have hall : ∀ z ∈ r, kl x.1 z.1 = true := fun z hz => by
        rcases hxy with e | e
        · rw [← e]; exact hc.1 z hz
        · exact kl_trans e (hc.1 z hz)
      rw [List.cons_append]
      refine List.pairwise_cons.2 ⟨fun z hz => ?_, ?_⟩
      · rcases List.mem_append.1 hz with hz | hz
        · split at hz
          · cases hz
          · rename_i e; rw [List.mem_singleton.1 hz]; exact hxy.resolve_left e
        · exact hall z (List.mem_filter.1 hz).1
      · split
        · exact srt_filter _ hc.2
        · refine List.pairwise_cons.2 ⟨fun z hz => hc.1 z (List.mem_filter.1 hz).1, srt_filter _ hc.2⟩
theorem rlist_spec {ls : List Lf} (h : ok256 ls) : ok256 (rlist ls) ∧ Srt (rlist ls) := by
  unfold rlist
  have : ∀ (ls acc : List Lf), ok256 ls → ok256 acc → Srt acc → ok256 (ls.foldl rput acc) ∧ Srt (ls.foldl rput acc) := by
    intro ls
    induction ls with
    | nil => intro acc _ h1 h2; exact ⟨h1, h2⟩
    | cons x r ih =>
      intro acc ho h1 h2
      have hx := ho x (by simp)
      exact ih (rput acc x) (fun z hz => ho z (by simp [hz])) (rput_ok h1 hx) (rput_srt hx.1 h1 h2)
  exact this ls [] h (fun z hz => by cases hz) .nil
theorem filter_ne {x : Lf} {l : List Lf} (h : ∀ z ∈ l, kl x.1 z.1 = true) : (l.filter fun z => decide (z.1 ≠ x.1)) = l := by
  rw [List.filter_eq_self]
  intro z hz
  have := h z hz
  simp only [decide_eq_true_eq]
  intro e; rw [e, kl_irr] at this; cases this
/-- a leaf is put on its side -/
theorem rside_rput {d b : Nat} {x : Lf} (hx : x.1 < 2 ^ 256) : ∀ {l : List Lf}, ok256 l → Srt l → rside (rput l x) d b = if kb x.1 d = b then rput (rside l d b) x else rside l d b
  | [], _, _ => by
    show rside [x] d b = _
    unfold rside
    by_cases h : kb x.1 d = b
    · rw [if_pos h, List.filter_cons, if_pos (by simp [h])]; rfl
    · rw [if_neg h, List.filter_cons, if_neg (by simp [h])]
  | y :: r, ho, hs => by
    have hc := List.pairwise_cons.1 hs
    have hy := ho y (by simp)
    have hr : ok256 r := fun z hz => ho z (by simp [hz])
    cases hk : kl y.1 x.1 with
    | true =>
      have ih := rside_rput (d := d) (b := b) hx hr hc.2
      rw [rput_lt hk]
      have e : ∀ q : List Lf, rside (y :: q) d b = if kb y.1 d = b then y :: rside q d b else rside q d b := fun q => by unfold rside; rw [List.filter_cons]; simp
      rw [e, e, ih]
      by_cases h1 : kb y.1 d = b
      · rw [if_pos h1, if_pos h1]
        by_cases h2 : kb x.1 d = b
        · rw [if_pos h2, if_pos h2, rput_lt hk]
        · rw [if_neg h2, if_neg h2]
      · rw [if_neg h1, if_neg h1]
    | false =>
      have hxy : y.1 = x.1 ∨ kl x.1 y.1 = true := by
        by_cases e : y.1 = x.1
        · exact .inl e
        · exact .inr (kl_total hy.1 hx e hk)
      have hall : ∀ z ∈ r, kl x.1 z.1 = true := fun z hz => by
        rcases hxy with e | e
        · rw [← e]; exact hc.1 z hz
        · exact kl_trans e (hc.1 z hz)
      have hnl : ∀ z ∈ r, kl z.1 x.1 = false := fun z hz => by
        cases h : kl z.1 x.1 with
        | false => rfl
        | true => have := kl_trans h (hall z hz); rw [kl_irr] at this; cases this
      rw [rput_ge hk, filter_ne hall]
      have hput : ∀ q : List Lf, (∀ z ∈ q, z ∈ r) → rput q x = x :: q := fun q hq => by
        cases q with
        | nil => rfl
        | cons z q =>
          have hz := hq z (by simp)
          rw [rput_ge (hnl z hz), filter_ne fun u hu => hall u (hq u (by simp [hu])), if_neg (fun e => by have := hall z hz; rw [e, kl_irr] at this; cases this)]
          rfl
      unfold rside
      by_cases hb : kb x.1 d = b
      · rw [if_pos hb, List.cons_append, List.filter_cons, if_pos (by simp [hb])]
        by_cases e : y.1 = x.1
        · rw [if_pos e, List.nil_append, List.filter_cons, if_pos (by simp [e, hb])]
          rw [rput_ge hk, if_pos e, filter_ne fun z hz => hall z (List.mem_filter.1 hz).1]
          rfl
        · rw [if_neg e, List.singleton_append, List.filter_cons]
          by_cases h1 : kb y.1 d = b
          · rw [if_pos (by simp [h1]), rput_ge hk, if_neg e, filter_ne fun z hz => hall z (List.mem_filter.1 hz).1]
            rfl
          · rw [if_neg (by simp [h1]), hput _ fun z hz => (List.mem_filter.1 hz).1]
      · rw [if_neg hb, List.cons_append, List.filter_cons, if_neg (by simp [hb])]
        by_cases e : y.1 = x.1
        · rw [if_pos e, List.nil_append, List.filter_cons, if_neg (by simp [e, hb])]
        · rw [if_neg e]; rfl
end Go.Proofs.YtndnlbinnhdmbaaDoor

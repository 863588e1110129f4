/- Trees, the plain law: the tree of a list in order; a leaf put into it; its leaves. No conditions. Lists of leaves: the document's Put, Side, Same; the laws' to, from, few, list. Conditions: keys and values have 256 bits. Lists of leaves: the laws' to and from; the document's Put, Side, Same; few, list. Conditions: keys and values have 256 bits. Lists of leaves: the document's Same; the law's few and list. Conditions: keys and values have 256 bits. The document's sum of leaves; a tree's leaves. Conditions: the tables hold their numbers; keys and values have 256 bits. A tree's leaves, in order. Conditions: fewer than 2^38 leaves. TreeRoots. Conditions: keys and values have 256 bits; the tables hold their numbers. Lists of leaves, the plain law: the order in which leaves of unlike keys are put is no matter; a leaf that is there is found. No conditions. -/
import Derived.Test.YtndnlbinnhdmbaaDoorJ21
set_option linter.unusedSimpArgs false
set_option linter.unusedVariables false
namespace Go.Proofs.YtndnlbinnhdmbaaDoor
/-- the tree of a list, from a depth on -/
def can : Nat → List Lf → Nat → TR
  | _, [], _ => .nil
  | _, [x], _ => .leaf x.1 x.2
  | 0, x :: _ :: _, _ => .leaf x.1 x.2
  | f + 1, x :: y :: r, d => .node d (can f (rside (x :: y :: r) d 0) (d + 1)) (can f (rside (x :: y :: r) d 1) (d + 1))
theorem can_nil (f d : Nat) : can f [] d = .nil := by cases f <;> rfl
theorem can_one (f d : Nat) (x : Lf) : can f [x] d = .leaf x.1 x.2 := by cases f <;> rfl
theorem can_two {f d : Nat} {ws : List Lf} (h : 2 ≤ ws.length) : can (f + 1) ws d = .node d (can f (rside ws d 0) (d + 1)) (can f (rside ws d 1) (d + 1)) := by
  match ws, h with
  | x :: y :: r, _ => rfl
/-- they begin alike -/
def Pre (ws : List Lf) (d : Nat) : Prop := ∀ y ∈ ws, ∀ z ∈ ws, ∀ i, i < d → kb y.1 i = kb z.1 i
theorem mem_rside {y : Lf} {ws : List Lf} {d b : Nat} : y ∈ rside ws d b ↔ y ∈ ws ∧ kb y.1 d = b := by unfold rside; simp
theorem rside_cons (y : Lf) (q : List Lf) (d b : Nat) : rside (y :: q) d b = if kb y.1 d = b then y :: rside q d b else rside q d b := by unfold rside; rw [List.filter_cons]; simp
theorem pre_side {ws : List Lf} {d b : Nat} (h : Pre ws d) : Pre (rside ws d b) (d + 1) := fun y hy z hz i hi => by
  obtain ⟨y1, y2⟩ := mem_rside.1 hy
  obtain ⟨z1, z2⟩ := mem_rside.1 hz
  rcases Nat.lt_succ_iff_lt_or_eq.1 hi with hi | rfl
  · exact h y y1 z z1 i hi
  · rw [y2, z2]
theorem ok_side {ws : List Lf} {d b : Nat} (h : ok256 ws) : ok256 (rside ws d b) := fun y hy => h y (mem_rside.1 hy).1
theorem srt_side {ws : List Lf} {d b : Nat} (h : Srt ws) : Srt (rside ws d b) := srt_filter _ h
theorem no_256 {x y : Lf} {r : List Lf} (hs : Srt (x :: y :: r)) (hp : Pre (x :: y :: r) 256) : False := by
  have h1 := (List.pairwise_cons.1 hs).1 y (by simp)
  obtain ⟨h2, _⟩ := kl_iff.1 h1
  exact (kcom_spec x.1 y.1).2 h2 (hp x (by simp) y (by simp) _ h2)
def wrapT (K d : Nat) (T : TR) : TR := if kb K d = 0 then .node d T .nil else .node d .nil T
theorem chain_out {K d : Nat} : ∀ (m : Nat) (T : TR), d < m → chain K d m T = wrapT K d (chain K (d + 1) m T)
  | 0, _, h => by omega
  | m + 1, T, h => by
    rw [chain_1 (by omega)]
    rcases Nat.lt_or_ge d m with h1 | h1
    · rw [chain_1 (show d + 1 ≤ m by omega)]
      exact chain_out m _ h1
    · obtain rfl : m = d := by omega
      rw [chain_0 (Nat.le_refl _), chain_0 (Nat.le_refl _)]; rfl
theorem can_pair {a b : Lf} (hk : kl a.1 b.1 = true) : ∀ (f d : Nat), f + d = 256 → d ≤ kcom (byt a.1) (byt b.1) → can f [a, b] d = chain a.1 d (kcom (byt a.1) (byt b.1)) (.node (kcom (byt a.1) (byt b.1)) (.leaf a.1 a.2) (.leaf b.1 b.2))
  | 0, d, h, hd => by have := (kl_iff.1 hk).1; omega
  | f + 1, d, h, hd => by
    obtain ⟨h1, h2⟩ := kl_iff.1 hk
    have h3 := kl_bit hk
    have h4 := (kcom_spec a.1 b.1).1
    rw [can_two (by simp)]
    rcases Nat.lt_or_ge d (kcom (byt a.1) (byt b.1)) with h5 | h5
    · have h6 := h4 d h5
      rw [chain_out _ _ h5, ← can_pair hk f (d + 1) (by omega) h5]
      have hb := kb_le a.1 d
      unfold wrapT
      simp only [rside_cons, ← h6]
      rcases Nat.lt_or_ge 0 (kb a.1 d) with hz | hz
      · have e : kb a.1 d = 1 := by omega
        rw [e]; simp [rside, can_nil]
      · have e : kb a.1 d = 0 := by omega
        rw [e]; simp [rside, can_nil]
    · obtain rfl : d = kcom (byt a.1) (byt b.1) := by omega
      rw [chain_0 (Nat.le_refl _)]
      simp only [rside_cons, h2, h3]
      simp [rside, can_one]
theorem part_can {a b : Lf} (hk : kl a.1 b.1 = true) {f d : Nat} (h : f + d = 256) (hd : d ≤ kcom (byt a.1) (byt b.1)) : partT a.1 a.2 b.1 b.2 d = can f [a, b] d ∧ partT b.1 b.2 a.1 a.2 d = can f [a, b] d := by
  obtain ⟨h1, h2⟩ := kl_iff.1 hk
  have h3 := kl_bit hk
  rw [can_pair hk f d h hd]
  unfold partT
  rw [kcom_symm b.1 a.1, if_neg (by rw [h2]; decide), if_pos h3]
  exact ⟨rfl, rfl⟩
theorem pre_kcom {a b : Lf} {ws : List Lf} {d : Nat} (hd : d ≤ 256) (h : Pre ws d) (ha : a ∈ ws) (hb : b ∈ ws) : d ≤ kcom (byt a.1) (byt b.1) := by
  rcases Nat.lt_or_ge (kcom (byt a.1) (byt b.1)) d with h1 | h1
  · exact absurd (h a ha b hb _ h1) ((kcom_spec a.1 b.1).2 (by omega))
  · exact h1
theorem rput_two {x : Lf} {ws : List Lf} (hx : x.1 < 2 ^ 256) (ho : ok256 ws) (hs : Srt ws) (h : 2 ≤ ws.length) : 2 ≤ (rput ws x).length := by
  match ws, h with
  | y :: z :: r, _ =>
    cases hk : kl y.1 x.1 with
    | true =>
      rw [rput_lt hk]
      cases hq : rput (z :: r) x with
      | nil =>
        cases hk2 : kl z.1 x.1 with
        | true => rw [rput_lt hk2] at hq; cases hq
        | false => rw [rput_ge hk2] at hq; cases hq
      | cons u q => simp
    | false =>
      rw [rput_ge hk]
      by_cases e : y.1 = x.1
      · have hc := (List.pairwise_cons.1 hs).1
        rw [if_pos e, filter_ne fun u hu => by rw [← e]; exact hc u hu]; simp
      · rw [if_neg e]; simp
theorem put_can (x : Lf) (hx : x.1 < 2 ^ 256) : ∀ (f d : Nat) (ws : List Lf), f + d = 256 → ok256 ws → Srt ws → Pre (x :: ws) d → putT x.1 x.2 (can f ws d) d = can f (rput ws x) d := by
  intro f
  induction f with
  | zero =>
    intro d ws hd ho hs hp
    obtain rfl : d = 256 := by omega
    match ws with
    | [] => rw [can_nil, show rput [] x = [x] from rfl, can_one]; rfl
    | [y] =>
      rw [can_one]
      have e : y.1 = x.1 := byt_inj (ho y (by simp)).1 hx fun j hj => by
        have h0 : kcom (byt y.1) (byt x.1) = 256 := by
          have := pre_kcom (a := y) (b := x) (Nat.le_refl _) hp (by simp) (by simp); have := kcom_le (byt y.1) (byt x.1); omega
        rcases Nat.lt_or_ge (kcom (byt y.1) (byt x.1)) 256 with h | h
        · omega
        · by_cases e : y.1 = x.1
          · rw [e]
          · exact absurd (kcom_lt (ho y (by simp)).1 hx e) (by omega)
      rw [rput_ge (by rw [e]; exact kl_irr _), if_pos e]
      show (if y.1 = x.1 then TR.leaf x.1 x.2 else _) = can 0 [x] 256
      rw [if_pos e]; rfl
    | y :: z :: r => exact (no_256 hs fun u hu v hv => hp u (List.mem_cons_of_mem _ hu) v (List.mem_cons_of_mem _ hv)).elim
  | succ f ih =>
    intro d ws hd ho hs hp
    match ws, ho, hs, hp with
    | [], _, _, _ => rw [can_nil, show rput [] x = [x] from rfl, can_one]; rfl
    | [y], ho, hs, hp =>
      rw [can_one]
      show (if y.1 = x.1 then TR.leaf x.1 x.2 else partT y.1 y.2 x.1 x.2 d) = _
      by_cases e : y.1 = x.1
      · rw [if_pos e, rput_ge (by rw [e]; exact kl_irr _), if_pos e]
        exact (can_one _ _ x).symm
      · rw [if_neg e]
        cases hk : kl y.1 x.1 with
        | true =>
          rw [rput_lt hk]
          exact (part_can hk hd (pre_kcom (by omega) hp (by simp) (by simp))).1
        | false =>
          rw [rput_ge hk, if_neg e]
          have hk2 := kl_total (ho y (by simp)).1 hx e hk
          exact (part_can hk2 hd (pre_kcom (by omega) hp (by simp) (by simp))).2
    | y :: z :: r, ho, hs, hp =>
      have h2 := rput_two hx ho hs (by simp)
      rw [can_two (by simp), can_two h2, rside_rput hx ho hs, rside_rput hx ho hs]
      have hb := kb_le x.1 d
      have hpw : Pre (y :: z :: r) d := fun u hu v hv => hp u (List.mem_cons_of_mem _ hu) v (List.mem_cons_of_mem _ hv)
      have hps : ∀ b, kb x.1 d = b → Pre (x :: rside (y :: z :: r) d b) (d + 1) := fun b hb u hu v hv => by
        refine pre_side (b := b) hp u ?_ v ?_
        · rcases List.mem_cons.1 hu with rfl | hu
          · exact mem_rside.2 ⟨by simp, hb⟩
          · exact mem_rside.2 ⟨List.mem_cons_of_mem _ (mem_rside.1 hu).1, (mem_rside.1 hu).2⟩
        · rcases List.mem_cons.1 hv with rfl | hv
          · exact mem_rside.2 ⟨by simp, hb⟩
          · exact mem_rside.2 ⟨List.mem_cons_of_mem _ (mem_rside.1 hv).1, (mem_rside.1 hv).2⟩
      show (if kb x.1 d = 0 then TR.node d (putT x.1 x.2 (can f (rside (y :: z :: r) d 0) (d + 1)) (d + 1)) _ else TR.node d _ (putT x.1 x.2 (can f (rside (y :: z :: r) d 1) (d + 1)) (d + 1))) = _
      rcases Nat.lt_or_ge 0 (kb x.1 d) with h0 | h0
      · have e : kb x.1 d = 1 := by omega
        rw [if_neg (by omega), if_neg (by omega), if_pos e, ih (d + 1) _ (by omega) (ok_side ho) (srt_side hs) (hps 1 e)]
      · have e : kb x.1 d = 0 := by omega
        rw [if_pos e, if_pos e, if_neg (by omega), ih (d + 1) _ (by omega) (ok_side ho) (srt_side hs) (hps 0 e)]
theorem pre_0 (ws : List Lf) : Pre ws 0 := fun _ _ _ _ i hi => absurd hi (Nat.not_lt_zero i)
/-- the tree of leaves is that of the list -/
theorem ofT_can {ls : List Lf} (h : ok256 ls) : ofT ls = can 256 (rlist ls) 0 := by
  unfold ofT rlist
  have : ∀ (ls acc : List Lf), ok256 ls → ok256 acc → Srt acc → ls.foldl (fun T x => putT x.1 x.2 T 0) (can 256 acc 0) = can 256 (ls.foldl rput acc) 0 := by
    intro ls
    induction ls with
    | nil => intro acc _ _ _; rfl
    | cons x r ih =>
      intro acc ho h1 h2
      have hx := ho x (by simp)
      show r.foldl _ (putT x.1 x.2 (can 256 acc 0) 0) = _
      rw [put_can x hx.1 256 0 acc rfl h1 h2 (pre_0 _)]
      exact ih (rput acc x) (fun z hz => ho z (by simp [hz])) (rput_ok h1 hx) (rput_srt hx.1 h1 h2)
  have h0 := this ls [] h (fun z hz => by cases hz) .nil
  rw [can_nil] at h0
  exact h0
/-! ### The leaves of a tree -/
/-! ### Lists, step by step -/
end Go.Proofs.YtndnlbinnhdmbaaDoor

set_option linter.unusedSimpArgs false
set_option linter.unusedVariables false
namespace Go.Proofs.YtndnlbinnhdmbaaDoor
set_option maxRecDepth 100000
open Go.RowKit
attribute [local irreducible] wpList wpTr wpX
set_option linter.unusedSimpArgs false
theorem RR.op {w : World} {u : Value} {ls : List Lf} (h : RR 64 w u (ls.map lfl)) : ∃ A c, u = .slice A ls.length c ∧ ls.length ≤ c ∧ Hid (∀ (j : Nat) (x : Lf), ls[j]? = some x → ∃ g o, A = some ⟨g, o, none⟩ ∧ ∀ (i : Nat) (v : Value), (lfl x)[i]? = some v → w.cell? ⟨g, o + j * 64 + i, none⟩ = some v) := by
 obtain ⟨A, c, h1, h2, _, h3⟩ := h
 rw [List.length_map] at h1 h2
 exact ⟨A, c, h1, h2, Lib.hid fun j x hj => h3 j (lfl x) (by rw [List.getElem?_map, hj]; rfl)⟩
/-- the call hands back a row of its own; nothing old has turned -/
def RRet (t : TypeId) (ls : List Lf) (w w' : World) (e : Ending) : Prop := ∃ u, e = .returned u ∧ SH [] w w' [.r t 64 u (ls.map lfl)]
theorem rcall {f : FuncId} {args : Array Value} {F : List Nat} {w W : World} {H : List As} {t : TypeId} {ls : List Lf} (hS : SH F w W H) (hc : Calls Tryd.prog f args W fun e W' => RRet t ls W W' e) (ht : H.all (SH.tyOk (.r t 64 undef [])) = true) :
  Calls Tryd.prog f args W fun e W' => ∃ u, e = .returned u ∧ SH F w W' (.r t 64 u (ls.map lfl) :: H) :=
 hc.mono fun e W' ⟨u, h1, h2⟩ => ⟨u, h1, SH.frame (L := []) (L' := [.r t 64 u (ls.map lfl)]) (R := H) hS h2 ⟨.inr ⟨rfl, ht⟩, trivial⟩⟩
theorem eqB (d : Nat) (A B : Nat) (hA : A < 2 ^ 256) (hB : B < 2 ^ 256) (xs ys : Array Value) (hx : ∀ i, i < 32 → xs[i]? = some (.int .u8 (byt A i))) (hy : ∀ i, i < 32 → ys[i]? = some (.int .u8 (byt B i))) (w : World) : (Op.equalIn (d + 2) 22 (.agg xs) (.agg ys)).run Tryd.prog w = .ok (decide (A = B)) w := by
 rw [run_equalIn_arr (P := Tryd.prog) w d 22 5 32 .u8 xs ys (byt A) (byt B) Tryd.underlying22 Tryd.underlying5 (by kernel_rfl) hx hy]
 congr 1
 rw [Bool.eq_iff_iff, eqArr_true, decide_eq_true_iff]
 exact ⟨byt_inj hA hB, fun h => by subst h; intro _ _; rfl⟩
theorem eqV32 (A B : Nat) (hA : A < 2 ^ 256) (hB : B < 2 ^ 256) (w : World) : (Op.equalIn 10000 22 (.agg (arrK .u8 32 (byt A))) (.agg (arrK .u8 32 (byt B)))).run Tryd.prog w = .ok (decide (A = B)) w :=
 eqB 9998 A B hA hB _ _ (fun i hi => arrK_get _ _ _ _ hi) (fun i hi => arrK_get _ _ _ _ hi) w
end Go.Proofs.YtndnlbinnhdmbaaDoor

set_option linter.unusedSimpArgs false
set_option linter.unusedVariables false
namespace Go.Proofs.YtndnlbinnhdmbaaDoor
set_option maxHeartbeats 3000000
set_option maxRecDepth 100000
open Go.RowKit
attribute [local irreducible] wpList wpTr wpX
set_option linter.unusedSimpArgs false
theorem rbitk (k i : Nat) (hi : i < 256) (w : World) : Calls Tryd.prog 62 #[.agg (arrK .u8 32 (byt k)), .int .i64 (i : Int)] w fun e w' => Ret (.int .i64 (kb k i : Int)) w w' e := by
 rw [kb_cast hi]; exact rbit_c (byt k) (byt_b k) i hi w
end Go.Proofs.YtndnlbinnhdmbaaDoor

set_option linter.unusedSimpArgs false
set_option linter.unusedVariables false
namespace Go.Proofs.YtndnlbinnhdmbaaDoor
set_option maxHeartbeats 3000000
set_option maxRecDepth 100000
open Go.RowKit
attribute [local irreducible] wpList wpTr wpX
set_option linter.unusedSimpArgs false

end Go.Proofs.YtndnlbinnhdmbaaDoor

set_option linter.unusedSimpArgs false
set_option linter.unusedVariables false
namespace Go.Proofs.YtndnlbinnhdmbaaDoor
set_option maxHeartbeats 3000000
set_option maxRecDepth 100000
open Go.RowKit
attribute [local irreducible] wpList wpTr wpX
set_option linter.unusedSimpArgs false
attribute [local irreducible] hs4 sE sL sN

end Go.Proofs.YtndnlbinnhdmbaaDoor

set_option linter.unusedSimpArgs false
set_option linter.unusedVariables false
namespace Go.Proofs.YtndnlbinnhdmbaaDoor
set_option maxHeartbeats 3000000
set_option maxRecDepth 100000
open Go.RowKit
attribute [local irreducible] wpList wpTr wpX
set_option linter.unusedSimpArgs false
attribute [local irreducible] hs4 sE sL sN

end Go.Proofs.YtndnlbinnhdmbaaDoor

set_option linter.unusedSimpArgs false
set_option linter.unusedVariables false
namespace Go.Proofs.YtndnlbinnhdmbaaDoor
set_option maxHeartbeats 3000000
set_option maxRecDepth 100000
open Go.RowKit
attribute [local irreducible] wpList wpTr wpX
set_option linter.unusedSimpArgs false
theorem ok_L256 {ls : List Lf} (h : ok256 ls) : okL256 ls := fun i x hx => h x (List.mem_of_getElem? hx)
theorem ok_take {ls : List Lf} (n : Nat) (h : ok256 ls) : ok256 (ls.take n) := fun y hy => h y (List.mem_of_mem_take hy)
theorem of_r {q : Prop} {ls : List Lf} {u : Value} (h : ok256 ls) (hn : ls.length ≤ 1000) (w : World) (hG : GT q w) (hR : RR 64 w u (ls.map lfl)) : Calls Tryd.prog 23 #[u] w fun e w' => TRet (ofT ls) w w' e := by
 obtain ⟨A, c, rfl, _, _, h3⟩ := hR
 rw [List.length_map]
 exact of_c (ok_L256 h) (by omega) w hG h3
attribute [local irreducible] hs4 sE sL sN

end Go.Proofs.YtndnlbinnhdmbaaDoor

set_option linter.unusedSimpArgs false
set_option linter.unusedVariables false
namespace Go.Proofs.YtndnlbinnhdmbaaDoor
end Go.Proofs.YtndnlbinnhdmbaaDoor

/- Trees, the plain law: the tree of a list in order; a leaf put into it; its leaves. No conditions. Lists of leaves: the document's Put, Side, Same; the laws' to, from, few, list. Conditions: keys and values have 256 bits. Lists of leaves: the laws' to and from; the document's Put, Side, Same; few, list. Conditions: keys and values have 256 bits. Lists of leaves: the document's Same; the law's few and list. Conditions: keys and values have 256 bits. The document's sum of leaves; a tree's leaves. Conditions: the tables hold their numbers; keys and values have 256 bits. A tree's leaves, in order. Conditions: fewer than 2^38 leaves. -/
import Derived.Test.YtejkmhgkkibafaaGreatDoorJ31
set_option linter.unusedSimpArgs false
set_option linter.unusedVariables false
namespace Go.Proofs.YtejkmhgkkibafaaGreatDoor
section
def can : Nat → List Lf → Nat → TR
  | _, [], _ => .nil
  | _, [x], _ => .leaf x.1 x.2
  | 0, x :: _ :: _, _ => .leaf x.1 x.2
  | f + 1, x :: y :: r, d => .node d (can f (V9 (x :: y :: r) d 0) (d + 1)) (can f (V9 (x :: y :: r) d 1) (d + 1))
theorem J4h (f d : Nat) : can f [] d = .nil := by cases f <;> rfl
theorem J3y (f d : Nat) (x : Lf) : can f [x] d = .leaf x.1 x.2 := by cases f <;> rfl
theorem J6v {f d : Nat} {ws : List Lf} (h : 2 ≤ ws.length) : can (f + 1) ws d = .node d (can f (V9 ws d 0) (d + 1)) (can f (V9 ws d 1) (d + 1)) := by
  match ws, h with
  | x :: y :: r, _ => rfl
def Pre (ws : List Lf) (d : Nat) : Prop := ∀ y ∈ ws, ∀ z ∈ ws, ∀ i, i < d → kb y.1 i = kb z.1 i
theorem mem_rside {y : Lf} {ws : List Lf} {d b : Nat} : y ∈ V9 ws d b ↔ y ∈ ws ∧ kb y.1 d = b := by unfold V9; simp
theorem Q55 (y : Lf) (q : List Lf) (d b : Nat) : V9 (y :: q) d b = if kb y.1 d = b then y :: V9 q d b else V9 q d b := by unfold V9; rw [List.filter_cons]; simp
theorem J2b {ws : List Lf} {d b : Nat} (h : Pre ws d) : Pre (V9 ws d b) (d + 1) := fun y hy z hz i hi => by
  obtain ⟨y1, y2⟩ := mem_rside.1 hy
  obtain ⟨z1, z2⟩ := mem_rside.1 hz
  rcases Nat.lt_succ_iff_lt_or_eq.1 hi with hi | rfl
  · exact h y y1 z z1 i hi
  · rw [y2, z2]
theorem Z4a {ws : List Lf} {d b : Nat} (h : J2x ws) : J2x (V9 ws d b) := fun y hy => h y (mem_rside.1 hy).1
theorem J21 {ws : List Lf} {d b : Nat} (h : Srt ws) : Srt (V9 ws d b) := Q0r _ h
theorem Q23 {x y : Lf} {r : List Lf} (hs : Srt (x :: y :: r)) (hp : Pre (x :: y :: r) 256) : False := by
  have h1 := (List.pairwise_cons.1 hs).1 y (by simp)
  obtain ⟨h2, _⟩ := kl_iff.1 h1
  exact (J2u x.1 y.1).2 h2 (hp x (by simp) y (by simp) _ h2)
def Y6k (K d : Nat) (T : TR) : TR := if kb K d = 0 then .node d T .nil else .node d .nil T
theorem Q6j {K d : Nat} : ∀ (m : Nat) (T : TR), d < m → J5j K d m T = Y6k K d (J5j K (d + 1) m T)
  | 0, _, h => by omega
  | m + 1, T, h => by
    rw [Q02 (by omega)]
    rcases Nat.lt_or_ge d m with h1 | h1
    · rw [Q02 (show d + 1 ≤ m by omega)]
      exact Q6j m _ h1
    · obtain rfl : m = d := by omega
      rw [Q1m (Nat.le_refl _), Q1m (Nat.le_refl _)]; rfl
theorem Z0i {a b : Lf} (hk : kl a.1 b.1 = true) : ∀ (f d : Nat), f + d = 256 → d ≤ J06 (Q5 a.1) (Q5 b.1) → can f [a, b] d = J5j a.1 d (J06 (Q5 a.1) (Q5 b.1)) (.node (J06 (Q5 a.1) (Q5 b.1)) (.leaf a.1 a.2) (.leaf b.1 b.2))
  | 0, d, h, hd => by have := (kl_iff.1 hk).1; omega
  | f + 1, d, h, hd => by
    obtain ⟨h1, h2⟩ := kl_iff.1 hk
    have h3 := Q8j hk
    have h4 := (J2u a.1 b.1).1
    rw [J6v (by simp)]
    rcases Nat.lt_or_ge d (J06 (Q5 a.1) (Q5 b.1)) with h5 | h5
    · have h6 := h4 d h5
      rw [Q6j _ _ h5, ← Z0i hk f (d + 1) (by omega) h5]
      have hb := Q18 a.1 d
      unfold Y6k
      simp only [Q55, ← h6]
      rcases Nat.lt_or_ge 0 (kb a.1 d) with hz | hz
      · have e : kb a.1 d = 1 := by omega
        rw [e]; simp [V9, J4h]
      · have e : kb a.1 d = 0 := by omega
        rw [e]; simp [V9, J4h]
    · obtain rfl : d = J06 (Q5 a.1) (Q5 b.1) := by omega
      rw [Q1m (Nat.le_refl _)]
      simp only [Q55, h2, h3]
      simp [V9, J3y]
theorem Z0j {a b : Lf} (hk : kl a.1 b.1 = true) {f d : Nat} (h : f + d = 256) (hd : d ≤ J06 (Q5 a.1) (Q5 b.1)) : J4s a.1 a.2 b.1 b.2 d = can f [a, b] d ∧ J4s b.1 b.2 a.1 a.2 d = can f [a, b] d := by
  obtain ⟨h1, h2⟩ := kl_iff.1 hk
  have h3 := Q8j hk
  rw [Z0i hk f d h hd]
  unfold J4s
  rw [Q6i b.1 a.1, if_neg (by rw [h2]; decide), if_pos h3]
  exact ⟨rfl, rfl⟩
theorem Q56 {a b : Lf} {ws : List Lf} {d : Nat} (hd : d ≤ 256) (h : Pre ws d) (ha : a ∈ ws) (hb : b ∈ ws) : d ≤ J06 (Q5 a.1) (Q5 b.1) := by
  rcases Nat.lt_or_ge (J06 (Q5 a.1) (Q5 b.1)) d with h1 | h1
  · exact absurd (h a ha b hb _ h1) ((J2u a.1 b.1).2 (by omega))
  exact h1
theorem Y0t {x : Lf} {ws : List Lf} (hx : x.1 < 2 ^ 256) (ho : J2x ws) (hs : Srt ws) (h : 2 ≤ ws.length) : 2 ≤ (J43 ws x).length := by
  match ws, h with
  | y :: z :: r, _ =>
    cases hk : kl y.1 x.1 with
    | true =>
      rw [J8m hk]
      cases hq : J43 (z :: r) x with
      | nil =>
        cases hk2 : kl z.1 x.1 with
        | true => rw [J8m hk2] at hq; cases hq
        | false => rw [J4p hk2] at hq; cases hq
      | cons u q => simp
    | false =>
      rw [J4p hk]
      by_cases e : y.1 = x.1
      · have hc := (List.pairwise_cons.1 hs).1
        rw [if_pos e, J7w fun u hu => by rw [← e]; exact hc u hu]; simp
      · rw [if_neg e]; simp
theorem Y4g (x : Lf) (hx : x.1 < 2 ^ 256) : ∀ (f d : Nat) (ws : List Lf), f + d = 256 → J2x ws → Srt ws → Pre (x :: ws) d → J3b x.1 x.2 (can f ws d) d = can f (J43 ws x) d := by
  intro f
  induction f with
  | zero =>
    intro d ws hd ho hs hp
    obtain rfl : d = 256 := by omega
    match ws with
    | [] => rw [J4h, show J43 [] x = [x] from rfl, J3y]; rfl
    | [y] =>
      rw [J3y]
      have e : y.1 = x.1 := Q15 (ho y (by simp)).1 hx fun j hj => by
        have h0 : J06 (Q5 y.1) (Q5 x.1) = 256 := by
          have := Q56 (a := y) (b := x) (Nat.le_refl _) hp (by simp) (by simp); have := Q3g (Q5 y.1) (Q5 x.1); omega
        rcases Nat.lt_or_ge (J06 (Q5 y.1) (Q5 x.1)) 256 with h | h
        · omega
        · by_cases e : y.1 = x.1
          · rw [e]
          · exact absurd (Z48 (ho y (by simp)).1 hx e) (by omega)
      rw [J4p (by rw [e]; exact Q2d _), if_pos e]
      show (if y.1 = x.1 then TR.leaf x.1 x.2 else _) = can 0 [x] 256
      rw [if_pos e]; rfl
    | y :: z :: r => exact (Q23 hs fun u hu v hv => hp u (List.mem_cons_of_mem _ hu) v (List.mem_cons_of_mem _ hv)).elim
  | succ f ih =>
    intro d ws hd ho hs hp
    match ws, ho, hs, hp with
    | [], _, _, _ => rw [J4h, show J43 [] x = [x] from rfl, J3y]; rfl
    | [y], ho, hs, hp =>
      rw [J3y]
      show (if y.1 = x.1 then TR.leaf x.1 x.2 else J4s y.1 y.2 x.1 x.2 d) = _
      by_cases e : y.1 = x.1
      · rw [if_pos e, J4p (by rw [e]; exact Q2d _), if_pos e]
        exact (J3y _ _ x).symm
      · rw [if_neg e]
        cases hk : kl y.1 x.1 with
        | true =>
          rw [J8m hk]
          exact (Z0j hk hd (Q56 (by omega) hp (by simp) (by simp))).1
        | false =>
          rw [J4p hk, if_neg e]
          have hk2 := Q52 (ho y (by simp)).1 hx e hk
          exact (Z0j hk2 hd (Q56 (by omega) hp (by simp) (by simp))).2
    | y :: z :: r, ho, hs, hp =>
      have h2 := Y0t hx ho hs (by simp)
      rw [J6v (by simp), J6v h2, Q0s hx ho hs, Q0s hx ho hs]
      have hb := Q18 x.1 d
      have hpw : Pre (y :: z :: r) d := fun u hu v hv => hp u (List.mem_cons_of_mem _ hu) v (List.mem_cons_of_mem _ hv)
      have hps : ∀ b, kb x.1 d = b → Pre (x :: V9 (y :: z :: r) d b) (d + 1) := fun b hb u hu v hv => by
        refine J2b (b := b) hp u ?_ v ?_
        · rcases List.mem_cons.1 hu with rfl | hu
          · exact mem_rside.2 ⟨by simp, hb⟩
          · exact mem_rside.2 ⟨List.mem_cons_of_mem _ (mem_rside.1 hu).1, (mem_rside.1 hu).2⟩
        · rcases List.mem_cons.1 hv with rfl | hv
          · exact mem_rside.2 ⟨by simp, hb⟩
          · exact mem_rside.2 ⟨List.mem_cons_of_mem _ (mem_rside.1 hv).1, (mem_rside.1 hv).2⟩
      show (if kb x.1 d = 0 then TR.node d (J3b x.1 x.2 (can f (V9 (y :: z :: r) d 0) (d + 1)) (d + 1)) _ else TR.node d _ (J3b x.1 x.2 (can f (V9 (y :: z :: r) d 1) (d + 1)) (d + 1))) = _
      rcases Nat.lt_or_ge 0 (kb x.1 d) with h0 | h0
      · have e : kb x.1 d = 1 := by omega
        rw [if_neg (by omega), if_neg (by omega), if_pos e, ih (d + 1) _ (by omega) (Z4a ho) (J21 hs) (hps 1 e)]
      · have e : kb x.1 d = 0 := by omega
        rw [if_pos e, if_pos e, if_neg (by omega), ih (d + 1) _ (by omega) (Z4a ho) (J21 hs) (hps 0 e)]
theorem Q47 (ws : List Lf) : Pre ws 0 := fun _ _ _ _ i hi => absurd hi (Nat.not_lt_zero i)
theorem Q3b {ls : List Lf} (h : J2x ls) : ofT ls = can 256 (J2j ls) 0 := by
  unfold ofT J2j
  have : ∀ (ls acc : List Lf), J2x ls → J2x acc → Srt acc → ls.foldl (fun T x => J3b x.1 x.2 T 0) (can 256 acc 0) = can 256 (ls.foldl J43 acc) 0 := by
    intro ls
    induction ls with
    | nil => intro acc _ _ _; rfl
    | cons x r ih =>
      intro acc ho h1 h2
      have hx := ho x (by simp)
      show r.foldl _ (J3b x.1 x.2 (can 256 acc 0) 0) = _
      rw [Y4g x hx.1 256 0 acc rfl h1 h2 (Q47 _)]
      exact ih (J43 acc x) (fun z hz => ho z (by simp [hz])) (Z49 h1 hx) (Q54 hx.1 h1 h2)
  have h0 := this ls [] h (fun z hz => by cases hz) .nil
  rw [J4h] at h0
  exact h0
/-! ### The leaves of a tree -/
/-! ### Lists, step by step -/
theorem Q6k (x : Lf) : ∀ (d : Bool) (l : List Lf), (J4t x d l).length ≤ l.length + 1
  | d, [] => by cases d <;> simp [J4t]
  | true, y :: r => by rw [J8l]; exact Nat.le_trans (List.length_filter_le _ _) (Nat.le_succ _)
  | false, y :: r => by
    have h := Q6k x (!kl y.1 x.1) r
    have h2 : (J4t x true r).length ≤ r.length := by rw [J8l]; exact List.length_filter_le _ _
    show ((if false = false ∧ kl y.1 x.1 = false then [x] else []) ++ ((if y.1 = x.1 then [] else [y]) ++ J4t x (false || !kl y.1 x.1) r)).length ≤ r.length + 1 + 1
    cases hk : kl y.1 x.1 with
    | true =>
      rw [hk] at h
      simp only [List.length_append, Bool.false_or, Bool.not_true] at h ⊢
      rw [if_neg (by decide)]
      split <;> simp <;> omega
    | false =>
      simp only [List.length_append, Bool.false_or, Bool.not_false]
      rw [if_pos (by decide)]
      split <;> simp <;> omega
theorem Y0u (l : List Lf) (x : Lf) : (J43 l x).length ≤ l.length + 1 := Q6k x false l
theorem J64 {ls : List Lf} {i : Nat} {x y : Lf} {dn : Bool} (h : ls[i]? = some y) : J4t x dn (ls.drop i) = (if dn = false ∧ kl y.1 x.1 = false then [x] else []) ++ ((if y.1 = x.1 then [] else [y]) ++ J4t x (dn || !kl y.1 x.1) (ls.drop (i + 1))) := by
  obtain ⟨hi, e⟩ := List.getElem?_eq_some_iff.1 h
  rw [List.drop_eq_getElem_cons hi, e]; rfl
theorem Z1z {ls : List Lf} {i : Nat} {x : Lf} (h : ls[i]? = some x) : J2j (ls.take (i + 1)) = J43 (J2j (ls.take i)) x := by
  unfold J2j; rw [List.take_add_one, h, List.foldl_append]; rfl
theorem Q6l (ls : List Lf) : (J2j ls).length ≤ ls.length := by
  unfold J2j
  have : ∀ (ls acc : List Lf), (ls.foldl J43 acc).length ≤ acc.length + ls.length := by
    intro ls
    induction ls with
    | nil => intro acc; exact Nat.le_refl _
    | cons x r ih => intro acc; have := ih (J43 acc x); have := Y0u acc x; show (r.foldl J43 (J43 acc x)).length ≤ _; rw [List.length_cons]; omega
  have := this ls []
  simpa using this
theorem Q57 {ls : List Lf} {i : Nat} {x : Lf} (h : ls[i]? = some x) (d b : Nat) : V9 (ls.take (i + 1)) d b = V9 (ls.take i) d b ++ (if kb x.1 d = b then [x] else []) := by
  unfold V9; rw [List.take_add_one, h, List.filter_append]
  congr 1
  by_cases hb : kb x.1 d = b
  · simp [hb]
  simp [hb]
theorem J52 (ls : List Lf) (d b : Nat) : (V9 ls d b).length ≤ ls.length := List.length_filter_le _ _
theorem Y0v {ls : List Lf} {i : Nat} (d b : Nat) : (V9 (ls.take i) d b).length ≤ i := by
  have := J52 (ls.take i) d b; rw [List.length_take] at this; omega
end

section
open Go.RowKit
attribute [local irreducible] wpList J0k wpX
theorem RR.op {w : World} {u : Value} {ls : List Lf} (h : RR 64 w u (ls.map lfl)) : ∃ A c, u = .slice A ls.length c ∧ ls.length ≤ c ∧ Hid (∀ (j : Nat) (x : Lf), ls[j]? = some x → ∃ g o, A = some ⟨g, o, none⟩ ∧ ∀ (i : Nat) (v : Value), (lfl x)[i]? = some v → w.cell? ⟨g, o + j * 64 + i, none⟩ = some v) := by
 obtain ⟨A, c, h1, h2, _, h3⟩ := h
 rw [List.length_map] at h1 h2
 exact ⟨A, c, h1, h2, Lib.hid fun j x hj => h3 j (lfl x) (by rw [List.getElem?_map, hj]; rfl)⟩
theorem Y4h {ls : List Lf} : ∀ e ∈ ls.map lfl, e.length = 64 ∧ ∀ x ∈ e, x.oneCell' = true := fun e he => by
 obtain ⟨y, _, rfl⟩ := List.mem_map.1 he
 exact ⟨by show (lf y.1 y.2).toList.length = 64; rw [Array.length_toList]; exact Q8, fun x hx => Array.all_eq_true_iff_forall_mem.1 (J34 (k := y.1) (v := y.2)) x (by simpa using hx)⟩
def Y0w (t : TypeId) (ls : List Lf) (w w' : World) (e : Ending) : Prop := ∃ u, e = .returned u ∧ SH [] w w' [.r t 64 u (ls.map lfl)]
theorem Q0d {f : FuncId} {args : Array Value} {F : List Nat} {w W : World} {H : List As} {t : TypeId} {ls : List Lf} (hS : SH F w W H) (hc : Calls Tryz.prog f args W fun e W' => Y0w t ls W W' e) (ht : H.all (SH.tyOk (.r t 64 undef [])) = true) :
  Calls Tryz.prog f args W fun e W' => ∃ u, e = .returned u ∧ SH F w W' (.r t 64 u (ls.map lfl) :: H) :=
 hc.mono fun e W' ⟨u, h1, h2⟩ => ⟨u, h1, SH.frame (L := []) (L' := [.r t 64 u (ls.map lfl)]) (R := H) hS h2 ⟨.inr ⟨rfl, ht⟩, trivial⟩⟩

end

section
set_option maxHeartbeats 3000000
set_option maxRecDepth 100000
open Go.RowKit
attribute [local irreducible] wpList J0k wpX
theorem Z4b (k i : Nat) (hi : i < 256) (w : World) : Calls Tryz.prog 57 #[.agg (J0 .u8 32 (Q5 k)), .int .i64 (i : Int)] w fun e w' => Ret (.int .i64 (kb k i : Int)) w w' e := by
 rw [Q01 hi]; exact Q29 (Q5 k) (Z45 k) i hi w
theorem Y0x (a b : Nat) (r : Bool) (h : kl a b = r) (w : World) : Calls Tryz.prog 104 #[.agg (J0 .u8 32 (Q5 a)), .agg (J0 .u8 32 (Q5 b))] w fun e w' => Ret (.bool r) w w' e := by
 subst h; exact Z3n (Q5 a) (Q5 b) (Z45 a) (Z45 b) w
theorem Q2e {ls : List Lf} {u : Value} (d b : Nat) (hd : d < 256) (hn : ls.length ≤ 274877906944) (w : World) (hl : RR 64 w u (ls.map lfl)) :
  Calls Tryz.prog 59 #[u, .int .i64 (d : Int), .int .i64 (b : Int)] w fun e w' => Y0w 60 (V9 ls d b) w w' e := by
 obtain ⟨Al, cl, rfl, hlcl, HRl⟩ := hl.op
 have hS := SH.nil [] w
 go_enter Tryz.func59, Tryz.ntmps59
 go_upto_region 1 with fail
 refine RL hS ?_
 clear hS
 refine MB0 (t := 60) (n := 64) ?_
 intro V85
 refine MV ?_
 refine MZ fun W hS => ?_
 go_wp2_with fail
 go_loopw [7, 8] (fun uv ii wr => ∃ (i : Nat) (u : Value), (i ≤ ls.length) ∧ (u = uv) ∧ (ii = .int .i64 (i : Int)) ∧ SH [] w wr [.r 60 64 u (List.map lfl (V9 (List.take i ls) d b))])
  (fun uv ii _ => ls.length - (intOf ii).toNat)
 case atStart => exact ⟨0, _, Nat.zero_le _, rfl, rfl, hS⟩
 clear hS
 case round =>
  obtain ⟨i, u, hi, rfl, rfl, hS⟩ := hrel
  have hle_ := Y0v (ls := ls) (i := i) d b
  by_cases hlt : i < ls.length
  ·
   have _f := hlt
   obtain ⟨x, xh⟩ : ∃ x, ls[i]? = some x := ⟨_, List.getElem?_eq_getElem hlt⟩
   obtain ⟨gl, ol, A0l, c0l⟩ := HRl.out i x xh
   have HAl := Lib.hid A0l
   clear A0l
   go_upto_region 3 with fail
   refine RL hS ?_
   clear hS
   refine MV ?_
   refine MV ?_
   refine MV ?_
   refine MW ?_ (v := .bool true)
   refine MZ fun W hS => ?_
   by_cases hb : kb x.1 d = b
   ·
    have _f := hb
    go_upto_region 5 with fail
    refine RL hS ?_
    clear hS
    refine MV ?_
    refine MV ?_
    refine MW ?_ (v := .pointer (some ⟨gl, ol + i * 64, none⟩)) (hv := fun _ => V0 HAl.out hlt rfl rfl rfl Tryz.underlying63 (by kernel_rfl))
    refine MW ?_ (v := .pointer (some ⟨gl, ol + i * 64, none⟩))
    refine MF (v := .agg (J0 .u8 32 (Q5 x.1))) (fun W hS => K4 rfl rfl (fun i_ v hv => K5 (c0l i_ v (by rw [Array.getElem?_toList]; have h_ := J4i (k := x.1) (v := x.2) i_ v hv; rw [Nat.zero_add] at h_; exact h_)) hS.ext) (by kernel_rfl) (by rw [J2]; kernel_rfl)) ?_
    refine MV ?_
    refine MC (v := .int .i64 (kb x.1 d : Int)) (fun W hS => Z4b x.1 d hd W) ?_
    refine MV ?_
    refine MW ?_ (v := .bool true)
    refine MZ fun W hS => ?_
    go_upto_region 6 with fail
    refine RL hS ?_
    clear hS
    refine MV ?_
    refine MV ?_
    refine MV ?_
    refine MW ?_ (v := .pointer (some ⟨gl, ol + i * 64, none⟩)) (hv := fun _ => V0 HAl.out hlt rfl rfl rfl Tryz.underlying63 (by kernel_rfl))
    refine MF (v := .agg (lf x.1 x.2)) (fun W hS => K4 rfl rfl (fun i_ v hv => K5 (c0l i_ v (by simpa using hv)) hS.ext) (by kernel_rfl) (by rw [Q8]; kernel_rfl)) ?_
    refine MB (z := (lf x.1 x.2)) (t := 60) (n := 1) (c := 1) ?_ (hr := fun W _ => J1r rfl rfl rfl Tryz.underlying63 (by rw [Q8]; kernel_rfl) (by rw [Q8]; kernel_rfl) (by rw [Q8]; decide) (by rw [Q8]; decide))
    intro V76
    refine MAr 1 0 (tS := 63) (bytes := 64) (es := (List.map lfl (V9 (List.take i ls) d b))) (by first | omega | (simp only [List.length_append, List.length_map, List.length_take, List.length_cons, List.length_nil]; omega)) (e := lfl x) (hk := Q8) (h1 := J34) ?_
    intro V4c
    refine MV ?_
    refine MZ fun W hS => ?_
    go_wp2
    go_roundw
    case rel => exact ⟨i + 1, V4c, by omega, rfl, by go_num, (by rw [show V9 (ls.take (i + 1)) d b = V9 (ls.take i) d b ++ [x] from by rw [Q57 xh, if_pos hb]]; rw [List.map_append]; exact (hS.pick [1]))⟩
    case measure => simp [intOf]; omega
   have _f := hb
   go_upto_region 5 with fail
   refine RL hS ?_
   clear hS
   refine MV ?_
   refine MV ?_
   refine MW ?_ (v := .pointer (some ⟨gl, ol + i * 64, none⟩)) (hv := fun _ => V0 HAl.out hlt rfl rfl rfl Tryz.underlying63 (by kernel_rfl))
   refine MW ?_ (v := .pointer (some ⟨gl, ol + i * 64, none⟩))
   refine MF (v := .agg (J0 .u8 32 (Q5 x.1))) (fun W hS => K4 rfl rfl (fun i_ v hv => K5 (c0l i_ v (by rw [Array.getElem?_toList]; have h_ := J4i (k := x.1) (v := x.2) i_ v hv; rw [Nat.zero_add] at h_; exact h_)) hS.ext) (by kernel_rfl) (by rw [J2]; kernel_rfl)) ?_
   refine MV ?_
   refine MC (v := .int .i64 (kb x.1 d : Int)) (fun W hS => Z4b x.1 d hd W) ?_
   refine MV ?_
   refine MW ?_ (v := .bool false)
   refine MZ fun W hS => ?_
   go_wp2
   go_roundw
   case rel => exact ⟨i + 1, u, by omega, rfl, by go_num, (by rw [show V9 (ls.take (i + 1)) d b = V9 (ls.take i) d b from by rw [Q57 xh, if_neg hb, List.append_nil]]; exact hS)⟩
   case measure => simp [intOf]; omega
  have _f := hlt
  obtain rfl : i = ls.length := by omega
  go_upto_region 3 with fail
  refine RL hS ?_
  clear hS
  refine MV ?_
  refine MV ?_
  refine MV ?_
  refine MW ?_ (v := .bool false)
  refine MZ fun W hS => ?_
  go_wp2
  exact bodyPost_ret (v := u) (by simp only [results, Tryz.results59]; go_simp) rfl ⟨_, rfl, by have h_ := hS.pick [0]; rw [List.take_length] at h_; exact h_⟩
theorem V0j {ls : List Lf} {u : Value} {k v : Nat} (hk : k < 2 ^ 256) (hls : J2x ls) (hn : ls.length ≤ 274877906944) (w : World) (hl : RR 64 w u (ls.map lfl)) :
  Calls Tryz.prog 60 #[u, .agg (lf k v)] w fun e w' => Y0w 60 (J43 ls (k, v)) w w' e := by
 obtain ⟨Al, cl, rfl, hlcl, HRl⟩ := hl.op
 have hS := SH.nil [] w
 go_enter Tryz.func60, Tryz.ntmps60
 go_upto_region 0 with fail
 refine RL hS ?_
 clear hS
 refine MN (z := lf k v) (t := 60) ?_
 intro J0c
 refine MV ?_
 refine MZ fun W hS => ?_
 go_upto_region 1 with fail
 refine RL hS ?_
 clear hS
 refine MB0 (t := 60) (n := 64) ?_
 intro V86
 refine MV ?_
 refine MZ fun W hS => ?_
 go_wp2_with fail
 go_loopw [5, 6, 7] (fun uv bv ii wr => ∃ (i : Nat) (dn : Bool) (acc : List Lf) (u : Value), (i ≤ ls.length) ∧ (acc.length ≤ 2 * i) ∧ (acc ++ J4t (k, v) dn (ls.drop i) = J43 ls (k, v)) ∧ (u = uv) ∧ (bv = .bool dn) ∧ (ii = .int .i64 (i : Int)) ∧ SH [] w wr [.r 60 64 u (List.map lfl acc), .b J0c (lf k v) 60])
  (fun uv bv ii _ => ls.length - (intOf ii).toNat)
 case atStart => exact ⟨0, false, [], _, Nat.zero_le _, Nat.zero_le _, rfl, rfl, rfl, rfl, hS⟩
 clear hS
 case round =>
  obtain ⟨i, dn, acc, u, hi, hal, hE, rfl, rfl, rfl, hS⟩ := hrel
  by_cases hlt : i < ls.length
  ·
   have _f := hlt
   obtain ⟨y, yh⟩ : ∃ x, ls[i]? = some x := ⟨_, List.getElem?_eq_getElem hlt⟩
   obtain ⟨gl, ol, A0l, c0l⟩ := HRl.out i y yh
   have HAl := Lib.hid A0l
   clear A0l
   go_upto_region 4 with fail
   refine RL hS ?_
   clear hS
   refine MV ?_
   refine MV ?_
   refine MV ?_
   refine MW ?_ (v := .bool true)
   refine MZ fun W hS => ?_
   rcases dn with _ | _
   ·
    have _f := True.intro
    rcases hkl : kl y.1 k with _ | _
    ·
     have _f := True.intro
     go_upto_region 6 with fail
     refine RTh (.q 0 (.q 1 (.q 2 (.q 3 (.q 4 (.q 5 (.q 6 (.q 7 (.q 8 (.q 9 (.e 10 (.q 11 (.q 12 .z))))))))))))) hS ?_
     clear hS
     refine TW ?_ (v := .bool false)
     refine TW ?_ (v := .bool true)
     refine TW ?_ (v := .bool true)
     refine TV ?_
     refine TV ?_
     refine TW ?_ (v := .pointer (some ⟨gl, ol + i * 64, none⟩)) (hv := fun _ => V0 HAl.out hlt rfl rfl rfl Tryz.underlying63 (by kernel_rfl))
     refine TW ?_ (v := .pointer (some ⟨gl, ol + i * 64, none⟩))
     refine TF (v := .agg (J0 .u8 32 (Q5 y.1))) rfl (fun W hS => K4 rfl rfl (fun i_ v hv => K5 (c0l i_ v (by rw [Array.getElem?_toList]; have h_ := J4i (k := y.1) (v := y.2) i_ v hv; rw [Nat.zero_add] at h_; exact h_)) hS.ext) (by kernel_rfl) (by rw [J2]; kernel_rfl)) ?_
     refine TV ?_
     refine Tl 1 J4i ?_
     refine TE (fun _ h => h) ?_
     refine MC (v := .bool false) (fun W hS => Y0x y.1 k _ hkl W) ?_
     refine TNh (fun W hS => hS) ?_
     refine TW ?_ (v := .bool true)
     refine TW ?_ (v := .bool true)
     refine TZ (fun _ h => h) fun W hS => ?_
     go_upto_region 7 with fail
     refine RL hS ?_
     clear hS
     refine MV ?_
     refine ML 1 ?_ (hs := by rw [Q8]; kernel_rfl)
     refine MB (z := (lf k v)) (t := 60) (n := 1) (c := 1) ?_ (hr := fun W _ => J1r rfl rfl rfl Tryz.underlying63 (by rw [Q8]; kernel_rfl) (by rw [Q8]; kernel_rfl) (by rw [Q8]; decide) (by rw [Q8]; decide))
     intro V77
     refine MAr 1 0 (tS := 63) (bytes := 64) (es := (List.map lfl acc)) (by first | omega | (simp only [List.length_append, List.length_map, List.length_take, List.length_cons, List.length_nil]; omega)) (e := lfl (k, v)) (hk := Q8) (h1 := J34) ?_
     intro Y6h
     refine MV ?_
     refine MZ fun W hS => ?_
     by_cases he : y.1 = k
     ·
      have _f := he
      go_upto_region 9 with fail
      refine RTh (.q 0 (.q 1 (.q 2 (.q 3 (.q 4 (.q 5 (.q 6 (.q 7 .z)))))))) hS ?_
      clear hS
      refine TV ?_
      refine TV ?_
      refine TW ?_ (v := .pointer (some ⟨gl, ol + i * 64, none⟩)) (hv := fun _ => V0 HAl.out hlt rfl rfl rfl Tryz.underlying63 (by kernel_rfl))
      refine TW ?_ (v := .pointer (some ⟨gl, ol + i * 64, none⟩))
      refine TF (v := .agg (J0 .u8 32 (Q5 y.1))) rfl (fun W hS => K4 rfl rfl (fun i_ v hv => K5 (c0l i_ v (by rw [Array.getElem?_toList]; have h_ := J4i (k := y.1) (v := y.2) i_ v hv; rw [Nat.zero_add] at h_; exact h_)) hS.ext) (by kernel_rfl) (by rw [J2]; kernel_rfl)) ?_
      refine TV ?_
      refine Tl 2 J4i ?_
      refine TW ?_ (v := .bool false) (hv := fun _ => J1y ((fun w => (J94 y.1 k (hls _ (List.mem_of_getElem? yh)).1 hk w).trans (by rw [decide_eq_true he])) _) (by kernel_rfl) rfl rfl rfl)
      refine TZ (fun _ h => h) fun W hS => ?_
      go_wp2
      go_roundw
      case rel => exact ⟨i + 1, true, acc ++ [(k, v)], Y6h, by omega, by first | omega | (simp only [List.length_append, List.length_cons, List.length_nil]; omega), by rw [← hE, J64 yh]; simp only [hkl]; simp [he], rfl, rfl, by go_num, (by rw [show List.map lfl (acc ++ [(k, v)]) = (List.map lfl acc) ++ [lfl (k, v)] from by first | rfl | simp only [List.map_append, List.map_cons, List.map_nil]]; exact (hS.pick [1, 2]))⟩
      case measure => simp [intOf]; omega
     have _f := he
     go_upto_region 9 with fail
     refine RTh (.q 0 (.q 1 (.q 2 (.q 3 (.q 4 (.q 5 (.q 6 (.q 7 .z)))))))) hS ?_
     clear hS
     refine TV ?_
     refine TV ?_
     refine TW ?_ (v := .pointer (some ⟨gl, ol + i * 64, none⟩)) (hv := fun _ => V0 HAl.out hlt rfl rfl rfl Tryz.underlying63 (by kernel_rfl))
     refine TW ?_ (v := .pointer (some ⟨gl, ol + i * 64, none⟩))
     refine TF (v := .agg (J0 .u8 32 (Q5 y.1))) rfl (fun W hS => K4 rfl rfl (fun i_ v hv => K5 (c0l i_ v (by rw [Array.getElem?_toList]; have h_ := J4i (k := y.1) (v := y.2) i_ v hv; rw [Nat.zero_add] at h_; exact h_)) hS.ext) (by kernel_rfl) (by rw [J2]; kernel_rfl)) ?_
     refine TV ?_
     refine Tl 2 J4i ?_
     refine TW ?_ (v := .bool true) (hv := fun _ => J1y ((fun w => (J94 y.1 k (hls _ (List.mem_of_getElem? yh)).1 hk w).trans (by rw [decide_eq_false he])) _) (by kernel_rfl) rfl rfl rfl)
     refine TZ (fun _ h => h) fun W hS => ?_
     go_upto_region 10 with fail
     refine RL hS ?_
     clear hS
     refine MV ?_
     refine MV ?_
     refine MV ?_
     refine MW ?_ (v := .pointer (some ⟨gl, ol + i * 64, none⟩)) (hv := fun _ => V0 HAl.out hlt rfl rfl rfl Tryz.underlying63 (by kernel_rfl))
     refine MF (v := .agg (lf y.1 y.2)) (fun W hS => K4 rfl rfl (fun i_ v hv => K5 (c0l i_ v (by simpa using hv)) hS.ext) (by kernel_rfl) (by rw [Q8]; kernel_rfl)) ?_
     refine MB (z := (lf y.1 y.2)) (t := 60) (n := 1) (c := 1) ?_ (hr := fun W _ => J1r rfl rfl rfl Tryz.underlying63 (by rw [Q8]; kernel_rfl) (by rw [Q8]; kernel_rfl) (by rw [Q8]; decide) (by rw [Q8]; decide))
     intro V78
     refine MAr 2 0 (tS := 63) (bytes := 64) (es := ((List.map lfl acc) ++ [lfl (k, v)])) (by first | omega | (simp only [List.length_append, List.length_map, List.length_take, List.length_cons, List.length_nil]; omega)) (e := lfl y) (hk := Q8) (h1 := J34) ?_
     intro V4d
     refine MV ?_
     refine MZ fun W hS => ?_
     go_wp2
     go_roundw
     case rel => exact ⟨i + 1, true, acc ++ [(k, v)] ++ [y], V4d, by omega, by first | omega | (simp only [List.length_append, List.length_cons, List.length_nil]; omega), by rw [← hE, J64 yh]; simp only [hkl]; simp [he], rfl, rfl, by go_num, (by rw [show List.map lfl (acc ++ [(k, v)] ++ [y]) = ((List.map lfl acc) ++ [lfl (k, v)]) ++ [lfl y] from by first | rfl | simp only [List.map_append, List.map_cons, List.map_nil]]; exact (hS.pick [2, 3]))⟩
     case measure => simp [intOf]; omega
    have _f := True.intro
    go_upto_region 6 with fail
    refine RTh (.q 0 (.q 1 (.q 2 (.q 3 (.q 4 (.q 5 (.q 6 (.q 7 (.q 8 (.q 9 (.e 10 (.q 11 (.q 12 .z))))))))))))) hS ?_
    clear hS
    refine TW ?_ (v := .bool false)
    refine TW ?_ (v := .bool true)
    refine TW ?_ (v := .bool true)
    refine TV ?_
    refine TV ?_
    refine TW ?_ (v := .pointer (some ⟨gl, ol + i * 64, none⟩)) (hv := fun _ => V0 HAl.out hlt rfl rfl rfl Tryz.underlying63 (by kernel_rfl))
    refine TW ?_ (v := .pointer (some ⟨gl, ol + i * 64, none⟩))
    refine TF (v := .agg (J0 .u8 32 (Q5 y.1))) rfl (fun W hS => K4 rfl rfl (fun i_ v hv => K5 (c0l i_ v (by rw [Array.getElem?_toList]; have h_ := J4i (k := y.1) (v := y.2) i_ v hv; rw [Nat.zero_add] at h_; exact h_)) hS.ext) (by kernel_rfl) (by rw [J2]; kernel_rfl)) ?_
    refine TV ?_
    refine Tl 1 J4i ?_
    refine TE (fun _ h => h) ?_
    refine MC (v := .bool true) (fun W hS => Y0x y.1 k _ hkl W) ?_
    refine TNh (fun W hS => hS) ?_
    refine TW ?_ (v := .bool false)
    refine TW ?_ (v := .bool false)
    refine TZ (fun _ h => h) fun W hS => ?_
    by_cases he : y.1 = k
    ·
     have _f := he
     go_upto_region 9 with fail
     refine RTh (.q 0 (.q 1 (.q 2 (.q 3 (.q 4 (.q 5 (.q 6 (.q 7 .z)))))))) hS ?_
     clear hS
     refine TV ?_
     refine TV ?_
     refine TW ?_ (v := .pointer (some ⟨gl, ol + i * 64, none⟩)) (hv := fun _ => V0 HAl.out hlt rfl rfl rfl Tryz.underlying63 (by kernel_rfl))
     refine TW ?_ (v := .pointer (some ⟨gl, ol + i * 64, none⟩))
     refine TF (v := .agg (J0 .u8 32 (Q5 y.1))) rfl (fun W hS => K4 rfl rfl (fun i_ v hv => K5 (c0l i_ v (by rw [Array.getElem?_toList]; have h_ := J4i (k := y.1) (v := y.2) i_ v hv; rw [Nat.zero_add] at h_; exact h_)) hS.ext) (by kernel_rfl) (by rw [J2]; kernel_rfl)) ?_
     refine TV ?_
     refine Tl 1 J4i ?_
     refine TW ?_ (v := .bool false) (hv := fun _ => J1y ((fun w => (J94 y.1 k (hls _ (List.mem_of_getElem? yh)).1 hk w).trans (by rw [decide_eq_true he])) _) (by kernel_rfl) rfl rfl rfl)
     refine TZ (fun _ h => h) fun W hS => ?_
     go_wp2
     go_roundw
     case rel => exact ⟨i + 1, false, acc, u, by omega, by first | omega | (simp only [List.length_append, List.length_cons, List.length_nil]; omega), by rw [← hE, J64 yh]; simp only [hkl]; simp [he], rfl, rfl, by go_num, (by rw [show List.map lfl (acc) = List.map lfl acc from by first | rfl | simp only [List.map_append, List.map_cons, List.map_nil]]; exact hS)⟩
     case measure => simp [intOf]; omega
    have _f := he
    go_upto_region 9 with fail
    refine RTh (.q 0 (.q 1 (.q 2 (.q 3 (.q 4 (.q 5 (.q 6 (.q 7 .z)))))))) hS ?_
    clear hS
    refine TV ?_
    refine TV ?_
    refine TW ?_ (v := .pointer (some ⟨gl, ol + i * 64, none⟩)) (hv := fun _ => V0 HAl.out hlt rfl rfl rfl Tryz.underlying63 (by kernel_rfl))
    refine TW ?_ (v := .pointer (some ⟨gl, ol + i * 64, none⟩))
    refine TF (v := .agg (J0 .u8 32 (Q5 y.1))) rfl (fun W hS => K4 rfl rfl (fun i_ v hv => K5 (c0l i_ v (by rw [Array.getElem?_toList]; have h_ := J4i (k := y.1) (v := y.2) i_ v hv; rw [Nat.zero_add] at h_; exact h_)) hS.ext) (by kernel_rfl) (by rw [J2]; kernel_rfl)) ?_
    refine TV ?_
    refine Tl 1 J4i ?_
    refine TW ?_ (v := .bool true) (hv := fun _ => J1y ((fun w => (J94 y.1 k (hls _ (List.mem_of_getElem? yh)).1 hk w).trans (by rw [decide_eq_false he])) _) (by kernel_rfl) rfl rfl rfl)
    refine TZ (fun _ h => h) fun W hS => ?_
    go_upto_region 10 with fail
    refine RL hS ?_
    clear hS
    refine MV ?_
    refine MV ?_
    refine MV ?_
    refine MW ?_ (v := .pointer (some ⟨gl, ol + i * 64, none⟩)) (hv := fun _ => V0 HAl.out hlt rfl rfl rfl Tryz.underlying63 (by kernel_rfl))
    refine MF (v := .agg (lf y.1 y.2)) (fun W hS => K4 rfl rfl (fun i_ v hv => K5 (c0l i_ v (by simpa using hv)) hS.ext) (by kernel_rfl) (by rw [Q8]; kernel_rfl)) ?_
    refine MB (z := (lf y.1 y.2)) (t := 60) (n := 1) (c := 1) ?_ (hr := fun W _ => J1r rfl rfl rfl Tryz.underlying63 (by rw [Q8]; kernel_rfl) (by rw [Q8]; kernel_rfl) (by rw [Q8]; decide) (by rw [Q8]; decide))
    intro V79
    refine MAr 1 0 (tS := 63) (bytes := 64) (es := (List.map lfl acc)) (by first | omega | (simp only [List.length_append, List.length_map, List.length_take, List.length_cons, List.length_nil]; omega)) (e := lfl y) (hk := Q8) (h1 := J34) ?_
    intro V4e
    refine MV ?_
    refine MZ fun W hS => ?_
    go_wp2
    go_roundw
    case rel => exact ⟨i + 1, false, acc ++ [y], V4e, by omega, by first | omega | (simp only [List.length_append, List.length_cons, List.length_nil]; omega), by rw [← hE, J64 yh]; simp only [hkl]; simp [he], rfl, rfl, by go_num, (by rw [show List.map lfl (acc ++ [y]) = (List.map lfl acc) ++ [lfl y] from by first | rfl | simp only [List.map_append, List.map_cons, List.map_nil]]; exact (hS.pick [1, 2]))⟩
    case measure => simp [intOf]; omega
   have _f := True.intro
   go_upto_region 6 with fail
   refine RTh (.q 0 (.q 1 (.q 2 (.q 3 (.q 4 (.q 5 (.q 6 (.q 7 (.q 8 (.q 9 (.e 10 (.q 11 (.q 12 .z))))))))))))) hS ?_
   clear hS
   refine TW ?_ (v := .bool true)
   refine TW ?_ (v := .bool false)
   refine TW ?_ (v := .bool false)
   refine TS ?_
   refine TS ?_
   refine TS ?_
   refine TS ?_
   refine TS ?_
   refine TS ?_
   refine TS ?_
   refine TE (fun _ h => h) ?_
   refine MS ?_
   refine TNh (fun W hS => hS) ?_
   refine TS ?_
   refine TW ?_ (v := .bool false)
   refine TZ (fun _ h => h) fun W hS => ?_
   by_cases he : y.1 = k
   ·
    have _f := he
    go_upto_region 9 with fail
    refine RTh (.q 0 (.q 1 (.q 2 (.q 3 (.q 4 (.q 5 (.q 6 (.q 7 .z)))))))) hS ?_
    clear hS
    refine TV ?_
    refine TV ?_
    refine TW ?_ (v := .pointer (some ⟨gl, ol + i * 64, none⟩)) (hv := fun _ => V0 HAl.out hlt rfl rfl rfl Tryz.underlying63 (by kernel_rfl))
    refine TW ?_ (v := .pointer (some ⟨gl, ol + i * 64, none⟩))
    refine TF (v := .agg (J0 .u8 32 (Q5 y.1))) rfl (fun W hS => K4 rfl rfl (fun i_ v hv => K5 (c0l i_ v (by rw [Array.getElem?_toList]; have h_ := J4i (k := y.1) (v := y.2) i_ v hv; rw [Nat.zero_add] at h_; exact h_)) hS.ext) (by kernel_rfl) (by rw [J2]; kernel_rfl)) ?_
    refine TV ?_
    refine Tl 1 J4i ?_
    refine TW ?_ (v := .bool false) (hv := fun _ => J1y ((fun w => (J94 y.1 k (hls _ (List.mem_of_getElem? yh)).1 hk w).trans (by rw [decide_eq_true he])) _) (by kernel_rfl) rfl rfl rfl)
    refine TZ (fun _ h => h) fun W hS => ?_
    go_wp2
    go_roundw
    case rel => exact ⟨i + 1, true, acc, u, by omega, by first | omega | (simp only [List.length_append, List.length_cons, List.length_nil]; omega), by rw [← hE, J64 yh]; simp [he], rfl, rfl, by go_num, (by rw [show List.map lfl (acc) = List.map lfl acc from by first | rfl | simp only [List.map_append, List.map_cons, List.map_nil]]; exact hS)⟩
    case measure => simp [intOf]; omega
   have _f := he
   go_upto_region 9 with fail
   refine RTh (.q 0 (.q 1 (.q 2 (.q 3 (.q 4 (.q 5 (.q 6 (.q 7 .z)))))))) hS ?_
   clear hS
   refine TV ?_
   refine TV ?_
   refine TW ?_ (v := .pointer (some ⟨gl, ol + i * 64, none⟩)) (hv := fun _ => V0 HAl.out hlt rfl rfl rfl Tryz.underlying63 (by kernel_rfl))
   refine TW ?_ (v := .pointer (some ⟨gl, ol + i * 64, none⟩))
   refine TF (v := .agg (J0 .u8 32 (Q5 y.1))) rfl (fun W hS => K4 rfl rfl (fun i_ v hv => K5 (c0l i_ v (by rw [Array.getElem?_toList]; have h_ := J4i (k := y.1) (v := y.2) i_ v hv; rw [Nat.zero_add] at h_; exact h_)) hS.ext) (by kernel_rfl) (by rw [J2]; kernel_rfl)) ?_
   refine TV ?_
   refine Tl 1 J4i ?_
   refine TW ?_ (v := .bool true) (hv := fun _ => J1y ((fun w => (J94 y.1 k (hls _ (List.mem_of_getElem? yh)).1 hk w).trans (by rw [decide_eq_false he])) _) (by kernel_rfl) rfl rfl rfl)
   refine TZ (fun _ h => h) fun W hS => ?_
   go_upto_region 10 with fail
   refine RL hS ?_
   clear hS
   refine MV ?_
   refine MV ?_
   refine MV ?_
   refine MW ?_ (v := .pointer (some ⟨gl, ol + i * 64, none⟩)) (hv := fun _ => V0 HAl.out hlt rfl rfl rfl Tryz.underlying63 (by kernel_rfl))
   refine MF (v := .agg (lf y.1 y.2)) (fun W hS => K4 rfl rfl (fun i_ v hv => K5 (c0l i_ v (by simpa using hv)) hS.ext) (by kernel_rfl) (by rw [Q8]; kernel_rfl)) ?_
   refine MB (z := (lf y.1 y.2)) (t := 60) (n := 1) (c := 1) ?_ (hr := fun W _ => J1r rfl rfl rfl Tryz.underlying63 (by rw [Q8]; kernel_rfl) (by rw [Q8]; kernel_rfl) (by rw [Q8]; decide) (by rw [Q8]; decide))
   intro V7a
   refine MAr 1 0 (tS := 63) (bytes := 64) (es := (List.map lfl acc)) (by first | omega | (simp only [List.length_append, List.length_map, List.length_take, List.length_cons, List.length_nil]; omega)) (e := lfl y) (hk := Q8) (h1 := J34) ?_
   intro V0k
   refine MV ?_
   refine MZ fun W hS => ?_
   go_wp2
   go_roundw
   case rel => exact ⟨i + 1, true, acc ++ [y], V0k, by omega, by first | omega | (simp only [List.length_append, List.length_cons, List.length_nil]; omega), by rw [← hE, J64 yh]; simp [he], rfl, rfl, by go_num, (by rw [show List.map lfl (acc ++ [y]) = (List.map lfl acc) ++ [lfl y] from by first | rfl | simp only [List.map_append, List.map_cons, List.map_nil]]; exact (hS.pick [1, 2]))⟩
   case measure => simp [intOf]; omega
  have _f := hlt
  obtain rfl : i = ls.length := by omega
  go_upto_region 4 with fail
  refine RL hS ?_
  clear hS
  refine MV ?_
  refine MV ?_
  refine MV ?_
  refine MW ?_ (v := .bool false)
  refine MZ fun W hS => ?_
  rcases dn with _ | _
  ·
   have _f := True.intro
   rw [List.drop_length] at hE
   go_upto_region 12 with fail
   refine RL hS ?_
   clear hS
   refine MV ?_
   refine ML 1 ?_ (hs := by rw [Q8]; kernel_rfl)
   refine MB (z := (lf k v)) (t := 60) (n := 1) (c := 1) ?_ (hr := fun W _ => J1r rfl rfl rfl Tryz.underlying63 (by rw [Q8]; kernel_rfl) (by rw [Q8]; kernel_rfl) (by rw [Q8]; decide) (by rw [Q8]; decide))
   intro V62
   refine MAr 1 0 (tS := 63) (bytes := 64) (es := (List.map lfl acc)) (by first | omega | (simp only [List.length_append, List.length_map, List.length_take, List.length_cons, List.length_nil]; omega)) (e := lfl (k, v)) (hk := Q8) (h1 := J34) ?_
   intro V0l
   refine MV ?_
   refine MZ fun W hS => ?_
   go_wp2
   have e_ : (List.map lfl acc) ++ [lfl (k, v)] = List.map lfl (J43 ls (k, v)) := by rw [← hE]; simp [J4t]
   exact bodyPost_ret (v := V0l) (by simp only [results, Tryz.results60]; go_simp) rfl ⟨_, rfl, by have h_ := hS.pick [1]; rw [e_] at h_; exact h_⟩
  have _f := True.intro
  rw [List.drop_length] at hE
  go_wp2
  have e_ : List.map lfl acc = List.map lfl (J43 ls (k, v)) := by rw [← hE]; simp [J4t]
  exact bodyPost_ret (v := u) (by simp only [results, Tryz.results60]; go_simp) rfl ⟨_, rfl, by have h_ := hS.pick [0]; rw [e_] at h_; exact h_⟩
end

section
open Go.RowKit
attribute [local irreducible] wpList J0k wpX

end

section
set_option maxHeartbeats 3000000
set_option maxRecDepth 100000
open Go.RowKit
attribute [local irreducible] wpList J0k wpX
attribute [local irreducible] hs4 sE sL sN

theorem V4f {d : Int} {q : Prop} (hr : q) {u : Value} (w : World) (hG : GT q w) (hl : RR 64 w u (([] : List Lf).map lfl)) :
  Calls Tryz.prog 58 #[u, .int .i64 d] w fun e w' => Ret (str (lb 32 sE)) w w' e := by
 obtain ⟨Al, cl, rfl, hlcl, HRl⟩ := hl.op
 have hS := SH.nil [] w
 go_enter Tryz.func58, Tryz.ntmps58
 go_upto_region 1 with fail
 refine RL hS ?_
 clear hS
 refine MV ?_
 refine MV ?_
 refine MW ?_ (v := .bool true)
 refine MZ fun W hS => ?_
 go_upto_region 2 with fail
 refine RL hS ?_
 clear hS
 obtain ⟨U1, hU1⟩ := exn (sE)
 have HU1 := Lib.hid hU1
 clear hU1
 refine MC (v := str (lb 32 U1)) (fun W hS => (by rw [HU1.out]; exact Y0k hr W (V6 hG hS.ext))) ?_
 refine MV ?_
 refine MZ fun W hS => ?_
 have e_ := HU1.out
 subst e_
 go_wp2
 exact bodyPost_ret (v := str (lb 32 sE)) (by simp only [results, Tryz.results58]; go_simp) rfl ⟨rfl, hS.ext⟩
theorem V4g {q : Prop} (hr : q) {d : Int} {x : Lf} {u : Value} (w : World) (hG : GT q w) (hl : RR 64 w u ([x].map lfl)) :
  Calls Tryz.prog 58 #[u, .int .i64 d] w fun e w' => Ret (str (lb 32 (sL x.1 x.2))) w w' e := by
 obtain ⟨Al, cl, rfl, hlcl, HRl⟩ := hl.op
 obtain ⟨gl, ol, A0l, c0l⟩ := HRl.out 0 x rfl
 have HAl := Lib.hid A0l
 clear A0l
 have hS := SH.nil [] w
 go_enter Tryz.func58, Tryz.ntmps58
 go_upto_region 1 with fail
 refine RL hS ?_
 clear hS
 refine MV ?_
 refine MV ?_
 refine MW ?_ (v := .bool false)
 refine MZ fun W hS => ?_
 go_upto_region 3 with fail
 refine RL hS ?_
 clear hS
 refine MV ?_
 refine MV ?_
 refine MW ?_ (v := .bool true)
 refine MZ fun W hS => ?_
 go_upto_region 4 with fail
 refine RL hS ?_
 clear hS
 refine MV ?_
 refine MW ?_ (v := .pointer (some ⟨gl, ol + 0 * 64, none⟩)) (hv := fun _ => V0 HAl.out (Nat.lt_succ_self 0) rfl rfl rfl Tryz.underlying63 (by kernel_rfl))
 refine MF (v := .agg (lf x.1 x.2)) (fun W hS => K4 rfl rfl (fun i_ v hv => K5 (c0l i_ v (by simpa using hv)) hS.ext) (by kernel_rfl) (by rw [Q8]; kernel_rfl)) ?_
 obtain ⟨U1, hU1⟩ := exn (sL x.1 x.2)
 have HU1 := Lib.hid hU1
 clear hU1
 refine MC (v := str (lb 32 U1)) (fun W hS => (by rw [HU1.out]; exact Z1u hr x.1 x.2 W (V6 hG hS.ext))) ?_
 refine MV ?_
 refine MZ fun W hS => ?_
 have e_ := HU1.out
 subst e_
 go_wp2
 exact bodyPost_ret (v := str (lb 32 (sL x.1 x.2))) (by simp only [results, Tryz.results58]; go_simp) rfl ⟨rfl, hS.ext⟩
theorem V4h {q : Prop} (hr : q) {ls : List Lf} {A0 A1 : Nat} (d : Nat) (hd : d < 256) (hn : ls.length ≤ 274877906944) (h2 : 2 ≤ ls.length) (ih0 : ∀ {u : Value} (W : World), GT q W → RR 64 W u ((V9 ls d 0).map lfl) → Calls Tryz.prog 58 #[u, .int .i64 ((d + 1 : Nat) : Int)] W fun e w' => Ret (str (lb 32 A0)) W w' e) (ih1 : ∀ {u : Value} (W : World), GT q W → RR 64 W u ((V9 ls d 1).map lfl) → Calls Tryz.prog 58 #[u, .int .i64 ((d + 1 : Nat) : Int)] W fun e w' => Ret (str (lb 32 A1)) W w' e) {u : Value} (w : World) (hG : GT q w) (hl : RR 64 w u (ls.map lfl)) :
  Calls Tryz.prog 58 #[u, .int .i64 (d : Int)] w fun e w' => Ret (str (lb 32 (sN d A0 A1))) w w' e := by
 obtain ⟨Al, cl, rfl, hlcl, HRl⟩ := hl.op
 have h0_ : ¬ ls = [] := fun e => by subst e; exact absurd h2 (by decide)
 have hS := SH.nil [] w
 go_enter Tryz.func58, Tryz.ntmps58
 go_upto_region 1 with fail
 refine RL hS ?_
 clear hS
 refine MV ?_
 refine MV ?_
 refine MW ?_ (v := .bool false) (hv := by intro W; first | (go_simp; done) | (go_simp; exact h0_))
 refine MZ fun W hS => ?_
 go_upto_region 3 with fail
 refine RL hS ?_
 clear hS
 refine MV ?_
 refine MV ?_
 refine MW ?_ (v := .bool false)
 refine MZ fun W hS => ?_
 go_upto_region 5 with fail
 refine RL hS ?_
 clear hS
 refine MV ?_
 refine MV ?_
 refine MV ?_
 refine ME (fun W hS => Q0d hS (Q2e d 0 hd hn W (hl.ext hS.ext)) rfl) ?_
 intro u_rs1
 refine MV ?_
 refine MW ?_ (v := .int .i64 ((d + 1 : Nat) : Int)) (hv := by intro W; go_simp; (try simp only [IntKind.wrap_i64]); omega)
 refine MC (v := str (lb 32 A0)) (fun W hS => ih0 W (V6 hG hS.ext) (hS.row (i := 0) rfl).rr) ?_
 refine MV ?_
 refine MV ?_
 refine ME (fun W hS => Q0d hS (Q2e d 1 hd hn W (hl.ext hS.ext)) rfl) ?_
 intro u_rs2
 refine MV ?_
 refine MW ?_ (v := .int .i64 ((d + 1 : Nat) : Int)) (hv := by intro W; go_simp; (try simp only [IntKind.wrap_i64]); omega)
 refine MC (v := str (lb 32 A1)) (fun W hS => ih1 W (V6 hG hS.ext) (hS.row (i := 0) rfl).rr) ?_
 obtain ⟨U1, hU1⟩ := exn (sN (d : Int) A0 A1)
 have HU1 := Lib.hid hU1
 clear hU1
 refine MC (v := str (lb 32 U1)) (fun W hS => (by rw [HU1.out]; exact Z1v hr (d : Int) A0 A1 W (V6 hG hS.ext))) ?_
 refine MV ?_
 refine MZ fun W hS => ?_
 have e_ := HU1.out
 subst e_
 go_wp2
 exact bodyPost_ret (v := str (lb 32 (sN d A0 A1))) (by simp only [results, Tryz.results58]; go_simp) rfl ⟨rfl, hS.ext⟩
theorem Q8k {q : Prop} (hr : q) : ∀ (f d : Nat) {ls : List Lf}, f + d = 256 → Srt ls → Pre ls d → ls.length ≤ 274877906944 → ∀ {u : Value} (w : World), GT q w → RR 64 w u (ls.map lfl) → Calls Tryz.prog 58 #[u, .int .i64 (d : Int)] w fun e w' => Ret (str (lb 32 (rs (can f ls d)))) w w' e
 | f, d, [], hd, hs, hp, hn, u, w, hG, h => by rw [J4h]; exact V4f hr w hG h
 | f, d, [x], hd, hs, hp, hn, u, w, hG, h => by rw [J3y]; exact V4g hr w hG h
 | 0, d, x :: y :: r, hd, hs, hp, hn, u, w, hG, h => by
  obtain rfl : d = 256 := by omega
  exact (Q23 hs hp).elim
 | f + 1, d, x :: y :: r, hd, hs, hp, hn, u, w, hG, h => by
  rw [J6v (by simp)]
  exact V4h hr d (by omega) hn (by simp) (fun W hG' h' => Q8k hr f (d + 1) (by omega) (J21 hs) (J2b hp) (Nat.le_trans (J52 _ _ _) hn) W hG' h') (fun W hG' h' => Q8k hr f (d + 1) (by omega) (J21 hs) (J2b hp) (Nat.le_trans (J52 _ _ _) hn) W hG' h') w hG h
end

section
open Go.RowKit
attribute [local irreducible] wpList J0k wpX
attribute [local irreducible] hs4 sE sL sN

end
end Go.Proofs.YtejkmhgkkibafaaGreatDoor

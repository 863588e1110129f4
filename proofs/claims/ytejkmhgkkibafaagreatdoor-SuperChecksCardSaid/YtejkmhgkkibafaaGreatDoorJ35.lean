/- Contracts and plain laws that superChecks_holds rests on. Conditions: the variables' cells hold the numbers of the program's text. -/
import Derived.Test.YtejkmhgkkibafaaGreatDoorJ30
import Derived.Test.YtejkmhgkkibafaaGreatDoorJ5
import Derived.Test.YtejkmhgkkibafaaGreatDoorJ6
open Go.RowKit
set_option linter.unusedSimpArgs false
set_option linter.unusedVariables false
namespace Go.Proofs.YtejkmhgkkibafaaGreatDoor
section
def nN (a b : Nat) : Nat := hs4 ([1] ++ lb 32 a ++ lb 32 b)
def hlf (n : Nat) : Nat → Nat → Nat
  | 0, k => k
  | f + 1, k => if k < n - k then hlf n f (k * 2) else k
def hfn (n : Nat) : Nat := hlf n n 1
theorem Z28 {n e : Nat} (h1 : 2 ^ e < n) (h2 : n ≤ 2 ^ (e + 1)) : ∀ (d j f : Nat), j + d = e → d ≤ f → hlf n f (2 ^ j) = 2 ^ e
  | 0, j, f, hj, _ => by
    have hj : j = e := by omega
    subst hj
    cases f with
    | zero => rfl
    | succ f => unfold hlf; rw [if_neg (by have := Nat.pow_succ 2 j; omega)]
  | d + 1, j, f, hj, hf => by
    obtain ⟨f, rfl⟩ : ∃ g, f = g + 1 := ⟨f - 1, by omega⟩
    have h3 : 2 ^ (j + 1) ≤ 2 ^ e := Nat.pow_le_pow_right (by decide) (by omega)
    have h4 := Nat.pow_succ 2 j
    unfold hlf
    rw [if_pos (by omega), ← Nat.pow_succ]
    exact Z28 h1 h2 d (j + 1) f (by omega) (by omega)
theorem Z95 {n e : Nat} (h1 : 2 ^ e < n) (h2 : n ≤ 2 ^ (e + 1)) : hfn n = 2 ^ e :=
  Z28 h1 h2 e 0 n (by omega) (by have := @Nat.lt_two_pow_self e; omega)
theorem Y2t {n : Nat} (h : 2 ≤ n) : ∃ e, 2 ^ e < n ∧ n ≤ 2 ^ (e + 1) := by
  refine ⟨(n - 1).log2, ?_, ?_⟩
  · have := Nat.log2_self_le (n := n - 1) (by omega); omega
  have := @Nat.lt_log2_self (n - 1); omega
theorem Z29 {n : Nat} (h : 2 ≤ n) : 0 < hfn n ∧ hfn n < n := by
  obtain ⟨e, h1, h2⟩ := Y2t h
  rw [Z95 h1 h2]; exact ⟨Nat.two_pow_pos e, h1⟩
theorem Z96 {n k f : Nat} (h : k < n - k) : hlf n (f + 1) k = hlf n f (k * 2) := by unfold hlf; rw [if_pos h]; cases f <;> rfl
theorem Z97 {n k : Nat} (f : Nat) (h : ¬ k < n - k) : hlf n f k = k := by
  cases f with
  | zero => rfl
  | succ f => unfold hlf; rw [if_neg h]
def mth (l : List Nat) : Nat :=
  if h : 2 ≤ l.length then
    have := Z29 h
    nN (mth (l.take (hfn l.length))) (mth (l.drop (hfn l.length)))
  else match l with
    | [] => hs4 []
    | a :: _ => a
termination_by l.length
decreasing_by
  · rw [List.length_take]; omega
  · rw [List.length_drop]; omega
theorem mth_nil : mth [] = hs4 [] := by rw [mth]; rfl
theorem Z2a (a : Nat) : mth [a] = a := by rw [mth]; rfl
theorem Z2b {l : List Nat} (h : 2 ≤ l.length) : mth l = nN (mth (l.take (hfn l.length))) (mth (l.drop (hfn l.length))) := by rw [mth, dif_pos h]
theorem Z2c {a b : List Nat} {e : Nat} (ha : a.length = 2 ^ e) (hb : 0 < b.length) (hb2 : b.length ≤ 2 ^ e) : mth (a ++ b) = nN (mth a) (mth b) := by
  have h0 := Nat.two_pow_pos e
  have hl : (a ++ b).length = a.length + b.length := List.length_append
  have h2 := Nat.pow_succ 2 e
  rw [Z2b (by omega), Z95 (e := e) (by omega) (by omega), ← ha, List.take_left, List.drop_left]
def Dec (cs : List (List Nat)) : Prop := (∀ c ∈ cs, ∃ e, c.length = 2 ^ e) ∧ cs.Pairwise fun a b => b.length < a.length
def pkf : List (List Nat) → Nat
  | [] => hs4 []
  | [c] => mth c
  | c :: d :: cs => nN (mth c) (pkf (d :: cs))
theorem Z2d : ∀ {cs : List (List Nat)} {e : Nat}, Dec cs → (∀ c ∈ cs, c.length < 2 ^ e) → cs.flatten.length < 2 ^ e
  | [], e, _, _ => Nat.two_pow_pos e
  | c :: cs, e, h, hl => by
    have hp := List.pairwise_cons.1 h.2
    obtain ⟨f, hf⟩ := h.1 c (by simp)
    have h1 := Z2d (e := f) ⟨fun x hx => h.1 x (by simp [hx]), hp.2⟩ fun x hx => hf ▸ hp.1 x hx
    have h2 := hl c (by simp)
    have hfe : f < e := (Nat.pow_lt_pow_iff_right (by decide : 1 < 2)).1 (hf ▸ h2)
    have h3 : 2 ^ (f + 1) ≤ 2 ^ e := Nat.pow_le_pow_right (by decide) hfe
    have h4 := Nat.pow_succ 2 f
    rw [List.flatten_cons, List.length_append]
    omega
theorem Z2e : ∀ {cs : List (List Nat)}, Dec cs → pkf cs = mth cs.flatten
  | [], _ => by rw [List.flatten_nil, mth_nil]; rfl
  | [c], _ => by rw [List.flatten_cons, List.flatten_nil, List.append_nil]; rfl
  | c :: d :: cs, h => by
    have hp := List.pairwise_cons.1 h.2
    have h' : Dec (d :: cs) := ⟨fun x hx => h.1 x (by simp [hx]), hp.2⟩
    obtain ⟨f, hf⟩ := h.1 c (by simp)
    have h1 := Z2d (e := f) h' fun x hx => hf ▸ hp.1 x hx
    obtain ⟨e, he⟩ := h.1 d (by simp)
    show nN (mth c) (pkf (d :: cs)) = _
    have hd : 0 < (d :: cs).flatten.length := by rw [List.flatten_cons, List.length_append, he]; have := Nat.two_pow_pos e; omega
    show _ = mth (c ++ (d :: cs).flatten)
    rw [Z2e h', Z2c hf hd (by omega)]
theorem Z98 {cs : List (List Nat)} {k : Nat} {c : List Nat} (h : cs[k]? = some c) (hk : k + 1 < cs.length) : pkf (cs.drop k) = nN (mth c) (pkf (cs.drop (k + 1))) := by
  obtain ⟨hl, e⟩ := List.getElem?_eq_some_iff.1 h
  rw [List.drop_eq_getElem_cons hl, e]
  rw [List.drop_eq_getElem_cons hk]
  rfl
theorem Z99 {cs : List (List Nat)} {c : List Nat} (h : cs[cs.length - 1]? = some c) : pkf (cs.drop (cs.length - 1)) = mth c := by
  obtain ⟨hl, e⟩ := List.getElem?_eq_some_iff.1 h
  rw [List.drop_eq_getElem_cons hl, e, List.drop_of_length_le (by omega)]
  rfl
def Fit (cs : List (List Nat)) (c : List Nat) : Prop := Dec cs ∧ (∃ e, c.length = 2 ^ e) ∧ ∀ x ∈ cs, c.length ≤ x.length
theorem Y2u {cs : List (List Nat)} (h : Dec cs) (a : Nat) : Fit cs [a] := ⟨h, ⟨0, rfl⟩, fun x hx => by
  obtain ⟨e, he⟩ := h.1 x hx
  rw [he]; exact Nat.two_pow_pos e⟩
theorem Z9a {cs : List (List Nat)} (h : Dec cs) (n : Nat) : Dec (cs.take n) := ⟨fun x hx => h.1 x (List.mem_of_mem_take hx), h.2.sublist (List.take_sublist ..)⟩
theorem Z2f {cs : List (List Nat)} {d : List Nat} (h : cs[cs.length - 1]? = some d) : cs = cs.take (cs.length - 1) ++ [d] := by
  obtain ⟨hl, e⟩ := List.getElem?_eq_some_iff.1 h
  conv => lhs; rw [← List.take_append_drop (cs.length - 1) cs]
  rw [List.drop_eq_getElem_cons hl, e, List.drop_of_length_le (by omega)]
theorem J3m {cs : List (List Nat)} {c d : List Nat} (h : Fit cs c) (hd : cs[cs.length - 1]? = some d) (hl : d.length = c.length) : Fit (cs.take (cs.length - 1)) (d ++ c) ∧ mth (d ++ c) = nN (mth d) (mth c) ∧ (cs.take (cs.length - 1)).flatten ++ (d ++ c) = cs.flatten ++ c := by
  obtain ⟨h1, ⟨e, he⟩, h3⟩ := h
  have D := Z2f hd
  have h0 := Nat.two_pow_pos e
  refine ⟨⟨Z9a h1 _, ⟨e + 1, by rw [List.length_append, hl, he, Nat.pow_succ]; omega⟩, fun x hx => ?_⟩, Z2c (e := e) (by omega) (by omega) (by omega), ?_⟩
  · have hp := h1.2
    rw [D, List.pairwise_append] at hp
    have h4 := hp.2.2 x hx d (by simp)
    obtain ⟨f, hf⟩ := h1.1 x (List.mem_of_mem_take hx)
    rw [List.length_append, hl, he]
    rw [hl, he, hf] at h4
    have G : e < f := (Nat.pow_lt_pow_iff_right (by decide : 1 < 2)).1 h4
    have h5 : 2 ^ (e + 1) ≤ 2 ^ f := Nat.pow_le_pow_right (by decide) G
    have h6 := Nat.pow_succ 2 e
    omega
  conv => rhs; rw [D]
  rw [List.flatten_append, List.flatten_cons, List.flatten_nil, List.append_nil, List.append_assoc]
theorem Z2g {cs : List (List Nat)} {c : List Nat} (h : Fit cs c) (hn : ∀ d, cs[cs.length - 1]? = some d → d.length ≠ c.length) : Dec (cs ++ [c]) := by
  obtain ⟨h1, h2, h3⟩ := h
  refine ⟨fun x hx => ?_, List.pairwise_append.2 ⟨h1.2, List.pairwise_singleton .., fun x hx y hy => ?_⟩⟩
  · rcases List.mem_append.1 hx with hx | hx
    · exact h1.1 x hx
    rw [List.mem_singleton.1 hx]; exact h2
  rw [List.mem_singleton.1 hy]
  have hl : 0 < cs.length := List.length_pos_of_mem hx
  obtain ⟨d, hd⟩ : ∃ d, cs[cs.length - 1]? = some d := ⟨_, List.getElem?_eq_getElem (by omega)⟩
  have h4 := hn d hd
  have h5 := h3 d (List.mem_of_getElem? hd)
  have D := Z2f hd
  rw [D] at hx
  rcases List.mem_append.1 hx with hx | hx
  · have hp := h1.2
    rw [D, List.pairwise_append] at hp
    have := hp.2.2 x hx d (by simp)
    omega
  rw [List.mem_singleton.1 hx]; omega
def pth (l : List Nat) (i : Nat) : List Nat :=
  if h : 2 ≤ l.length then
    have := Z29 h
    if i < hfn l.length then pth (l.take (hfn l.length)) i ++ [mth (l.drop (hfn l.length))]
    else pth (l.drop (hfn l.length)) (i - hfn l.length) ++ [mth (l.take (hfn l.length))]
  else []
termination_by l.length
decreasing_by
  · rw [List.length_take]; omega
  · rw [List.length_drop]; omega
theorem Q66 {l : List Nat} {i : Nat} (h : ¬ 2 ≤ l.length) : pth l i = [] := by rw [pth, dif_neg h]
theorem Q9y {l : List Nat} {i : Nat} (h : 2 ≤ l.length) (hi : i < hfn l.length) : pth l i = pth (l.take (hfn l.length)) i ++ [mth (l.drop (hfn l.length))] := by rw [pth, dif_pos h, if_pos hi]
theorem Q9z {l : List Nat} {i : Nat} (h : 2 ≤ l.length) (hi : ¬ i < hfn l.length) : pth l i = pth (l.drop (hfn l.length)) (i - hfn l.length) ++ [mth (l.take (hfn l.length))] := by rw [pth, dif_pos h, if_neg hi]
end

section
namespace SH
variable {F : List Nat} {w W W' : World} {H H' L L' R : List As} {x y : As} {i j : Nat}
def okT (L R : List As) : List As → Prop
  | [] => True
  | y :: l => (y ∈ L ∨ (y.mv = true ∧ R.all (tyOk y) = true) ∨ ∃ T K, y = .t T K ∧ R.all (fun z => tyOk z y) = true) ∧ okT L R l
theorem Q6a : ∀ {l : List As}, okT L R l → ∀ y ∈ l, y ∈ L ∨ (y.mv = true ∧ R.all (tyOk y) = true) ∨ ∃ T K, y = .t T K ∧ R.all (fun z => tyOk z y) = true
  | _ :: _, h, y, hy => by
    rcases List.mem_cons.1 hy with rfl | hy
    · exact h.1
    · exact Q6a h.2 y hy
theorem frameT (h : SH F w W (L ++ R)) (h' : SH (feet L) W W' L') (ok : okT L R L') : SH F w W' (L' ++ R) := by
  have hp := List.pairwise_append.1 h.ap
  have hR : ∀ z ∈ R, z.holds W := fun z hz => h.all z (by simp [hz])
  have hL : ∀ x ∈ L, x.holds W := fun x hx => h.all x (by simp [hx])
  -- a block of what may turn is no block of R
  have hf : ∀ k, k ∈ feet L → ∀ z ∈ R, (∀ T K, z ≠ .t T K) → k ∉ z.foot := fun k hk z hz hT => by
    obtain ⟨x, hx, hm, hk⟩ := mem_feet.1 hk
    have := (hp.2.2 x hx z hz).1 hm
    cases z with
    | t T K => exact absurd rfl (hT T K)
    | _ => exact this k hk
  have hl : ∀ y ∈ L', y.mv = true → ∀ z ∈ R, (∀ T K, z ≠ .t T K) → ∀ k ∈ y.foot, k ∉ z.foot := fun y hy hm z hz hT k hk D =>
    hf k (h'.old y hy hm k hk (As.lt (hR z hz) k D)) z hz hT D
  refine ⟨h.off.step h'.off fun k hk G => ?_, fun z hz => ?_, List.pairwise_append.2 ⟨h'.ap, hp.2.1, fun y hy z hz => ⟨fun hm => ?_, fun hm => ?_⟩⟩, fun z hz hm k hk G => ?_⟩
  · obtain ⟨x, hx, hm, hk⟩ := mem_feet.1 hk
    exact h.old x (by simp [hx]) hm k hk G
  · rcases List.mem_append.1 hz with hz | hz
    · exact h'.all z hz
    refine As.keep h'.off (hR z hz) (fun k hk N => ?_) fun T K e k N G ht => ?_
    · cases z with
      | t T K => cases hk
      | _ => exact hf k N _ hz (fun _ _ e => by cases e) hk
    obtain ⟨x, hx, hm, hk⟩ := mem_feet.1 N
    have h1 := (hp.2.2 x hx z hz).1 hm
    subst e
    exact h1 ((As.tyOf (hL x hx) hm k hk).symm.trans ht)
  · rcases Q6a ok y hy with J | ⟨_, M⟩ | ⟨T, K, e, _⟩
    · exact (hp.2.2 y J z hz).1 hm
    · cases z with
      | t T K => have := List.all_eq_true.1 M _ hz; simpa [tyOk, hm] using this
      | _ => exact hl y hy hm _ hz (fun _ _ e => by cases e)
    subst e; cases hm
  · rcases Q6a ok y hy with J | ⟨S, _⟩ | ⟨T, K, e, M⟩
    · exact (hp.2.2 y J z hz).2 hm
    · cases y with
      | t T K => cases S
      | _ => exact fun k hk D => hl _ hy S z hz (fun T K e => by subst e; cases hm) k D hk
    subst e; have := List.all_eq_true.1 M _ hz; simpa [tyOk, hm] using this
  rcases List.mem_append.1 hz with hz | hz
  · by_cases U : k < W.heap.size
    · obtain ⟨x, hx, V, D⟩ := mem_feet.1 (h'.old z hz hm k hk U)
      exact h.old x (by simp [hx]) V k D G
    have := h.size; omega
  exact h.old z (by simp [hz]) hm k hk G
end SH
section
variable {P : Program} {f : FuncId} {args : Array Value} {F : List Nat} {w W : World} {H L R : List As}
theorem Y5m {α : Type} (I J : List Nat) {V : α → Value} {L' H' : α → List As} (hS : SH F w W H) (hc : SH (SH.feet L) W W L → Calls P f args W fun e W' => ∃ x, e = .returned (V x) ∧ SH (SH.feet L) W W' (L' x)) (ok : ∀ x, SH.okT L R (L' x)) (hI : pk H I = L := by exact rfl) (hJ : pk H J = R := by exact rfl) (hn : (I ++ J).Nodup := by decide) (hH : ∀ x, L' x ++ R = H' x := by exact fun _ => rfl) : Calls P f args W fun e W' => ∃ x, e = .returned (V x) ∧ SH F w W' (H' x) := by
  subst hI hJ
  have h : SH F w W (pk H I ++ pk H J) := hS.pick (I ++ J) (by
    exact Q25 H I J) hn
  exact (hc h.here).mono fun e W' ⟨x, h1, h2⟩ => ⟨x, h1, by rw [← hH x]; exact h.frameT h2 (ok x)⟩
end
end

section
def InF (N : List As) (f : List Nat) : Prop := ∀ k ∈ f, ∃ x ∈ N, (∀ T K, x ≠ .t T K) ∧ k ∈ x.foot
namespace SH
variable {F : List Nat} {w W W' : World} {H H' L L' N R : List As} {x y : As} {i j : Nat} {f : List Nat} {K : World → Prop} {T : Option TypeId}
theorem Z0s {z : As} (hx : x.mv = true) (h : x.apart z) (hy : y.mv = true) (ht : y.ty = x.ty) (hf : ∀ k ∈ y.foot, k ∈ x.foot) : y.apart z := by
  refine ⟨fun _ => ?_, fun hm => ?_⟩
  · have h1 := h.1 hx
    cases z with
    | t T K => exact fun e => h1 (ht ▸ e)
    | _ => exact fun k hk => h1 k (hf k hk)
  have h2 := h.2 hm
  have h3 : ∀ k ∈ z.foot, k ∉ x.foot := by
    cases x with
    | t T K => cases hx
    | _ => exact h2
  cases y with
  | t T K => cases hy
  | _ => exact fun k hk D => h3 k hk (hf k D)
theorem split {u : As} (h : SH F w W (u :: H)) (hu : u.mv = true) (hx : x.holds W) (hy : y.holds W) (mx : x.mv = true) (my : y.mv = true) (tx : x.ty = u.ty) (ty : y.ty = u.ty) (fx : ∀ k ∈ x.foot, k ∈ u.foot) (fy : ∀ k ∈ y.foot, k ∈ u.foot) (dj : ∀ k ∈ x.foot, k ∉ y.foot) : SH F w W (x :: y :: H) := by
  have hp := List.pairwise_cons.1 h.ap
  refine ⟨h.off, fun z D => ?_, List.pairwise_cons.2 ⟨fun z D => ?_, List.pairwise_cons.2 ⟨fun z D => Z0s hu (hp.1 z D) my ty fy, hp.2⟩⟩, fun z D hm k hk G => ?_⟩
  · rcases List.mem_cons.1 D with rfl | D
    · exact hx
    rcases List.mem_cons.1 D with rfl | D
    · exact hy
    exact h.all z (List.mem_cons_of_mem _ D)
  · rcases List.mem_cons.1 D with rfl | D
    · refine ⟨fun _ => ?_, fun _ => ?_⟩
      · cases z with
        | t T K => cases my
        | _ => exact dj
      cases x with
      | t T K => cases mx
      | _ => exact fun k hk J => dj k J hk
    exact Z0s hu (hp.1 z D) mx tx fx
  rcases List.mem_cons.1 D with rfl | D
  · exact h.old u (List.mem_cons_self ..) hu k (fx k hk) G
  rcases List.mem_cons.1 D with rfl | D
  · exact h.old u (List.mem_cons_self ..) hu k (fy k hk) G
  exact h.old z (List.mem_cons_of_mem _ D) hm k hk G
theorem foldF (h : SH F w W (N ++ R)) (hz : (As.p f K).holds W) (hf : InF N f) : SH F w W (.p f K :: R) := by
  have hp := List.pairwise_append.1 h.ap
  refine ⟨h.off, fun z D => ?_, List.pairwise_cons.2 ⟨fun z D => ⟨fun e => (by cases e), fun hm k hk G => ?_⟩, hp.2.1⟩, fun z D hm k hk M => ?_⟩
  · rcases List.mem_cons.1 D with rfl | D
    · exact hz
    exact h.all z (by simp [D])
  · obtain ⟨x, hx, ht, J⟩ := hf k G
    have h2 := (hp.2.2 x hx z D).2 hm
    cases x with
    | t T K => exact ht T K rfl
    | _ => exact h2 k hk J
  rcases List.mem_cons.1 D with rfl | D
  · cases hm
  exact h.old z (by simp [D]) hm k hk M
end SH
section
variable {P : Program} {g : FuncId} {args : Array Value} {F : List Nat} {w W : World} {H L N R : List As}
end
end

section
theorem J36 : fsz [] = 0 := rfl
theorem J37 (v : Value) (l : List Fd) : fsz (.c v :: l) = 1 + fsz l := rfl
theorem J38 (n X : Nat) (l : List Fd) : fsz (.a n X :: l) = n + fsz l := rfl
theorem Q29 {k : Nat} : ∀ {es : List (List Value)} {m : Nat}, (∀ e ∈ es, e.length = k) → (es.take m).flatten = es.flatten.take (m * k)
  | [], m, _ => by simp
  | e :: es, 0, _ => by simp
  | e :: es, m + 1, h => by
    have he := h e (by simp)
    rw [List.take_succ_cons, List.flatten_cons, List.flatten_cons, Q29 (fun x hx => h x (by simp [hx])), List.take_append, he, show (m + 1) * k - k = m * k by rw [Nat.add_mul, Nat.one_mul]; omega, List.take_of_length_le (l := e) (by rw [he, Nat.add_mul, Nat.one_mul]; omega)]
theorem Q3x {k : Nat} : ∀ {es : List (List Value)}, (∀ e ∈ es, e.length = k) → es.flatten.length = es.length * k
  | [], _ => by simp
  | e :: es, h => by rw [List.flatten_cons, List.length_append, Q3x (fun x hx => h x (by simp [hx])), h e (by simp), List.length_cons, Nat.add_mul, Nat.one_mul]; omega
theorem Y08 {t : TypeId} {k : Nat} {w : World} {A : Option Addr} {n c : Nat} {es : List (List Value)} (h : Row t k w (.slice A n c) es) : n = es.length ∧ n ≤ c := by
  rcases h.1.2 with ⟨h1, hn⟩ | ⟨g, G, D, h1, _, _, hc, _⟩
  · injection h1 with _ h2 h3; omega
  injection h1 with _ h2 h3; omega
theorem Z2x {t : TypeId} {k m : Nat} {w : World} {A : Option Addr} {n c : Nat} {es : List (List Value)} (h : Row t k w (.slice A n c) es) (hm : m ≤ es.length) : Row t k w (.slice A m c) (es.take m) := by
  have hl : (es.take m).length = m := by rw [List.length_take]; omega
  have he : ∀ e ∈ es.take m, e.length = k := fun e h' => h.2 e (List.mem_of_mem_take h')
  refine ⟨⟨Q3x he, ?_⟩, he⟩
  rcases h.1.2 with ⟨h1, hn⟩ | ⟨g, J, G, h1, hb, hh, hc, D, hs, ht⟩
  · injection h1 with h1 h2 h3
    subst h1 h3
    obtain rfl : m = 0 := by omega
    exact .inl ⟨rfl, hl⟩
  injection h1 with h1 h2 h3
  subst h1 h3
  refine .inr ⟨g, c, G, by rw [hl], hb, hh, by rw [hl]; omega, D, hs, ?_⟩
  rw [Q29 h.2, ← ht, List.take_take, hl, Nat.min_eq_left (Nat.mul_le_mul_right k hm)]
theorem Q72 {P : Program} {a : Act} {o : Oper} {x y : Operand} {tS t : TypeId} {k m : Nat} {w : World} {A : Option Addr} {n c : Nat} {es : List (List Value)} (h : Row t k w (.slice A n c) es) (hm : m ≤ es.length) (ho : o.op = .slice tS x none (some y) none) (hx : a.eval x = .slice A n c) (hy : a.eval y = .int .i64 (m : Int)) (ht : P.underlying tS = some (.slice t)) (hi : (P.info? t).map (·.size) = some k) :
    (execOp a.eval o).run P w = .ok (.value (.slice A m c)) w := by
  obtain ⟨hn, G⟩ := Y08 h
  have hr : (Instr.sliceAt tS (.slice A n c) none (some (.int .i64 (m : Int))) none).run P w = .ok (.slice A m c) w := by
    have D : m ≤ c := by omega
    have hA : (if c = 0 then A else A.map (·.add 0)) = A := by
      have : ∀ a : Addr, a.add 0 = a := fun a => by unfold Addr.add; simp
      cases A <;> simp [this]
    cases hq : P.info? t with
    | none => simp [hq] at hi
    | some i =>
      have h1 : (Instr.sliceAt tS (.slice A n c) none (some (.int .i64 (m : Int))) none).run P w = .ok (.slice (if c = 0 then A else A.map (·.add 0)) m c) w := by
        simp [Instr.sliceAt, Instr.slice, Instr.sliceBounds, Instr.sliceBound, asIntOf, run_underlying ht, Sem.run_bind, sizeOf, typeInfo, hq, D]
      rw [hA] at h1; exact h1
  simp [execOp, ho, hx, hy, hr, Sem.run_bind]
theorem SH.rhead {F : List Nat} {w W : World} {H : List As} {i k m n c : Nat} {t : TypeId} {A : Option Addr} {es : List (List Value)} (h : SH F w W H) (hi : H[i]? = some (.r t k (.slice A n c) es)) (hm : m ≤ es.length) : SH F w W (H.set i (.r t k (.slice A m c) (es.take m))) :=
  h.set hi rfl (Off.refl [] W) (fun k hk => by cases hk) (Z2x (h.row hi) hm) (fun b hb _ => by
    cases A with
    | none => cases hb
    | some a => exact hb) (.inr rfl) (fun _ _ e => by cases e)
theorem Q3y {k : Nat} {es : List (List Value)} {j : Nat} {e f : List Value} (h : ∀ e ∈ es, e.length = k) (hj : es[j]? = some e) (hf : f.length = k) : es.flatten.take (j * k) ++ (f ++ es.flatten.drop (j * k + k)) = (es.set j f).flatten := by
  induction es generalizing j with
  | nil => simp at hj
  | cons g es ih =>
    have hg := h g (by simp)
    cases j with
    | zero =>
      rw [Nat.zero_mul, List.take_zero, List.nil_append, Nat.zero_add, List.set_cons_zero, List.flatten_cons, List.flatten_cons, List.drop_left' hg]
    | succ j =>
      have e1 : (j + 1) * k = k + j * k := by rw [Nat.add_mul, Nat.one_mul]; omega
      rw [List.set_cons_succ, List.flatten_cons, List.flatten_cons, ← ih (fun x hx => h x (by simp [hx])) (by simpa using hj), e1, List.take_append, hg, List.take_of_length_le (by omega), show k + j * k - k = j * k by omega, List.drop_append, hg, List.drop_of_length_le (by omega), show k + j * k + k - k = j * k + k by omega, List.nil_append, List.append_assoc]
theorem Z0t {cur : Array Value} {j : Nat} {vs : List Value} (h : j + vs.length ≤ cur.size) : (spl cur j vs).toList = cur.toList.take j ++ (vs ++ cur.toList.drop (j + vs.length)) := by
  have hz : cur.toList.length = cur.size := Array.length_toList
  have hl : (cur.toList.take j).length = j := by rw [List.length_take]; omega
  have e : cur = (cur.toList.take j ++ ((cur.toList.drop j).take vs.length ++ cur.toList.drop (j + vs.length))).toArray := by
    apply Array.toList_inj.1
    show _ = cur.toList.take j ++ ((cur.toList.drop j).take vs.length ++ cur.toList.drop (j + vs.length))
    rw [← List.drop_drop, List.take_append_drop, List.take_append_drop]
  have h2 := Q50 vs ((cur.toList.drop j).take vs.length) (cur.toList.take j) (cur.toList.drop (j + vs.length)) (by rw [List.length_take, List.length_drop]; omega)
  rw [hl, ← e] at h2
  rw [h2]
theorem Z2y {α : Type} {l m : List α} {a N : Nat} (ha : a + m.length ≤ N) (hN : N ≤ l.length) : (l.take a ++ (m ++ l.drop (a + m.length))).take N = (l.take N).take a ++ (m ++ (l.take N).drop (a + m.length)) := by
  have e : l.take a = (l.take N).take a := by rw [List.take_take, Nat.min_eq_left (by omega)]
  have e2 : l.drop (a + m.length) = (l.take N).drop (a + m.length) ++ l.drop N := by
    conv => lhs; rw [← List.take_append_drop N l]
    rw [List.drop_append_of_le_length (by rw [List.length_take]; omega)]
  rw [e, e2, ← List.append_assoc m, ← List.append_assoc, List.take_left' (by rw [List.length_append, List.length_append, List.length_take, List.length_drop, List.length_take]; omega)]
section
variable {ops : Array Oper} {Q : Exit → Act → World → Prop} {w : World} {r : List Oper} {o : Oper} {a a' : Act} {F : List Nat} {H H' : List As}
theorem Z5t {ty t : TypeId} {x y : Operand} {g j k n c : Nat} {v : Value} {cs : Array Value} {es : List (List Value)} {e : List Value} (h1 : cs.all (·.oneCell') = true) (hcs : cs.size = k) (hR : Row t k w v es) (hv : v = .slice (some ⟨g, 0, none⟩) n c) (hj : es[j]? = some e) (hw : Region.wanted o (yielded ops a.tmps) = true)
    (ho : o.op = .store ty x y) (hx : a.eval x = .pointer (some ⟨g, j * k, none⟩)) (hy : a.eval y = .agg cs) (hi : (Tryz.prog.info? ty).map (·.size) = some k)
    (h : ∀ W, Row t k W v (es.set j cs.toList) → Off v.ownBlock.toList w W → wpList Tryz.prog ops Q r (a.put o.dst undef) W) : wpList Tryz.prog ops Q (o :: r) a w := by
  have N := (List.getElem?_eq_some_iff.1 hj).1
  have D : cs.toList.length = k := by rw [Array.length_toList]; exact hcs
  have M : j * k + k ≤ es.length * k := by
    have : (j + 1) * k ≤ es.length * k := Nat.mul_le_mul_right k N
    rw [Nat.add_mul, Nat.one_mul] at this; exact this
  rcases hR.1.2 with ⟨h2, hn⟩ | ⟨g', R, G, h2, hb, hh, hc, hm, hs, ht⟩
  · omega
  have e1 := h2.symm.trans hv
  injection e1 with e1
  injection e1 with e1
  injection e1 with e1
  subst e1
  have S : es.length * k ≤ G.size := by rw [hs]; exact Nat.mul_le_mul_right k hc
  have hz : G.toList.length = G.size := Array.length_toList
  have J : j * k + cs.toList.length ≤ G.size := by rw [D]; omega
  refine Q4m (v := .agg cs) hw ho hx hy (show Blk w g' G t from hh) (by show _ + cs.size ≤ _; omega) (by show _ = some cs.size; rw [hcs]; exact hi) h1 fun W hO (hB : Blk W g' (spl G (j * k) cs.toList) t) => h W ⟨⟨?_, .inr ⟨g', R, spl G (j * k) cs.toList, by rw [h2, List.length_set], hb, hB, by rw [List.length_set]; exact hc, hm, ?_, ?_⟩⟩, fun f hf => ?_⟩ (by rw [h2]; exact hO)
  · rw [← Q3y hR.2 hj D, List.length_set, List.length_append, List.length_append, List.length_take, List.length_drop, hR.1.1, D]; omega
  · have h3 := congrArg List.length (Z0t J)
    rw [List.length_append, List.length_append, List.length_take, List.length_drop, D] at h3
    rw [← hs, ← Array.length_toList, h3]; omega
  · rw [List.length_set, Z0t J, Z2y (by rw [D]; exact M) (by omega), ht, D, Q3y hR.2 hj D]
  rcases List.mem_or_eq_of_mem_set hf with hf | rfl
  · exact hR.2 f hf
  exact D
theorem MPE (i : Nat) {ty t : TypeId} {x y : Operand} {g j k n c : Nat} {v : Value} {cs : Array Value} {es : List (List Value)} {e : List Value} (hj : es[j]? = some e) (hv : v = .slice (some ⟨g, 0, none⟩) n c) (hcs : cs.size = k) (h1 : cs.all (·.oneCell') = true) (h : wpM Tryz.prog ops (.L Q) F w H' r a') (hi : H[i]? = some (.r t k v es) := by exact rfl) (hw : Region.wanted o (yielded ops a.tmps) = true := by exact rfl)
    (ho : o.op = .store ty x y := by exact rfl) (hx : a.eval x = .pointer (some ⟨g, 0 + j * k, none⟩) := by exact rfl) (hy : a.eval y = .agg cs := by exact rfl) (hz : (Tryz.prog.info? ty).map (·.size) = some k := by kernel_rfl)
    (hH : H.set i (.r t k v (es.set j cs.toList)) = H' := by dsimp only [sB, sC]; first | done | exact rfl) (hp : a.put o.dst undef = a' := by first | exact pl (by dsimp only [mB, mC]; first | done | exact rfl) | exact pn | exact rfl) : wpM Tryz.prog ops (.L Q) F w H (o :: r) a := by
  subst hp hH
  intro W hS
  exact Z5t h1 hcs (hS.row hi) hv hj hw ho (hx.trans (by rw [Nat.zero_add])) hy hz fun W' h1 h2 => h W' (hS.setr hi h2 h1 (fun z hz _ => by rw [hz]; simp))
end
end
end Go.Proofs.YtejkmhgkkibafaaGreatDoor

/- wire: Seen. Conditions: memory holds what is written. wire: what is read of an answer; things that are put together. No conditions. -/
import Derived.Test.YtlbgelbhhibikaaWt
import Derived.Test.YtlbgelbhhibikaaYg
import Derived.Test.YtlbgelbhhibikaaYd
set_option linter.unusedSimpArgs false
set_option linter.unusedVariables false
namespace Go.Proofs.Ytlbgelbhhibikaa.Ww
set_option maxHeartbeats 6000000
set_option maxRecDepth 100000
open Go.RowKit
attribute [local irreducible] wpList wpTr wpX
set_option linter.unusedSimpArgs false
/-- no look -/
abbrev zFo : Fo := ⟨0, 0, 0, false, 0, [], 0, 0, [], false, 0, 0, 0, 0, 0, 0⟩
/-- are the bytes a look's? -/
def rok (l : List UInt8) : Bool := !rFB (l, 0) false && decide (enV (rFS (l, 0)) = 0)
theorem wright_a {r p : Nat} {v : Value} {s : RSt} {bad : Bool} (w : World) (hr : Blk w r #[.pointer (some ⟨p, 0, none⟩), .bool bad] 115) (hrd : Rdr w p v s.1 s.2) : Calls Try.prog 41 #[.pointer (some ⟨r, 0, none⟩)] w fun e w' => Ret (.bool (!bad && decide (enV s = 0))) w w' e := by
 cases bad with
 | true => exact wright_b w hr hrd
 | false => rw [Bool.not_false, Bool.true_and]; exact wright_c w hr hrd
attribute [local irreducible] lb be8 eI tB txL txB txV txS tkS byV nuV suV enV takeM flV flS rawV rawB pB2 rFS rFB

theorem zer_direct_Found : zer Try.prog 64 = some (some (agF [.c (.int .i64 0), .a 32 0, .a 80 0, .c (.bool false), .c (.int .i64 0), .c (.slice none 0 0), .a 32 0, .a 32 0, .c (.slice none 0 0), .c (.bool false), .a 32 0, .a 32 0, .a 32 0, .a 32 0, .a 32 0, .c (.int .i64 0)])) := by kernel_rfl
theorem plc_direct_Found : plc Try.prog 64 = some [(0, 1), (1, 32), (33, 80), (113, 1), (114, 1), (115, 1), (116, 32), (148, 32), (180, 66), (246, 32), (278, 32), (310, 32), (342, 1)] := by kernel_rfl
end Go.Proofs.Ytlbgelbhhibikaa.Ww

set_option linter.unusedSimpArgs false
set_option linter.unusedVariables false
namespace Go.Proofs.Ytlbgelbhhibikaa
open Go.RowKit
/-- f's blocks are those of things of N -/
def InN (N : List As) (f : List Nat) : Prop := ∀ k ∈ f, ∃ x ∈ N, (∀ T K, x ≠ .t T K) ∧ k ∈ x.foot
theorem inN_app {N : List As} {f g : List Nat} (h1 : InN N f) (h2 : InN N g) : InN N (f ++ g) := fun k hk => (List.mem_append.1 hk).elim (h1 k) (h2 k)
theorem inN_nil {N : List As} : InN N [] := fun k hk => by cases hk
theorem inN_o {N : List As} {u : Value} {l : List UInt8} (i : Nat) (h : N[i]? = some (.o u l)) : InN N (sb u l).toList := fun k hk =>
  ⟨_, SH.mem h, fun T K e => (by cases e), by show k ∈ u.ownBlock.toList; rw [sb_own (As.mem_toList hk)]; simp⟩
theorem inN_w {N : List As} {u : Value} {l : List UInt8} (i : Nat) (h : N[i]? = some (.w u l)) : InN N (sb u l).toList := fun k hk =>
  ⟨_, SH.mem h, fun T K e => (by cases e), by show k ∈ u.ownBlock.toList; rw [sb_own (As.mem_toList hk)]; simp⟩
theorem inN_p {N : List As} {f : List Nat} {K : World → Prop} (i : Nat) (h : N[i]? = some (.p f K)) : InN N f := fun k hk => ⟨_, SH.mem h, fun T K e => (by cases e), hk⟩
theorem inN_r {N : List As} {t : TypeId} {n : Nat} {v : Value} {es : List (List Value)} (i : Nat) (h : N[i]? = some (.r t n v es)) (hv : ∀ k ∈ fbR v es, v.ownBlock = some k) : InN N (fbR v es) := fun k hk =>
  ⟨_, SH.mem h, fun T K e => (by cases e), by show k ∈ v.ownBlock.toList; rw [hv k hk]; simp⟩
theorem row_fb {t : TypeId} {n : Nat} {v : Value} {es : List (List Value)} {W : World} (h : Row t n W v es) : ∀ k ∈ fbR v es, v.ownBlock = some k := fun k hk => by
  rcases h.1.2 with ⟨rfl, _⟩ | ⟨g, cap, cur, rfl, _⟩
  · cases es <;> cases hk
  · cases es with
    | nil => cases hk
    | cons x r => rw [List.mem_singleton.1 hk]; rfl
namespace SH
variable {F : List Nat} {w W : World} {H N R : List As}
/-- things become a fact -/
theorem fold {f : List Nat} {K : World → Prop} (h : SH F w W (N ++ R)) (hz : (As.p f K).holds W) (hf : InN N f) : SH F w W (.p f K :: R) := by
  refine addq (h.less (List.sublist_append_right _ _)) hz fun y hy hm k hk hk' => ?_
  obtain ⟨x, hx, ht, hkx⟩ := hf k hk'
  have := ((List.pairwise_append.1 h.ap).2.2 x hx y hy).2 hm
  cases x with
  | t T K => exact ht T K rfl
  | _ => exact this k hk hkx
/-- new things lie in new blocks -/
theorem foldn {f : List Nat} (h : SH F w W (N ++ R)) (hf : InN N f) (hN : ∀ x ∈ N, x.mv = false → ∀ k ∈ x.foot, w.heap.size ≤ k) (hF : ∀ k ∈ F, ∃ y ∈ R, y.mv = true ∧ k ∈ y.foot) : ∀ k ∈ f, w.heap.size ≤ k := fun k hk => by
  obtain ⟨x, hx, ht, hkx⟩ := hf k hk
  cases hm : x.mv with
  | false => exact hN x hx hm k hkx
  | true =>
    refine Nat.le_of_not_lt fun hlt => ?_
    obtain ⟨y, hy, hym, hky⟩ := hF k (h.old x (List.mem_append.2 (.inl hx)) hm k hkx hlt)
    have := ((List.pairwise_append.1 h.ap).2.2 x hx y hy).2 hym
    cases x with
    | t T K => exact ht T K rfl
    | _ => exact this k hky hkx
end SH
end Go.Proofs.Ytlbgelbhhibikaa
namespace Go.Proofs.Ytlbgelbhhibikaa.Ww
open Go.RowKit
set_option linter.unusedSimpArgs false
abbrev zUn : Un := ⟨[], false, 0, 0, 0, 0, 0, 0, []⟩
abbrev zMb : Mbr := ⟨[], false, 0, 0⟩
abbrev nS : Value := .slice none 0 0
/-- an answer of a kind, and of nothing else -/
abbrev zA (k er : Int) : An := ⟨k, er, 0, zFo, 0, [], zUn, [], [], zMb, [], 0, []⟩
abbrev zV : Av := ⟨nS, nS, nS, nS, nS, nS, nS, nS, nS, nS⟩
/-- where what comes behind what a look told begins, and so on -/
def rL1 (s : RSt) : RSt := tkS 32 (rFS s)
def rL2 (s : RSt) : RSt := sumsS (cV 256 (rL1 s)) (tkS 8 (rL1 s))
/-- what is read of an answer of a kind (us: where the versions' values lie) -/
def rA (k er : Int) (us : List Value) (s : RSt) : An :=
  if k = 1 then { zA k er with ep := nuV s }
  else if k = 10 then { zA k er with ep := nuV s }
  else if k = 6 then { zA k er with f := rFo s, pub := suV (rFS s), lat := sumsV (cV 256 (rL1 s)) (tkS 8 (rL1 s)), u := rUn (rL2 s) }
  else if k = 7 then { zA k er with en := ensV us (tkS 8 s) }
  else if k = 8 then { zA k er with mks := mksV (cV 1024 s) (tkS 8 s) }
  else if k = 9 then { zA k er with bun := txV 65535 s }
  else if k = 11 then { zA k er with m := rMb s, u := rUn (rMS s) }
  else if k = 12 then { zA k er with lo := suV s, su := sumsV (cV 256 (tkS 32 s)) (tkS 8 (tkS 32 s)) }
  else zA k er
def rS (k : Int) (s : RSt) : RSt :=
  if k = 1 then tkS 8 s
  else if k = 10 then tkS 8 s
  else if k = 6 then rUS (rL2 s)
  else if k = 7 then ensS (cV 1024 s) (tkS 8 s)
  else if k = 8 then mksS (cV 1024 s) (tkS 8 s)
  else if k = 9 then txS 65535 s
  else if k = 11 then rUS (rMS s)
  else if k = 12 then sumsS (cV 256 (tkS 32 s)) (tkS 8 (tkS 32 s))
  else s
def rB (k : Int) (s : RSt) : Bool :=
  if k = 6 then rUB (rL2 s) (cB 256 (rL1 s) (rFB s false))
  else if k = 7 then cB 1024 s false
  else if k = 8 then cB 1024 s false
  else if k = 11 then rUB (rMS s) false
  else if k = 12 then cB 256 (tkS 32 s) false
  else false
abbrev noK (k : Int) : Prop := k ≠ 1 ∧ k ≠ 10 ∧ k ≠ 6 ∧ k ≠ 7 ∧ k ≠ 8 ∧ k ≠ 9 ∧ k ≠ 11 ∧ k ≠ 12
theorem r_o {k er : Int} {us : List Value} {s : RSt} (h : noK k) : rA k er us s = zA k er ∧ rS k s = s ∧ rB k s = false := by
  obtain ⟨h1, h2, h3, h4, h5, h6, h7, h8⟩ := h
  unfold rA rS rB
  simp only [if_neg h1, if_neg h2, if_neg h3, if_neg h4, if_neg h5, if_neg h6, if_neg h7, if_neg h8, and_self]
/-- what rest leaves -/
def RestR (r p q : Nat) (v : Value) (k er : Int) (s : RSt) (w w' : World) (e : Ending) : Prop :=
  ∃ (x : Av × List Value) (v' : Value), e = .returned (.tuple #[]) ∧ SH [r, p, q] w w' [anT (rA k er x.2 s) x.1, .s v' (rS k s).1, .b r #[.pointer (some ⟨p, 0, none⟩), .bool (rB k s)] 115, .b p #[v', .int .i64 (rS k s).2] 141, .b q (anF (rA k er x.2 s) x.1) 85] ∧ Sub v' (rS k s).1 (sb v s.1) ∧ (∀ b ∈ anFt (rA k er x.2 s) x.1, w.heap.size ≤ b) ∧ (k = 7 → cV 1024 s = x.2.length)
theorem enR_nil (w : World) : EnR nS [] w := ⟨rr_nil 3 w, fun y hy => by cases hy⟩
theorem AnR.z (k er : Int) (w : World) : AnR (zA k er) zV w := ⟨sl_nil w, rr_nil 32 w, rr_nil 32 w, rr_nil 32 w, rr_nil 32 w, enR_nil w, rr_nil 65 w, sl_nil w, sl_nil w, rr_nil 32 w⟩
theorem frN {n : Nat} {X : List As} (h : X.all (·.mv) = true) : ∀ y ∈ X, y.mv = false → ∀ k ∈ y.foot, n ≤ k := fun y hy hm => by
  have := List.all_eq_true.1 h y hy; rw [hm] at this; cases this
theorem hF3 {r p q : Nat} {v : Value} {l : List UInt8} {c1 c2 c3 : Array Value} {t1 t2 t3 : TypeId} : ∀ k ∈ [r, p, q], ∃ y ∈ [As.s v l, .b r c1 t1, .b p c2 t2, .b q c3 t3], y.mv = true ∧ k ∈ y.foot := fun k hk => by
  rcases List.mem_cons.1 hk with rfl | hk
  · exact ⟨.b k c1 t1, by simp, rfl, by simp [As.foot]⟩
  · rcases List.mem_cons.1 hk with rfl | hk
    · exact ⟨.b k c2 t2, by simp, rfl, by simp [As.foot]⟩
    · rw [List.mem_singleton.1 hk]; exact ⟨.b q c3 t3, by simp, rfl, by simp [As.foot]⟩
/-- the parts of an answer, each among some things -/
theorem inN_an {N : List As} {a : An} {v : Av} (h1 : InN N (sb v.fv a.f.val).toList) (h2 : InN N (fbR v.fs (a.f.ss.map b32l))) (h3 : InN N (fbR v.lat (a.lat.map b32l))) (h4 : InN N (fbR v.us (a.u.ss.map b32l))) (h5 : InN N (fbR v.uu (a.u.us.map b32l))) (h6 : InN N (fbR v.en (a.en.map enC) ++ enFt a.en)) (h7 : InN N (fbR v.mks (a.mks.map mkC))) (h8 : InN N (sb v.mi a.m.id).toList) (h9 : InN N (sb v.bun a.bun).toList) (h10 : InN N (fbR v.su (a.su.map b32l))) : InN N (anFt a v) :=
  inN_app h1 (inN_app h2 (inN_app h3 (inN_app h4 (inN_app h5 (inN_app h6 (inN_app h7 (inN_app h8 (inN_app h9 h10))))))))
end Go.Proofs.Ytlbgelbhhibikaa.Ww

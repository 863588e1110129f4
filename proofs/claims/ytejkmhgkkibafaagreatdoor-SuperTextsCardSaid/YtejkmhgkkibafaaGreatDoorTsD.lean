/- Trees: the key of a leaf, a tree of two leaves, a leaf more. Conditions: the tables hold their numbers. -/
import Derived.Test.YtejkmhgkkibafaaGreatDoorTsC
set_option linter.unusedSimpArgs false
set_option linter.unusedVariables false
namespace Go.Proofs.YtejkmhgkkibafaaGreatDoor
set_option maxHeartbeats 1500000
set_option maxRecDepth 100000
open Go.RowKit
attribute [local irreducible] wpList wpTr wpX
set_option linter.unusedSimpArgs false
def tsz : TR → Nat
 | .nil => 0
 | .leaf _ _ => 1
 | .node _ l r => 1 + tsz l + tsz r
/-- how many nodes lie below a place, to a depth -/
def hd (w : World) : Nat → Value → Nat
 | n + 1, .pointer (some a) => match w.cell? ⟨a.block, 66, none⟩ with
  | some (.bool true) => 1 + hd w n ((w.cell? ⟨a.block, 64, none⟩).getD undef) + hd w n ((w.cell? ⟨a.block, 65, none⟩).getD undef)
  | some (.bool false) => 1
  | _ => 0
 | _, _ => 0
theorem hd_nlp (w : World) (n : Nat) : hd w n nlp = 0 := by cases n <;> rfl
theorem hd_eq {w : World} : ∀ {T : TR} {u : Value} {n : Nat}, TA w T u → tsz T ≤ n → hd w n u = tsz T
 | .nil, _, n, h, _ => by rw [show _ = nlp from h]; exact hd_nlp w n
 | .leaf k v, _, 0, _, hn => absurd hn (by show ¬ 1 ≤ 0; omega)
 | .leaf k v, _, n + 1, ⟨b, h1, h2, _⟩, _ => by
  subst h1
  have e : w.cell? ⟨b, 66, none⟩ = some (.bool false) := by rw [blk_cell h2]; exact nd_sp
  show (match w.cell? ⟨b, 66, none⟩ with
   | some (.bool true) => _
   | some (.bool false) => 1
   | _ => 0) = 1
  rw [e]
 | .node d l r, _, 0, _, hn => absurd hn (by show ¬ 1 + tsz l + tsz r ≤ 0; omega)
 | .node d l r, _, n + 1, ⟨b, s0, s1, h1, h2, h3, h4⟩, hn => by
  subst h1
  have e : w.cell? ⟨b, 66, none⟩ = some (.bool true) := by rw [blk_cell h2]; exact nd_sp
  have e0 : w.cell? ⟨b, 64, none⟩ = some s0 := by rw [blk_cell h2]; exact nd_s0
  have e1 : w.cell? ⟨b, 65, none⟩ = some s1 := by rw [blk_cell h2]; exact nd_s1
  have hn' : 1 + tsz l + tsz r ≤ n + 1 := hn
  show (match w.cell? ⟨b, 66, none⟩ with
   | some (.bool true) => 1 + hd w n ((w.cell? ⟨b, 64, none⟩).getD undef) + hd w n ((w.cell? ⟨b, 65, none⟩).getD undef)
   | some (.bool false) => 1
   | _ => 0) = 1 + tsz l + tsz r
  rw [e, e0, e1]
  show 1 + hd w n s0 + hd w n s1 = _
  rw [hd_eq h3 (by omega), hd_eq h4 (by omega)]
/-- the key of one of the leaves -/
def anyK : TR → Nat
 | .nil => 0
 | .leaf k _ => k
 | .node _ .nil r => anyK r
 | .node _ l _ => anyK l
def full : TR → Prop
 | .nil => False
 | .leaf _ _ => True
 | .node _ .nil r => full r
 | .node _ l _ => full l
theorem anyK_l {d : Nat} {l r : TR} (h : l ≠ .nil) : anyK (.node d l r) = anyK l := by cases l <;> first | exact absurd rfl h | rfl
theorem full_l {d : Nat} {l r : TR} (h : l ≠ .nil) : full (.node d l r) = full l := by cases l <;> first | exact absurd rfl h | rfl
theorem full_ne {T : TR} (h : full T) : T ≠ .nil := fun e => by subst e; exact h
theorem TA.cases {w : World} {T : TR} {u : Value} (h : TA w T u) (hf : full T) : (∃ b k v, T = .leaf k v ∧ u = ptr b ∧ Blk w b (ndc k v nlp nlp false (sL k v) 1) 151) ∨
  ∃ b d l r s0 s1, T = .node d l r ∧ u = ptr b ∧ Blk w b (ndc 0 0 s0 s1 true (rs (.node d l r)) (cnt l + cnt r)) 151 ∧ TA w l s0 ∧ TA w r s1 := by
 cases T with
 | nil => exact hf.elim
 | leaf k v => obtain ⟨b, h1, h2, _⟩ := h; exact .inl ⟨b, k, v, rfl, h1, h2⟩
 | node d l r => obtain ⟨b, s0, s1, h1, h2, h3, h4⟩ := h; exact .inr ⟨b, d, l, r, s0, s1, rfl, h1, h2, h3, h4⟩
theorem TA.side {w : World} {T : TR} {u : Value} (h : TA w T u) : (T = .nil ∧ u = nlp) ∨ ∃ b, T ≠ .nil ∧ u = ptr b := by
 cases T with
 | nil => exact .inl ⟨rfl, h⟩
 | leaf k v => obtain ⟨b, h1, _⟩ := h; exact .inr ⟨b, fun e => (by cases e), h1⟩
 | node d l r => obtain ⟨b, s0, s1, h1, _⟩ := h; exact .inr ⟨b, fun e => (by cases e), h1⟩
attribute [local irreducible] hs4 sE sL sN

theorem any_c {T : TR} {u : Value} (hf0 : full T) (w : World) (h : TA w T u) :
  Calls Tryz.prog 180 #[u] w fun e w' => Ret (.agg (arrK .u8 32 (byt (anyK T)))) w w' e := by
 have hS := SH.nil [] w
 go_enter Tryz.func180, Tryz.ntmps180
 go_upto_region 0 with fail
 refine RL hS ?_
 clear hS
 refine MN (z := arrK .u8 32 (byt 0)) (t := 31) ?_
 intro p2_1
 refine MZ fun W hS => ?_
 go_wp2_with fail
 go_loopw [0] (fun u wr => ∃ (T1 : TR), (TA w T1 u) ∧ (full T1) ∧ (anyK T1 = anyK T) ∧ (tsz T1 ≤ tsz T) ∧ SH [] w wr [.b p2_1 (arrK .u8 32 (byt 0)) 31])
  (fun u _ => hd w (tsz T) u)
 case atStart => exact ⟨T, h, hf0, rfl, Nat.le_refl _, hS⟩
 clear hS
 case round =>
  obtain ⟨T1, hT, hf, hk, hz, hS⟩ := hrel
  rcases hT.cases hf with ⟨b, k, v, rfl, rfl, hB⟩ | ⟨b, d, l, r, s0, s1, rfl, rfl, hB, hl, hr⟩
  ·
   have _f := True.intro
   go_upto_region 1 with fail
   refine RL hS ?_
   clear hS
   refine MV ?_
   refine MV ?_
   refine MV ?_
   refine MF (v := .bool false) (fun W hS => run_at rfl rfl (by rw [blk_cell (blk_step hB hS.ext)]; exact nd_sp) (by kernel_rfl)) ?_
   refine MZ fun W hS => ?_
   go_upto_region 5 with fail
   refine RL hS ?_
   clear hS
   refine MV ?_
   refine MV ?_
   refine MV ?_
   refine MV ?_
   refine MF (v := .agg (arrK .u8 32 (byt k))) (fun W hS => run_atrow (vs := (arrK .u8 32 (byt k)).toList) rfl rfl (fun i v hv => by rw [blk_cell (blk_step hB hS.ext)]; exact nd_key i v (by simpa using hv)) (by kernel_rfl) (by first | kernel_rfl | (simp only [Array.length_toList]; rw [arrK_size]; kernel_rfl))) ?_
   refine MR 0 ?_ 
   refine MZ fun W hS => ?_
   go_wp2
   exact bodyPost_ret (res_row rfl rfl (hS.blk (i := 0) rfl) (by kernel_rfl) (by rw [arrK_size]; kernel_rfl)) rfl ⟨by rw [← hk]; rfl, hS.ext⟩
  ·
   have _f := True.intro
   have h_me : TA w (.node d l r) (ptr b) := hT
   go_upto_region 1 with fail
   refine RL hS ?_
   clear hS
   refine MV ?_
   refine MV ?_
   refine MV ?_
   refine MF (v := .bool true) (fun W hS => run_at rfl rfl (by rw [blk_cell (blk_step hB hS.ext)]; exact nd_sp) (by kernel_rfl)) ?_
   refine MZ fun W hS => ?_
   rcases hl.side with ⟨rfl, rfl⟩ | ⟨c, hne, rfl⟩
   ·
    have _f := True.intro
    go_upto_region 2 with fail
    refine RL hS ?_
    clear hS
    refine MV ?_
    refine MV ?_
    refine MV ?_
    refine MW ?_ (v := .pointer (some ⟨b, 64, none⟩)) (hv := fun _ => run_ixarrn (m := 2) (k := 1) (j := 0) (off := 64) (by decide) Tryz.underlying149 (by kernel_rfl) rfl rfl rfl)
    refine MF (v := .pointer none) (fun W hS => run_at rfl rfl (by rw [blk_cell (blk_step hB hS.ext)]; exact nd_s0) (by kernel_rfl)) ?_
    refine MW ?_ (v := .bool false)
    refine MZ fun W hS => ?_
    go_upto_region 4 with fail
    refine RL hS ?_
    clear hS
    refine MV ?_
    refine MV ?_
    refine MV ?_
    refine MW ?_ (v := .pointer (some ⟨b, 65, none⟩)) (hv := fun _ => run_ixarrn (m := 2) (k := 1) (j := 1) (off := 64) (by decide) Tryz.underlying149 (by kernel_rfl) rfl rfl rfl)
    refine MF (v := s1) (fun W hS => run_at rfl rfl (by rw [blk_cell (blk_step hB hS.ext)]; exact nd_s1) (by kernel_rfl)) ?_
    refine MV ?_
    refine MZ fun W hS => ?_
    go_wp2
    go_roundw
    case rel => exact ⟨r, hr, hf, hk, (by have h_ : 1 + tsz .nil + tsz r ≤ tsz T := hz; omega), hS⟩
    case measure => rw [hd_eq h_me hz, hd_eq hr (by have h_ : 1 + tsz .nil + tsz r ≤ tsz T := hz; omega)]; show _ < 1 + tsz .nil + tsz r; omega
   ·
    have _f := True.intro
    go_upto_region 2 with fail
    refine RL hS ?_
    clear hS
    refine MV ?_
    refine MV ?_
    refine MV ?_
    refine MW ?_ (v := .pointer (some ⟨b, 64, none⟩)) (hv := fun _ => run_ixarrn (m := 2) (k := 1) (j := 0) (off := 64) (by decide) Tryz.underlying149 (by kernel_rfl) rfl rfl rfl)
    refine MF (v := .pointer (some ⟨c, 0, none⟩)) (fun W hS => run_at rfl rfl (by rw [blk_cell (blk_step hB hS.ext)]; exact nd_s0) (by kernel_rfl)) ?_
    refine MW ?_ (v := .bool true)
    refine MZ fun W hS => ?_
    go_upto_region 3 with fail
    refine RL hS ?_
    clear hS
    refine MV ?_
    refine MV ?_
    refine MV ?_
    refine MW ?_ (v := .pointer (some ⟨b, 64, none⟩)) (hv := fun _ => run_ixarrn (m := 2) (k := 1) (j := 0) (off := 64) (by decide) Tryz.underlying149 (by kernel_rfl) rfl rfl rfl)
    refine MF (v := .pointer (some ⟨c, 0, none⟩)) (fun W hS => run_at rfl rfl (by rw [blk_cell (blk_step hB hS.ext)]; exact nd_s0) (by kernel_rfl)) ?_
    refine MV ?_
    refine MZ fun W hS => ?_
    go_wp2
    go_roundw
    case rel => exact ⟨l, hl, (by rw [full_l hne] at hf; exact hf), (by rw [anyK_l hne] at hk; exact hk), (by have h_ : 1 + tsz l + tsz r ≤ tsz T := hz; omega), hS⟩
    case measure => rw [hd_eq h_me hz, hd_eq hl (by have h_ : 1 + tsz l + tsz r ≤ tsz T := hz; omega)]; show _ < 1 + tsz l + tsz r; omega
end Go.Proofs.YtejkmhgkkibafaaGreatDoor

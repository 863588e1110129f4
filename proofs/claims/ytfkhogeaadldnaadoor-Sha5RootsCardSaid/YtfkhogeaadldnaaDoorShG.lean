/- The document's Few: some parts, each cut short, in rows of their own. Conditions: the parts read as bytes. -/
import Derived.Test.YtfkhogeaadldnaaDoorShF
import Derived.Test.YtfkhogeaadldnaaDoorGd
namespace Go.Proofs.YtfkhogeaadldnaaDoor
set_option linter.unusedSimpArgs false
set_option linter.unusedVariables false
open Go.RowKit
attribute [local irreducible] wpList wpTr
/-- the elements are rows of bytes of the call's own -/
def Els (w : World) (es : List (List Value)) (L : List (List UInt8)) : Prop := es.length = L.length ∧ ∀ (j : Nat) (l : List UInt8), L[j]? = some l → ∃ u : Value, es[j]? = some [u] ∧ Own w u l
theorem Els.off {F : List Nat} {w W : World} {es : List (List Value)} {L : List (List UInt8)} (h : Els w es L) (k : Off F w W) (hF : ∀ (j : Nat) (l : List UInt8) (u : Value), L[j]? = some l → es[j]? = some [u] → Own w u l → ∀ b ∈ F, u.ownBlock ≠ some b) : Els W es L :=
  ⟨h.1, fun j l hj => by
    obtain ⟨u, h1, h2⟩ := h.2 j l hj
    exact ⟨u, h1, h2.off k (hF j l u hj h1 h2)⟩⟩
theorem Els.off0 {w W : World} {es : List (List Value)} {L : List (List UInt8)} (h : Els w es L) (k : Off [] w W) : Els W es L := h.off k fun _ _ _ _ _ _ _ hb => by cases hb
theorem Els.new {w : World} {es : List (List Value)} {L : List (List UInt8)} {e : Nat} (h : Els w es L) (hn : w.heap.size ≤ e) : ∀ (j : Nat) (u : Value), es[j]? = some [u] → ∀ x, u.ownBlock = some x → some e ≠ some x := by
  intro j u hj x hx
  obtain ⟨l, hl⟩ : ∃ l, L[j]? = some l := ⟨_, List.getElem?_eq_getElem (by rw [← h.1]; exact (List.getElem?_eq_some_iff.1 hj).1)⟩
  obtain ⟨u', h1, h2⟩ := h.2 j l hl
  have : u' = u := by have := h1.symm.trans hj; simpa using this
  subst this
  exact dj_new h2.lt hn x hx
theorem Els.offn {w W : World} {es : List (List Value)} {L : List (List UInt8)} {v : Value} (h : Els w es L) (k : Off v.ownBlock.toList w W) (hd : ∀ (j : Nat) (u : Value), es[j]? = some [u] → ∀ x, u.ownBlock = some x → v.ownBlock ≠ some x) : Els W es L :=
  h.off k fun j l u hj he ho b hb e => hd j u he b e (of_mem hb)
theorem Els.offr {w W : World} {es es' : List (List Value)} {L : List (List UInt8)} {v : Value} {t : TypeId} {kk : Nat} (h : Els w es L) (hr : Row t kk w v es') (ht : t ≠ 5) (k : Off v.ownBlock.toList w W) : Els W es L :=
  h.off k fun j l u hj he ho b hb e => hr.ne_own ho ht b (of_mem hb) e
theorem Els.snoc {w : World} {es : List (List Value)} {L : List (List UInt8)} {u : Value} {l : List UInt8} (h : Els w es L) (hu : Own w u l) : Els w (es ++ [[u]]) (L ++ [l]) := by
  refine ⟨by simp [h.1], fun j m hj => ?_⟩
  rw [List.getElem?_append] at hj ⊢
  split at hj
  · rename_i hlt
    rw [if_pos (by rw [h.1]; exact hlt)]
    exact h.2 j m hj
  · rename_i hlt
    rw [if_neg (by rw [h.1]; exact hlt), h.1]
    have hl := (List.getElem?_eq_some_iff.1 hj).1
    have e : j - L.length = 0 := by simp at hl; omega
    rw [e] at hj ⊢
    have : l = m := by simpa using hj
    subst this
    exact ⟨u, rfl, hu⟩
/-- some parts, each cut short -/
def fw (ps : List (List UInt8)) (n m : Nat) : List (List UInt8) := (ps.take n).map (List.take m)
theorem fw_step {ps : List (List UInt8)} {i m : Nat} {l : List UInt8} (h : ps[i]? = some l) : fw ps i m ++ [l.take (min l.length m)] = fw ps (i + 1) m := by
  unfold fw
  rw [List.take_add_one, h, Nat.min_comm, ← List.take_take, List.take_length]
  simp
theorem fw_len {ps : List (List UInt8)} {i m : Nat} (h : i ≤ ps.length) : (fw ps i m).length = i := by unfold fw; simp [h]
theorem fw_all (ps : List (List UInt8)) {n m : Nat} (h : ps.length ≤ n) : fw ps ps.length m = fw ps n m := by unfold fw; rw [List.take_length, List.take_of_length_le h]
theorem pss_of {w : World} {v : Value} {es : List (List Value)} {L : List (List UInt8)} (hr : Row 28 1 w v es) (he : Els w es L) : Pss w v L := by
  obtain ⟨A, c, rfl, _⟩ := hr.len
  refine ⟨A, c, by rw [← he.1], fun (i : Nat) (l : List UInt8) hi => ?_⟩
  obtain ⟨u, h1, h2⟩ := he.2 i l hi
  obtain ⟨g, c', e, h3⟩ := hr.at h1
  injection e with e1 _ e3
  have := h3 0 u rfl
  rw [Nat.mul_one, Nat.add_zero] at this
  exact ⟨⟨g, 0, none⟩, u, e1, by rw [Addr.add_mid, Nat.zero_add]; exact this, h2.sl⟩

set_option maxRecDepth 100000 in
set_option maxHeartbeats 1500000 in
theorem few_c (ps : List (List UInt8)) (A : Option Addr) (c : Nat) (most cut : Nat) (hmo : most ≤ 1000000) (hsz : cut ≤ 1000000) (w : World) (hps : ∀ i l, ps[i]? = some l → ∃ ad u, A = some ad ∧ w.cell? (ad.add i) = some u ∧ Sl w u l) :
    Calls Tryd.prog 7 #[.slice A ps.length c, .int .i64 (most : Int), .int .i64 (cut : Int)] w fun e w' => ∃ v, e = .returned v ∧ Off [] w w' ∧ Pss w' v (fw ps most cut) := by
  have HPS := Lib.hid hps
  clear hps
  have off0 : Off [] w w := Off.refl _ _
  have sz := off0.size
  go_enter Tryd.func7, Tryd.ntmps7
  have ow_b : Row 28 1 w (.slice none 0 0) [] := row_nil _ _ _
  have fr_b : Fr (Value.ownBlock (.slice none 0 0)) w.heap.size [] := fr_none
  go_wp2_with fail
  go_loopw [7, 8] (fun sv ii wr => ∃ (i : Nat) (bv : Value) (es : List (List Value)), (i ≤ ps.length) ∧ (i ≤ most) ∧ (bv = sv) ∧ (ii = .int .i64 (i : Int)) ∧ (Els wr es (fw ps i cut)) ∧ Off [] w wr ∧ Row 28 1 wr bv es ∧ Fr (Value.ownBlock bv) w.heap.size [])
    (fun sv ii _ => ps.length - (intOf ii).toNat)
  case atStart => exact ⟨0, _, [], Nat.zero_le _, Nat.zero_le _, rfl, rfl, ⟨rfl, fun j l h => by simp [fw] at h⟩, off0, ow_b, fr_b⟩
  case round =>
    obtain ⟨i, bv, es, hi, him, rfl, rfl, hel, off0, ow_b, fr_b⟩ := hrel
    obtain ⟨W1, eW_⟩ := wname off0
    subst eW_
    have sz := off0.size
    by_cases hlt : i < ps.length
    · have _f := hlt
      obtain ⟨l_, hl_⟩ : ∃ l, ps[i]? = some l := ⟨_, List.getElem?_eq_getElem hlt⟩
      obtain ⟨ad_, u_, hA_, hc_, hu_⟩ := HPS.out i l_ hl_
      by_cases hlm : i < most
      · have _f := hlm
        go_upto_region 3 with fail
        refine wp_region_lit ?_
        (refine wpL_val (v := ?_) (by rfl) ?_ ?_; rotate_left 1; (focus (go_simp; first | done | with_reducible rfl)))
        (try simp only [Act.put, List.setIfInBounds_toArray, List.set_cons_zero, List.set_cons_succ])
        (refine wpL_val (v := ?_) (by rfl) ?_ ?_; rotate_left 1; (focus (go_simp; first | done | with_reducible rfl)))
        (try simp only [Act.put, List.setIfInBounds_toArray, List.set_cons_zero, List.set_cons_succ])
        (refine wpL_val (v := ?_) (by rfl) ?_ ?_; rotate_left 1; (focus (go_simp; first | done | with_reducible rfl)))
        (try simp only [Act.put, List.setIfInBounds_toArray, List.set_cons_zero, List.set_cons_succ])
        refine wpL_val (v := .bool true) (by rfl) (by first | rfl | (go_simp; done) | (go_simp; with_reducible rfl) | (go_simp; omega)) ?_
        (try simp only [Act.put, List.setIfInBounds_toArray, List.set_cons_zero, List.set_cons_succ])
        refine wpL_val (v := .bool true) (by rfl) (by first | rfl | (go_simp; done) | (go_simp; with_reducible rfl) | (go_simp; omega)) ?_
        (try simp only [Act.put, List.setIfInBounds_toArray, List.set_cons_zero, List.set_cons_succ])
        (refine wpL_val (v := ?_) (by rfl) ?_ ?_; rotate_left 1; (focus (go_simp; first | done | with_reducible rfl)))
        (try simp only [Act.put, List.setIfInBounds_toArray, List.set_cons_zero, List.set_cons_succ])
        (refine wpL_val (v := ?_) (by rfl) ?_ ?_; rotate_left 1; (focus (go_simp; first | done | with_reducible rfl)))
        (try simp only [Act.put, List.setIfInBounds_toArray, List.set_cons_zero, List.set_cons_succ])
        refine wpL_val (v := .bool true) (by rfl) (by first | rfl | (go_simp; done) | (go_simp; with_reducible rfl) | (go_simp; omega)) ?_
        (try simp only [Act.put, List.setIfInBounds_toArray, List.set_cons_zero, List.set_cons_succ])
        refine wpL_val (v := .bool true) (by rfl) (by first | rfl | (go_simp; done) | (go_simp; with_reducible rfl) | (go_simp; omega)) ?_
        (try simp only [Act.put, List.setIfInBounds_toArray, List.set_cons_zero, List.set_cons_succ])
        refine wpL_nil ?_
        go_upto_region 5 with fail
        refine wp_region_tr (.q 0 (.q 2 (.q 3 (.q 4 (.q 5 (.q 6 (.q 7 (.q 8 (.q 9 (.q 10 (.q 11 (.q 12 (.q 13 (.e 1 (.e 14 (.e 15 (.e 16 (.q 17 .z)))))))))))))))))) (fun W => (Off [] w W)) (by kernel_rfl) (by kernel_rfl) ?_
        intro W2 hO
        replace ow_b := Row.off ow_b hO f0
        replace off0 := off0.step hO i0
        replace sz := off0.size
        replace hel := hel.off0 hO
        clear hO
        refine ⟨off0, ?_⟩
        (refine wpT_q (v := ?_) rfl (by rfl) (fun W hS => ?_) ?_; rotate_left 1; (focus (go_simp; first | done | with_reducible rfl)))
        (try simp only [Act.put, List.setIfInBounds_toArray, List.set_cons_zero, List.set_cons_succ])
        (refine wpT_q (v := ?_) rfl (by rfl) (fun W hS => ?_) ?_; rotate_left 1; (focus (go_simp; first | done | with_reducible rfl)))
        (try simp only [Act.put, List.setIfInBounds_toArray, List.set_cons_zero, List.set_cons_succ])
        (refine wpT_q (v := ?_) rfl (by rfl) (fun W hS => ?_) ?_; rotate_left 1; (focus (go_simp; first | done | with_reducible rfl)))
        (try simp only [Act.put, List.setIfInBounds_toArray, List.set_cons_zero, List.set_cons_succ])
        refine wpT_q (v := .pointer (some (ad_.add i))) rfl (by rfl) (fun W hS => by exact (run_ixp (j := i) hlt rfl (by rw [← hA_]; rfl) rfl)) ?_
        (try simp only [Act.put, List.setIfInBounds_toArray, List.set_cons_zero, List.set_cons_succ])
        refine wpT_q (v := u_) rfl (by rfl) (fun W hS => by exact (run_at rfl rfl (cell_ext hc_ ((hS)).ext) (by kernel_rfl))) ?_
        (try simp only [Act.put, List.setIfInBounds_toArray, List.set_cons_zero, List.set_cons_succ])
        (refine wpT_q (v := ?_) rfl (by rfl) (fun W hS => ?_) ?_; rotate_left 1; (focus (go_simp; first | done | with_reducible rfl)))
        (try simp only [Act.put, List.setIfInBounds_toArray, List.set_cons_zero, List.set_cons_succ])
        (refine wpT_q (v := ?_) rfl (by rfl) (fun W hS => ?_) ?_; rotate_left 1; (focus (go_simp; first | done | with_reducible rfl)))
        (try simp only [Act.put, List.setIfInBounds_toArray, List.set_cons_zero, List.set_cons_succ])
        refine wpT_q (v := .pointer (some (ad_.add i))) rfl (by rfl) (fun W hS => by exact (run_ixp (j := i) hlt rfl (by rw [← hA_]; rfl) rfl)) ?_
        (try simp only [Act.put, List.setIfInBounds_toArray, List.set_cons_zero, List.set_cons_succ])
        refine wpT_q (v := u_) rfl (by rfl) (fun W hS => by exact (run_at rfl rfl (cell_ext hc_ ((hS)).ext) (by kernel_rfl))) ?_
        (try simp only [Act.put, List.setIfInBounds_toArray, List.set_cons_zero, List.set_cons_succ])
        refine wpT_q (v := .int .i64 (l_.length : Int)) rfl (by rfl) (fun W hS => by exact (run_lenA hu_ rfl rfl)) ?_
        (try simp only [Act.put, List.setIfInBounds_toArray, List.set_cons_zero, List.set_cons_succ])
        (refine wpT_q (v := ?_) rfl (by rfl) (fun W hS => ?_) ?_; rotate_left 1; (focus (go_simp; first | done | with_reducible rfl)))
        (try simp only [Act.put, List.setIfInBounds_toArray, List.set_cons_zero, List.set_cons_succ])
        refine wpT_q (v := .int .i64 (((min l_.length cut : Nat) : Int))) rfl (by rfl) (fun W hS => by go_simp; (try simp only [IntKind.wrap_u64, IntKind.wrap_i64]); (try omega)) ?_
        (try simp only [Act.put, List.setIfInBounds_toArray, List.set_cons_zero, List.set_cons_succ])
        obtain ⟨uc, hr_, ow_c, sub_c, some_c⟩ := run_head (n := min l_.length cut) hu_ (by omega)
        refine wpT_q (v := uc) rfl (by rfl) (fun W hS => by exact (run_headA rfl rfl rfl (hr_ W))) ?_
        (try simp only [Act.put, List.setIfInBounds_toArray, List.set_cons_zero, List.set_cons_succ])
        clear hr_
        refine wpT_e rfl ?_
        refine wpL_newS (z := #[]) (t := 5) (n := 0) (c := 0) (by rfl) (by first | kernel_rfl | (go_simp; done) | (go_simp; rfl)) ?_
        (try simp only [Act.put, List.setIfInBounds_toArray, List.set_cons_zero, List.set_cons_succ])
        intro p21_3 W3 n_s21 hO h_
        have dj_b_s21 : ∀ x, (Value.ownBlock bv) = some x → Value.ownBlock (.slice (some ⟨p21_3, 0, none⟩) 0 0) ≠ some x := dj_new (Row.lt ow_b) n_s21
        have fr_s21 : Fr (Value.ownBlock (.slice (some ⟨p21_3, 0, none⟩) 0 0)) w.heap.size [] := fr_new (Nat.le_trans sz n_s21)
        replace ow_b := Row.off ow_b hO f0
        replace off0 := off0.step hO i0
        replace sz := off0.size
        have djE_s21 := hel.new n_s21
        replace hel := hel.off0 hO
        have ow_s21 : Own W3 (.slice (some ⟨p21_3, 0, none⟩) 0 0) [] := own_blk h_ (by rfl) (by show 0 ≤ maxLen; decide)
        clear hO h_ n_s21
        refine wpT_n (fun W => (Off [] w W)) (fun W hS => hS) off0 ?_
        refine wpT_e rfl ?_
        refine wpL_append (xs := []) (ys := (List.take (min l_.length cut) l_)) (by rfl) rfl rfl rfl ow_s21 (ow_c.off off0 f0) (by first | omega | (simp only [List.length_append, List.length_cons, List.length_nil, List.length_replicate, List.length_take]; omega)) ?_
        (try simp only [Act.put, List.setIfInBounds_toArray, List.set_cons_zero, List.set_cons_succ])
        intro v34_4 W4 ow_a34 hO at_a34 nil_a34
        clear nil_a34
        have dj_a34_b := own_dj at_a34 (dj_symm dj_b_s21) (Row.lt ow_b)
        have fr_a34 := own_fr at_a34 fr_s21 sz
        replace ow_b := Row.off ow_b hO (fo (dj_symm dj_b_s21))
        replace off0 := off0.step hO (io fr_s21)
        replace sz := off0.size
        replace hel := hel.offn hO djE_s21
        clear hO at_a34
        refine wpT_n (fun W => (Off [] w W)) (fun W hS => hS) off0 ?_
        refine wpT_e rfl ?_
        refine wpL_newS (z := #[v34_4]) (t := 28) (n := 1) (c := 1) (by rfl) (by exact run_bsv [v34_4] rfl rfl (vsc ((own_cells ow_a34).1) vs0) Tryd.underlying22 (by kernel_rfl) (by kernel_rfl) rfl (by decide) (by decide)) ?_
        (try simp only [Act.put, List.setIfInBounds_toArray, List.set_cons_zero, List.set_cons_succ])
        intro p35_5 W5 n_s35 hO h_
        have ne_b_s35 := ne_new (Row.lt ow_b) n_s35
        have ne_a34_s35 := ne_new (Own.lt ow_a34) n_s35
        have fb_s35 : Fb p35_5 w.heap.size [] := fb_new (Nat.le_trans sz n_s35)
        replace ow_b := Row.off ow_b hO f0
        replace ow_a34 := Own.off ow_a34 hO f0
        replace off0 := off0.step hO i0
        replace sz := off0.size
        replace hel := hel.off0 hO
        have k_s35 := h_
        clear hO h_ n_s35
        refine wpT_n (fun W => (Off [] w W)) (fun W hS => hS) off0 ?_
        refine wpT_e rfl ?_
        have ow_b_ := ow_b
        have hnb : es.length = i := by rw [hel.1, fw_len hi]
        refine wpL_append1 (es := es) (cs := #[v34_4]) (bytes := 24) (by rfl) rfl rfl rfl ow_b k_s35 rfl (all1 (own_cells ow_a34).2) (by decide) Tryd.underlying22 (by kernel_rfl) (by first | omega | (simp only [List.length_append, List.length_cons, List.length_nil, List.length_replicate, List.length_take]; omega)) (by unfold maxLen; first | omega | (simp only [List.length_append, List.length_cons, List.length_nil, List.length_replicate, List.length_take]; omega)) ?_
        (try simp only [Act.put, List.setIfInBounds_toArray, List.set_cons_zero, List.set_cons_succ])
        intro v36_6 W6 ow_a36 hO at_a36
        replace ow_a36 : Row 28 1 W6 v36_6 (es ++ [[v34_4]]) := ow_a36
        have ne_a36_s35 := own_ne at_a36 ne_b_s35 (blk_lt k_s35)
        have dj_a36_a34 := own_dj at_a36 (dj_symm dj_a34_b) (Own.lt ow_a34)
        have fr_a36 := own_fr at_a36 fr_b sz
        replace k_s35 := blk_off k_s35 hO (nmo ne_b_s35)
        replace ow_a34 := Own.off ow_a34 hO (fo (dj_symm dj_a34_b))
        replace off0 := off0.step hO (io fr_b)
        replace sz := off0.size
        replace hel := hel.offr ow_b_ (by decide) hO
        clear hO at_a36
        have ow_b := ow_a36
        clear ow_a36
        have fr_b := fr_a36
        have ne_b_s35 := ne_a36_s35
        have dj_b_a34 := dj_a36_a34
        have hel2 := hel.snoc ow_a34
        rw [List.nil_append, fw_step hl_] at hel2
        refine wpT_n (fun W => (Off [] w W)) (fun W hS => hS) off0 ?_
        (refine wpT_q (v := ?_) rfl (by rfl) (fun W hS => ?_) ?_; rotate_left 1; (focus (go_simp; first | done | with_reducible rfl)))
        (try simp only [Act.put, List.setIfInBounds_toArray, List.set_cons_zero, List.set_cons_succ])
        refine wpT_z ?_
        go_wp2
        go_roundw
        case rel => exact ⟨i + 1, _, _, by omega, by omega, rfl, by go_num, hel2, off0, ow_b, fr_b⟩
        case measure => simp [intOf]; omega
      · have _f := hlm
        obtain rfl : i = most := by omega
        go_upto_region 3 with fail
        refine wp_region_lit ?_
        (refine wpL_val (v := ?_) (by rfl) ?_ ?_; rotate_left 1; (focus (go_simp; first | done | with_reducible rfl)))
        (try simp only [Act.put, List.setIfInBounds_toArray, List.set_cons_zero, List.set_cons_succ])
        (refine wpL_val (v := ?_) (by rfl) ?_ ?_; rotate_left 1; (focus (go_simp; first | done | with_reducible rfl)))
        (try simp only [Act.put, List.setIfInBounds_toArray, List.set_cons_zero, List.set_cons_succ])
        (refine wpL_val (v := ?_) (by rfl) ?_ ?_; rotate_left 1; (focus (go_simp; first | done | with_reducible rfl)))
        (try simp only [Act.put, List.setIfInBounds_toArray, List.set_cons_zero, List.set_cons_succ])
        refine wpL_val (v := .bool true) (by rfl) (by first | rfl | (go_simp; done) | (go_simp; with_reducible rfl) | (go_simp; omega)) ?_
        (try simp only [Act.put, List.setIfInBounds_toArray, List.set_cons_zero, List.set_cons_succ])
        refine wpL_val (v := .bool true) (by rfl) (by first | rfl | (go_simp; done) | (go_simp; with_reducible rfl) | (go_simp; omega)) ?_
        (try simp only [Act.put, List.setIfInBounds_toArray, List.set_cons_zero, List.set_cons_succ])
        (refine wpL_val (v := ?_) (by rfl) ?_ ?_; rotate_left 1; (focus (go_simp; first | done | with_reducible rfl)))
        (try simp only [Act.put, List.setIfInBounds_toArray, List.set_cons_zero, List.set_cons_succ])
        (refine wpL_val (v := ?_) (by rfl) ?_ ?_; rotate_left 1; (focus (go_simp; first | done | with_reducible rfl)))
        (try simp only [Act.put, List.setIfInBounds_toArray, List.set_cons_zero, List.set_cons_succ])
        refine wpL_val (v := .bool false) (by rfl) (by first | rfl | (go_simp; done) | (go_simp; with_reducible rfl) | (go_simp; omega)) ?_
        (try simp only [Act.put, List.setIfInBounds_toArray, List.set_cons_zero, List.set_cons_succ])
        refine wpL_val (v := .bool false) (by rfl) (by first | rfl | (go_simp; done) | (go_simp; with_reducible rfl) | (go_simp; omega)) ?_
        (try simp only [Act.put, List.setIfInBounds_toArray, List.set_cons_zero, List.set_cons_succ])
        refine wpL_nil ?_
        go_wp2
        exact bodyPost_ret (v := bv) (by simp only [results, Tryd.results7]; go_simp) rfl ⟨_, rfl, off0, pss_of ow_b (by first | exact hel | (rw [← fw_all ps (by omega)]; exact hel))⟩
    · have _f := hlt
      obtain rfl : i = ps.length := by omega
      go_upto_region 3 with fail
      refine wp_region_lit ?_
      (refine wpL_val (v := ?_) (by rfl) ?_ ?_; rotate_left 1; (focus (go_simp; first | done | with_reducible rfl)))
      (try simp only [Act.put, List.setIfInBounds_toArray, List.set_cons_zero, List.set_cons_succ])
      (refine wpL_val (v := ?_) (by rfl) ?_ ?_; rotate_left 1; (focus (go_simp; first | done | with_reducible rfl)))
      (try simp only [Act.put, List.setIfInBounds_toArray, List.set_cons_zero, List.set_cons_succ])
      (refine wpL_val (v := ?_) (by rfl) ?_ ?_; rotate_left 1; (focus (go_simp; first | done | with_reducible rfl)))
      (try simp only [Act.put, List.setIfInBounds_toArray, List.set_cons_zero, List.set_cons_succ])
      refine wpL_val (v := .bool false) (by rfl) (by first | rfl | (go_simp; done) | (go_simp; with_reducible rfl) | (go_simp; omega)) ?_
      (try simp only [Act.put, List.setIfInBounds_toArray, List.set_cons_zero, List.set_cons_succ])
      refine wpL_val (v := .bool false) (by rfl) (by first | rfl | (go_simp; done) | (go_simp; with_reducible rfl) | (go_simp; omega)) ?_
      (try simp only [Act.put, List.setIfInBounds_toArray, List.set_cons_zero, List.set_cons_succ])
      refine wpL_skip (by rfl) ?_
      (try simp only [Act.put, List.setIfInBounds_toArray, List.set_cons_zero, List.set_cons_succ])
      refine wpL_skip (by rfl) ?_
      (try simp only [Act.put, List.setIfInBounds_toArray, List.set_cons_zero, List.set_cons_succ])
      refine wpL_skip (by rfl) ?_
      (try simp only [Act.put, List.setIfInBounds_toArray, List.set_cons_zero, List.set_cons_succ])
      refine wpL_val (v := .bool false) (by rfl) (by first | rfl | (go_simp; done) | (go_simp; with_reducible rfl) | (go_simp; omega)) ?_
      (try simp only [Act.put, List.setIfInBounds_toArray, List.set_cons_zero, List.set_cons_succ])
      refine wpL_nil ?_
      go_wp2
      exact bodyPost_ret (v := bv) (by simp only [results, Tryd.results7]; go_simp) rfl ⟨_, rfl, off0, pss_of ow_b (by first | exact hel | (rw [← fw_all ps (by omega)]; exact hel))⟩
end Go.Proofs.YtfkhogeaadldnaaDoor

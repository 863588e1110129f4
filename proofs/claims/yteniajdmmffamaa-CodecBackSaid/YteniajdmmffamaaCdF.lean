/- custumallaw04.codes; methods of no writer; a part of any kind by a writer. No conditions but that memory holds what is written. -/
import Derived.Test.YteniajdmmffamaaCdE
namespace Go.Proofs.Yteniajdmmffamaa
set_option linter.unusedSimpArgs false
set_option linter.unusedVariables false
open Go.RowKit

set_option maxHeartbeats 4000000 in
theorem wbyte_nl (n : Int) (w : World) :
    Calls Try.prog 6 #[.pointer none, .int .i64 n] w fun e w' => Ret (.tuple #[]) w w' e := by
  have off0 : Off [] w w := Off.refl _ _
  have sz := off0.size
  go_enter Try.func6, Try.ntmps6
  go_wp2
  exact bodyPost_end (v := .tuple #[]) (by simp only [results, Try.results6]; go_simp) rfl ⟨rfl, off0.ext⟩
set_option maxHeartbeats 4000000 in
theorem wtext_nl (u : Value) (w : World) :
    Calls Try.prog 7 #[.pointer none, u] w fun e w' => Ret (.tuple #[]) w w' e := by
  have off0 : Off [] w w := Off.refl _ _
  have sz := off0.size
  go_enter Try.func7, Try.ntmps7
  go_wp2
  exact bodyPost_end (v := .tuple #[]) (by simp only [results, Try.results7]; go_simp) rfl ⟨rfl, off0.ext⟩
set_option maxHeartbeats 4000000 in
theorem wbytes_nl (w : World) :
    Calls Try.prog 8 #[.pointer none] w fun e w' => Ret (.tuple #[.slice none 0 0, .int .i64 1]) w w' e := by
  have off0 : Off [] w w := Off.refl _ _
  have sz := off0.size
  go_enter Try.func8, Try.ntmps8
  go_wp2
  exact bodyPost_ret (v := .tuple #[.slice none 0 0, .int .i64 1]) (by simp only [results, Try.results8]; go_simp) rfl ⟨rfl, off0.ext⟩
set_option maxHeartbeats 4000000 in
theorem codes_c (w : World) :
    Calls Try.prog 12 #[] w fun e w' => Ret (.bool true) w w' e := by
  have off0 : Off [] w w := Off.refl _ _
  have sz := off0.size
  go_enter Try.func12, Try.ntmps12
  go_upto_region 1 with fail
  refine wp_region_lit ?_
  refine wpL_val (v := .agg #[.slice none 0 0, .bool false]) (by rfl) (by first | rfl | (go_simp; done) | (go_simp; with_reducible rfl) | (go_simp; omega)) ?_
  (try simp only [Act.put, List.setIfInBounds_toArray, List.set_cons_zero, List.set_cons_succ])
  refine wpL_new (z := #[.slice none 0 0, .bool false]) (t := 31) (by rfl) (by first | kernel_rfl | (go_simp; done) | (go_simp; rfl)) ?_
  (try simp only [Act.put, List.setIfInBounds_toArray, List.set_cons_zero, List.set_cons_succ])
  intro p5_1 W1 n_t5 hO h_
  have fb_t5 : Fb p5_1 w.heap.size [] := fb_new (Nat.le_trans sz n_t5)
  replace off0 := off0.step hO i0
  replace sz := off0.size
  have k_t5 := h_
  clear hO h_ n_t5
  have ow_nw := own_nil W1
  have fr_nw : Fr (Value.ownBlock (.slice none 0 0)) w.heap.size [] := fr_none
  have ne_nw_t5 : Value.ownBlock (.slice none 0 0) ≠ some p5_1 := fun e_ => by cases e_
  (refine wpL_val (v := ?_) (by rfl) ?_ ?_; rotate_left 1; (focus (go_simp; first | done | with_reducible rfl)))
  (try simp only [Act.put, List.setIfInBounds_toArray, List.set_cons_zero, List.set_cons_succ])
  refine wpL_nil ?_
  go_upto_region 2 with fail
  refine wp_region_lit ?_
  (refine wpL_val (v := ?_) (by rfl) ?_ ?_; rotate_left 1; (focus (go_simp; first | done | with_reducible rfl)))
  (try simp only [Act.put, List.setIfInBounds_toArray, List.set_cons_zero, List.set_cons_succ])
  refine wpL_callv (wbyte_n (n := 5) (by decide) ⟨k_t5, ow_nw⟩ (by decide)) (by rfl) rfl (by kernel_rfl) rfl ?_
  (try simp only [Act.put, List.setIfInBounds_toArray, List.set_cons_zero, List.set_cons_succ])
  rintro W2 ⟨v_b1, hto⟩
  have at_b1 := hto.fr
  have hO := hto.off
  have kk := hto.wr.1
  have ow_b1 := hto.wr.2
  clear hto
  have ne_b1_t5 := own_ne at_b1 ne_nw_t5 (blk_lt k_t5)
  have fr_b1 := own_fr at_b1 fr_nw sz
  replace off0 := off0.step hO (ic fb_t5 (io fr_nw))
  replace sz := off0.size
  replace k_t5 := kk
  have ne_b1_t5 := Own.ne_blk ow_b1 k_t5 (by decide)
  clear hO at_b1 kk
  refine wpL_nil ?_
  go_upto_region 3 with fail
  refine wp_region_lit ?_
  (refine wpL_val (v := ?_) (by rfl) ?_ ?_; rotate_left 1; (focus (go_simp; first | done | with_reducible rfl)))
  (try simp only [Act.put, List.setIfInBounds_toArray, List.set_cons_zero, List.set_cons_succ])
  refine wpL_newS (z := #[.int .u8 97, .int .u8 98]) (t := 5) (n := 2) (c := 2) (by rfl) (by first | kernel_rfl | (go_simp; done) | (go_simp; rfl)) ?_
  (try simp only [Act.put, List.setIfInBounds_toArray, List.set_cons_zero, List.set_cons_succ])
  intro p9_3 W3 n_s9 hO h_
  have ne_s9_t5 : Value.ownBlock (.slice (some ⟨p9_3, 0, none⟩) 2 2) ≠ some p5_1 := fun e_ => (Nat.ne_of_lt (Nat.lt_of_lt_of_le (blk_lt k_t5) n_s9)) (Option.some.inj e_).symm
  have dj_b1_s9 : ∀ x, (Value.ownBlock v_b1) = some x → Value.ownBlock (.slice (some ⟨p9_3, 0, none⟩) 2 2) ≠ some x := dj_new (Own.lt ow_b1) n_s9
  have fr_s9 : Fr (Value.ownBlock (.slice (some ⟨p9_3, 0, none⟩) 2 2)) w.heap.size [] := fr_new (Nat.le_trans sz n_s9)
  replace k_t5 := blk_off k_t5 hO nm0
  replace ow_b1 := Own.off ow_b1 hO f0
  replace off0 := off0.step hO i0
  replace sz := off0.size
  have ow_s9 : Own W3 (.slice (some ⟨p9_3, 0, none⟩) 2 2) [97, 98] := own_blk h_ (by rfl) (by show 2 ≤ maxLen; decide)
  clear hO h_ n_s9
  refine wpL_same ow_s9 rfl (by rfl) rfl rfl ?_
  (try simp only [Act.put, List.setIfInBounds_toArray, List.set_cons_zero, List.set_cons_succ])
  intro W4 hO ow_m10
  have ne_m10_t5 : sb (.slice (some ⟨p9_3, 0, none⟩) 2 2) [97, 98] ≠ some p5_1 := ne_sb ne_s9_t5
  have dj_b1_m10 : ∀ x, (Value.ownBlock v_b1) = some x → sb (.slice (some ⟨p9_3, 0, none⟩) 2 2) [97, 98] ≠ some x := dj_sb dj_b1_s9
  replace k_t5 := blk_off k_t5 hO (nmo ne_s9_t5)
  replace ow_b1 := Own.off ow_b1 hO (fo (dj_symm dj_b1_s9))
  replace off0 := off0.step hO (io fr_s9)
  replace sz := off0.size
  clear ow_s9 fr_s9 ne_s9_t5 dj_b1_s9
  clear hO
  refine wpL_callv (wtext_c _ _ _ _ _ ⟨k_t5, ow_b1⟩ _ [97, 98] ow_m10 (by decide) ne_m10_t5 dj_b1_m10 (by simp only [List.length_append, List.length_cons, List.length_nil]; decide)) (by rfl) rfl (by kernel_rfl) rfl ?_
  (try simp only [Act.put, List.setIfInBounds_toArray, List.set_cons_zero, List.set_cons_succ])
  rintro W5 ⟨v_b2, hto⟩
  have at_b2 := hto.fr
  have hO := hto.off
  have kk := hto.wr.1
  have ow_b2 := hto.wr.2
  clear hto
  have ne_b2_t5 := own_ne at_b2 ne_b1_t5 (blk_lt k_t5)
  have dj_b2_m10 := own_dj at_b2 dj_b1_m10 (Sl.lt ow_m10)
  have fr_b2 := own_fr at_b2 fr_b1 sz
  replace ow_m10 := Sl.off ow_m10 hO (fc ne_m10_t5 (fo dj_b1_m10))
  replace off0 := off0.step hO (ic fb_t5 (io fr_b1))
  replace sz := off0.size
  replace k_t5 := kk
  have ne_b2_t5 := Own.ne_blk ow_b2 k_t5 (by decide)
  clear hO at_b2 kk
  refine wpL_nil ?_
  go_upto_region 4 with fail
  refine wp_region_lit ?_
  (refine wpL_val (v := ?_) (by rfl) ?_ ?_; rotate_left 1; (focus (go_simp; first | done | with_reducible rfl)))
  (try simp only [Act.put, List.setIfInBounds_toArray, List.set_cons_zero, List.set_cons_succ])
  refine wpL_call (R := fun r W => ∃ u, r = .tuple #[u, .int .i64 0] ∧ NewB W5 (([] ++ [u8 5]) ++ [u8 (2 / 256), u8 2] ++ [97, 98]) u W) ((wbytes_false p5_1 _ (([] ++ [u8 5]) ++ [u8 (2 / 256), u8 2] ++ [97, 98]) _ ⟨k_t5, ow_b2⟩ (by simp only [List.length_append, List.length_cons, List.length_nil]; decide)).mono fun _ _ ⟨u, h1, h2⟩ => ⟨_, h1, u, rfl, h2⟩) (by rfl) rfl (by kernel_rfl) rfl ?_
  (try simp only [Act.put, List.setIfInBounds_toArray, List.set_cons_zero, List.set_cons_succ])
  rintro _ W6 ⟨v_c3, rfl, hnb⟩
  (try simp only [Act.put, List.setIfInBounds_toArray, List.set_cons_zero, List.set_cons_succ])
  have hO := hnb.off
  have ow_c3 := hnb.own
  have at_c3 : Of (Value.ownBlock v_c3) none W5.heap.size := hnb.fr
  clear hnb
  have ne_c3_t5 := own_ne at_c3 (fun h => by cases h) (blk_lt k_t5)
  have dj_c3_m10 := own_dj at_c3 (fun x h => by cases h) (Sl.lt ow_m10)
  have dj_c3_b2 := own_dj at_c3 (fun x h => by cases h) (Own.lt ow_b2)
  have fr_c3 : Fr (Value.ownBlock v_c3) w.heap.size [] := own_fr at_c3 fr_none sz
  replace k_t5 := blk_off k_t5 hO nm0
  replace ow_m10 := Sl.off ow_m10 hO f0
  replace ow_b2 := Own.off ow_b2 hO f0
  replace off0 := off0.step hO i0
  replace sz := off0.size
  clear hO at_c3
  (refine wpL_val (v := ?_) (by rfl) ?_ ?_; rotate_left 1; (focus (go_simp; first | done | with_reducible rfl)))
  (try simp only [Act.put, List.setIfInBounds_toArray, List.set_cons_zero, List.set_cons_succ])
  (refine wpL_val (v := ?_) (by rfl) ?_ ?_; rotate_left 1; (focus (go_simp; first | done | with_reducible rfl)))
  (try simp only [Act.put, List.setIfInBounds_toArray, List.set_cons_zero, List.set_cons_succ])
  refine wpL_val (v := .int .i64 0) (by rfl) (by first | rfl | (go_simp; done) | (go_simp; with_reducible rfl) | (go_simp; omega)) ?_
  (try simp only [Act.put, List.setIfInBounds_toArray, List.set_cons_zero, List.set_cons_succ])
  (refine wpL_val (v := ?_) (by rfl) ?_ ?_; rotate_left 1; (focus (go_simp; first | done | with_reducible rfl)))
  (try simp only [Act.put, List.setIfInBounds_toArray, List.set_cons_zero, List.set_cons_succ])
  refine wpL_val (v := .int .i64 0) (by rfl) (by first | rfl | (go_simp; done) | (go_simp; with_reducible rfl) | (go_simp; omega)) ?_
  (try simp only [Act.put, List.setIfInBounds_toArray, List.set_cons_zero, List.set_cons_succ])
  refine wpL_nil ?_
  go_upto_region 5 with fail
  refine wp_region_lit ?_
  refine wpL_val (v := .int .i64 0) (by rfl) (by first | rfl | (go_simp; done) | (go_simp; with_reducible rfl) | (go_simp; omega)) ?_
  (try simp only [Act.put, List.setIfInBounds_toArray, List.set_cons_zero, List.set_cons_succ])
  refine wpL_val (v := .bool true) (by rfl) (by first | rfl | (go_simp; done) | (go_simp; with_reducible rfl) | (go_simp; omega)) ?_
  (try simp only [Act.put, List.setIfInBounds_toArray, List.set_cons_zero, List.set_cons_succ])
  refine wpL_val (v := .bool true) (by rfl) (by first | rfl | (go_simp; done) | (go_simp; with_reducible rfl) | (go_simp; omega)) ?_
  (try simp only [Act.put, List.setIfInBounds_toArray, List.set_cons_zero, List.set_cons_succ])
  (refine wpL_val (v := ?_) (by rfl) ?_ ?_; rotate_left 1; (focus (go_simp; first | done | with_reducible rfl)))
  (try simp only [Act.put, List.setIfInBounds_toArray, List.set_cons_zero, List.set_cons_succ])
  refine wpL_str (l := (([] ++ [u8 5]) ++ [u8 (2 / 256), u8 2] ++ [97, 98])) (Own.sl ow_c3) (by rfl) rfl rfl ?_
  (try simp only [Act.put, List.setIfInBounds_toArray, List.set_cons_zero, List.set_cons_succ])
  refine wpL_streq (l := (([] ++ [u8 5]) ++ [u8 (2 / 256), u8 2] ++ [97, 98])) (m := [5, 0, 2, 97, 98]) (b := true) (by decide) (by rfl) rfl rfl rfl ?_
  (try simp only [Act.put, List.setIfInBounds_toArray, List.set_cons_zero, List.set_cons_succ])
  refine wpL_val (v := .bool true) (by rfl) (by first | rfl | (go_simp; done) | (go_simp; with_reducible rfl) | (go_simp; omega)) ?_
  (try simp only [Act.put, List.setIfInBounds_toArray, List.set_cons_zero, List.set_cons_succ])
  refine wpL_val (v := .bool true) (by rfl) (by first | rfl | (go_simp; done) | (go_simp; with_reducible rfl) | (go_simp; omega)) ?_
  (try simp only [Act.put, List.setIfInBounds_toArray, List.set_cons_zero, List.set_cons_succ])
  refine wpL_nil ?_
  go_wp2
  exact bodyPost_ret (v := .bool true) (by simp only [results, Try.results12]; go_simp) rfl ⟨rfl, off0.ext⟩
/-- A part of any kind. -/
theorem write_c (K : Nat) (N : Int) (S T : List UInt8) (hS : S.length = 32) (hK : 1 ≤ K ∧ K ≤ 5) (hT : T.length ≤ 65535) (p : Nat) (v : Value) (l : List UInt8) (big : Bool) (w : World) (hwr : Wr w p v l big) (hl : l.length < 140737488000000) :
    Calls Try.prog 10 #[.pointer (some ⟨p, 0, none⟩), .agg (partC (K : Int) N S T)] w fun e w' => e = .returned (.tuple #[]) ∧ ∃ v', WrTo w p v (l ++ partB K N S T) (big || !partOk K N) v' w' := by
  have : K = 1 ∨ K = 2 ∨ K = 3 ∨ K = 4 ∨ K = 5 := by omega
  rcases this with rfl | rfl | rfl | rfl | rfl
  · have h := write_1 N S T hS p v l big w hwr hl
    have e1 : by1 N l = l ++ partB 1 N S T := by
      unfold by1 partB
      by_cases hn : 0 ≤ N ∧ N ≤ 255
      · rw [if_pos hn, if_pos rfl, if_pos hn]
      · rw [if_neg hn, if_pos rfl, if_neg hn, List.append_nil]
    have e2 : bg1 N big = (big || !partOk 1 N) := by simp [bg1, partOk]
    rw [e1, e2] at h
    exact h
  · have hb : (big || !partOk 2 N) = big := by simp [partOk]
    rw [hb]
    have : N % 2 = 0 ∨ N % 2 = 1 := by omega
    rcases this with hn | hn
    · have h := write_2b N S T hS hn p v l big w hwr hl
      have e : partB 2 N S T = [u8 0] := by simp [partB, hn]
      rw [e]; exact h
    · have h := write_2a N S T hS hn p v l big w hwr hl
      have e : partB 2 N S T = [u8 1] := by simp [partB, hn]
      rw [e]; exact h
  · have hb : (big || !partOk 3 N) = big := by simp [partOk]
    rw [hb]
    exact write_3 N S T hS p v l big w hwr hl
  · have hb : (big || !partOk 4 N) = big := by simp [partOk]
    rw [hb]
    exact write_4 N S T hS p v l big w hwr hl
  · have hb : (big || !partOk 5 N) = big := by simp [partOk]
    rw [hb]
    have h := write_5 N S T hS hT p v l big w hwr hl
    have e : l ++ partB 5 N S T = l ++ [u8 (T.length / 256), u8 T.length] ++ T := by simp [partB]
    rw [e]; exact h

end Go.Proofs.Yteniajdmmffamaa

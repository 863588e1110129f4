/- custumallaw06.ScalarOf is true of all bytes. -/
import Derived.Test.YtgmdpiaenfogcaaDoorLwC
import Derived.Test.YtgmdpiaenfogcaaDoorScI
namespace Go.Proofs.YtgmdpiaenfogcaaDoor
open Go.RowKit

theorem own_step {base : Nat} {e : TypeId} {k n : Nat} {v : Value} {xs : List Value} {w w' : World} (h : w.ownsRow base e k v n xs) (hb : Below w.heap.size w w') : w'.ownsRow base e k v n xs := by
  obtain ⟨hl, hn | ⟨g, cap, cur, hv, hg, hc, h1, h2, h3, h4⟩⟩ := h
  · exact ⟨hl, .inl hn⟩
  · exact ⟨hl, .inr ⟨g, cap, cur, hv, hg, by rw [hb.block g (lt_of_block hc)]; exact hc, h1, h2, h3, h4⟩⟩
theorem own_shape {base : Nat} {e : TypeId} {n : Nat} {v : Value} {f : Nat → Int} {w : World} (h : w.ownsRow base e 1 v n (lstK .u8 n f)) (hv : v ≠ .slice none 0 0) :
    ∃ g cap, v = .slice (some ⟨g, 0, none⟩) n cap ∧ g < w.heap.size ∧ ∀ j, j < n → w.cell? ⟨g, 0 + j, none⟩ = some (.int .u8 (f j)) := by
  have h' := h
  obtain ⟨hl, ⟨rfl, _⟩ | ⟨g, cap, cur, rfl, hg, hc, _⟩⟩ := h
  · exact absurd rfl hv
  · exact ⟨g, cap, rfl, lt_of_block hc, fun j hj => by rw [Nat.zero_add, h'.cellAt j (by omega), lstK_get _ _ _ _ hj]⟩
theorem lstK_one (k : IntKind) (n : Nat) (f : Nat → Int) : ∀ u ∈ lstK k n f, u.oneCell' = true := by
  intro u hu; simp only [lstK, List.mem_map] at hu; obtain ⟨i, _, rfl⟩ := hu; rfl
theorem news_arg (a : Addr) (m : Nat) (f : Nat → Int) (w : World) (o : Obj) (hc : ∀ j, j < m → w.cell? (a.add j) = some (.int .u8 (f j))) :
    ∀ j u, (lstK .u8 m f)[j]? = some u → (w.alloc o).cell? (a.add j) = some u := by
  intro j u hj
  have hlt : j < m := by
    have := (List.getElem?_eq_some_iff.1 hj).1
    rwa [lstK_length] at this
  rw [lstK_get _ _ _ _ hlt] at hj
  have h1 := hc j hlt
  have hb := World.block_lt_of_cell? w _ h1
  rw [← hj, ← h1]
  exact ((Below.refl w.heap.size w).alloc (Nat.le_refl _) o).cell hb

set_option maxHeartbeats 4000000 in
theorem sof_some (m : Nat) (a : Addr) (len cap : Nat) (hm0 : 0 < m) (hm : (m = len ∧ len ≤ 200) ∨ (m = 200 ∧ 200 < len)) (f : Nat → Int) (hf : ∀ j, u8ok (f j)) (w : World) (hG : GL w) (hlc : len ≤ cap) (hcm : cap ≤ maxLen)
    (hc : ∀ j, j < m → w.cell? (a.add j) = some (.int .u8 (f j))) :
    Calls Tryd.prog 3 #[.slice (some a) len cap] w fun e w' => Ret (.bool true) w w' e := by
  have hm2 : m ≤ 200 := by omega
  obtain ⟨T, hT⟩ : ∃ T, T = bval f m := ⟨_, rfl⟩
  have hTl : T < 2 ^ (8 * m) := by rw [hT]; exact bval_lt f hf m
  have hro := rof_c m T hTl (by omega)
  have hst : strN m (byt T) = strN m f := strN_congr _ _ _ (fun i hi => by rw [hT]; exact byt_bval f hf m i hi)
  rw [hst] at hro
  have hstr := fun (base : Nat) (v : Value) (W : World) (h : W.ownsRow base 5 1 v m (lstK .u8 m f)) => run_string_own (P := Tryd.prog) Tryd.underlying22 Tryd.underlying5 h 9 Tryd.underlying9
  have hof := fun (g c : Nat) (W : World) (hW : GL W) (hx : ∀ j, j < m → W.cell? ⟨g, 0 + j, none⟩ = some (.int .u8 (f j))) (hb : g < W.heap.size) => of_c f hf g 0 m c W hW (by omega) hx hb
  rw [← hT] at hof
  have hsm := same_c (T % LL)
  unfold strN at hro hstr
  obtain ⟨S, hS⟩ : ∃ S, S = strOfNums ((List.range m).map f) := ⟨_, rfl⟩
  rw [← hS] at hro hstr
  obtain ⟨R, hR⟩ : ∃ R, R = T % LL := ⟨_, rfl⟩
  rw [← hR] at hro hof hsm
  unfold A16 at hro hsm
  unfold L4 at hof hsm
  have hown0 : (w.alloc (.cells #[] 5)).ownsRow w.heap.size 5 1 (.slice (some ⟨w.heap.size, 0, none⟩) 0 0) 0 [] :=
    ⟨rfl, .inr ⟨w.heap.size, 0, #[], rfl, Nat.le_refl _, blk_new _ _ rfl, Nat.le_refl _, by decide, rfl, rfl⟩⟩
  have hnews := news_arg a m f w (.cells #[] 5) hc
  have HG := Lib.hid hG
  have HRO := Lib.hid hro
  have HSTR := Lib.hid hstr
  have HOF := Lib.hid hof
  have HSM := Lib.hid hsm
  have HO0 := Lib.hid hown0
  have HN := Lib.hid hnews
  have HM2 := Lib.hid hm2
  have hcm' : (cap : Int) ≤ 9223372036854775807 := by unfold maxLen at hcm; omega
  clear hG hc hf hro hstr hof hsm hown0 hnews hst hTl hS hR hT hm2
  obtain ⟨i0, hi, hz0, hz1, hz2⟩ := info_parts byteInfo
  rcases hm with ⟨rfl, hml⟩ | ⟨rfl, hml⟩
  · have hml' : (m : Int) ≤ 200 := by omega
    have hm0' : (0 : Int) < (m : Int) := by omega
    go_enter Tryd.func3, Tryd.ntmps3
    go_wp2_with (first
      | (at_builtin; refine wpList_append_own _ rfl (.tmp 4) (.tmp 9) 22 rfl w.heap.size 5 i0 (.int .u8 0) 1 1 Tryd.underlying22 hi hz0 hz1 hz2 rfl (by decide) (.slice (some ⟨w.heap.size, 0, none⟩) 0 0) 0 [] rfl HO0.out a m cap (lstK .u8 m f) rfl (by rw [lstK_length, Nat.mul_one]) HN.out (lstK_one _ _ _) (by unfold maxLen; omega) (by omega) (by simp) ?_
         intro v' w1 hown1 hgrow hniff
         rw [Nat.zero_add, List.nil_append] at hown1
         obtain ⟨g, cc, rfl, hg, hcells⟩ := own_shape hown1 (fun h => by have := hniff.1 h; simp at this)
         have hbel1 : Below w.heap.size w w1 := own_below ((Below.refl _ _).alloc (Nat.le_refl _) _) hgrow (by simp) (fun k hk => by simp [Value.ownBlock] at hk; omega)
         have hcv := HSTR.out _ _ _ hown1
         have HO := Lib.hid hown1
         clear hown1 hgrow hniff)
      | (go_at_call 7; refine (orders_c _ (GL_below HG.out hbel1 HG.out.2.2.2.2)).mono ?_; rintro e w2 ⟨rfl, hb2⟩
         have HO2 := Lib.hid (own_step HO.out hb2)
         have hbel2 := below_step hbel1 hb2 hbel1.size)
      | (go_at_call 9; refine (HOF.out g cc _ (GL_below HG.out hbel2 HG.out.2.2.2.2) (fun j hj => (hb2.cell (p := ⟨g, 0 + j, none⟩) hg).trans (hcells j hj)) (Nat.lt_of_lt_of_le hg hb2.size)).mono ?_; rintro e w3 ⟨rfl, hb3⟩
         have HO3 := Lib.hid (own_step HO2.out hb3)
         have hbel3 := below_step hbel2 hb3 hbel2.size)
      | (go_at_call 10; (with_reducible refine (HRO.out _).mono ?_); rintro e w4 ⟨rfl, hb4⟩
         have HO4 := Lib.hid (own_step HO3.out hb4)
         have hbel4 := below_step hbel3 hb4 hbel3.size)
      | (go_at_call 8; (with_reducible refine (HSM.out _).mono ?_); rintro e w5 ⟨rfl, hb5⟩
         have hcv5 := HSTR.out _ _ _ (own_step HO4.out hb5)
         have hbel5 := below_step hbel4 hb5 hbel4.size))
    refine bodyPost_ret (v := .bool true) (by simp only [results, Tryd.results3]; go_simp) rfl ⟨rfl, hbel5⟩
  · have hml' : ¬ ((len : Int) ≤ 200) := by omega
    have hl2 : (200 : Int) ≤ (cap : Int) := by omega
    go_enter Tryd.func3, Tryd.ntmps3
    go_wp2_with (first
      | (at_builtin; refine wpList_append_own _ rfl (.tmp 4) (.tmp 9) 22 rfl w.heap.size 5 i0 (.int .u8 0) 1 1 Tryd.underlying22 hi hz0 hz1 hz2 rfl (by decide) (.slice (some ⟨w.heap.size, 0, none⟩) 0 0) 0 [] rfl HO0.out a 200 cap (lstK .u8 200 f) rfl (by rw [lstK_length, Nat.mul_one]) HN.out (lstK_one _ _ _) (by unfold maxLen; omega) (by omega) (by simp) ?_
         intro v' w1 hown1 hgrow hniff
         rw [Nat.zero_add, List.nil_append] at hown1
         obtain ⟨g, cc, rfl, hg, hcells⟩ := own_shape hown1 (fun h => by have := hniff.1 h; simp at this)
         have hbel1 : Below w.heap.size w w1 := own_below ((Below.refl _ _).alloc (Nat.le_refl _) _) hgrow (by simp) (fun k hk => by simp [Value.ownBlock] at hk; omega)
         have hcv := HSTR.out _ _ _ hown1
         have HO := Lib.hid hown1
         clear hown1 hgrow hniff)
      | (go_at_call 7; refine (orders_c _ (GL_below HG.out hbel1 HG.out.2.2.2.2)).mono ?_; rintro e w2 ⟨rfl, hb2⟩
         have HO2 := Lib.hid (own_step HO.out hb2)
         have hbel2 := below_step hbel1 hb2 hbel1.size)
      | (go_at_call 9; refine (HOF.out g cc _ (GL_below HG.out hbel2 HG.out.2.2.2.2) (fun j hj => (hb2.cell (p := ⟨g, 0 + j, none⟩) hg).trans (hcells j hj)) (Nat.lt_of_lt_of_le hg hb2.size)).mono ?_; rintro e w3 ⟨rfl, hb3⟩
         have HO3 := Lib.hid (own_step HO2.out hb3)
         have hbel3 := below_step hbel2 hb3 hbel2.size)
      | (go_at_call 10; (with_reducible refine (HRO.out _).mono ?_); rintro e w4 ⟨rfl, hb4⟩
         have HO4 := Lib.hid (own_step HO3.out hb4)
         have hbel4 := below_step hbel3 hb4 hbel3.size)
      | (go_at_call 8; (with_reducible refine (HSM.out _).mono ?_); rintro e w5 ⟨rfl, hb5⟩
         have hcv5 := HSTR.out _ _ _ (own_step HO4.out hb5)
         have hbel5 := below_step hbel4 hb5 hbel4.size))
    refine bodyPost_ret (v := .bool true) (by simp only [results, Tryd.results3]; go_simp) rfl ⟨rfl, hbel5⟩
end Go.Proofs.YtgmdpiaenfogcaaDoor

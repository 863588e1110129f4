/- custumallaw06.ScalarOf at no bytes; and its card: whatever the input, the call returns true, never panics, and the input reads as it did. Conditions: the order starts as the program's text lays it (the card ties that). -/
import Derived.Test.YtgmdpiaenfogcaaDoorLwD
import Derived.Test.YtgmdpiaenfogcaaDoorRowKit
namespace Go.Proofs.YtgmdpiaenfogcaaDoor
open Go.RowKit

set_option maxHeartbeats 4000000 in
theorem sof_empty (ao : Option Addr) (cap : Nat) (hao : ao = none → cap = 0) (hcm : cap ≤ maxLen) (w : World) (hG : GL w) :
    Calls Tryd.prog 3 #[.slice ao 0 cap] w fun e w' => Ret (.bool true) w w' e := by
  have hro := rof_c 0 0 (by decide) (by omega)
  rw [show strN 0 (byt 0) = .string ByteArray.empty by rfl] at hro
  have hstr := fun (W : World) (h : W.ownsRow w.heap.size 5 1 (.slice (some ⟨w.heap.size, 0, none⟩) 0 0) 0 (lstK .u8 0 (byt 0))) => run_string_own (P := Tryd.prog) Tryd.underlying22 Tryd.underlying5 h 9 Tryd.underlying9
  rw [show strN 0 (byt 0) = .string ByteArray.empty by rfl] at hstr
  have hof := fun (W : World) (hW : GL W) (hb : w.heap.size < W.heap.size) => of_c (byt 0) (fun j => byt_ok 0 j) w.heap.size 0 0 0 W hW (by omega) (fun j hj => by omega) hb
  rw [show bval (byt 0) 0 % LL = 0 % LL from rfl] at hof
  have hsm := same_c (0 % LL)
  obtain ⟨R, hR⟩ : ∃ R, R = 0 % LL := ⟨_, rfl⟩
  rw [← hR] at hro hof hsm
  unfold A16 at hro hsm
  unfold L4 at hof hsm
  have hown0 : (w.alloc (.cells #[] 5)).ownsRow w.heap.size 5 1 (.slice (some ⟨w.heap.size, 0, none⟩) 0 0) 0 (lstK .u8 0 (byt 0)) :=
    ⟨rfl, .inr ⟨w.heap.size, 0, #[], rfl, Nat.le_refl _, blk_new _ _ rfl, Nat.le_refl _, by decide, rfl, rfl⟩⟩
  have hcv := hstr _ hown0
  have hcm' : (cap : Int) ≤ 9223372036854775807 := by unfold maxLen at hcm; omega
  have hbel1 : Below w.heap.size w (w.alloc (.cells #[] 5)) := (Below.refl _ _).alloc (Nat.le_refl _) _
  have HG := Lib.hid hG
  have HRO := Lib.hid hro
  have HSTR := Lib.hid hstr
  have HOF := Lib.hid hof
  have HSM := Lib.hid hsm
  have HO := Lib.hid hown0
  have HB1 := Lib.hid hbel1
  clear hG hro hstr hof hsm hown0 hR hbel1
  rcases ao with _ | a
  · obtain rfl := hao rfl
    clear hao
    go_enter Tryd.func3, Tryd.ntmps3
    go_wp2_with (first
      | (go_at_call 7; refine (orders_c _ (GL_below HG.out HB1.out HG.out.2.2.2.2)).mono ?_; rintro e w2 ⟨rfl, hb2⟩
         have HO2 := Lib.hid (own_step HO.out hb2)
         have hbel2 := below_step HB1.out hb2 HB1.out.size
         have hsz2 : w.heap.size < w2.heap.size := by have := hb2.size; simp only [World.size_alloc] at this; omega)
      | (go_at_call 9; refine (HOF.out _ (GL_below HG.out hbel2 HG.out.2.2.2.2) hsz2).mono ?_; rintro e w3 ⟨rfl, hb3⟩
         have HO3 := Lib.hid (own_step HO2.out hb3)
         have hbel3 := below_step hbel2 hb3 hbel2.size)
      | (go_at_call 10; (with_reducible refine (HRO.out _).mono ?_); rintro e w4 ⟨rfl, hb4⟩
         have HO4 := Lib.hid (own_step HO3.out hb4)
         have hbel4 := below_step hbel3 hb4 hbel3.size)
      | (go_at_call 8; (with_reducible refine (HSM.out _).mono ?_); rintro e w5 ⟨rfl, hb5⟩
         have hcv5 := HSTR.out _ (own_step HO4.out hb5)
         have hbel5 := below_step hbel4 hb5 hbel4.size))
    refine bodyPost_ret (v := .bool true) (by simp only [results, Tryd.results3]; go_simp) rfl ⟨rfl, hbel5⟩
  · clear hao
    go_enter Tryd.func3, Tryd.ntmps3
    go_wp2_with (first
      | (go_at_call 7; refine (orders_c _ (GL_below HG.out HB1.out HG.out.2.2.2.2)).mono ?_; rintro e w2 ⟨rfl, hb2⟩
         have HO2 := Lib.hid (own_step HO.out hb2)
         have hbel2 := below_step HB1.out hb2 HB1.out.size
         have hsz2 : w.heap.size < w2.heap.size := by have := hb2.size; simp only [World.size_alloc] at this; omega)
      | (go_at_call 9; refine (HOF.out _ (GL_below HG.out hbel2 HG.out.2.2.2.2) hsz2).mono ?_; rintro e w3 ⟨rfl, hb3⟩
         have HO3 := Lib.hid (own_step HO2.out hb3)
         have hbel3 := below_step hbel2 hb3 hbel2.size)
      | (go_at_call 10; (with_reducible refine (HRO.out _).mono ?_); rintro e w4 ⟨rfl, hb4⟩
         have HO4 := Lib.hid (own_step HO3.out hb4)
         have hbel4 := below_step hbel3 hb4 hbel3.size)
      | (go_at_call 8; (with_reducible refine (HSM.out _).mono ?_); rintro e w5 ⟨rfl, hb5⟩
         have hcv5 := HSTR.out _ (own_step HO4.out hb5)
         have hbel5 := below_step hbel4 hb5 hbel4.size))
    refine bodyPost_ret (v := .bool true) (by simp only [results, Tryd.results3]; go_simp) rfl ⟨rfl, hbel5⟩
end Go.Proofs.YtgmdpiaenfogcaaDoor

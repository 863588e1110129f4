/- how many bits two keys begin with alike: the document's. Conditions: the keys' parts are bytes. -/
import Derived.Test.YtndnlbinnhdmbaaDoorGc
import Derived.Test.YtndnlbinnhdmbaaDoorTrA
set_option linter.unusedSimpArgs false
set_option linter.unusedVariables false
namespace Go.Proofs.YtndnlbinnhdmbaaDoor
set_option maxHeartbeats 1500000
set_option maxRecDepth 100000
open Go.RowKit
attribute [local irreducible] wpList
def kcomF (f g : Nat → Int) : Nat → Nat → Nat
  | 0, i => i
  | n + 1, i => if kbit f i = kbit g i then kcomF f g n (i + 1) else i
def kcom (f g : Nat → Int) : Nat := kcomF f g 256 0
theorem kcom_step {f g : Nat → Int} {i : Nat} (h : i < 256) : kcomF f g (256 - i) i = if kbit f i = kbit g i then kcomF f g (256 - (i + 1)) (i + 1) else i := by
  rw [show 256 - i = (256 - (i + 1)) + 1 by omega]; rfl

theorem rcommon_c (f g : Nat → Int) (hf : ∀ j, 0 ≤ f j ∧ f j < 256) (hg : ∀ j, 0 ≤ g j ∧ g j < 256) (w : World) :
  Calls Tryd.prog 65 #[.agg (arrK .u8 32 f), .agg (arrK .u8 32 g)] w fun e w' => Ret (.int .i64 (kcom f g : Int)) w w' e := by
 have off0 : Off [] w w := Off.refl _ _
 go_enter Tryd.func65, Tryd.ntmps65
 go_upto_region 0 with fail
 refine wp_region_lit ?_
 refine Ln ?_ (z := arrK .u8 32 f) (t := 22)
 intro p2_1 W1 n_t2 hO h_
 replace off0 := off0.o hO
 have k_t2 := h_
 clear hO h_ n_t2
 refine Ln ?_ (z := arrK .u8 32 g) (t := 22)
 intro p3_2 W2 n_t3 hO h_
 replace k_t2 := k_t2.o hO
 replace off0 := off0.o hO
 have k_t3 := h_
 clear hO h_ n_t3
 refine Lw ?_ (v := .int .i64 0)
 refine wpL_nil ?_
 go_wp2_with fail
 go_loopw [5] (fun ii wr => ∃ (i : Nat), (i ≤ 256) ∧ (ii = .int .i64 (i : Int)) ∧ (kcom f g = kcomF f g (256 - i) i) ∧ Off [] w wr ∧ Blk wr p2_1 (arrK .u8 32 f) 22 ∧ Blk wr p3_2 (arrK .u8 32 g) 22)
  (fun ii _ => 256 - (intOf ii).toNat)
 case atStart => exact ⟨0, Nat.zero_le _, rfl, rfl, off0, k_t2, k_t3⟩
 case round =>
  obtain ⟨i, hi, rfl, hinv, off0, k_t2, k_t3⟩ := hrel
  obtain ⟨W3, eW_⟩ := wname off0
  subst eW_
  by_cases h256 : i < 256
  ·
   have _f := h256
   go_upto_region 2 with fail
   refine wp_region_lit ?_
   refine Lv ?_
   refine Lw ?_ (v := .bool true)
   refine wpL_nil ?_
   by_cases hz : kbit f i = kbit g i
   ·
    have _f := hz
    have H_hz := Lib.hid hz
    clear hz
    go_upto_region 4 with fail
    refine Rx 7 ?_
    refine XlA ?_ k_t2
    refine Xv ?_
    refine Xf ?_ (fun W hW => rbit_c f hf i h256 W)
    refine XlA ?_ k_t3
    refine Xv ?_
    refine Xf ?_ (fun W hW => rbit_c g hg i h256 W)
    refine Xw ?_ (v := .bool false) (hv := fun _ _ => by have hz := H_hz.out; first | (go_simp; done) | (go_simp; simp [hz]))
    refine wpX_nil fun W4 hE => ?_
    have hO := off_ext hE
    replace k_t2 := k_t2.o hO
    replace k_t3 := k_t3.o hO
    replace off0 := off0.o hO
    clear hO hE
    refine LN ?_
    go_wp2
    go_roundw
    case rel => exact ⟨i + 1, by omega, by go_num, by rw [hinv, kcom_step h256, if_pos H_hz.out], off0, k_t2, k_t3⟩
    case measure => simp [intOf]; omega
   ·
    have _f := hz
    have hres : ((kcom f g : Nat) : Int) = (i : Int) := by rw [hinv, kcom_step h256, if_neg hz]
    have H_hz := Lib.hid hz
    clear hz hinv
    go_upto_region 4 with fail
    refine Rx 7 ?_
    refine XlA ?_ k_t2
    refine Xv ?_
    refine Xf ?_ (fun W hW => rbit_c f hf i h256 W)
    refine XlA ?_ k_t3
    refine Xv ?_
    refine Xf ?_ (fun W hW => rbit_c g hg i h256 W)
    refine Xw ?_ (v := .bool true) (hv := fun _ _ => by have hz := H_hz.out; first | (go_simp; done) | (go_simp; simp [hz]))
    refine wpX_nil fun W4 hE => ?_
    have hO := off_ext hE
    replace off0 := off0.o hO
    clear hO hE
    refine LN ?_
    go_wp2
    exact bodyPost_ret (v := .int .i64 (i : Int)) (by simp only [results, Tryd.results65]; go_simp) rfl ⟨congrArg (fun z : Int => Ending.returned (.int .i64 z)) hres.symm, off0.ext⟩
  ·
   have _f := h256
   obtain rfl : i = 256 := by omega
   have hres : ((kcom f g : Nat) : Int) = 256 := by rw [hinv]; rfl
   clear hinv
   go_upto_region 2 with fail
   refine wp_region_lit ?_
   refine Lv ?_
   refine Lw ?_ (v := .bool false)
   refine wpL_nil ?_
   go_wp2
   exact bodyPost_ret (v := .int .i64 256) (by simp only [results, Tryd.results65]; go_simp) rfl ⟨congrArg (fun z : Int => Ending.returned (.int .i64 z)) hres.symm, off0.ext⟩
/-- the document's order -/
def kless (f g : Nat → Int) : Bool := decide (kcom f g < 256) && decide (kbit f (kcom f g) = 0)
theorem rless_c (f g : Nat → Int) (hf : ∀ j, 0 ≤ f j ∧ f j < 256) (hg : ∀ j, 0 ≤ g j ∧ g j < 256) (w : World) :
  Calls Tryd.prog 58 #[.agg (arrK .u8 32 f), .agg (arrK .u8 32 g)] w fun e w' => Ret (.bool (kless f g)) w w' e := by
 have hcc := rcommon_c f g hf hg
 obtain ⟨c, hc⟩ : ∃ c, kcom f g = c := ⟨_, rfl⟩
 rw [hc] at hcc
 have HK := Lib.hid hc
 clear hc
 have off0 : Off [] w w := Off.refl _ _
 go_enter Tryd.func58, Tryd.ntmps58
 go_upto_region 0 with fail
 refine wp_region_lit ?_
 refine Ln ?_ (z := arrK .u8 32 f) (t := 22)
 intro p2_1 W1 n_t2 hO h_
 replace off0 := off0.o hO
 have k_t2 := h_
 clear hO h_ n_t2
 refine Ln ?_ (z := arrK .u8 32 g) (t := 22)
 intro p3_2 W2 n_t3 hO h_
 replace k_t2 := k_t2.o hO
 replace off0 := off0.o hO
 have k_t3 := h_
 clear hO h_ n_t3
 refine Lw ?_ (v := .bool false)
 refine wpL_nil ?_
 go_upto_region 1 with fail
 refine wp_region_lit ?_
 refine L0A ?_ k_t2
 refine L0A ?_ k_t3
 refine Lr ?_ (hcc W2)
 intro W3 hO
 replace k_t2 := k_t2.o hO
 replace off0 := off0.o hO
 clear hO
 refine Lv ?_
 refine wpL_nil ?_
 by_cases ha : c < 256
 ·
  have _f := ha
  go_upto_region 2 with fail
  refine wp_region_lit ?_
  refine Lv ?_
  refine Lw ?_ (v := .bool true)
  refine Lw ?_ (v := .bool true)
  refine L0A ?_ k_t2
  refine Lv ?_
  refine Lr ?_ (rbit_c f hf c ha W3)
  intro W4 hO
  replace off0 := off0.o hO
  clear hO
  refine Lw ?_ (v := .bool (decide (kbit f c = 0))) (hv := by go_simp; first | done | rfl | (cases h_ : (kbit f c == 0) <;> simp_all))
  refine Lw ?_ (v := .bool (decide (kbit f c = 0)))
  refine Lw ?_ (v := .bool (decide (kbit f c = 0)))
  refine wpL_nil ?_
  go_wp2
  exact bodyPost_ret (v := .bool (decide (kbit f c = 0))) (by simp only [results, Tryd.results58]; go_simp) rfl ⟨congrArg (fun z => Ending.returned (.bool z)) (by unfold kless; rw [HK.out]; simp [ha]), off0.ext⟩
 ·
  have _f := ha
  go_upto_region 2 with fail
  refine wp_region_lit ?_
  refine Lv ?_
  refine Lw ?_ (v := .bool false)
  refine Lw ?_ (v := .bool false)
  refine Ls ?_
  refine Ls ?_
  refine Ls ?_
  refine Ls ?_
  refine Lw ?_ (v := .bool false)
  refine Lw ?_ (v := .bool false)
  refine wpL_nil ?_
  go_wp2
  exact bodyPost_ret (v := .bool false) (by simp only [results, Tryd.results58]; go_simp) rfl ⟨congrArg (fun z => Ending.returned (.bool z)) (by unfold kless; rw [HK.out]; simp [ha]), off0.ext⟩
end Go.Proofs.YtndnlbinnhdmbaaDoor

/- bits of a key. Conditions: the bit's number is below 256, the key's parts are bytes. how many bits two keys begin with alike: the document's. Conditions: the keys' parts are bytes. Bits of keys as numbers; how many bits two keys begin with alike, by bytes. No conditions. Trees: the key of a leaf, a tree of two leaves, a leaf more. Conditions: the tables hold their numbers. -/
import Derived.Test.YtejkmhgkkibafaaGreatDoorGc
import Derived.Test.YtejkmhgkkibafaaGreatDoorJ24
import Derived.Test.YtejkmhgkkibafaaGreatDoorJ9
import Derived.Test.YtejkmhgkkibafaaGreatDoorJ28
set_option linter.unusedSimpArgs false
set_option linter.unusedVariables false
namespace Go.Proofs.YtejkmhgkkibafaaGreatDoor
section
set_option maxHeartbeats 1500000
set_option maxRecDepth 100000
open Go.RowKit
attribute [local irreducible] wpList
def J2n (f : Nat → Int) (i : Nat) : Int := f (i / 8) / 2 ^ (7 - i % 8) % 2
theorem Z0c {x : Int} {n : Nat} (h : 0 ≤ x ∧ x < 256) : 0 ≤ x / 2 ^ n ∧ x / 2 ^ n < 256 := by
  obtain ⟨a, rfl⟩ := Int.eq_ofNat_of_zero_le h.1
  rw [show ((a : Int) / 2 ^ n) = ((a / 2 ^ n : Nat) : Int) by rw [Int.natCast_ediv, Int.natCast_pow]; rfl]
  have h2 := Nat.div_le_self a (2 ^ n)
  have h3 := h.2
  clear h
  generalize a / 2 ^ n = q at *
  omega
section
variable {w : World} {o : Oper} {a : Act} {x y : Operand} {t t' : TypeId} {p : Int}
theorem Q6f {P : Program} {k : IntKind} {n : Nat} (hn : n ≤ 8) (ho : o.op = .binOp .shr t x y t') (hx : a.eval x = .int .u8 p) (hy : a.eval y = .int k (n : Int)) : (execOp a.eval o).run P w = .ok (.value (.int .u8 (p / 2 ^ n))) w := by
  have h : min ((n : Int)).toNat IntKind.u8.bits = n := by rw [Int.toNat_natCast]; exact Nat.min_eq_left hn
  simp only [execOp, ho, hx, hy, eqGuard, binOp, Sem.run_bind]
  simp [Op.shift, h, go_sem, Sem.run_bind]
theorem Z41 (hp : 0 ≤ p ∧ p < 256) (ho : o.op = .convert 5 3 x) (hx : a.eval x = .int .u8 p) : (execOp a.eval o).run Tryz.prog w = .ok (.value (.int .i64 p)) w := by
  have hw : IntKind.wrap .i64 p = p := by rw [IntKind.wrap_i64]; omega
  simp [execOp, ho, hx, convert, run_underlying Tryz.underlying5, run_underlying Tryz.underlying3, Sem.run_bind, Conv.intToInt, hw]
theorem Z42 (h : 0 ≤ p ∧ p < 256) : bits .and .i64 p 1 = p % 2 := bits_mask .i64 63 (by decide) Z0q 1 (by decide) p h.1 (by omega)
end

theorem Y0j (i : Nat) (hi : i < 256) (w : World) :
  Calls Tryz.prog 144 #[.int .i64 (i : Int)] w fun e w' => Ret (.bool true) w w' e := by
 have hi1 : (i : Int) < 256 := by omega
 have hi0 : (0 : Int) ≤ (i : Int) := by omega
 have off0 : Off [] w w := Off.refl _ _
 go_enter Tryz.func144, Tryz.ntmps144
 go_upto_region 1 with fail
 refine wp_region_lit ?_
 refine Lv ?_
 refine Lw ?_ (v := .bool true) (hv := by first | (go_simp; done) | (go_simp; omega))
 refine Lw ?_ (v := .bool true)
 refine Lv ?_
 refine Lw ?_ (v := .bool true) (hv := by first | (go_simp; done) | (go_simp; omega))
 refine Lw ?_ (v := .bool true)
 refine Lw ?_ (v := .bool true)
 refine J3 ?_
 go_wp2
 exact bodyPost_ret (v := .bool true) (by simp only [results, Tryz.results144]; go_simp) rfl ⟨rfl, off0.ext⟩
theorem V07 (f : Nat → Int) (hf : ∀ j, 0 ≤ f j ∧ f j < 256) (i : Nat) (hi : i < 256) (w : World) :
  Calls Tryz.prog 100 #[.agg (J0 .u8 32 f), .int .i64 (i : Int)] w fun e w' => Ret (.int .i64 (J2n f i)) w w' e := by
 have hi1 : (i : Int) < 256 := by omega
 have hi0 : (0 : Int) ≤ (i : Int) := by omega
 have hD := Z0c (n := 7 - i % 8) (hf (i / 8))
 have hA := Z42 hD
 clear hf
 have off0 : Off [] w w := Off.refl _ _
 go_enter Tryz.func100, Tryz.ntmps100
 go_upto_region 0 with fail
 refine wp_region_lit ?_
 refine Ln ?_ (z := J0 .u8 32 f) (t := 31)
 intro J0a W1 J0l hO h_
 replace off0 := off0.o hO
 have k_t2 := h_
 clear hO h_ J0l
 refine Lw ?_ (v := .int .i64 0)
 refine J3 ?_
 go_upto_region 1 with fail
 refine wp_region_lit ?_
 refine Lv ?_
 refine Lr ?_ (Y0j i hi W1)
 intro W2 hO
 replace k_t2 := k_t2.o hO
 replace off0 := off0.o hO
 clear hO
 refine Lw ?_ (v := .bool false)
 refine J3 ?_
 go_upto_region 3 with fail
 refine wp_region_lit ?_
 refine Lv ?_
 refine Lw ?_ (v := .int .i64 (((i / 8 : Nat) : Int))) (hv := by go_simp; (try simp only [IntKind.wrap_u64, IntKind.wrap_i64]); (try omega))
 refine Lw ?_ (v := .pointer (some ⟨J0a, 0 + (i / 8), none⟩)) (hv := J5 (m := 32) (by decide) (by omega) Tryz.underlying31 (by kernel_rfl) rfl rfl rfl)
 refine Lg ?_ k_t2 (v := .int .u8 (f (i / 8))) (hj := by rw [Nat.zero_add]; exact J6 _ _ _ _ (by omega))
 refine Lv ?_
 refine Lw ?_ (v := .int .i64 (((i % 8 : Nat) : Int))) (hv := by go_simp; (try rw [Int.tmod_eq_emod_of_nonneg (by omega)]); (try omega))
 refine Lw ?_ (v := .int .i64 (((7 - i % 8 : Nat) : Int))) (hv := by go_simp; (try simp only [IntKind.wrap_u64, IntKind.wrap_i64]); (try omega))
 refine Lw ?_ (v := .int .u8 (f (i / 8) / 2 ^ (7 - i % 8))) (hv := by exact Q6f (n := 7 - i % 8) (by omega) rfl rfl rfl)
 refine Lw ?_ (v := .int .i64 (f (i / 8) / 2 ^ (7 - i % 8))) (hv := by exact Z41 hD rfl rfl)
 refine Lw ?_ (v := .int .i64 (J2n f i)) (hv := by unfold J2n; rw [← hA]; exact J2h rfl rfl rfl)
 refine Lv ?_
 refine J3 ?_
 go_wp2
 exact bodyPost_ret (v := .int .i64 (J2n f i)) (by simp only [results, Tryz.results100]; go_simp) rfl ⟨rfl, off0.ext⟩
theorem Q29 (f : Nat → Int) (hf : ∀ j, 0 ≤ f j ∧ f j < 256) (i : Nat) (hi : i < 256) (w : World) :
  Calls Tryz.prog 57 #[.agg (J0 .u8 32 f), .int .i64 (i : Int)] w fun e w' => Ret (.int .i64 (J2n f i)) w w' e := by
 have hi1 : (i : Int) < 256 := by omega
 have hi0 : (0 : Int) ≤ (i : Int) := by omega
 have hD := Z0c (n := 7 - i % 8) (hf (i / 8))
 have hA := Z42 hD
 clear hf
 have off0 : Off [] w w := Off.refl _ _
 go_enter Tryz.func57, Tryz.ntmps57
 go_upto_region 0 with fail
 refine wp_region_lit ?_
 refine Ln ?_ (z := J0 .u8 32 f) (t := 23)
 intro J0a W1 J0l hO h_
 replace off0 := off0.o hO
 have k_t2 := h_
 clear hO h_ J0l
 refine Lw ?_ (v := .int .i64 0)
 refine J3 ?_
 go_upto_region 1 with fail
 refine wp_region_lit ?_
 refine Lv ?_
 refine Lw ?_ (v := .bool false) (hv := by first | (go_simp; done) | (go_simp; omega))
 refine Lw ?_ (v := .bool false)
 refine Lv ?_
 refine Lw ?_ (v := .bool false) (hv := by first | (go_simp; done) | (go_simp; omega))
 refine Lw ?_ (v := .bool false)
 refine J3 ?_
 go_upto_region 3 with fail
 refine wp_region_lit ?_
 refine Lv ?_
 refine Lw ?_ (v := .int .i64 (((i / 8 : Nat) : Int))) (hv := by go_simp; (try simp only [IntKind.wrap_u64, IntKind.wrap_i64]); (try omega))
 refine Lw ?_ (v := .pointer (some ⟨J0a, 0 + (i / 8), none⟩)) (hv := J5 (m := 32) (by decide) (by omega) Tryz.underlying23 (by kernel_rfl) rfl rfl rfl)
 refine Lg ?_ k_t2 (v := .int .u8 (f (i / 8))) (hj := by rw [Nat.zero_add]; exact J6 _ _ _ _ (by omega))
 refine Lv ?_
 refine Lw ?_ (v := .int .i64 (((i % 8 : Nat) : Int))) (hv := by go_simp; (try rw [Int.tmod_eq_emod_of_nonneg (by omega)]); (try omega))
 refine Lw ?_ (v := .int .i64 (((7 - i % 8 : Nat) : Int))) (hv := by go_simp; (try simp only [IntKind.wrap_u64, IntKind.wrap_i64]); (try omega))
 refine Lw ?_ (v := .int .u8 (f (i / 8) / 2 ^ (7 - i % 8))) (hv := by exact Q6f (n := 7 - i % 8) (by omega) rfl rfl rfl)
 refine Lw ?_ (v := .int .i64 (f (i / 8) / 2 ^ (7 - i % 8))) (hv := by exact Z41 hD rfl rfl)
 refine Lw ?_ (v := .int .i64 (J2n f i)) (hv := by unfold J2n; first | (go_simp; done) | (go_simp; (try rw [Int.tmod_eq_emod_of_nonneg hD.1])))
 refine Lv ?_
 refine J3 ?_
 go_wp2
 exact bodyPost_ret (v := .int .i64 (J2n f i)) (by simp only [results, Tryz.results57]; go_simp) rfl ⟨rfl, off0.ext⟩
end

section
set_option maxHeartbeats 1500000
set_option maxRecDepth 100000
open Go.RowKit
attribute [local irreducible] wpList
def J9i (f g : Nat → Int) : Nat → Nat → Nat
  | 0, i => i
  | n + 1, i => if J2n f i = J2n g i then J9i f g n (i + 1) else i
def J06 (f g : Nat → Int) : Nat := J9i f g 256 0
theorem J63 {f g : Nat → Int} {i : Nat} (h : i < 256) : J9i f g (256 - i) i = if J2n f i = J2n g i then J9i f g (256 - (i + 1)) (i + 1) else i := by
  rw [show 256 - i = (256 - (i + 1)) + 1 by omega]; rfl

theorem Z65 (f g : Nat → Int) (hf : ∀ j, 0 ≤ f j ∧ f j < 256) (hg : ∀ j, 0 ≤ g j ∧ g j < 256) (w : World) :
  Calls Tryz.prog 145 #[.agg (J0 .u8 32 f), .agg (J0 .u8 32 g)] w fun e w' => Ret (.int .i64 (J06 f g : Int)) w w' e := by
 have off0 : Off [] w w := Off.refl _ _
 go_enter Tryz.func145, Tryz.ntmps145
 go_upto_region 0 with fail
 refine wp_region_lit ?_
 refine Ln ?_ (z := J0 .u8 32 f) (t := 23)
 intro J0a W1 J0l hO h_
 replace off0 := off0.o hO
 have k_t2 := h_
 clear hO h_ J0l
 refine Ln ?_ (z := J0 .u8 32 g) (t := 23)
 intro J1z W2 J20 hO h_
 replace k_t2 := k_t2.o hO
 replace off0 := off0.o hO
 have k_t3 := h_
 clear hO h_ J20
 refine Lw ?_ (v := .int .i64 0)
 refine J3 ?_
 go_wp2_with fail
 go_loopw [5] (fun ii wr => ∃ (i : Nat), (i ≤ 256) ∧ (ii = .int .i64 (i : Int)) ∧ (J06 f g = J9i f g (256 - i) i) ∧ Off [] w wr ∧ Blk wr J0a (J0 .u8 32 f) 23 ∧ Blk wr J1z (J0 .u8 32 g) 23)
  (fun ii _ => 256 - (intOf ii).toNat)
 case atStart => exact ⟨0, Nat.zero_le _, rfl, rfl, off0, k_t2, k_t3⟩
 case round =>
  obtain ⟨i, hi, rfl, hinv, off0, k_t2, k_t3⟩ := hrel
  obtain ⟨W3, eW_⟩ := J67 off0
  subst eW_
  by_cases h256 : i < 256
  ·
   have _f := h256
   go_upto_region 2 with fail
   refine wp_region_lit ?_
   refine Lv ?_
   refine Lw ?_ (v := .bool true)
   refine J3 ?_
   by_cases hz : J2n f i = J2n g i
   ·
    have _f := hz
    have H_hz := Lib.hid hz
    clear hz
    go_upto_region 4 with fail
    refine Rx 7 ?_
    refine XlA ?_ k_t2
    refine Xv ?_
    refine Xf ?_ (fun W hW => Q29 f hf i h256 W)
    refine XlA ?_ k_t3
    refine Xv ?_
    refine Xf ?_ (fun W hW => Q29 g hg i h256 W)
    refine Xw ?_ (v := .bool false) (hv := fun _ _ => by have hz := H_hz.out; first | (go_simp; done) | (go_simp; simp [hz]))
    refine Z4 fun W4 hE => ?_
    have hO := Z7 hE
    replace k_t2 := k_t2.o hO
    replace k_t3 := k_t3.o hO
    replace off0 := off0.o hO
    clear hO hE
    refine LN ?_
    go_wp2
    go_roundw
    case rel => exact ⟨i + 1, by omega, by go_num, by rw [hinv, J63 h256, if_pos H_hz.out], off0, k_t2, k_t3⟩
    case measure => simp [intOf]; omega
   have _f := hz
   have hres : ((J06 f g : Nat) : Int) = (i : Int) := by rw [hinv, J63 h256, if_neg hz]
   have H_hz := Lib.hid hz
   clear hz hinv
   go_upto_region 4 with fail
   refine Rx 7 ?_
   refine XlA ?_ k_t2
   refine Xv ?_
   refine Xf ?_ (fun W hW => Q29 f hf i h256 W)
   refine XlA ?_ k_t3
   refine Xv ?_
   refine Xf ?_ (fun W hW => Q29 g hg i h256 W)
   refine Xw ?_ (v := .bool true) (hv := fun _ _ => by have hz := H_hz.out; first | (go_simp; done) | (go_simp; simp [hz]))
   refine Z4 fun W4 hE => ?_
   have hO := Z7 hE
   replace off0 := off0.o hO
   clear hO hE
   refine LN ?_
   go_wp2
   exact bodyPost_ret (v := .int .i64 (i : Int)) (by simp only [results, Tryz.results145]; go_simp) rfl ⟨congrArg (fun z : Int => Ending.returned (.int .i64 z)) hres.symm, off0.ext⟩
  have _f := h256
  obtain rfl : i = 256 := by omega
  have hres : ((J06 f g : Nat) : Int) = 256 := by rw [hinv]; rfl
  clear hinv
  go_upto_region 2 with fail
  refine wp_region_lit ?_
  refine Lv ?_
  refine Lw ?_ (v := .bool false)
  refine J3 ?_
  go_wp2
  exact bodyPost_ret (v := .int .i64 256) (by simp only [results, Tryz.results145]; go_simp) rfl ⟨congrArg (fun z : Int => Ending.returned (.int .i64 z)) hres.symm, off0.ext⟩
def Z0d (f g : Nat → Int) : Bool := decide (J06 f g < 256) && decide (J2n f (J06 f g) = 0)
theorem Z3n (f g : Nat → Int) (hf : ∀ j, 0 ≤ f j ∧ f j < 256) (hg : ∀ j, 0 ≤ g j ∧ g j < 256) (w : World) :
  Calls Tryz.prog 104 #[.agg (J0 .u8 32 f), .agg (J0 .u8 32 g)] w fun e w' => Ret (.bool (Z0d f g)) w w' e := by
 have hcc := Z65 f g hf hg
 obtain ⟨c, hc⟩ : ∃ c, J06 f g = c := ⟨_, rfl⟩
 rw [hc] at hcc
 have HK := Lib.hid hc
 clear hc
 have off0 : Off [] w w := Off.refl _ _
 go_enter Tryz.func104, Tryz.ntmps104
 go_upto_region 0 with fail
 refine wp_region_lit ?_
 refine Ln ?_ (z := J0 .u8 32 f) (t := 23)
 intro J0a W1 J0l hO h_
 replace off0 := off0.o hO
 have k_t2 := h_
 clear hO h_ J0l
 refine Ln ?_ (z := J0 .u8 32 g) (t := 23)
 intro J1z W2 J20 hO h_
 replace k_t2 := k_t2.o hO
 replace off0 := off0.o hO
 have k_t3 := h_
 clear hO h_ J20
 refine Lw ?_ (v := .bool false)
 refine J3 ?_
 go_upto_region 1 with fail
 refine wp_region_lit ?_
 refine L0A ?_ k_t2
 refine L0A ?_ k_t3
 refine Lr ?_ (hcc W2)
 intro W3 hO
 replace k_t2 := k_t2.o hO
 replace off0 := off0.o hO
 clear hO
 refine Lv ?_
 refine J3 ?_
 by_cases ha : c < 256
 ·
  have _f := ha
  go_upto_region 2 with fail
  refine wp_region_lit ?_
  refine Lv ?_
  refine Lw ?_ (v := .bool true)
  refine Lw ?_ (v := .bool true)
  refine L0A ?_ k_t2
  refine Lv ?_
  refine Lr ?_ (Q29 f hf c ha W3)
  intro W4 hO
  replace off0 := off0.o hO
  clear hO
  refine Lw ?_ (v := .bool (decide (J2n f c = 0))) (hv := by go_simp; first | done | rfl | (cases h_ : (J2n f c == 0) <;> simp_all))
  refine Lw ?_ (v := .bool (decide (J2n f c = 0)))
  refine Lw ?_ (v := .bool (decide (J2n f c = 0)))
  refine J3 ?_
  go_wp2
  exact bodyPost_ret (v := .bool (decide (J2n f c = 0))) (by simp only [results, Tryz.results104]; go_simp) rfl ⟨congrArg (fun z => Ending.returned (.bool z)) (by unfold Z0d; rw [HK.out]; simp [ha]), off0.ext⟩
 have _f := ha
 go_upto_region 2 with fail
 refine wp_region_lit ?_
 refine Lv ?_
 refine Lw ?_ (v := .bool false)
 refine Lw ?_ (v := .bool false)
 refine Ls ?_
 refine Ls ?_
 refine Ls ?_
 refine Ls ?_
 refine Lw ?_ (v := .bool false)
 refine Lw ?_ (v := .bool false)
 refine J3 ?_
 go_wp2
 exact bodyPost_ret (v := .bool false) (by simp only [results, Tryz.results104]; go_simp) rfl ⟨congrArg (fun z => Ending.returned (.bool z)) (by unfold Z0d; rw [HK.out]; simp [ha]), off0.ext⟩
end

section
set_option maxHeartbeats 1500000
set_option maxRecDepth 100000
open Go.RowKit
attribute [local irreducible] wpList J0k wpX
theorem Z44 (f : Nat → Int) (i : Nat) : 0 ≤ J2n f i ∧ J2n f i < 2 := by unfold J2n; omega
def kb (k i : Nat) : Nat := if i < 256 then (J2n (Q5 k) i).toNat else 0
theorem Q01 {k i : Nat} (h : i < 256) : ((kb k i : Nat) : Int) = J2n (Q5 k) i := by unfold kb; rw [if_pos h]; have := (Z44 (Q5 k) i).1; omega
theorem V47 {k i : Nat} (h : 256 ≤ i) : kb k i = 0 := by unfold kb; rw [if_neg (by omega)]
theorem Q18 (k i : Nat) : kb k i < 2 := by unfold kb; split; have := Z44 (Q5 k) i; omega; decide
theorem Z45 (k : Nat) : ∀ j, 0 ≤ Q5 k j ∧ Q5 k j < 256 := fun j => J70 k j
theorem Q9u {w : World} {o : Oper} {a : Act} {x y : Operand} {l : List UInt8} {i : Nat} {c : UInt8} (h : l[i]? = some c) (ho : o.op = .index 9 x y) (hx : a.eval x = str l) {k : IntKind} (hy : a.eval y = .int k (i : Int)) : (execOp a.eval o).run Tryz.prog w = .ok (.value (.int .u8 (c.toNat : Int))) w := by
 have hs := J6s l
 have hi := (List.getElem?_eq_some_iff.1 h).1
 have hg := (List.getElem?_eq_some_iff.1 h).2
 have hg2 : (⟨l.toArray⟩ : ByteArray)[i]'(by rw [hs]; exact hi) = c := by
  show l.toArray[i]'(by simpa using hi) = c
  simpa using hg
 simp only [execOp, ho, hx, hy, str, Sem.run_bind]
 simp [Instr.index, asIntOf, run_underlying Tryz.underlying9, hs, hi, hg2, Sem.run_bind]
def tb8 : List UInt8 := [0, 1, 2, 2, 3, 3, 3, 3, 4, 4, 4, 4, 4, 4, 4, 4, 5, 5, 5, 5, 5, 5, 5, 5, 5, 5, 5, 5, 5, 5, 5, 5, 6, 6, 6, 6, 6, 6, 6, 6, 6, 6, 6, 6, 6, 6, 6, 6, 6, 6, 6, 6, 6, 6, 6, 6, 6, 6, 6, 6, 6, 6, 6, 6, 7, 7, 7, 7, 7, 7, 7, 7, 7, 7, 7, 7, 7, 7, 7, 7, 7, 7, 7, 7, 7, 7, 7, 7, 7, 7, 7, 7, 7, 7, 7, 7, 7, 7, 7, 7, 7, 7, 7, 7, 7, 7, 7, 7, 7, 7, 7, 7, 7, 7, 7, 7, 7, 7, 7, 7, 7, 7, 7, 7, 7, 7, 7, 7, 8, 8, 8, 8, 8, 8, 8, 8, 8, 8, 8, 8, 8, 8, 8, 8, 8, 8, 8, 8, 8, 8, 8, 8, 8, 8, 8, 8, 8, 8, 8, 8, 8, 8, 8, 8, 8, 8, 8, 8, 8, 8, 8, 8, 8, 8, 8, 8, 8, 8, 8, 8, 8, 8, 8, 8, 8, 8, 8, 8, 8, 8, 8, 8, 8, 8, 8, 8, 8, 8, 8, 8, 8, 8, 8, 8, 8, 8, 8, 8, 8, 8, 8, 8, 8, 8, 8, 8, 8, 8, 8, 8, 8, 8, 8, 8, 8, 8, 8, 8, 8, 8, 8, 8, 8, 8, 8, 8, 8, 8, 8, 8, 8, 8, 8, 8, 8, 8, 8, 8, 8, 8, 8, 8, 8, 8, 8, 8]
def l8 (z : Nat) : Nat := (tb8.getD z 0).toNat
theorem Y4c {z : Nat} (h : z < 256) : tb8[z]? = some (tb8.getD z 0) := by rw [List.getD_eq_getElem?_getD, List.getElem?_eq_getElem (by rw [show tb8.length = 256 by decide +kernel]; exact h)]; rfl
theorem Z1w : ∀ z : Fin 256, l8 z.val ≤ 8 ∧ (z.val ≠ 0 → 0 < l8 z.val ∧ z.val / 2 ^ (l8 z.val - 1) % 2 = 1) ∧ ∀ i : Fin 8, i.val < 8 - l8 z.val → z.val / 2 ^ (7 - i.val) % 2 = 0 := by decide +kernel
theorem Y4d (x y n : Nat) : (x ^^^ y) / 2 ^ n % 2 = 0 ↔ x / 2 ^ n % 2 = y / 2 ^ n % 2 := by
 have h := Nat.testBit_xor x y n
 have e : ∀ z : Nat, z.testBit n = decide (z / 2 ^ n % 2 = 1) := fun z => by rw [Nat.testBit_eq_decide_div_mod_eq]
 rw [e, e, e] at h
 have h1 : (x ^^^ y) / 2 ^ n % 2 < 2 := Nat.mod_lt _ (by decide)
 have h2 : x / 2 ^ n % 2 < 2 := Nat.mod_lt _ (by decide)
 have h3 : y / 2 ^ n % 2 < 2 := Nat.mod_lt _ (by decide)
 generalize (x ^^^ y) / 2 ^ n % 2 = a at *
 generalize x / 2 ^ n % 2 = b at *
 generalize y / 2 ^ n % 2 = c at *
 match a, b, c, h1, h2, h3 with
 | 0, 0, 0, _, _, _ => simp
 | 0, 0, 1, _, _, _ => simp at h
 | 0, 1, 0, _, _, _ => simp at h
 | 0, 1, 1, _, _, _ => simp
 | 1, 0, 0, _, _, _ => simp at h
 | 1, 0, 1, _, _, _ => simp
 | 1, 1, 0, _, _, _ => simp
 | 1, 1, 1, _, _, _ => simp at h
def kby (k j : Nat) : Nat := k / 2 ^ (8 * j) % 256
theorem Q8e (k j : Nat) : Q5 k j = ((kby k j : Nat) : Int) := rfl
theorem J9m (k j : Nat) : kby k j < 256 := Nat.mod_lt _ (by decide)
theorem Q1l (k i : Nat) : J2n (Q5 k) i = ((kby k (i / 8) / 2 ^ (7 - i % 8) % 2 : Nat) : Int) := by
 unfold J2n; rw [Q8e]; rw [Int.natCast_emod, Int.natCast_ediv, Int.natCast_pow]; rfl
theorem Z46 {a b i : Nat} : J2n (Q5 a) i = J2n (Q5 b) i ↔ (kby a (i / 8) ^^^ kby b (i / 8)) / 2 ^ (7 - i % 8) % 2 = 0 := by
 rw [Q1l, Q1l, Y4d]; omega
theorem Z0g {f g : Nat → Int} {m : Nat} (hm : m ≤ 256) (hlt : ∀ i, i < m → J2n f i = J2n g i) (he : m < 256 → J2n f m ≠ J2n g m) : ∀ n i, n + i = m → J9i f g (256 - i) i = m
 | 0, i, h => by
  obtain rfl : i = m := by omega
  by_cases h2 : i < 256
  ·
   rw [J63 h2, if_neg (he h2)]
  ·
   obtain rfl : i = 256 := by omega
   rfl
 | n + 1, i, h => by
  rw [J63 (by omega), if_pos (hlt i (by omega))]
  exact Z0g hm hlt he n (i + 1) (by omega)
theorem Q8f {f g : Nat → Int} {m : Nat} (hm : m ≤ 256) (hlt : ∀ i, i < m → J2n f i = J2n g i) (he : m < 256 → J2n f m ≠ J2n g m) : J06 f g = m := Z0g hm hlt he m 0 (by omega)
theorem Q6g {a b j : Nat} (hj : j < 32) (hlt : ∀ i, i < j → kby a i = kby b i) (hne : kby a j ≠ kby b j) : J06 (Q5 a) (Q5 b) = 8 * j + (8 - l8 (kby a j ^^^ kby b j)) := by
 have hz : kby a j ^^^ kby b j < 256 := Nat.xor_lt_two_pow (n := 8) (J9m a j) (J9m b j)
 have hz0 : kby a j ^^^ kby b j ≠ 0 := fun h => hne (by have e := congrArg (· ^^^ kby b j) h; simpa [Nat.xor_assoc] using e)
 obtain ⟨h1, h2, h3⟩ := Z1w ⟨_, hz⟩
 obtain ⟨h2, h4⟩ := h2 hz0
 simp only at h1 h2 h3 h4
 generalize hl : l8 (kby a j ^^^ kby b j) = L at *
 refine Q8f (by omega) (fun i hi => ?_) fun _ => ?_
 ·
  rw [Z46]
  by_cases hq : i / 8 < j
  ·
   rw [hlt _ hq, Nat.xor_self, Nat.zero_div]
  have e : i / 8 = j := by omega
  have h5 := h3 ⟨i % 8, Nat.mod_lt _ (by decide)⟩ (by simp only; omega)
  rw [e]; exact h5
 rw [Ne, Z46]
 have e1 : (8 * j + (8 - L)) / 8 = j := by omega
 have e2 : 7 - (8 * j + (8 - L)) % 8 = L - 1 := by omega
 rw [e1, e2, h4]; decide
theorem Y0p {a b : Nat} (h : ∀ i, i < 32 → kby a i = kby b i) : J06 (Q5 a) (Q5 b) = 256 :=
 Q8f (Nat.le_refl _) (fun i hi => by rw [Q1l, Q1l, h _ (by omega)]) (fun h => absurd h (by decide))
theorem Q3g (f g : Nat → Int) : J06 f g ≤ 256 := by
 have : ∀ n i, n + i = 256 → J9i f g (256 - i) i ≤ 256 := by
  intro n
  induction n with
  | zero =>
   intro i h
   obtain rfl : i = 256 := by omega
   exact Nat.le_refl 256
  | succ n ih => intro i h; rw [J63 (by omega)]; split; exact ih (i + 1) (by omega); omega
 exact this 256 0 rfl

theorem Z68 (i : Nat) (hi : 256 ≤ i) (hi2 : i < 4611686018427387904) (w : World) :
  Calls Tryz.prog 144 #[.int .i64 (i : Int)] w fun e w' => Ret (.bool false) w w' e := by
 have hS := SH.nil [] w
 go_enter Tryz.func144, Tryz.ntmps144
 go_upto_region 1 with fail
 refine RL hS ?_
 clear hS
 refine MV ?_
 refine MW ?_ (v := .bool true) (hv := by intro W; first | (go_simp; done) | (go_simp; omega))
 refine MW ?_ (v := .bool true)
 refine MV ?_
 refine MW ?_ (v := .bool false) (hv := by intro W; first | (go_simp; done) | (go_simp; omega))
 refine MW ?_ (v := .bool false)
 refine MW ?_ (v := .bool false)
 refine MZ fun W hS => ?_
 go_wp2
 exact bodyPost_ret (v := .bool false) (by simp only [results, Tryz.results144]; go_simp) rfl ⟨rfl, hS.ext⟩
theorem Y4e (k i : Nat) (hi : 256 ≤ i) (hi2 : i < 4611686018427387904) (w : World) :
  Calls Tryz.prog 100 #[.agg (J0 .u8 32 (Q5 k)), .int .i64 (i : Int)] w fun e w' => Ret (.int .i64 0) w w' e := by
 have hS := SH.nil [] w
 go_enter Tryz.func100, Tryz.ntmps100
 go_upto_region 0 with fail
 refine RL hS ?_
 clear hS
 refine MN (z := J0 .u8 32 (Q5 k)) (t := 31) ?_
 intro J0a
 refine MW ?_ (v := .int .i64 0)
 refine MZ fun W hS => ?_
 go_upto_region 1 with fail
 refine RL hS ?_
 clear hS
 refine MV ?_
 refine MC (v := .bool false) (fun W hS => Z68 i hi hi2 W) ?_
 refine MW ?_ (v := .bool true)
 refine MZ fun W hS => ?_
 go_wp2
 exact bodyPost_ret (v := .int .i64 0) (by simp only [results, Tryz.results100]; go_simp) rfl ⟨rfl, hS.ext⟩
theorem J6e (k i : Nat) (hi : i < 4611686018427387904) (w : World) : Calls Tryz.prog 100 #[.agg (J0 .u8 32 (Q5 k)), .int .i64 (i : Int)] w fun e w' => Ret (.int .i64 (kb k i : Int)) w w' e := by
 by_cases h : i < 256
 ·
  rw [Q01 h]; exact V07 _ (Z45 k) i h w
 rw [V47 (by omega)]; exact Y4e k i (by omega) hi w
theorem V0b (z : Nat) (hz : z < 256) (w : World) :
  Calls Tryz.prog 170 #[.int .u8 (z : Int)] w fun e w' => Ret (.int .i64 (l8 z : Int)) w w' e := by
 have hS := SH.nil [] w
 go_enter Tryz.func170, Tryz.ntmps170
 go_upto_region 1 with fail
 refine RL hS ?_
 clear hS
 refine MV ?_
 refine MW ?_ (v := .int .u8 ((tb8.getD z 0).toNat : Int)) (hv := by intro W; exact Q9u (l := tb8) (i := z) (Y4c hz) rfl rfl rfl)
 refine MW ?_ (v := .int .i64 (l8 z : Int)) (hv := by intro W; exact Q1k rfl rfl)
 refine MV ?_
 refine MZ fun W hS => ?_
 go_wp2
 exact bodyPost_ret (v := .int .i64 (l8 z : Int)) (by simp only [results, Tryz.results170]; go_simp) rfl ⟨rfl, hS.ext⟩
theorem V48 (z : Nat) (hz : z < 256) (w : World) :
  Calls Tryz.prog 143 #[.int .u8 (z : Int)] w fun e w' => Ret (.int .i64 ((8 - l8 z : Nat) : Int)) w w' e := by
 have hl := (Z1w ⟨z, hz⟩).1
 simp only at hl
 have hS := SH.nil [] w
 go_enter Tryz.func143, Tryz.ntmps143
 go_upto_region 1 with fail
 refine RL hS ?_
 clear hS
 refine MV ?_
 refine MC (v := .int .i64 (l8 z : Int)) (fun W hS => V0b z hz W) ?_
 refine MW ?_ (v := .int .i64 ((8 - l8 z : Nat) : Int)) (hv := by intro W; go_simp; (try simp only [IntKind.wrap_i64]); omega)
 refine MV ?_
 refine MZ fun W hS => ?_
 go_wp2
 exact bodyPost_ret (v := .int .i64 ((8 - l8 z : Nat) : Int)) (by simp only [results, Tryz.results143]; go_simp) rfl ⟨rfl, hS.ext⟩
theorem V0c {w : World} : (isAgg 5).run Tryz.prog w = .ok false w := by
 simp [isAgg, run_underlying Tryz.underlying5, Sem.run_bind]
theorem V0d {a b : Nat} (ha : a < 256) (hb : b < 256) : bits .xor .u8 (a : Int) (b : Int) = ((a ^^^ b : Nat) : Int) := J3d .u8 8 (by decide) (fun n h0 h1 => by rw [IntKind.wrap_u8]; omega) a b ha hb
theorem Y0q {w : World} {o : Oper} {a : Act} {x y : Operand} {t t' : TypeId} {p q : Int} (ho : o.op = .binOp .xor t x y t') (hx : a.eval x = .int .u8 p) (hy : a.eval y = .int .u8 q) : (execOp a.eval o).run Tryz.prog w = .ok (.value (.int .u8 (bits .xor .u8 p q))) w := by
 simp only [execOp, ho, hx, hy]; rfl
theorem Q63 (a b : Nat) (w : World) :
  Calls Tryz.prog 97 #[.agg (J0 .u8 32 (Q5 a)), .agg (J0 .u8 32 (Q5 b))] w fun e w' => Ret (.int .i64 (J06 (Q5 a) (Q5 b) : Int)) w w' e := by
 have hS := SH.nil [] w
 go_enter Tryz.func97, Tryz.ntmps97
 go_upto_region 0 with fail
 refine RL hS ?_
 clear hS
 refine MN (z := J0 .u8 32 (Q5 a)) (t := 31) ?_
 intro J0a
 refine MN (z := J0 .u8 32 (Q5 b)) (t := 31) ?_
 intro J1z
 refine MW ?_ (v := .int .i64 0)
 refine MZ fun W hS => ?_
 go_upto_region 1 with fail
 refine RL hS ?_
 clear hS
 refine ML 1 ?_
 refine MW ?_ (v := .int .i64 0)
 refine MZ fun W hS => ?_
 go_wp2_with fail
 go_loopw [8] (fun ii wr => ∃ (j : Nat), (j ≤ 32) ∧ (∀ i, i < j → kby a i = kby b i) ∧ (ii = .int .i64 (j : Int)) ∧ SH [] w wr [.b J1z (J0 .u8 32 (Q5 b)) 31, .b J0a (J0 .u8 32 (Q5 a)) 31])
  (fun ii _ => 32 - (intOf ii).toNat)
 case atStart => exact ⟨0, Nat.zero_le _, fun i h => absurd h (Nat.not_lt_zero _), rfl, hS⟩
 clear hS
 case round =>
  obtain ⟨j, hj, hlt, rfl, hS⟩ := hrel
  by_cases h32 : j < 32
  ·
   have _f := h32
   go_upto_region 2 with fail
   refine RL hS ?_
   clear hS
   refine MW ?_ (v := .bool true)
   refine MZ fun W hS => ?_
   go_upto_region 3 with fail
   refine RL hS ?_
   clear hS
   refine MV ?_
   refine MW ?_ (v := .int .u8 ((kby a j : Nat) : Int)) (hv := fun _ => Q8c (m := 32) (f := Q5 a) h32 Tryz.underlying31 (by kernel_rfl) V0c rfl rfl rfl)
   refine MV ?_
   refine MV ?_
   refine MZ fun W hS => ?_
   by_cases heq : kby a j = kby b j
   ·
    have _f := heq
    go_upto_region 4 with fail
    refine RL hS ?_
    clear hS
    refine MV ?_
    refine MV ?_
    refine MW ?_ (v := .pointer (some ⟨J1z, 0 + j, none⟩)) (hv := fun _ => J5 (m := 32) (by decide) (by omega) Tryz.underlying31 (by kernel_rfl) rfl rfl rfl)
    refine MG 0 ?_ (j := 0 + j) (v := .int .u8 ((Q5 b) j)) (hj := by rw [Nat.zero_add]; exact J6 _ _ _ _ (by omega))
    refine MW ?_ (v := .bool false) (hv := by intro W; go_simp; (try simp only [Q8e]); (try simp [heq]))
    refine MZ fun W hS => ?_
    go_wp2
    go_roundw
    case rel => exact ⟨j + 1, by omega, fun i h => by rcases Nat.lt_succ_iff_lt_or_eq.1 h with h | rfl; exact hlt i h; exact heq, by go_num, hS⟩
    case measure => simp [intOf]; omega
   have _f := heq
   have hne := heq
   go_upto_region 4 with fail
   refine RL hS ?_
   clear hS
   refine MV ?_
   refine MV ?_
   refine MW ?_ (v := .pointer (some ⟨J1z, 0 + j, none⟩)) (hv := fun _ => J5 (m := 32) (by decide) (by omega) Tryz.underlying31 (by kernel_rfl) rfl rfl rfl)
   refine MG 0 ?_ (j := 0 + j) (v := .int .u8 ((Q5 b) j)) (hj := by rw [Nat.zero_add]; exact J6 _ _ _ _ (by omega))
   refine MW ?_ (v := .bool true) (hv := by intro W; go_simp; (try simp only [Q8e]); omega)
   refine MZ fun W hS => ?_
   go_upto_region 5 with fail
   refine RL hS ?_
   clear hS
   refine MV ?_
   refine MW ?_ (v := .int .i64 ((8 * j : Nat) : Int)) (hv := by intro W; go_simp; (try simp only [IntKind.wrap_i64]); omega)
   refine MV ?_
   refine MV ?_
   refine MW ?_ (v := .pointer (some ⟨J1z, 0 + j, none⟩)) (hv := fun _ => J5 (m := 32) (by decide) (by omega) Tryz.underlying31 (by kernel_rfl) rfl rfl rfl)
   refine MG 0 ?_ (j := 0 + j) (v := .int .u8 ((Q5 b) j)) (hj := by rw [Nat.zero_add]; exact J6 _ _ _ _ (by omega))
   refine MW ?_ (v := .int .u8 ((kby a j ^^^ kby b j : Nat) : Int)) (hv := by intro W; rw [← V0d (J9m a j) (J9m b j)]; exact Y0q rfl rfl rfl)
   refine MC (v := .int .i64 ((8 - l8 (kby a j ^^^ kby b j) : Nat) : Int)) (fun W hS => V48 (kby a j ^^^ kby b j) (Nat.xor_lt_two_pow (n := 8) (J9m a j) (J9m b j)) W) ?_
   refine MW ?_ (v := .int .i64 ((8 * j + (8 - l8 (kby a j ^^^ kby b j)) : Nat) : Int)) (hv := by intro W; go_simp; (try simp only [IntKind.wrap_i64]); omega)
   refine MV ?_
   refine MZ fun W hS => ?_
   go_wp2
   exact bodyPost_ret (v := .int .i64 ((8 * j + (8 - l8 (kby a j ^^^ kby b j)) : Nat) : Int)) (by simp only [results, Tryz.results97]; go_simp) rfl ⟨by rw [Q6g h32 hlt hne], hS.ext⟩
  have _f := h32
  obtain rfl : j = 32 := by omega
  go_upto_region 2 with fail
  refine RL hS ?_
  clear hS
  refine MW ?_ (v := .bool false)
  refine MZ fun W hS => ?_
  go_wp2
  exact bodyPost_ret (v := .int .i64 256) (by simp only [results, Tryz.results97]; go_simp) rfl ⟨by rw [Y0p hlt]; rfl, hS.ext⟩
end

section
set_option maxHeartbeats 1500000
set_option maxRecDepth 100000
open Go.RowKit
attribute [local irreducible] wpList J0k wpX
def tsz : TR → Nat
 | .nil => 0
 | .leaf _ _ => 1
 | .node _ l r => 1 + tsz l + tsz r
def hd (w : World) : Nat → Value → Nat
 | n + 1, .pointer (some a) => match w.cell? ⟨a.block, 66, none⟩ with
  | some (.bool true) => 1 + hd w n ((w.cell? ⟨a.block, 64, none⟩).getD undef) + hd w n ((w.cell? ⟨a.block, 65, none⟩).getD undef)
  | some (.bool false) => 1
  | _ => 0
 | _, _ => 0
theorem V0e (w : World) (n : Nat) : hd w n nlp = 0 := by cases n <;> rfl
theorem Q0c {w : World} : ∀ {T : TR} {u : Value} {n : Nat}, TA w T u → tsz T ≤ n → hd w n u = tsz T
 | .nil, _, n, h, _ => by rw [show _ = nlp from h]; exact V0e w n
 | .leaf k v, _, 0, _, hn => absurd hn (by show ¬ 1 ≤ 0; omega)
 | .leaf k v, _, n + 1, ⟨b, h1, h2, _⟩, _ => by
  subst h1
  have e : w.cell? ⟨b, 66, none⟩ = some (.bool false) := by rw [Q6 h2]; exact J7v
  show (match w.cell? ⟨b, 66, none⟩ with
   | some (.bool true) => _
   | some (.bool false) => 1
   | _ => 0) = 1
  rw [e]
 | .node d l r, _, 0, _, hn => absurd hn (by show ¬ 1 + tsz l + tsz r ≤ 0; omega)
 | .node d l r, _, n + 1, ⟨b, s0, s1, h1, h2, h3, h4⟩, hn => by
  subst h1
  have e : w.cell? ⟨b, 66, none⟩ = some (.bool true) := by rw [Q6 h2]; exact J7v
  have e0 : w.cell? ⟨b, 64, none⟩ = some s0 := by rw [Q6 h2]; exact nd_s0
  have e1 : w.cell? ⟨b, 65, none⟩ = some s1 := by rw [Q6 h2]; exact nd_s1
  have hn' : 1 + tsz l + tsz r ≤ n + 1 := hn
  show (match w.cell? ⟨b, 66, none⟩ with
   | some (.bool true) => 1 + hd w n ((w.cell? ⟨b, 64, none⟩).getD undef) + hd w n ((w.cell? ⟨b, 65, none⟩).getD undef)
   | some (.bool false) => 1
   | _ => 0) = 1 + tsz l + tsz r
  rw [e, e0, e1]
  show 1 + hd w n s0 + hd w n s1 = _
  rw [Q0c h3 (by omega), Q0c h4 (by omega)]
def Q8g : TR → Nat
 | .nil => 0
 | .leaf k _ => k
 | .node _ .nil r => Q8g r
 | .node _ l _ => Q8g l
def full : TR → Prop
 | .nil => False
 | .leaf _ _ => True
 | .node _ .nil r => full r
 | .node _ l _ => full l
theorem Z1x {d : Nat} {l r : TR} (h : l ≠ .nil) : Q8g (.node d l r) = Q8g l := by cases l <;> first | exact absurd rfl h | rfl
theorem Z1y {d : Nat} {l r : TR} (h : l ≠ .nil) : full (.node d l r) = full l := by cases l <;> first | exact absurd rfl h | rfl
theorem Q3h {T : TR} (h : full T) : T ≠ .nil := fun e => by subst e; exact h
theorem TA.cases {w : World} {T : TR} {u : Value} (h : TA w T u) (hf : full T) : (∃ b k v, T = .leaf k v ∧ u = ptr b ∧ Blk w b (ndc k v nlp nlp false (sL k v) 1) 151) ∨
  ∃ b d l r s0 s1, T = .node d l r ∧ u = ptr b ∧ Blk w b (ndc 0 0 s0 s1 true (rs (.node d l r)) (cnt l + cnt r)) 151 ∧ TA w l s0 ∧ TA w r s1 := by
 cases T with
 | nil => exact hf.elim
 | leaf k v => obtain ⟨b, h1, h2, _⟩ := h; exact .inl ⟨b, k, v, rfl, h1, h2⟩
 | node d l r => obtain ⟨b, s0, s1, h1, h2, h3, h4⟩ := h; exact .inr ⟨b, d, l, r, s0, s1, rfl, h1, h2, h3, h4⟩
theorem TA.side {w : World} {T : TR} {u : Value} (h : TA w T u) : (T = .nil ∧ u = nlp) ∨ ∃ b, T ≠ .nil ∧ u = ptr b := by
 cases T with
 | nil => exact .inl ⟨rfl, h⟩
 | leaf k v => obtain ⟨b, h1, _⟩ := h; exact .inr ⟨b, fun e => (by cases e), h1⟩
 | node d l r => obtain ⟨b, s0, s1, h1, _⟩ := h; exact .inr ⟨b, fun e => (by cases e), h1⟩
attribute [local irreducible] hs4 sE sL sN

theorem Z47 {T : TR} {u : Value} (hf0 : full T) (w : World) (h : TA w T u) :
  Calls Tryz.prog 180 #[u] w fun e w' => Ret (.agg (J0 .u8 32 (Q5 (Q8g T)))) w w' e := by
 have hS := SH.nil [] w
 go_enter Tryz.func180, Tryz.ntmps180
 go_upto_region 0 with fail
 refine RL hS ?_
 clear hS
 refine MN (z := J0 .u8 32 (Q5 0)) (t := 31) ?_
 intro J0a
 refine MZ fun W hS => ?_
 go_wp2_with fail
 go_loopw [0] (fun u wr => ∃ (T1 : TR), (TA w T1 u) ∧ (full T1) ∧ (Q8g T1 = Q8g T) ∧ (tsz T1 ≤ tsz T) ∧ SH [] w wr [.b J0a (J0 .u8 32 (Q5 0)) 31])
  (fun u _ => hd w (tsz T) u)
 case atStart => exact ⟨T, h, hf0, rfl, Nat.le_refl _, hS⟩
 clear hS
 case round =>
  obtain ⟨T1, hT, hf, hk, hz, hS⟩ := hrel
  rcases hT.cases hf with ⟨b, k, v, rfl, rfl, hB⟩ | ⟨b, d, l, r, s0, s1, rfl, rfl, hB, hl, hr⟩
  ·
   have _f := True.intro
   go_upto_region 1 with fail
   refine RL hS ?_
   clear hS
   refine MV ?_
   refine MV ?_
   refine MV ?_
   refine MF (v := .bool false) (fun W hS => V2 rfl rfl (by rw [Q6 (J1 hB hS.ext)]; exact J7v) (by kernel_rfl)) ?_
   refine MZ fun W hS => ?_
   go_upto_region 5 with fail
   refine RL hS ?_
   clear hS
   refine MV ?_
   refine MV ?_
   refine MV ?_
   refine MV ?_
   refine MF (v := .agg (J0 .u8 32 (Q5 k))) (fun W hS => J0o (vs := (J0 .u8 32 (Q5 k)).toList) rfl rfl (fun i v hv => by rw [Q6 (J1 hB hS.ext)]; exact Q0q i v (by simpa using hv)) (by kernel_rfl) (by first | kernel_rfl | (simp only [Array.length_toList]; rw [J2]; kernel_rfl))) ?_
   refine MR 0 ?_ 
   refine MZ fun W hS => ?_
   go_wp2
   exact bodyPost_ret (Y0 rfl rfl (hS.blk (i := 0) rfl) (by kernel_rfl) (by rw [J2]; kernel_rfl)) rfl ⟨by rw [← hk]; rfl, hS.ext⟩
  have _f := True.intro
  have h_me : TA w (.node d l r) (ptr b) := hT
  go_upto_region 1 with fail
  refine RL hS ?_
  clear hS
  refine MV ?_
  refine MV ?_
  refine MV ?_
  refine MF (v := .bool true) (fun W hS => V2 rfl rfl (by rw [Q6 (J1 hB hS.ext)]; exact J7v) (by kernel_rfl)) ?_
  refine MZ fun W hS => ?_
  rcases hl.side with ⟨rfl, rfl⟩ | ⟨c, hne, rfl⟩
  ·
   have _f := True.intro
   go_upto_region 2 with fail
   refine RL hS ?_
   clear hS
   refine MV ?_
   refine MV ?_
   refine MV ?_
   refine MW ?_ (v := .pointer (some ⟨b, 64, none⟩)) (hv := fun _ => J0f (m := 2) (k := 1) (j := 0) (off := 64) (by decide) Tryz.underlying149 (by kernel_rfl) rfl rfl rfl)
   refine MF (v := .pointer none) (fun W hS => V2 rfl rfl (by rw [Q6 (J1 hB hS.ext)]; exact nd_s0) (by kernel_rfl)) ?_
   refine MW ?_ (v := .bool false)
   refine MZ fun W hS => ?_
   go_upto_region 4 with fail
   refine RL hS ?_
   clear hS
   refine MV ?_
   refine MV ?_
   refine MV ?_
   refine MW ?_ (v := .pointer (some ⟨b, 65, none⟩)) (hv := fun _ => J0f (m := 2) (k := 1) (j := 1) (off := 64) (by decide) Tryz.underlying149 (by kernel_rfl) rfl rfl rfl)
   refine MF (v := s1) (fun W hS => V2 rfl rfl (by rw [Q6 (J1 hB hS.ext)]; exact nd_s1) (by kernel_rfl)) ?_
   refine MV ?_
   refine MZ fun W hS => ?_
   go_wp2
   go_roundw
   case rel => exact ⟨r, hr, hf, hk, (by have h_ : 1 + tsz .nil + tsz r ≤ tsz T := hz; omega), hS⟩
   case measure => rw [Q0c h_me hz, Q0c hr (by have h_ : 1 + tsz .nil + tsz r ≤ tsz T := hz; omega)]; show _ < 1 + tsz .nil + tsz r; omega
  have _f := True.intro
  go_upto_region 2 with fail
  refine RL hS ?_
  clear hS
  refine MV ?_
  refine MV ?_
  refine MV ?_
  refine MW ?_ (v := .pointer (some ⟨b, 64, none⟩)) (hv := fun _ => J0f (m := 2) (k := 1) (j := 0) (off := 64) (by decide) Tryz.underlying149 (by kernel_rfl) rfl rfl rfl)
  refine MF (v := .pointer (some ⟨c, 0, none⟩)) (fun W hS => V2 rfl rfl (by rw [Q6 (J1 hB hS.ext)]; exact nd_s0) (by kernel_rfl)) ?_
  refine MW ?_ (v := .bool true)
  refine MZ fun W hS => ?_
  go_upto_region 3 with fail
  refine RL hS ?_
  clear hS
  refine MV ?_
  refine MV ?_
  refine MV ?_
  refine MW ?_ (v := .pointer (some ⟨b, 64, none⟩)) (hv := fun _ => J0f (m := 2) (k := 1) (j := 0) (off := 64) (by decide) Tryz.underlying149 (by kernel_rfl) rfl rfl rfl)
  refine MF (v := .pointer (some ⟨c, 0, none⟩)) (fun W hS => V2 rfl rfl (by rw [Q6 (J1 hB hS.ext)]; exact nd_s0) (by kernel_rfl)) ?_
  refine MV ?_
  refine MZ fun W hS => ?_
  go_wp2
  go_roundw
  case rel => exact ⟨l, hl, (by rw [Z1y hne] at hf; exact hf), (by rw [Z1x hne] at hk; exact hk), (by have h_ : 1 + tsz l + tsz r ≤ tsz T := hz; omega), hS⟩
  case measure => rw [Q0c h_me hz, Q0c hl (by have h_ : 1 + tsz l + tsz r ≤ tsz T := hz; omega)]; show _ < 1 + tsz l + tsz r; omega
end
end Go.Proofs.YtejkmhgkkibafaaGreatDoor

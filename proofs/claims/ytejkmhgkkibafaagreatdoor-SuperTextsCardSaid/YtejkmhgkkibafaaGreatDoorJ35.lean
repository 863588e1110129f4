/- A leaf's and a proof's cells. No conditions. the document's turn of a word of 32 bits, by numbers of the type int. Conditions: the number is a word. What the document's sum of 32 bytes needs: words that are words, a word out of four bytes, sums with one mask, the bytes of the words, the tables of the document. No conditions. -/
import Derived.Test.YtejkmhgkkibafaaGreatDoorJ9
import Derived.Test.YtejkmhgkkibafaaGreatDoorJ32
import Derived.Test.YtejkmhgkkibafaaGreatDoorJ11
import Derived.Test.YtejkmhgkkibafaaGreatDoorJ8
set_option linter.unusedSimpArgs false
set_option linter.unusedVariables false
namespace Go.Proofs.YtejkmhgkkibafaaGreatDoor
set_option maxRecDepth 100000
open Go.RowKit
attribute [local irreducible] wpList wpTr wpX
set_option linter.unusedSimpArgs false
/-- a leaf's cells -/
def lf (k v : Nat) : Array Value := arrK .u8 32 (byt k) ++ arrK .u8 32 (byt v)
section
variable {k v : Nat}
theorem lf_size : (lf k v).size = 64 := by unfold lf; rw [Array.size_append, arrK_size, arrK_size]
theorem lf_k : ∀ i u, (arrK .u8 32 (byt k))[i]? = some u → (lf k v)[0 + i]? = some u := fun i u h => by rw [Nat.zero_add]; exact app_l h
theorem lf_v : ∀ i u, (arrK .u8 32 (byt v))[i]? = some u → (lf k v)[32 + i]? = some u := fun i u h => app_r (arrK_size _ _ _) h
end
section
variable {s : Value} {th : Bool} {a x : Nat}
end
section
variable {s : Value} {th : Bool} {a x k y : Nat} {v : Value}
end
/-- 32 bytes that lie as an element of a row -/
theorem sl_c32 {W : World} {g o s : Nat} (h : ∀ i v, (b32l s)[i]? = some v → W.cell? ⟨g, o + i, none⟩ = some v) : Sl W (.slice (some ⟨g, o, none⟩) 32 32) (lb 32 s) := by
 refine ⟨some ⟨g, o, none⟩, 32, by rw [lb_length], by rw [lb_length]; decide, by decide, fun h => (by cases h), fun j x hj => ⟨_, rfl, ?_⟩⟩
 have hj2 : j < 32 := by have := (List.getElem?_eq_some_iff.1 hj).1; rwa [lb_length] at this
 rw [lb_get hj2] at hj
 have := Option.some.inj hj
 subst this
 rw [lb_byt, Addr.add_mid]
 exact h j _ (by unfold b32l; rw [Array.getElem?_toList]; exact arrK_get _ _ _ _ hj2)
abbrev Lf := Nat × Nat
theorem eqS32 {A B : Nat} (h : A = B) (w : World) : (Op.equalIn 10000 23 (.agg (arrK .u8 32 (byt A))) (.agg (arrK .u8 32 (byt B)))).run Tryz.prog w = .ok true w := by
 subst h
 rw [run_equalIn_arr (P := Tryz.prog) w 9998 23 5 32 .u8 (arrK .u8 32 (byt A)) (arrK .u8 32 (byt A)) (byt A) (byt A) Tryz.underlying23 Tryz.underlying5 (by kernel_rfl) (fun i hi => arrK_get _ _ _ _ hi) (fun i hi => arrK_get _ _ _ _ hi)]
 rw [(eqArr_true _ _ _).2 fun _ _ => rfl]
end Go.Proofs.YtejkmhgkkibafaaGreatDoor

set_option linter.unusedSimpArgs false
set_option linter.unusedVariables false
namespace Go.Proofs.YtejkmhgkkibafaaGreatDoor
set_option maxHeartbeats 1500000
set_option maxRecDepth 100000
open Go.RowKit
attribute [local irreducible] wpList

theorem rturn4_c (p : Int) (hp : W4 p) (n : Nat) (h1 : 1 ≤ n) (h2 : n ≤ 31) (w : World) :
  Calls Tryz.prog 49 #[.int .i64 p, .int .i64 (n : Int)] w fun e w' => Ret (.int .i64 (rt4 p n)) w w' e := by
 have n0 : (1 : Int) ≤ (n : Int) := by omega
 have n1 : (n : Int) ≤ 31 := by omega
 have hs := ix_shl hp h1 h2
 have ht := ix_turn hp h1 h2
 clear hp
 have off0 : Off [] w w := Off.refl _ _
 go_enter Tryz.func49, Tryz.ntmps49
 go_upto_region 1 with fail
 refine Rx 10 ?_
 refine Xv ?_
 refine Xv ?_
 refine Xw ?_ (v := .int .i64 (p / 2 ^ n)) (hv := fun _ _ => by exact run_shr_i (n := n) (by omega) rfl rfl rfl)
 refine Xv ?_
 refine Xv ?_
 refine Xw ?_ (v := .int .i64 (((32 - n : Nat) : Int))) (hv := fun _ _ => by go_simp; (try simp only [IntKind.wrap_u64, IntKind.wrap_i64]); (try omega))
 refine Xw ?_ (v := .int .i64 (p * 2 ^ (32 - n))) (hv := fun _ _ => by rw [← hs]; exact run_shl_i (n := 32 - n) (by omega) rfl rfl rfl)
 refine Xw ?_ (v := .int .i64 (bits .or .i64 (p / 2 ^ n) (p * 2 ^ (32 - n)))) (hv := fun _ _ => by exact run_or_i rfl rfl rfl)
 refine Xw ?_ (v := .int .i64 (rt4 p n)) (hv := fun _ _ => by rw [← ht]; exact run_and_i rfl rfl rfl)
 refine Xv ?_
 refine wpX_nil fun W1 hE => ?_
 have hO := off_ext hE
 replace off0 := off0.o hO
 clear hO hE
 refine LN ?_
 go_wp2
 exact bodyPost_ret (v := .int .i64 (rt4 p n)) (by simp only [results, Tryz.results49]; go_simp) rfl ⟨rfl, off0.ext⟩
end Go.Proofs.YtejkmhgkkibafaaGreatDoor

set_option linter.unusedSimpArgs false
set_option linter.unusedVariables false
namespace Go.Proofs.YtejkmhgkkibafaaGreatDoor
open Go.RowKit
def GR4 (w : World) : Prop := Rd w 1 (arrK .i64 64 kf4) ∧ Rd w 0 (arrK .i64 8 hf4)
theorem GR_ext4 {w W : World} (h : GR4 w) (e : Ext w W) : GR4 W := ⟨h.1.ext e, h.2.ext e⟩
theorem W4_0 : W4 0 := ⟨by decide, by decide⟩
theorem bt_W4 (l : List UInt8) (j : Nat) : W4 (bt l j) := by have := bt_ok l j; unfold W4; omega
theorem getD_W4 : ∀ (l : List Int) (i : Nat), l.all (fun x => decide (0 ≤ x ∧ x < 4294967296)) = true → W4 (l.getD i 0)
  | [], i, _ => by simp; exact W4_0
  | x :: r, 0, h => by simp at h ⊢; exact h.1
  | x :: r, i + 1, h => by
    have h' : (r.all (fun x => decide (0 ≤ x ∧ x < 4294967296))) = true := by simp only [List.all_cons, Bool.and_eq_true] at h; exact h.2
    have := getD_W4 r i h'
    simpa using this
theorem kf_W4 (i : Nat) : W4 (kf4 i) := getD_W4 _ _ (by decide)
theorem hf_W4 (i : Nat) : W4 (hf4 i) := getD_W4 _ _ (by decide)
theorem wrd_W4 {b : Nat → Int} (hb : ∀ j, W4 (b j)) (i : Nat) : ∀ k, W4 (wrd4 b i k)
  | 0 => W4_0
  | k + 1 => oo_W4 sl_W4 (hb _)
theorem small_W4 {x : Int} (hx : W4 x) (p q r : Nat) : W4 (small4 x p q r) := xo_W4 (xo_W4 (rt_W4 hx) (rt_W4 hx)) (sr_W4 hx)
theorem big_W4 {x : Int} (hx : W4 x) (p q r : Nat) : W4 (big4 x p q r) := xo_W4 (xo_W4 (rt_W4 hx) (rt_W4 hx)) (rt_W4 hx)
theorem upd_W4 {f : Nat → Int} {i : Nat} {x : Int} (hf : ∀ j, W4 (f j)) (hx : W4 x) : ∀ j, W4 (upd f i x j) := fun j => by unfold upd; split; exact hx; exact hf j
theorem sch_W4 {b : Nat → Int} (hb : ∀ j, W4 (b j)) : ∀ i j, W4 (sch4 b i j)
  | 0, _ => W4_0
  | i + 1, j => upd_W4 (sch_W4 hb i) (by
      split
      · exact wrd_W4 hb i 4
      · exact ad_W4) j
theorem rnd_W4 {k w v : Nat → Int} {i : Nat} (hv : ∀ j, W4 (v j)) : ∀ j, W4 (rnd4 k w i v j) := fun j => by
  unfold rnd4
  split <;> first | exact ad_W4 | exact hv _ | exact W4_0
theorem rnds_W4 {k w v : Nat → Int} (hv : ∀ j, W4 (v j)) : ∀ i j, W4 (rnds4 k w v i j)
  | 0, j => hv j
  | i + 1, j => rnd_W4 (rnds_W4 hv i) j
theorem Hs_W4 (P : List UInt8) : ∀ j i, W4 (Hs4 P j i)
  | 0, i => hf_W4 i
  | _ + 1, _ => ad_W4
theorem mx_W4 {h v : Nat → Int} (hh : ∀ j, W4 (h j)) (i j : Nat) : W4 (mx4 h v i j) := by unfold mx4; split; exact ad_W4; exact hh j
/-! ### a word out of four bytes -/
theorem oo_sl {x c : Int} (h0 : 0 ≤ x) (h1 : x < 16777216) (hc0 : 0 ≤ c) (hc1 : c < 256) : oo4 (sl4 x 8) c = x * 256 + c := by
  obtain ⟨a, rfl⟩ := Int.eq_ofNat_of_zero_le h0
  obtain ⟨b, rfl⟩ := Int.eq_ofNat_of_zero_le hc0
  have e : sl4 (a : Int) 8 = ((a * 256 : Nat) : Int) := by unfold sl4; rw [IntKind.wrap_u32]; omega
  have hb : b < 2 ^ 8 := by omega
  rw [e, w_or (by omega) (by omega), Nat.mul_comm, show (256 : Nat) = 2 ^ 8 by decide, ← Nat.two_pow_add_eq_or_of_lt hb]
  omega
theorem wrd_val {b : Nat → Int} (hb : ∀ j, 0 ≤ b j ∧ b j ≤ 255) (i : Nat) : wrd4 b i 4 = b (4 * i) * 16777216 + b (4 * i + 1) * 65536 + b (4 * i + 2) * 256 + b (4 * i + 3) := by
  have h0 := hb (4 * i); have h1 := hb (4 * i + 1); have h2 := hb (4 * i + 2); have h3 := hb (4 * i + 3)
  have e1 : wrd4 b i 1 = b (4 * i) := by
    show oo4 (sl4 0 8) (b (4 * i + 0)) = _
    rw [Nat.add_zero, oo_sl (by omega) (by omega) (by omega) (by omega)]; omega
  have e2 : wrd4 b i 2 = b (4 * i) * 256 + b (4 * i + 1) := by
    show oo4 (sl4 (wrd4 b i 1) 8) (b (4 * i + 1)) = _
    rw [e1, oo_sl (by omega) (by omega) (by omega) (by omega)]
  have e3 : wrd4 b i 3 = (b (4 * i) * 256 + b (4 * i + 1)) * 256 + b (4 * i + 2) := by
    show oo4 (sl4 (wrd4 b i 2) 8) (b (4 * i + 2)) = _
    rw [e2, oo_sl (by omega) (by omega) (by omega) (by omega)]
  show oo4 (sl4 (wrd4 b i 3) 8) (b (4 * i + 3)) = _
  rw [e3, oo_sl (by omega) (by omega) (by omega) (by omega)]
  omega
theorem i_or_add (k : Nat) {x c : Nat} (hk : k ≤ 32) (hx : x < 2 ^ 30) (hc : c < 2 ^ k) : bits .or .i64 ((x * 2 ^ k : Nat) : Int) (c : Int) = ((x * 2 ^ k + c : Nat) : Int) := by
  have h1 : 2 ^ k ≤ 2 ^ 32 := Nat.pow_le_pow_right (by decide) hk
  have h2 : x * 2 ^ k < 2 ^ 63 := by
    calc x * 2 ^ k ≤ x * 2 ^ 32 := Nat.mul_le_mul_left _ h1
      _ < 2 ^ 63 := by omega
  rw [i_or h2 (Nat.lt_of_lt_of_le hc (Nat.le_trans h1 (by decide))), Nat.mul_comm, ← Nat.two_pow_add_eq_or_of_lt hc]
theorem iword_or {a b c d : Int} (ha : 0 ≤ a ∧ a ≤ 255) (hb : 0 ≤ b ∧ b ≤ 255) (hc : 0 ≤ c ∧ c ≤ 255) (hd : 0 ≤ d ∧ d ≤ 255) :
    bits .or .i64 (bits .or .i64 (bits .or .i64 (a * 2 ^ 24) (b * 2 ^ 16)) (c * 2 ^ 8)) d = a * 16777216 + b * 65536 + c * 256 + d := by
  obtain ⟨a, rfl⟩ := Int.eq_ofNat_of_zero_le ha.1
  obtain ⟨b, rfl⟩ := Int.eq_ofNat_of_zero_le hb.1
  obtain ⟨c, rfl⟩ := Int.eq_ofNat_of_zero_le hc.1
  obtain ⟨d, rfl⟩ := Int.eq_ofNat_of_zero_le hd.1
  have e1 : ((a : Int) * 2 ^ 24) = ((a * 2 ^ 24 : Nat) : Int) := by omega
  have e2 : ((b : Int) * 2 ^ 16) = ((b * 2 ^ 16 : Nat) : Int) := by omega
  have e3 : ((c : Int) * 2 ^ 8) = ((c * 2 ^ 8 : Nat) : Int) := by omega
  rw [e1, e2, e3, i_or_add 24 (by decide) (by omega) (by omega), show a * 2 ^ 24 + b * 2 ^ 16 = (a * 256 + b) * 2 ^ 16 by omega, i_or_add 16 (by decide) (by omega) (by omega),
    show (a * 256 + b) * 2 ^ 16 + c * 2 ^ 8 = (a * 65536 + b * 256 + c) * 2 ^ 8 by omega, i_or_add 8 (by decide) (by omega) (by omega)]
  omega
/-! ### sums with one mask -/
theorem sg_sum (f : Nat → Int) (i : Nat) : sg4 f i = (f (i - 16) + small4 (f (i - 15)) 7 18 3 + f (i - 7) + small4 (f (i - 2)) 17 19 10) % 4294967296 := by
  unfold sg4
  simp only [ad_mod]
  generalize small4 (f (i - 15)) 7 18 3 = a
  generalize small4 (f (i - 2)) 17 19 10 = b
  omega
/-- the sums of a round, not masked -/
def rTs (k w : Nat → Int) (i : Nat) (v : Nat → Int) : Int := v 7 + big4 (v 4) 6 11 25 + xo4 (an4 (v 4) (v 5)) (an4 (nt4 (v 4)) (v 6)) + k i + w i
def rUs (v : Nat → Int) : Int := big4 (v 0) 2 13 22 + xo4 (xo4 (an4 (v 0) (v 1)) (an4 (v 0) (v 2))) (an4 (v 1) (v 2))
theorem rT_mod (k w : Nat → Int) (i : Nat) (v : Nat → Int) : rT4 k w i v = rTs k w i v % 4294967296 := by
  unfold rT4 rTs
  simp only [ad_mod]
  generalize big4 (v 4) 6 11 25 = a
  generalize xo4 (an4 (v 4) (v 5)) (an4 (nt4 (v 4)) (v 6)) = b
  omega
theorem rU_mod (v : Nat → Int) : rU4 v = rUs v % 4294967296 := by unfold rU4 rUs; rw [ad_mod]
theorem rTs_le {k w v : Nat → Int} (i : Nat) (hk : W4 (k i)) (hw : W4 (w i)) (hv : ∀ j, W4 (v j)) : 0 ≤ rTs k w i v ∧ rTs k w i v < 21474836480 := by
  have h1 := hv 7; have h2 := big_W4 (hv 4) 6 11 25; have h3 := xo_W4 (an_W4 (hv 4) (hv 5)) (an_W4 (nt_W4 (hv 4)) (hv 6))
  unfold rTs W4 at *
  omega
theorem rUs_le {v : Nat → Int} (hv : ∀ j, W4 (v j)) : 0 ≤ rUs v ∧ rUs v < 8589934592 := by
  have h2 := big_W4 (hv 0) 2 13 22; have h3 := xo_W4 (xo_W4 (an_W4 (hv 0) (hv 1)) (an_W4 (hv 0) (hv 2))) (an_W4 (hv 1) (hv 2))
  unfold rUs W4 at *
  omega
theorem rnd0 (k w : Nat → Int) (i : Nat) (v : Nat → Int) : (rTs k w i v + rUs v) % 4294967296 = rnd4 k w i v 0 := by
  show _ = ad4 (rT4 k w i v) (rU4 v)
  rw [rT_mod, rU_mod, ad_mod]; omega
theorem rnd4' (k w : Nat → Int) (i : Nat) (v : Nat → Int) : (v 3 + rTs k w i v) % 4294967296 = rnd4 k w i v 4 := by
  show _ = ad4 (v 3) (rT4 k w i v)
  rw [rT_mod, ad_mod]; omega
/-! ### the bytes of the words -/
def bo4 (H : Nat → Int) (j : Nat) : UInt8 := u8 (ob4 H j).toNat
theorem bo_ob4 (H : Nat → Int) (j : Nat) : ((bo4 H j).toNat : Int) = ob4 H j := by
  have := w8_ok (sr4 (H (j / 4)) (8 * (3 - j % 4)))
  unfold bo4
  rw [u8_cast]
  unfold ob4
  omega
theorem bo_cast4 (H : Nat → Int) (i k : Nat) (hk : k < 4) : w8 (sr4 (H i) (8 * (3 - k))) = ((bo4 H (4 * i + k)).toNat : Int) := by
  rw [bo_ob4]
  unfold ob4
  rw [show (4 * i + k) / 4 = i by omega, show (4 * i + k) % 4 = k by omega]
def wb4 (H : Nat → Int) (n : Nat) : List UInt8 := (List.range n).map (bo4 H)
theorem wb_length4 (H : Nat → Int) (n : Nat) : (wb4 H n).length = n := by simp [wb4]
theorem wb_step4 (H : Nat → Int) (i : Nat) : wb4 H (4 * i) ++ [bo4 H (4 * i + 0), bo4 H (4 * i + 1), bo4 H (4 * i + 2), bo4 H (4 * i + 3)] = wb4 H (4 * (i + 1)) := by
  unfold wb4
  rw [show 4 * (i + 1) = 4 * i + 3 + 1 by omega]
  simp only [List.range_succ, List.map_append, List.map_cons, List.map_nil, List.append_assoc, Nat.add_zero, List.cons_append, List.nil_append]
/-- the sum as bytes, as a number -/
def smb4 (l : List UInt8) : List UInt8 := wb4 (Hs4 (pad4 l) (nb4 l.length)) 32
def hs4 (l : List UInt8) : Nat := le (smb4 l)
theorem smb_length4 (l : List UInt8) : (smb4 l).length = 32 := wb_length4 _ _
theorem smb_cells4 (l : List UInt8) : (arrK .u8 32 (sm4 l)).toList = bs8 (smb4 l) := by
  unfold arrK bs8 smb4 wb4
  rw [List.map_map]
  simp only [List.map_inj_left, Function.comp]
  intro j _
  rw [bo_ob4]; rfl
theorem smb_hs4 (F : List UInt8) : smb4 F = lb 32 (hs4 F) := (lb_le' (smb_length4 F)).symm
theorem sm_hs4 (F : List UInt8) : arrK .u8 32 (sm4 F) = arrK .u8 32 (byt (hs4 F)) := arrK_inj (by rw [smb_cells4, smb_hs4, bs8_lb, arrK_list])
theorem hs_lt4 (F : List UInt8) : hs4 F < 2 ^ 256 := by have := le_lt (smb4 F); rwa [smb_length4] at this
end Go.Proofs.YtejkmhgkkibafaaGreatDoor

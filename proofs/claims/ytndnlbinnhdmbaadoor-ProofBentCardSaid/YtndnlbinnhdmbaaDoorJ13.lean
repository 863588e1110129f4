/- Bytes of a number as a list; arrays of bytes seen as slices; parts of a sum. No conditions. What the document's sum of 32 bytes needs: words that are words, a word out of four bytes, sums with one mask, the bytes of the words, the tables of the document. No conditions. -/
import Derived.Test.YtndnlbinnhdmbaaDoorGc
import Derived.Test.YtndnlbinnhdmbaaDoorJ10
set_option linter.unusedSimpArgs false
set_option linter.unusedVariables false
namespace Go.Proofs.YtndnlbinnhdmbaaDoor
set_option maxRecDepth 100000
open Go.RowKit
theorem bval_byt (A : Nat) : ∀ n, bval (byt A) n = A % 2 ^ (8 * n)
  | 0 => by rw [Nat.mul_zero, Nat.pow_zero, Nat.mod_one]; rfl
  | n + 1 => by
    show bval (byt A) n + (byt A n).toNat * 2 ^ (8 * n) = _
    rw [bval_byt A n, Nat.mul_add, Nat.pow_add, Nat.mod_mul, Nat.mul_comm (byt A n).toNat]
    rfl
theorem byt_inj {A B : Nat} (hA : A < 2 ^ 256) (hB : B < 2 ^ 256) (h : ∀ j, j < 32 → byt A j = byt B j) : A = B := by
  have key : ∀ n, n ≤ 32 → bval (byt A) n = bval (byt B) n := by
    intro n
    induction n with
    | zero => intro _; rfl
    | succ n ih => intro hn; show bval (byt A) n + (byt A n).toNat * _ = bval (byt B) n + (byt B n).toNat * _; rw [ih (by omega), h n (by omega)]
  have := key 32 (by omega)
  rw [bval_byt, bval_byt] at this
  rwa [show 8 * 32 = 256 by decide, Nat.mod_eq_of_lt hA, Nat.mod_eq_of_lt hB] at this
/-- the lowest n bytes of a number, as a list -/
def lb (n V : Nat) : List UInt8 := (List.range n).map fun j => UInt8.ofNat (V / 2 ^ (8 * j) % 256)
theorem lb_length (n V : Nat) : (lb n V).length = n := by simp [lb]
theorem lb_get {n V j : Nat} (hj : j < n) : (lb n V)[j]? = some (UInt8.ofNat (V / 2 ^ (8 * j) % 256)) := by simp [lb, hj]
theorem lb_byt (V j : Nat) : ((UInt8.ofNat (V / 2 ^ (8 * j) % 256)).toNat : Int) = byt V j := by
  unfold byt
  rw [UInt8.toNat_ofNat', Nat.mod_mod]
theorem bs8_lb (n V : Nat) : bs8 (lb n V) = lstK .u8 n (byt V) := by
  unfold bs8 lb lstK
  rw [List.map_map]
  apply List.map_congr_left
  intro j _
  simp only [Function.comp, lb_byt]
theorem arrK_list (n : Nat) (f : Nat → Int) : (arrK .u8 n f).toList = lstK .u8 n f := rfl
theorem lb_inj {A B : Nat} (hA : A < 2 ^ 256) (hB : B < 2 ^ 256) (h : lb 32 A = lb 32 B) : A = B := by
  refine byt_inj hA hB fun j hj => ?_
  have h1 := lb_get (V := A) hj
  rw [h, lb_get hj] at h1
  rw [← lb_byt, ← lb_byt, Option.some.inj h1]
/-- the number of a text's bytes, the lowest first -/
def le : List UInt8 → Nat
  | [] => 0
  | x :: r => x.toNat + 256 * le r
theorem le_lt : ∀ l : List UInt8, le l < 2 ^ (8 * l.length)
  | [] => by decide
  | x :: r => by
    have h := le_lt r
    have hx := x.toNat_lt
    show x.toNat + 256 * le r < 2 ^ (8 * (r.length + 1))
    rw [Nat.mul_add, Nat.pow_add]
    omega
theorem lb_succ (n V : Nat) : lb (n + 1) V = UInt8.ofNat (V % 256) :: lb n (V / 256) := by
  unfold lb
  rw [List.range_succ_eq_map, List.map_cons, List.map_map]
  congr 1
  · rw [Nat.mul_zero, Nat.pow_zero, Nat.div_one]
  · apply List.map_congr_left
    intro j _
    simp only [Function.comp]
    rw [Nat.div_div_eq_div_mul, Nat.succ_eq_add_one, Nat.mul_add, Nat.pow_add, Nat.mul_comm (2 ^ (8 * j))]
theorem lb_le : ∀ l : List UInt8, lb l.length (le l) = l
  | [] => rfl
  | x :: r => by
    have hx : x.toNat < 256 := x.toNat_lt
    rw [List.length_cons, lb_succ]
    show UInt8.ofNat ((x.toNat + 256 * le r) % 256) :: lb r.length ((x.toNat + 256 * le r) / 256) = _
    rw [show (x.toNat + 256 * le r) % 256 = x.toNat by omega, show (x.toNat + 256 * le r) / 256 = le r by omega, lb_le r]
    congr 1
    exact UInt8.ofNat_toNat
theorem lb_le' {l : List UInt8} {n : Nat} (h : l.length = n) : lb n (le l) = l := h ▸ lb_le l
theorem arrK_inj {n : Nat} {f g : Nat → Int} (h : (arrK .u8 n f).toList = (arrK .u8 n g).toList) : arrK .u8 n f = arrK .u8 n g := by
  rw [← Array.toArray_toList (xs := arrK .u8 n f), h, Array.toArray_toList]
theorem sl_part {w : World} {b off n c V : Nat} {cs : Array Value} {t : TypeId} (h : Blk w b cs t) (hc : ∀ i v, (arrK .u8 n (byt V))[i]? = some v → cs[off + i]? = some v) (hn : n ≤ c) (hm : c ≤ maxLen) : Sl w (.slice (some ⟨b, off, none⟩) n c) (lb n V) :=
  sl_blk h (lb_length n V).symm hn hm fun j x hj => by
    have hj2 : j < n := by have := (List.getElem?_eq_some_iff.1 hj).1; rwa [lb_length] at this
    rw [lb_get hj2] at hj
    have := Option.some.inj hj
    subst this
    rw [lb_byt]
    exact hc j _ (arrK_get _ _ _ _ hj2)
theorem ap0 {a : Array Value} : ∀ i v, a[i]? = some v → a[0 + i]? = some v := fun i v h => by rw [Nat.zero_add]; exact h
theorem pv0 {w : World} : ∀ (i : Nat) (l : List UInt8), ([] : List (List UInt8))[i]? = some l → ∃ u, ([] : List Value)[i]? = some u ∧ Sl w u l := fun i l h => by simp at h
theorem pvc {w : World} {ps : List (List UInt8)} {vs : List Value} {v : Value} {m : List UInt8} (h : Sl w v m) (k : ∀ (i : Nat) (l : List UInt8), ps[i]? = some l → ∃ u, vs[i]? = some u ∧ Sl w u l) :
    ∀ (i : Nat) (l : List UInt8), (m :: ps)[i]? = some l → ∃ u, (v :: vs)[i]? = some u ∧ Sl w u l
  | 0, l, hi => ⟨v, rfl, by
      have e : m = l := by simpa using hi
      subst e; exact h⟩
  | i + 1, l, hi => k i l (by simpa using hi)
theorem pss_blk {w : World} {g : Nat} {cs : Array Value} {ps : List (List UInt8)} {t : TypeId} (h : Blk w g cs t) (hv : ∀ (i : Nat) (l : List UInt8), ps[i]? = some l → ∃ u, cs.toList[i]? = some u ∧ Sl w u l) :
    ∀ (i : Nat) (l : List UInt8), ps[i]? = some l → ∃ ad u, some (⟨g, 0, none⟩ : Addr) = some ad ∧ w.cell? (ad.add i) = some u ∧ Sl w u l := fun i l hi => by
  obtain ⟨u, h1, h2⟩ := hv i l hi
  exact ⟨_, u, rfl, by rw [Addr.add_mid, blk_cell h, Nat.zero_add]; simpa using h1, h2⟩
end Go.Proofs.YtndnlbinnhdmbaaDoor

set_option linter.unusedSimpArgs false
set_option linter.unusedVariables false
namespace Go.Proofs.YtndnlbinnhdmbaaDoor
open Go.RowKit
def GR4 (w : World) : Prop := Rd w 1 (arrK .i64 64 kf4) ∧ Rd w 0 (arrK .i64 8 hf4)
theorem GR_ext4 {w W : World} (h : GR4 w) (e : Ext w W) : GR4 W := ⟨h.1.ext e, h.2.ext e⟩
theorem W4_0 : W4 0 := ⟨by decide, by decide⟩
theorem bt_W4 (l : List UInt8) (j : Nat) : W4 (bt l j) := by have := bt_ok l j; unfold W4; omega
theorem getD_W4 : ∀ (l : List Int) (i : Nat), l.all (fun x => decide (0 ≤ x ∧ x < 4294967296)) = true → W4 (l.getD i 0)
  | [], i, _ => by simp; exact W4_0
  | x :: r, 0, h => by simp at h ⊢; exact h.1
  | x :: r, i + 1, h => by
    have h' : (r.all (fun x => decide (0 ≤ x ∧ x < 4294967296))) = true := by simp only [List.all_cons, Bool.and_eq_true] at h; exact h.2
    have := getD_W4 r i h'
    simpa using this
theorem kf_W4 (i : Nat) : W4 (kf4 i) := getD_W4 _ _ (by decide)
theorem hf_W4 (i : Nat) : W4 (hf4 i) := getD_W4 _ _ (by decide)
theorem wrd_W4 {b : Nat → Int} (hb : ∀ j, W4 (b j)) (i : Nat) : ∀ k, W4 (wrd4 b i k)
  | 0 => W4_0
  | k + 1 => oo_W4 sl_W4 (hb _)
theorem small_W4 {x : Int} (hx : W4 x) (p q r : Nat) : W4 (small4 x p q r) := xo_W4 (xo_W4 (rt_W4 hx) (rt_W4 hx)) (sr_W4 hx)
theorem big_W4 {x : Int} (hx : W4 x) (p q r : Nat) : W4 (big4 x p q r) := xo_W4 (xo_W4 (rt_W4 hx) (rt_W4 hx)) (rt_W4 hx)
theorem upd_W4 {f : Nat → Int} {i : Nat} {x : Int} (hf : ∀ j, W4 (f j)) (hx : W4 x) : ∀ j, W4 (upd f i x j) := fun j => by unfold upd; split; exact hx; exact hf j
theorem sch_W4 {b : Nat → Int} (hb : ∀ j, W4 (b j)) : ∀ i j, W4 (sch4 b i j)
  | 0, _ => W4_0
  | i + 1, j => upd_W4 (sch_W4 hb i) (by
      split
      · exact wrd_W4 hb i 4
      · exact ad_W4) j
theorem rnd_W4 {k w v : Nat → Int} {i : Nat} (hv : ∀ j, W4 (v j)) : ∀ j, W4 (rnd4 k w i v j) := fun j => by
  unfold rnd4
  split <;> first | exact ad_W4 | exact hv _ | exact W4_0
theorem rnds_W4 {k w v : Nat → Int} (hv : ∀ j, W4 (v j)) : ∀ i j, W4 (rnds4 k w v i j)
  | 0, j => hv j
  | i + 1, j => rnd_W4 (rnds_W4 hv i) j
theorem Hs_W4 (P : List UInt8) : ∀ j i, W4 (Hs4 P j i)
  | 0, i => hf_W4 i
  | _ + 1, _ => ad_W4
theorem mx_W4 {h v : Nat → Int} (hh : ∀ j, W4 (h j)) (i j : Nat) : W4 (mx4 h v i j) := by unfold mx4; split; exact ad_W4; exact hh j
/-! ### a word out of four bytes -/
theorem oo_sl {x c : Int} (h0 : 0 ≤ x) (h1 : x < 16777216) (hc0 : 0 ≤ c) (hc1 : c < 256) : oo4 (sl4 x 8) c = x * 256 + c := by
  obtain ⟨a, rfl⟩ := Int.eq_ofNat_of_zero_le h0
  obtain ⟨b, rfl⟩ := Int.eq_ofNat_of_zero_le hc0
  have e : sl4 (a : Int) 8 = ((a * 256 : Nat) : Int) := by unfold sl4; rw [IntKind.wrap_u32]; omega
  have hb : b < 2 ^ 8 := by omega
  rw [e, w_or (by omega) (by omega), Nat.mul_comm, show (256 : Nat) = 2 ^ 8 by decide, ← Nat.two_pow_add_eq_or_of_lt hb]
  omega
theorem wrd_val {b : Nat → Int} (hb : ∀ j, 0 ≤ b j ∧ b j ≤ 255) (i : Nat) : wrd4 b i 4 = b (4 * i) * 16777216 + b (4 * i + 1) * 65536 + b (4 * i + 2) * 256 + b (4 * i + 3) := by
  have h0 := hb (4 * i); have h1 := hb (4 * i + 1); have h2 := hb (4 * i + 2); have h3 := hb (4 * i + 3)
  have e1 : wrd4 b i 1 = b (4 * i) := by
    show oo4 (sl4 0 8) (b (4 * i + 0)) = _
    rw [Nat.add_zero, oo_sl (by omega) (by omega) (by omega) (by omega)]; omega
  have e2 : wrd4 b i 2 = b (4 * i) * 256 + b (4 * i + 1) := by
    show oo4 (sl4 (wrd4 b i 1) 8) (b (4 * i + 1)) = _
    rw [e1, oo_sl (by omega) (by omega) (by omega) (by omega)]
  have e3 : wrd4 b i 3 = (b (4 * i) * 256 + b (4 * i + 1)) * 256 + b (4 * i + 2) := by
    show oo4 (sl4 (wrd4 b i 2) 8) (b (4 * i + 2)) = _
    rw [e2, oo_sl (by omega) (by omega) (by omega) (by omega)]
  show oo4 (sl4 (wrd4 b i 3) 8) (b (4 * i + 3)) = _
  rw [e3, oo_sl (by omega) (by omega) (by omega) (by omega)]
  omega
theorem i_or_add (k : Nat) {x c : Nat} (hk : k ≤ 32) (hx : x < 2 ^ 30) (hc : c < 2 ^ k) : bits .or .i64 ((x * 2 ^ k : Nat) : Int) (c : Int) = ((x * 2 ^ k + c : Nat) : Int) := by
  have h1 : 2 ^ k ≤ 2 ^ 32 := Nat.pow_le_pow_right (by decide) hk
  have h2 : x * 2 ^ k < 2 ^ 63 := by
    calc x * 2 ^ k ≤ x * 2 ^ 32 := Nat.mul_le_mul_left _ h1
      _ < 2 ^ 63 := by omega
  rw [i_or h2 (Nat.lt_of_lt_of_le hc (Nat.le_trans h1 (by decide))), Nat.mul_comm, ← Nat.two_pow_add_eq_or_of_lt hc]
theorem iword_or {a b c d : Int} (ha : 0 ≤ a ∧ a ≤ 255) (hb : 0 ≤ b ∧ b ≤ 255) (hc : 0 ≤ c ∧ c ≤ 255) (hd : 0 ≤ d ∧ d ≤ 255) :
    bits .or .i64 (bits .or .i64 (bits .or .i64 (a * 2 ^ 24) (b * 2 ^ 16)) (c * 2 ^ 8)) d = a * 16777216 + b * 65536 + c * 256 + d := by
  obtain ⟨a, rfl⟩ := Int.eq_ofNat_of_zero_le ha.1
  obtain ⟨b, rfl⟩ := Int.eq_ofNat_of_zero_le hb.1
  obtain ⟨c, rfl⟩ := Int.eq_ofNat_of_zero_le hc.1
  obtain ⟨d, rfl⟩ := Int.eq_ofNat_of_zero_le hd.1
  have e1 : ((a : Int) * 2 ^ 24) = ((a * 2 ^ 24 : Nat) : Int) := by omega
  have e2 : ((b : Int) * 2 ^ 16) = ((b * 2 ^ 16 : Nat) : Int) := by omega
  have e3 : ((c : Int) * 2 ^ 8) = ((c * 2 ^ 8 : Nat) : Int) := by omega
  rw [e1, e2, e3, i_or_add 24 (by decide) (by omega) (by omega), show a * 2 ^ 24 + b * 2 ^ 16 = (a * 256 + b) * 2 ^ 16 by omega, i_or_add 16 (by decide) (by omega) (by omega),
    show (a * 256 + b) * 2 ^ 16 + c * 2 ^ 8 = (a * 65536 + b * 256 + c) * 2 ^ 8 by omega, i_or_add 8 (by decide) (by omega) (by omega)]
  omega
/-! ### sums with one mask -/
theorem sg_sum (f : Nat → Int) (i : Nat) : sg4 f i = (f (i - 16) + small4 (f (i - 15)) 7 18 3 + f (i - 7) + small4 (f (i - 2)) 17 19 10) % 4294967296 := by
  unfold sg4
  simp only [ad_mod]
  generalize small4 (f (i - 15)) 7 18 3 = a
  generalize small4 (f (i - 2)) 17 19 10 = b
  omega
/-- the sums of a round, not masked -/
def rTs (k w : Nat → Int) (i : Nat) (v : Nat → Int) : Int := v 7 + big4 (v 4) 6 11 25 + xo4 (an4 (v 4) (v 5)) (an4 (nt4 (v 4)) (v 6)) + k i + w i
def rUs (v : Nat → Int) : Int := big4 (v 0) 2 13 22 + xo4 (xo4 (an4 (v 0) (v 1)) (an4 (v 0) (v 2))) (an4 (v 1) (v 2))
theorem rT_mod (k w : Nat → Int) (i : Nat) (v : Nat → Int) : rT4 k w i v = rTs k w i v % 4294967296 := by
  unfold rT4 rTs
  simp only [ad_mod]
  generalize big4 (v 4) 6 11 25 = a
  generalize xo4 (an4 (v 4) (v 5)) (an4 (nt4 (v 4)) (v 6)) = b
  omega
theorem rU_mod (v : Nat → Int) : rU4 v = rUs v % 4294967296 := by unfold rU4 rUs; rw [ad_mod]
theorem rTs_le {k w v : Nat → Int} (i : Nat) (hk : W4 (k i)) (hw : W4 (w i)) (hv : ∀ j, W4 (v j)) : 0 ≤ rTs k w i v ∧ rTs k w i v < 21474836480 := by
  have h1 := hv 7; have h2 := big_W4 (hv 4) 6 11 25; have h3 := xo_W4 (an_W4 (hv 4) (hv 5)) (an_W4 (nt_W4 (hv 4)) (hv 6))
  unfold rTs W4 at *
  omega
theorem rUs_le {v : Nat → Int} (hv : ∀ j, W4 (v j)) : 0 ≤ rUs v ∧ rUs v < 8589934592 := by
  have h2 := big_W4 (hv 0) 2 13 22; have h3 := xo_W4 (xo_W4 (an_W4 (hv 0) (hv 1)) (an_W4 (hv 0) (hv 2))) (an_W4 (hv 1) (hv 2))
  unfold rUs W4 at *
  omega
theorem rnd0 (k w : Nat → Int) (i : Nat) (v : Nat → Int) : (rTs k w i v + rUs v) % 4294967296 = rnd4 k w i v 0 := by
  show _ = ad4 (rT4 k w i v) (rU4 v)
  rw [rT_mod, rU_mod, ad_mod]; omega
theorem rnd4' (k w : Nat → Int) (i : Nat) (v : Nat → Int) : (v 3 + rTs k w i v) % 4294967296 = rnd4 k w i v 4 := by
  show _ = ad4 (v 3) (rT4 k w i v)
  rw [rT_mod, ad_mod]; omega
/-! ### the bytes of the words -/
def bo4 (H : Nat → Int) (j : Nat) : UInt8 := u8 (ob4 H j).toNat
theorem bo_ob4 (H : Nat → Int) (j : Nat) : ((bo4 H j).toNat : Int) = ob4 H j := by
  have := w8_ok (sr4 (H (j / 4)) (8 * (3 - j % 4)))
  unfold bo4
  rw [u8_cast]
  unfold ob4
  omega
theorem bo_cast4 (H : Nat → Int) (i k : Nat) (hk : k < 4) : w8 (sr4 (H i) (8 * (3 - k))) = ((bo4 H (4 * i + k)).toNat : Int) := by
  rw [bo_ob4]
  unfold ob4
  rw [show (4 * i + k) / 4 = i by omega, show (4 * i + k) % 4 = k by omega]
def wb4 (H : Nat → Int) (n : Nat) : List UInt8 := (List.range n).map (bo4 H)
theorem wb_length4 (H : Nat → Int) (n : Nat) : (wb4 H n).length = n := by simp [wb4]
theorem wb_step4 (H : Nat → Int) (i : Nat) : wb4 H (4 * i) ++ [bo4 H (4 * i + 0), bo4 H (4 * i + 1), bo4 H (4 * i + 2), bo4 H (4 * i + 3)] = wb4 H (4 * (i + 1)) := by
  unfold wb4
  rw [show 4 * (i + 1) = 4 * i + 3 + 1 by omega]
  simp only [List.range_succ, List.map_append, List.map_cons, List.map_nil, List.append_assoc, Nat.add_zero, List.cons_append, List.nil_append]
/-- the sum as bytes, as a number -/
def smb4 (l : List UInt8) : List UInt8 := wb4 (Hs4 (pad4 l) (nb4 l.length)) 32
def hs4 (l : List UInt8) : Nat := le (smb4 l)
theorem smb_length4 (l : List UInt8) : (smb4 l).length = 32 := wb_length4 _ _
theorem smb_cells4 (l : List UInt8) : (arrK .u8 32 (sm4 l)).toList = bs8 (smb4 l) := by
  unfold arrK bs8 smb4 wb4
  rw [List.map_map]
  simp only [List.map_inj_left, Function.comp]
  intro j _
  rw [bo_ob4]; rfl
theorem smb_hs4 (F : List UInt8) : smb4 F = lb 32 (hs4 F) := (lb_le' (smb_length4 F)).symm
theorem sm_hs4 (F : List UInt8) : arrK .u8 32 (sm4 F) = arrK .u8 32 (byt (hs4 F)) := arrK_inj (by rw [smb_cells4, smb_hs4, bs8_lb, arrK_list])
theorem hs_lt4 (F : List UInt8) : hs4 F < 2 ^ 256 := by have := le_lt (smb4 F); rwa [smb_length4] at this
end Go.Proofs.YtndnlbinnhdmbaaDoor

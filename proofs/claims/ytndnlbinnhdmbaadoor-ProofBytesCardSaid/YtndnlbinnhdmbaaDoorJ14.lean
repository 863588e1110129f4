/- Bytes of a number as a list; arrays of bytes seen as slices; parts of a sum. No conditions. What the document's sum of 32 bytes needs: words that are words, a word out of four bytes, sums with one mask, the bytes of the words, the tables of the document. No conditions. The document's sum of 32 bytes. Conditions: the text is no longer than 2^46 bytes; the tables hold their numbers. Trees: the sums of which all is made, the program's and the document's. Conditions: the tables hold their numbers. bits of a key. Conditions: the bit's number is below 256, the key's parts are bytes. how many bits two keys begin with alike: the document's. Conditions: the keys' parts are bytes. -/
import Derived.Test.YtndnlbinnhdmbaaDoorGc
import Derived.Test.YtndnlbinnhdmbaaDoorJ11
import Derived.Test.YtndnlbinnhdmbaaDoorJ7
import Derived.Test.YtndnlbinnhdmbaaDoorSqI
set_option linter.unusedSimpArgs false
set_option linter.unusedVariables false
namespace Go.Proofs.YtndnlbinnhdmbaaDoor
set_option maxRecDepth 100000
open Go.RowKit
theorem bval_byt (A : Nat) : ∀ n, bval (byt A) n = A % 2 ^ (8 * n)
  | 0 => by rw [Nat.mul_zero, Nat.pow_zero, Nat.mod_one]; rfl
  | n + 1 => by
    show bval (byt A) n + (byt A n).toNat * 2 ^ (8 * n) = _
    rw [bval_byt A n, Nat.mul_add, Nat.pow_add, Nat.mod_mul, Nat.mul_comm (byt A n).toNat]
    rfl
theorem byt_inj {A B : Nat} (hA : A < 2 ^ 256) (hB : B < 2 ^ 256) (h : ∀ j, j < 32 → byt A j = byt B j) : A = B := by
  have key : ∀ n, n ≤ 32 → bval (byt A) n = bval (byt B) n := by
    intro n
    induction n with
    | zero => intro _; rfl
    | succ n ih => intro hn; show bval (byt A) n + (byt A n).toNat * _ = bval (byt B) n + (byt B n).toNat * _; rw [ih (by omega), h n (by omega)]
  have := key 32 (by omega)
  rw [bval_byt, bval_byt] at this
  rwa [show 8 * 32 = 256 by decide, Nat.mod_eq_of_lt hA, Nat.mod_eq_of_lt hB] at this
/-- the lowest n bytes of a number, as a list -/
def lb (n V : Nat) : List UInt8 := (List.range n).map fun j => UInt8.ofNat (V / 2 ^ (8 * j) % 256)
theorem lb_length (n V : Nat) : (lb n V).length = n := by simp [lb]
theorem lb_get {n V j : Nat} (hj : j < n) : (lb n V)[j]? = some (UInt8.ofNat (V / 2 ^ (8 * j) % 256)) := by simp [lb, hj]
theorem lb_byt (V j : Nat) : ((UInt8.ofNat (V / 2 ^ (8 * j) % 256)).toNat : Int) = byt V j := by
  unfold byt
  rw [UInt8.toNat_ofNat', Nat.mod_mod]
theorem bs8_lb (n V : Nat) : bs8 (lb n V) = lstK .u8 n (byt V) := by
  unfold bs8 lb lstK
  rw [List.map_map]
  apply List.map_congr_left
  intro j _
  simp only [Function.comp, lb_byt]
theorem arrK_list (n : Nat) (f : Nat → Int) : (arrK .u8 n f).toList = lstK .u8 n f := rfl
/-- the number of a text's bytes, the lowest first -/
def le : List UInt8 → Nat
  | [] => 0
  | x :: r => x.toNat + 256 * le r
theorem le_lt : ∀ l : List UInt8, le l < 2 ^ (8 * l.length)
  | [] => by decide
  | x :: r => by
    have h := le_lt r
    have hx := x.toNat_lt
    show x.toNat + 256 * le r < 2 ^ (8 * (r.length + 1))
    rw [Nat.mul_add, Nat.pow_add]
    omega
theorem lb_succ (n V : Nat) : lb (n + 1) V = UInt8.ofNat (V % 256) :: lb n (V / 256) := by
  unfold lb
  rw [List.range_succ_eq_map, List.map_cons, List.map_map]
  congr 1
  · rw [Nat.mul_zero, Nat.pow_zero, Nat.div_one]
  · apply List.map_congr_left
    intro j _
    simp only [Function.comp]
    rw [Nat.div_div_eq_div_mul, Nat.succ_eq_add_one, Nat.mul_add, Nat.pow_add, Nat.mul_comm (2 ^ (8 * j))]
theorem le_lb : ∀ n V : Nat, V < 2 ^ (8 * n) → le (lb n V) = V
  | 0, V, h => by
    have : V < 1 := h
    obtain rfl : V = 0 := by omega
    rfl
  | n + 1, V, h => by
    rw [lb_succ]
    show (UInt8.ofNat (V % 256)).toNat + 256 * le (lb n (V / 256)) = V
    rw [Nat.mul_add, Nat.pow_add] at h
    rw [le_lb n (V / 256) (by omega), UInt8.toNat_ofNat']
    omega
theorem lb_le : ∀ l : List UInt8, lb l.length (le l) = l
  | [] => rfl
  | x :: r => by
    have hx : x.toNat < 256 := x.toNat_lt
    rw [List.length_cons, lb_succ]
    show UInt8.ofNat ((x.toNat + 256 * le r) % 256) :: lb r.length ((x.toNat + 256 * le r) / 256) = _
    rw [show (x.toNat + 256 * le r) % 256 = x.toNat by omega, show (x.toNat + 256 * le r) / 256 = le r by omega, lb_le r]
    congr 1
    exact UInt8.ofNat_toNat
theorem lb_le' {l : List UInt8} {n : Nat} (h : l.length = n) : lb n (le l) = l := h ▸ lb_le l
theorem arrK_inj {n : Nat} {f g : Nat → Int} (h : (arrK .u8 n f).toList = (arrK .u8 n g).toList) : arrK .u8 n f = arrK .u8 n g := by
  rw [← Array.toArray_toList (xs := arrK .u8 n f), h, Array.toArray_toList]
theorem sl_part {w : World} {b off n c V : Nat} {cs : Array Value} {t : TypeId} (h : Blk w b cs t) (hc : ∀ i v, (arrK .u8 n (byt V))[i]? = some v → cs[off + i]? = some v) (hn : n ≤ c) (hm : c ≤ maxLen) : Sl w (.slice (some ⟨b, off, none⟩) n c) (lb n V) :=
  sl_blk h (lb_length n V).symm hn hm fun j x hj => by
    have hj2 : j < n := by have := (List.getElem?_eq_some_iff.1 hj).1; rwa [lb_length] at this
    rw [lb_get hj2] at hj
    have := Option.some.inj hj
    subst this
    rw [lb_byt]
    exact hc j _ (arrK_get _ _ _ _ hj2)
theorem ap0 {a : Array Value} : ∀ i v, a[i]? = some v → a[0 + i]? = some v := fun i v h => by rw [Nat.zero_add]; exact h
theorem pv0 {w : World} : ∀ (i : Nat) (l : List UInt8), ([] : List (List UInt8))[i]? = some l → ∃ u, ([] : List Value)[i]? = some u ∧ Sl w u l := fun i l h => by simp at h
theorem pvc {w : World} {ps : List (List UInt8)} {vs : List Value} {v : Value} {m : List UInt8} (h : Sl w v m) (k : ∀ (i : Nat) (l : List UInt8), ps[i]? = some l → ∃ u, vs[i]? = some u ∧ Sl w u l) :
    ∀ (i : Nat) (l : List UInt8), (m :: ps)[i]? = some l → ∃ u, (v :: vs)[i]? = some u ∧ Sl w u l
  | 0, l, hi => ⟨v, rfl, by
      have e : m = l := by simpa using hi
      subst e; exact h⟩
  | i + 1, l, hi => k i l (by simpa using hi)
theorem pss_blk {w : World} {g : Nat} {cs : Array Value} {ps : List (List UInt8)} {t : TypeId} (h : Blk w g cs t) (hv : ∀ (i : Nat) (l : List UInt8), ps[i]? = some l → ∃ u, cs.toList[i]? = some u ∧ Sl w u l) :
    ∀ (i : Nat) (l : List UInt8), ps[i]? = some l → ∃ ad u, some (⟨g, 0, none⟩ : Addr) = some ad ∧ w.cell? (ad.add i) = some u ∧ Sl w u l := fun i l hi => by
  obtain ⟨u, h1, h2⟩ := hv i l hi
  exact ⟨_, u, rfl, by rw [Addr.add_mid, blk_cell h, Nat.zero_add]; simpa using h1, h2⟩
end Go.Proofs.YtndnlbinnhdmbaaDoor

set_option linter.unusedSimpArgs false
set_option linter.unusedVariables false
namespace Go.Proofs.YtndnlbinnhdmbaaDoor
open Go.RowKit
def GR4 (w : World) : Prop := Rd w 1 (arrK .i64 64 kf4) ∧ Rd w 0 (arrK .i64 8 hf4)
theorem GR_ext4 {w W : World} (h : GR4 w) (e : Ext w W) : GR4 W := ⟨h.1.ext e, h.2.ext e⟩
/-! ### a word out of four bytes -/
/-! ### sums with one mask -/
/-! ### the bytes of the words -/
def bo4 (H : Nat → Int) (j : Nat) : UInt8 := u8 (ob4 H j).toNat
theorem bo_ob4 (H : Nat → Int) (j : Nat) : ((bo4 H j).toNat : Int) = ob4 H j := by
  have := w8_ok (sr4 (H (j / 4)) (8 * (3 - j % 4)))
  unfold bo4
  rw [u8_cast]
  unfold ob4
  omega
def wb4 (H : Nat → Int) (n : Nat) : List UInt8 := (List.range n).map (bo4 H)
theorem wb_length4 (H : Nat → Int) (n : Nat) : (wb4 H n).length = n := by simp [wb4]
/-- the sum as bytes, as a number -/
def smb4 (l : List UInt8) : List UInt8 := wb4 (Hs4 (pad4 l) (nb4 l.length)) 32
def hs4 (l : List UInt8) : Nat := le (smb4 l)
theorem smb_length4 (l : List UInt8) : (smb4 l).length = 32 := wb_length4 _ _
theorem smb_cells4 (l : List UInt8) : (arrK .u8 32 (sm4 l)).toList = bs8 (smb4 l) := by
  unfold arrK bs8 smb4 wb4
  rw [List.map_map]
  simp only [List.map_inj_left, Function.comp]
  intro j _
  rw [bo_ob4]; rfl
theorem smb_hs4 (F : List UInt8) : smb4 F = lb 32 (hs4 F) := (lb_le' (smb_length4 F)).symm
theorem sm_hs4 (F : List UInt8) : arrK .u8 32 (sm4 F) = arrK .u8 32 (byt (hs4 F)) := arrK_inj (by rw [smb_cells4, smb_hs4, bs8_lb, arrK_list])
theorem hs_lt4 (F : List UInt8) : hs4 F < 2 ^ 256 := by have := le_lt (smb4 F); rwa [smb_length4] at this
end Go.Proofs.YtndnlbinnhdmbaaDoor

set_option linter.unusedSimpArgs false
set_option linter.unusedVariables false
namespace Go.Proofs.YtndnlbinnhdmbaaDoor
set_option maxHeartbeats 3000000
set_option maxRecDepth 100000
open Go.RowKit
attribute [local irreducible] wpList wpTr wpX
theorem run_cvi {w : World} {o : Oper} {a : Act} {x : Operand} {c : UInt8} (ho : o.op = .convert 5 3 x) (hx : a.eval x = .int .u8 (c.toNat : Int)) : (execOp a.eval o).run Tryd.prog w = .ok (.value (.int .i64 (c.toNat : Int))) w := by
 have hc := c.toNat_lt
 have hw : IntKind.wrap .i64 (c.toNat : Int) = (c.toNat : Int) := by rw [IntKind.wrap_i64]; omega
 simp [execOp, ho, hx, convert, run_underlying Tryd.underlying5, run_underlying Tryd.underlying3, Sem.run_bind, Conv.intToInt, hw]
end Go.Proofs.YtndnlbinnhdmbaaDoor

set_option linter.unusedSimpArgs false
set_option linter.unusedVariables false
namespace Go.Proofs.YtndnlbinnhdmbaaDoor
set_option maxHeartbeats 1500000
set_option maxRecDepth 100000
open Go.RowKit
attribute [local irreducible] wpList wpTr wpX
set_option linter.unusedSimpArgs false
/-- what is laid: sha2's tables; the document's, if asked -/
def GT (hr : Prop) (w : World) : Prop := GS4 w ∧ (hr → GR4 w)
theorem GT_ext {q : Prop} {w W : World} (h : GT q w) (e : Ext w W) : GT q W := ⟨GS_ext4 h.1 e, fun x => GR_ext4 (h.2 x) e⟩
/-- a leaf's cells -/
def lf (k v : Nat) : Array Value := arrK .u8 32 (byt k) ++ arrK .u8 32 (byt v)
section
variable {k v : Nat}
theorem lf_size : (lf k v).size = 64 := by unfold lf; rw [Array.size_append, arrK_size, arrK_size]
theorem lf_one : (lf k v).all (·.oneCell') = true := by unfold lf; rw [Array.all_append, arrK_one, arrK_one]; rfl
theorem lf_k : ∀ i u, (arrK .u8 32 (byt k))[i]? = some u → (lf k v)[0 + i]? = some u := fun i u h => by rw [Nat.zero_add]; exact app_l h
theorem lf_v : ∀ i u, (arrK .u8 32 (byt v))[i]? = some u → (lf k v)[32 + i]? = some u := fun i u h => app_r (arrK_size _ _ _) h
end
/-- two bytes of a depth -/
def db (d : Int) : List UInt8 := [UInt8.ofNat (d / 256 % 256).toNat, UInt8.ofNat (d % 256).toNat]
theorem dbl (d : Int) : (db d).length = 2 := rfl
theorem ofN_cast {x : Int} (h0 : 0 ≤ x) (h1 : x < 256) : ((UInt8.ofNat x.toNat).toNat : Int) = x := by rw [UInt8.toNat_ofNat', Nat.mod_eq_of_lt (by omega)]; omega
theorem db_hi (d : Int) : IntKind.wrap .u8 (d / 256) = ((UInt8.ofNat (d / 256 % 256).toNat).toNat : Int) := by rw [ofN_cast (by omega) (by omega), IntKind.wrap_u8]
theorem db_lo (d : Int) : IntKind.wrap .u8 d = ((UInt8.ofNat (d % 256).toNat).toNat : Int) := by rw [ofN_cast (by omega) (by omega), IntKind.wrap_u8]
/-- the sums of which all is made -/
def sE : Nat := hs4 [2]
def sL (k v : Nat) : Nat := hs4 ([0] ++ lb 32 k ++ lb 32 v)
def sN (d : Int) (l r : Nat) : Nat := hs4 ([1] ++ db d ++ lb 32 l ++ lb 32 r)
theorem sumN4_c {H : Nat} {F : List UInt8} (hH : H = hs4 F) (ps : List (List UInt8)) (A : Option Addr) (c : Nat) (hF : ps.flatten = F) (hlen : F.length ≤ 70368744177664) (hpn : ps.length ≤ 9223372036854775000) (w : World) (hps : ∀ i l, ps[i]? = some l → ∃ ad u, A = some ad ∧ w.cell? (ad.add i) = some u ∧ Sl w u l) (hG : GS4 w) :
  Calls Tryd.prog 56 #[.slice A ps.length c] w fun e w' => Ret (.agg (arrK .u8 32 (byt H))) w w' e := by
 rw [hH, ← sm_hs4]; exact sum4_c ps A c F hF hlen hpn w hps hG
attribute [local irreducible] hs4

theorem empty_c {q : Prop} (w : World) (hG : GT q w) :
  Calls Tryd.prog 14 #[] w fun e w' => Ret (.agg (arrK .u8 32 (byt sE))) w w' e := by
 have hS := SH.nil [] w
 go_enter Tryd.func14, Tryd.ntmps14
 go_upto_region 0 with fail
 refine RL hS ?_
 clear hS
 refine MN (z := arrK .u8 32 (byt 0)) (t := 22) ?_
 intro p0_1
 refine MZ fun W hS => ?_
 go_upto_region 1 with fail
 refine RL hS ?_
 clear hS
 refine MO (m := [2]) (n := 1) (z := #[.int .u8 2]) ?_
 intro v1_2
 refine MB (z := #[v1_2]) (t := 33) (n := 1) (c := 1) ?_ (hr := fun W hS => run_bsv [v1_2] rfl rfl (vsc (sl_cells (hS.osl (i := 0) rfl)).1 vs0) Tryd.underlying77 (by kernel_rfl) (by kernel_rfl) rfl (by decide) (by decide))
 intro p2_3
 obtain ⟨U1, hU1⟩ := exn (hs4 ([2]))
 have HU1 := Lib.hid hU1
 clear hU1
 refine MC (v := .agg (arrK .u8 32 (byt U1))) (fun W hS => sumN4_c HU1.out [[2]] (some ⟨p2_3, 0, none⟩) 1 (by simp only [List.flatten_cons, List.flatten_nil, List.append_nil, List.nil_append, List.append_assoc, List.cons_append]) (by first | omega | (simp only [List.length_append, List.length_cons, List.length_nil, lb_length, dbl]; omega)) (by simp) W (pss_blk (hS.blk (i := 0) rfl) (pvc (hS.osl (i := 1) rfl) pv0)) (GS_ext4 hG.1 hS.ext)) ?_
 refine MR 2 ?_ 
 refine MZ fun W hS => ?_
 have e_ := HU1.out
 subst e_
 go_wp2
 exact bodyPost_ret (res_row rfl rfl (hS.blk (i := 2) rfl) (by kernel_rfl) (by rw [arrK_size]; kernel_rfl)) rfl ⟨rfl, hS.ext⟩
end Go.Proofs.YtndnlbinnhdmbaaDoor

set_option linter.unusedSimpArgs false
set_option linter.unusedVariables false
namespace Go.Proofs.YtndnlbinnhdmbaaDoor
set_option maxHeartbeats 1500000
set_option maxRecDepth 100000
open Go.RowKit
attribute [local irreducible] wpList
/-- bit i of a key -/
def kbit (f : Nat → Int) (i : Nat) : Int := f (i / 8) / 2 ^ (7 - i % 8) % 2
theorem div_byte {x : Int} {n : Nat} (h : 0 ≤ x ∧ x < 256) : 0 ≤ x / 2 ^ n ∧ x / 2 ^ n < 256 := by
  obtain ⟨a, rfl⟩ := Int.eq_ofNat_of_zero_le h.1
  rw [show ((a : Int) / 2 ^ n) = ((a / 2 ^ n : Nat) : Int) by rw [Int.natCast_ediv, Int.natCast_pow]; rfl]
  have h2 := Nat.div_le_self a (2 ^ n)
  have h3 := h.2
  clear h
  generalize a / 2 ^ n = q at *
  omega
section
variable {w : World} {o : Oper} {a : Act} {x y : Operand} {t t' : TypeId} {p : Int}
theorem run_shr_8 {P : Program} {k : IntKind} {n : Nat} (hn : n ≤ 8) (ho : o.op = .binOp .shr t x y t') (hx : a.eval x = .int .u8 p) (hy : a.eval y = .int k (n : Int)) : (execOp a.eval o).run P w = .ok (.value (.int .u8 (p / 2 ^ n))) w := by
  have h : min ((n : Int)).toNat IntKind.u8.bits = n := by rw [Int.toNat_natCast]; exact Nat.min_eq_left hn
  simp only [execOp, ho, hx, hy, eqGuard, binOp, Sem.run_bind]
  simp [Op.shift, h, go_sem, Sem.run_bind]
theorem run_cv8 (hp : 0 ≤ p ∧ p < 256) (ho : o.op = .convert 5 3 x) (hx : a.eval x = .int .u8 p) : (execOp a.eval o).run Tryd.prog w = .ok (.value (.int .i64 p)) w := by
  have hw : IntKind.wrap .i64 p = p := by rw [IntKind.wrap_i64]; omega
  simp [execOp, ho, hx, convert, run_underlying Tryd.underlying5, run_underlying Tryd.underlying3, Sem.run_bind, Conv.intToInt, hw]
theorem and_one (h : 0 ≤ p ∧ p < 256) : bits .and .i64 p 1 = p % 2 := bits_mask .i64 63 (by decide) wr63 1 (by decide) p h.1 (by omega)
end

theorem within_c (i : Nat) (hi : i < 256) (w : World) :
  Calls Tryd.prog 83 #[.int .i64 (i : Int)] w fun e w' => Ret (.bool true) w w' e := by
 have hi1 : (i : Int) < 256 := by omega
 have hi0 : (0 : Int) ≤ (i : Int) := by omega
 have off0 : Off [] w w := Off.refl _ _
 go_enter Tryd.func83, Tryd.ntmps83
 go_upto_region 1 with fail
 refine wp_region_lit ?_
 refine Lv ?_
 refine Lw ?_ (v := .bool true) (hv := by first | (go_simp; done) | (go_simp; omega))
 refine Lw ?_ (v := .bool true)
 refine Lv ?_
 refine Lw ?_ (v := .bool true) (hv := by first | (go_simp; done) | (go_simp; omega))
 refine Lw ?_ (v := .bool true)
 refine Lw ?_ (v := .bool true)
 refine wpL_nil ?_
 go_wp2
 exact bodyPost_ret (v := .bool true) (by simp only [results, Tryd.results83]; go_simp) rfl ⟨rfl, off0.ext⟩
theorem kbit_c (f : Nat → Int) (hf : ∀ j, 0 ≤ f j ∧ f j < 256) (i : Nat) (hi : i < 256) (w : World) :
  Calls Tryd.prog 61 #[.agg (arrK .u8 32 f), .int .i64 (i : Int)] w fun e w' => Ret (.int .i64 (kbit f i)) w w' e := by
 have hi1 : (i : Int) < 256 := by omega
 have hi0 : (0 : Int) ≤ (i : Int) := by omega
 have hD := div_byte (n := 7 - i % 8) (hf (i / 8))
 have hA := and_one hD
 clear hf
 have off0 : Off [] w w := Off.refl _ _
 go_enter Tryd.func61, Tryd.ntmps61
 go_upto_region 0 with fail
 refine wp_region_lit ?_
 refine Ln ?_ (z := arrK .u8 32 f) (t := 28)
 intro p2_1 W1 n_t2 hO h_
 replace off0 := off0.o hO
 have k_t2 := h_
 clear hO h_ n_t2
 refine Lw ?_ (v := .int .i64 0)
 refine wpL_nil ?_
 go_upto_region 1 with fail
 refine wp_region_lit ?_
 refine Lv ?_
 refine Lr ?_ (within_c i hi W1)
 intro W2 hO
 replace k_t2 := k_t2.o hO
 replace off0 := off0.o hO
 clear hO
 refine Lw ?_ (v := .bool false)
 refine wpL_nil ?_
 go_upto_region 3 with fail
 refine wp_region_lit ?_
 refine Lv ?_
 refine Lw ?_ (v := .int .i64 (((i / 8 : Nat) : Int))) (hv := by go_simp; (try simp only [IntKind.wrap_u64, IntKind.wrap_i64]); (try omega))
 refine Lw ?_ (v := .pointer (some ⟨p2_1, 0 + (i / 8), none⟩)) (hv := run_ixarr (m := 32) (by decide) (by omega) Tryd.underlying28 (by kernel_rfl) rfl rfl rfl)
 refine Lg ?_ k_t2 (v := .int .u8 (f (i / 8))) (hj := by rw [Nat.zero_add]; exact arrK_get _ _ _ _ (by omega))
 refine Lv ?_
 refine Lw ?_ (v := .int .i64 (((i % 8 : Nat) : Int))) (hv := by go_simp; (try rw [Int.tmod_eq_emod_of_nonneg (by omega)]); (try omega))
 refine Lw ?_ (v := .int .i64 (((7 - i % 8 : Nat) : Int))) (hv := by go_simp; (try simp only [IntKind.wrap_u64, IntKind.wrap_i64]); (try omega))
 refine Lw ?_ (v := .int .u8 (f (i / 8) / 2 ^ (7 - i % 8))) (hv := by exact run_shr_8 (n := 7 - i % 8) (by omega) rfl rfl rfl)
 refine Lw ?_ (v := .int .i64 (f (i / 8) / 2 ^ (7 - i % 8))) (hv := by exact run_cv8 hD rfl rfl)
 refine Lw ?_ (v := .int .i64 (kbit f i)) (hv := by unfold kbit; rw [← hA]; exact run_and_i rfl rfl rfl)
 refine Lv ?_
 refine wpL_nil ?_
 go_wp2
 exact bodyPost_ret (v := .int .i64 (kbit f i)) (by simp only [results, Tryd.results61]; go_simp) rfl ⟨rfl, off0.ext⟩
end Go.Proofs.YtndnlbinnhdmbaaDoor

set_option linter.unusedSimpArgs false
set_option linter.unusedVariables false
namespace Go.Proofs.YtndnlbinnhdmbaaDoor
set_option maxHeartbeats 1500000
set_option maxRecDepth 100000
open Go.RowKit
attribute [local irreducible] wpList
def kcomF (f g : Nat → Int) : Nat → Nat → Nat
  | 0, i => i
  | n + 1, i => if kbit f i = kbit g i then kcomF f g n (i + 1) else i
def kcom (f g : Nat → Int) : Nat := kcomF f g 256 0
theorem kcom_step {f g : Nat → Int} {i : Nat} (h : i < 256) : kcomF f g (256 - i) i = if kbit f i = kbit g i then kcomF f g (256 - (i + 1)) (i + 1) else i := by
  rw [show 256 - i = (256 - (i + 1)) + 1 by omega]; rfl

end Go.Proofs.YtndnlbinnhdmbaaDoor

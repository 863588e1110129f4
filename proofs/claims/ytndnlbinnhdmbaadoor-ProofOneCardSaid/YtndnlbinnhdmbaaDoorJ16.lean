/- Trees: the sums of which all is made, the program's and the document's. Conditions: the tables hold their numbers. bits of a key. Conditions: the bit's number is below 256, the key's parts are bytes. how many bits two keys begin with alike: the document's. Conditions: the keys' parts are bytes. Trees in memory: what a tree is, Root, Len, one, join. Conditions: the tables hold their numbers. -/
import Derived.Test.YtndnlbinnhdmbaaDoorSqI
import Derived.Test.YtndnlbinnhdmbaaDoorSqJ
import Derived.Test.YtndnlbinnhdmbaaDoorGc
import Derived.Test.YtndnlbinnhdmbaaDoorJ11
set_option linter.unusedSimpArgs false
set_option linter.unusedVariables false
namespace Go.Proofs.YtndnlbinnhdmbaaDoor
set_option maxHeartbeats 1500000
set_option maxRecDepth 100000
open Go.RowKit
attribute [local irreducible] wpList wpTr wpX
set_option linter.unusedSimpArgs false
/-- what is laid: sha2's tables; the document's, if asked -/
def GT (hr : Prop) (w : World) : Prop := GS4 w ∧ (hr → GR4 w)
theorem GT_ext {q : Prop} {w W : World} (h : GT q w) (e : Ext w W) : GT q W := ⟨GS_ext4 h.1 e, fun x => GR_ext4 (h.2 x) e⟩
/-- a leaf's cells -/
def lf (k v : Nat) : Array Value := arrK .u8 32 (byt k) ++ arrK .u8 32 (byt v)
section
variable {k v : Nat}
theorem lf_size : (lf k v).size = 64 := by unfold lf; rw [Array.size_append, arrK_size, arrK_size]
theorem lf_one : (lf k v).all (·.oneCell') = true := by unfold lf; rw [Array.all_append, arrK_one, arrK_one]; rfl
theorem lf_k : ∀ i u, (arrK .u8 32 (byt k))[i]? = some u → (lf k v)[0 + i]? = some u := fun i u h => by rw [Nat.zero_add]; exact app_l h
theorem lf_v : ∀ i u, (arrK .u8 32 (byt v))[i]? = some u → (lf k v)[32 + i]? = some u := fun i u h => app_r (arrK_size _ _ _) h
end
/-- two bytes of a depth -/
def db (d : Int) : List UInt8 := [UInt8.ofNat (d / 256 % 256).toNat, UInt8.ofNat (d % 256).toNat]
theorem dbl (d : Int) : (db d).length = 2 := rfl
theorem ofN_cast {x : Int} (h0 : 0 ≤ x) (h1 : x < 256) : ((UInt8.ofNat x.toNat).toNat : Int) = x := by rw [UInt8.toNat_ofNat', Nat.mod_eq_of_lt (by omega)]; omega
theorem db_hi (d : Int) : IntKind.wrap .u8 (d / 256) = ((UInt8.ofNat (d / 256 % 256).toNat).toNat : Int) := by rw [ofN_cast (by omega) (by omega), IntKind.wrap_u8]
theorem db_lo (d : Int) : IntKind.wrap .u8 d = ((UInt8.ofNat (d % 256).toNat).toNat : Int) := by rw [ofN_cast (by omega) (by omega), IntKind.wrap_u8]
/-- the sums of which all is made -/
def sE : Nat := hs4 [2]
def sL (k v : Nat) : Nat := hs4 ([0] ++ lb 32 k ++ lb 32 v)
def sN (d : Int) (l r : Nat) : Nat := hs4 ([1] ++ db d ++ lb 32 l ++ lb 32 r)
theorem sumN4_c {H : Nat} {F : List UInt8} (hH : H = hs4 F) (ps : List (List UInt8)) (A : Option Addr) (c : Nat) (hF : ps.flatten = F) (hlen : F.length ≤ 70368744177664) (hpn : ps.length ≤ 9223372036854775000) (w : World) (hps : ∀ i l, ps[i]? = some l → ∃ ad u, A = some ad ∧ w.cell? (ad.add i) = some u ∧ Sl w u l) (hG : GS4 w) :
  Calls Tryd.prog 56 #[.slice A ps.length c] w fun e w' => Ret (.agg (arrK .u8 32 (byt H))) w w' e := by
 rw [hH, ← sm_hs4]; exact sum4_c ps A c F hF hlen hpn w hps hG
theorem rsumN4_c {H : Nat} {l : List UInt8} (hH : H = hs4 l) (hlen : l.length ≤ 70368744177664) (w : World) (hG : GR4 w) : Calls Tryd.prog 40 #[str l] w fun e w' => Ret (str (lb 32 H)) w w' e := by
 rw [hH, ← smb_hs4]; exact rsum4_c l hlen w hG
attribute [local irreducible] hs4

theorem empty_c {q : Prop} (w : World) (hG : GT q w) :
  Calls Tryd.prog 14 #[] w fun e w' => Ret (.agg (arrK .u8 32 (byt sE))) w w' e := by
 have hS := SH.nil [] w
 go_enter Tryd.func14, Tryd.ntmps14
 go_upto_region 0 with fail
 refine RL hS ?_
 clear hS
 refine MN (z := arrK .u8 32 (byt 0)) (t := 22) ?_
 intro p0_1
 refine MZ fun W hS => ?_
 go_upto_region 1 with fail
 refine RL hS ?_
 clear hS
 refine MO (m := [2]) (n := 1) (z := #[.int .u8 2]) ?_
 intro v1_2
 refine MB (z := #[v1_2]) (t := 33) (n := 1) (c := 1) ?_ (hr := fun W hS => run_bsv [v1_2] rfl rfl (vsc (sl_cells (hS.osl (i := 0) rfl)).1 vs0) Tryd.underlying77 (by kernel_rfl) (by kernel_rfl) rfl (by decide) (by decide))
 intro p2_3
 obtain ⟨U1, hU1⟩ := exn (hs4 ([2]))
 have HU1 := Lib.hid hU1
 clear hU1
 refine MC (v := .agg (arrK .u8 32 (byt U1))) (fun W hS => sumN4_c HU1.out [[2]] (some ⟨p2_3, 0, none⟩) 1 (by simp only [List.flatten_cons, List.flatten_nil, List.append_nil, List.nil_append, List.append_assoc, List.cons_append]) (by first | omega | (simp only [List.length_append, List.length_cons, List.length_nil, lb_length, dbl]; omega)) (by simp) W (pss_blk (hS.blk (i := 0) rfl) (pvc (hS.osl (i := 1) rfl) pv0)) (GS_ext4 hG.1 hS.ext)) ?_
 refine MR 2 ?_ 
 refine MZ fun W hS => ?_
 have e_ := HU1.out
 subst e_
 go_wp2
 exact bodyPost_ret (res_row rfl rfl (hS.blk (i := 2) rfl) (by kernel_rfl) (by rw [arrK_size]; kernel_rfl)) rfl ⟨rfl, hS.ext⟩
end Go.Proofs.YtndnlbinnhdmbaaDoor

set_option linter.unusedSimpArgs false
set_option linter.unusedVariables false
namespace Go.Proofs.YtndnlbinnhdmbaaDoor
set_option maxHeartbeats 1500000
set_option maxRecDepth 100000
open Go.RowKit
attribute [local irreducible] wpList
/-- bit i of a key -/
def kbit (f : Nat → Int) (i : Nat) : Int := f (i / 8) / 2 ^ (7 - i % 8) % 2
theorem div_byte {x : Int} {n : Nat} (h : 0 ≤ x ∧ x < 256) : 0 ≤ x / 2 ^ n ∧ x / 2 ^ n < 256 := by
  obtain ⟨a, rfl⟩ := Int.eq_ofNat_of_zero_le h.1
  rw [show ((a : Int) / 2 ^ n) = ((a / 2 ^ n : Nat) : Int) by rw [Int.natCast_ediv, Int.natCast_pow]; rfl]
  have h2 := Nat.div_le_self a (2 ^ n)
  have h3 := h.2
  clear h
  generalize a / 2 ^ n = q at *
  omega
section
variable {w : World} {o : Oper} {a : Act} {x y : Operand} {t t' : TypeId} {p : Int}
theorem run_shr_8 {P : Program} {k : IntKind} {n : Nat} (hn : n ≤ 8) (ho : o.op = .binOp .shr t x y t') (hx : a.eval x = .int .u8 p) (hy : a.eval y = .int k (n : Int)) : (execOp a.eval o).run P w = .ok (.value (.int .u8 (p / 2 ^ n))) w := by
  have h : min ((n : Int)).toNat IntKind.u8.bits = n := by rw [Int.toNat_natCast]; exact Nat.min_eq_left hn
  simp only [execOp, ho, hx, hy, eqGuard, binOp, Sem.run_bind]
  simp [Op.shift, h, go_sem, Sem.run_bind]
theorem run_cv8 (hp : 0 ≤ p ∧ p < 256) (ho : o.op = .convert 5 3 x) (hx : a.eval x = .int .u8 p) : (execOp a.eval o).run Tryd.prog w = .ok (.value (.int .i64 p)) w := by
  have hw : IntKind.wrap .i64 p = p := by rw [IntKind.wrap_i64]; omega
  simp [execOp, ho, hx, convert, run_underlying Tryd.underlying5, run_underlying Tryd.underlying3, Sem.run_bind, Conv.intToInt, hw]
theorem and_one (h : 0 ≤ p ∧ p < 256) : bits .and .i64 p 1 = p % 2 := bits_mask .i64 63 (by decide) wr63 1 (by decide) p h.1 (by omega)
end

theorem within_c (i : Nat) (hi : i < 256) (w : World) :
  Calls Tryd.prog 83 #[.int .i64 (i : Int)] w fun e w' => Ret (.bool true) w w' e := by
 have hi1 : (i : Int) < 256 := by omega
 have hi0 : (0 : Int) ≤ (i : Int) := by omega
 have off0 : Off [] w w := Off.refl _ _
 go_enter Tryd.func83, Tryd.ntmps83
 go_upto_region 1 with fail
 refine wp_region_lit ?_
 refine Lv ?_
 refine Lw ?_ (v := .bool true) (hv := by first | (go_simp; done) | (go_simp; omega))
 refine Lw ?_ (v := .bool true)
 refine Lv ?_
 refine Lw ?_ (v := .bool true) (hv := by first | (go_simp; done) | (go_simp; omega))
 refine Lw ?_ (v := .bool true)
 refine Lw ?_ (v := .bool true)
 refine wpL_nil ?_
 go_wp2
 exact bodyPost_ret (v := .bool true) (by simp only [results, Tryd.results83]; go_simp) rfl ⟨rfl, off0.ext⟩
theorem kbit_c (f : Nat → Int) (hf : ∀ j, 0 ≤ f j ∧ f j < 256) (i : Nat) (hi : i < 256) (w : World) :
  Calls Tryd.prog 61 #[.agg (arrK .u8 32 f), .int .i64 (i : Int)] w fun e w' => Ret (.int .i64 (kbit f i)) w w' e := by
 have hi1 : (i : Int) < 256 := by omega
 have hi0 : (0 : Int) ≤ (i : Int) := by omega
 have hD := div_byte (n := 7 - i % 8) (hf (i / 8))
 have hA := and_one hD
 clear hf
 have off0 : Off [] w w := Off.refl _ _
 go_enter Tryd.func61, Tryd.ntmps61
 go_upto_region 0 with fail
 refine wp_region_lit ?_
 refine Ln ?_ (z := arrK .u8 32 f) (t := 28)
 intro p2_1 W1 n_t2 hO h_
 replace off0 := off0.o hO
 have k_t2 := h_
 clear hO h_ n_t2
 refine Lw ?_ (v := .int .i64 0)
 refine wpL_nil ?_
 go_upto_region 1 with fail
 refine wp_region_lit ?_
 refine Lv ?_
 refine Lr ?_ (within_c i hi W1)
 intro W2 hO
 replace k_t2 := k_t2.o hO
 replace off0 := off0.o hO
 clear hO
 refine Lw ?_ (v := .bool false)
 refine wpL_nil ?_
 go_upto_region 3 with fail
 refine wp_region_lit ?_
 refine Lv ?_
 refine Lw ?_ (v := .int .i64 (((i / 8 : Nat) : Int))) (hv := by go_simp; (try simp only [IntKind.wrap_u64, IntKind.wrap_i64]); (try omega))
 refine Lw ?_ (v := .pointer (some ⟨p2_1, 0 + (i / 8), none⟩)) (hv := run_ixarr (m := 32) (by decide) (by omega) Tryd.underlying28 (by kernel_rfl) rfl rfl rfl)
 refine Lg ?_ k_t2 (v := .int .u8 (f (i / 8))) (hj := by rw [Nat.zero_add]; exact arrK_get _ _ _ _ (by omega))
 refine Lv ?_
 refine Lw ?_ (v := .int .i64 (((i % 8 : Nat) : Int))) (hv := by go_simp; (try rw [Int.tmod_eq_emod_of_nonneg (by omega)]); (try omega))
 refine Lw ?_ (v := .int .i64 (((7 - i % 8 : Nat) : Int))) (hv := by go_simp; (try simp only [IntKind.wrap_u64, IntKind.wrap_i64]); (try omega))
 refine Lw ?_ (v := .int .u8 (f (i / 8) / 2 ^ (7 - i % 8))) (hv := by exact run_shr_8 (n := 7 - i % 8) (by omega) rfl rfl rfl)
 refine Lw ?_ (v := .int .i64 (f (i / 8) / 2 ^ (7 - i % 8))) (hv := by exact run_cv8 hD rfl rfl)
 refine Lw ?_ (v := .int .i64 (kbit f i)) (hv := by unfold kbit; rw [← hA]; exact run_and_i rfl rfl rfl)
 refine Lv ?_
 refine wpL_nil ?_
 go_wp2
 exact bodyPost_ret (v := .int .i64 (kbit f i)) (by simp only [results, Tryd.results61]; go_simp) rfl ⟨rfl, off0.ext⟩
theorem rbit_c (f : Nat → Int) (hf : ∀ j, 0 ≤ f j ∧ f j < 256) (i : Nat) (hi : i < 256) (w : World) :
  Calls Tryd.prog 62 #[.agg (arrK .u8 32 f), .int .i64 (i : Int)] w fun e w' => Ret (.int .i64 (kbit f i)) w w' e := by
 have hi1 : (i : Int) < 256 := by omega
 have hi0 : (0 : Int) ≤ (i : Int) := by omega
 have hD := div_byte (n := 7 - i % 8) (hf (i / 8))
 have hA := and_one hD
 clear hf
 have off0 : Off [] w w := Off.refl _ _
 go_enter Tryd.func62, Tryd.ntmps62
 go_upto_region 0 with fail
 refine wp_region_lit ?_
 refine Ln ?_ (z := arrK .u8 32 f) (t := 22)
 intro p2_1 W1 n_t2 hO h_
 replace off0 := off0.o hO
 have k_t2 := h_
 clear hO h_ n_t2
 refine Lw ?_ (v := .int .i64 0)
 refine wpL_nil ?_
 go_upto_region 1 with fail
 refine wp_region_lit ?_
 refine Lv ?_
 refine Lw ?_ (v := .bool false) (hv := by first | (go_simp; done) | (go_simp; omega))
 refine Lw ?_ (v := .bool false)
 refine Lv ?_
 refine Lw ?_ (v := .bool false) (hv := by first | (go_simp; done) | (go_simp; omega))
 refine Lw ?_ (v := .bool false)
 refine wpL_nil ?_
 go_upto_region 3 with fail
 refine wp_region_lit ?_
 refine Lv ?_
 refine Lw ?_ (v := .int .i64 (((i / 8 : Nat) : Int))) (hv := by go_simp; (try simp only [IntKind.wrap_u64, IntKind.wrap_i64]); (try omega))
 refine Lw ?_ (v := .pointer (some ⟨p2_1, 0 + (i / 8), none⟩)) (hv := run_ixarr (m := 32) (by decide) (by omega) Tryd.underlying22 (by kernel_rfl) rfl rfl rfl)
 refine Lg ?_ k_t2 (v := .int .u8 (f (i / 8))) (hj := by rw [Nat.zero_add]; exact arrK_get _ _ _ _ (by omega))
 refine Lv ?_
 refine Lw ?_ (v := .int .i64 (((i % 8 : Nat) : Int))) (hv := by go_simp; (try rw [Int.tmod_eq_emod_of_nonneg (by omega)]); (try omega))
 refine Lw ?_ (v := .int .i64 (((7 - i % 8 : Nat) : Int))) (hv := by go_simp; (try simp only [IntKind.wrap_u64, IntKind.wrap_i64]); (try omega))
 refine Lw ?_ (v := .int .u8 (f (i / 8) / 2 ^ (7 - i % 8))) (hv := by exact run_shr_8 (n := 7 - i % 8) (by omega) rfl rfl rfl)
 refine Lw ?_ (v := .int .i64 (f (i / 8) / 2 ^ (7 - i % 8))) (hv := by exact run_cv8 hD rfl rfl)
 refine Lw ?_ (v := .int .i64 (kbit f i)) (hv := by unfold kbit; first | (go_simp; done) | (go_simp; (try rw [Int.tmod_eq_emod_of_nonneg hD.1])))
 refine Lv ?_
 refine wpL_nil ?_
 go_wp2
 exact bodyPost_ret (v := .int .i64 (kbit f i)) (by simp only [results, Tryd.results62]; go_simp) rfl ⟨rfl, off0.ext⟩
end Go.Proofs.YtndnlbinnhdmbaaDoor

set_option linter.unusedSimpArgs false
set_option linter.unusedVariables false
namespace Go.Proofs.YtndnlbinnhdmbaaDoor
set_option maxHeartbeats 1500000
set_option maxRecDepth 100000
open Go.RowKit
attribute [local irreducible] wpList
def kcomF (f g : Nat → Int) : Nat → Nat → Nat
  | 0, i => i
  | n + 1, i => if kbit f i = kbit g i then kcomF f g n (i + 1) else i
def kcom (f g : Nat → Int) : Nat := kcomF f g 256 0
theorem kcom_step {f g : Nat → Int} {i : Nat} (h : i < 256) : kcomF f g (256 - i) i = if kbit f i = kbit g i then kcomF f g (256 - (i + 1)) (i + 1) else i := by
  rw [show 256 - i = (256 - (i + 1)) + 1 by omega]; rfl

end Go.Proofs.YtndnlbinnhdmbaaDoor

set_option linter.unusedSimpArgs false
set_option linter.unusedVariables false
namespace Go.Proofs.YtndnlbinnhdmbaaDoor
set_option maxHeartbeats 1500000
set_option maxRecDepth 100000
open Go.RowKit
attribute [local irreducible] wpList wpTr wpX
set_option linter.unusedSimpArgs false
/-- a tree: nothing, a leaf, a node -/
inductive TR where
 | nil : TR
 | leaf : Nat → Nat → TR
 | node : Nat → TR → TR → TR
def rs : TR → Nat
 | .nil => sE
 | .leaf k v => sL k v
 | .node d l r => sN (d : Int) (rs l) (rs r)
def cnt : TR → Nat
 | .nil => 0
 | .leaf _ _ => 1
 | .node _ l r => cnt l + cnt r
/-- a node's cells -/
def ndc (k v : Nat) (s0 s1 : Value) (sp : Bool) (S n : Nat) : Array Value := lf k v ++ (#[s0, s1, .bool sp] ++ (arrK .u8 32 (byt S) ++ #[.int .i64 (n : Int)]))
section
variable {k v S n : Nat} {s0 s1 : Value} {sp : Bool}
theorem nd_leaf : ∀ i u, (lf k v)[i]? = some u → (ndc k v s0 s1 sp S n)[0 + i]? = some u := fun i u h => by rw [Nat.zero_add]; exact app_l h
theorem nd_r {i : Nat} {u : Value} (h : (#[s0, s1, .bool sp] ++ (arrK .u8 32 (byt S) ++ #[.int .i64 (n : Int)]))[i]? = some u) : (ndc k v s0 s1 sp S n)[64 + i]? = some u := app_r lf_size h
theorem nd_s0 : (ndc k v s0 s1 sp S n)[64]? = some s0 := nd_r (i := 0) (app_l rfl)
theorem nd_s1 : (ndc k v s0 s1 sp S n)[65]? = some s1 := nd_r (i := 1) (app_l rfl)
theorem nd_sp : (ndc k v s0 s1 sp S n)[66]? = some (.bool sp) := nd_r (i := 2) (app_l rfl)
theorem nd_sum : ∀ i u, (arrK .u8 32 (byt S))[i]? = some u → (ndc k v s0 s1 sp S n)[67 + i]? = some u := fun i u h => by
 have h1 : (#[s0, s1, Value.bool sp] ++ (arrK .u8 32 (byt S) ++ #[.int .i64 (n : Int)]))[3 + i]? = some u := app_r rfl (app_l h)
 have := nd_r (k := k) (v := v) h1
 rw [← Nat.add_assoc] at this; exact this
end
abbrev ptr (b : Nat) : Value := .pointer (some ⟨b, 0, none⟩)
abbrev nlp : Value := .pointer none
/-- the value u is the tree T in the world w -/
def TA (w : World) : TR → Value → Prop
 | .nil, u => u = nlp
 | .leaf k v, u => ∃ b, u = ptr b ∧ Blk w b (ndc k v nlp nlp false (sL k v) 1) 105 ∧ k < 2 ^ 256 ∧ v < 2 ^ 256
 | .node d l r, u => ∃ b s0 s1, u = ptr b ∧ Blk w b (ndc 0 0 s0 s1 true (rs (.node d l r)) (cnt l + cnt r)) 105 ∧ TA w l s0 ∧ TA w r s1
theorem ty_blk {w : World} {b : Nat} {cs : Array Value} {t : TypeId} (h : Blk w b cs t) : tyAt w b = some t := by unfold tyAt; rw [show w.heap[b]? = _ from h]
theorem TA.keep {w W : World} (e : ∀ k, k < w.heap.size → tyAt w k = some 105 → W.heap[k]? = w.heap[k]?) : ∀ {T : TR} {u : Value}, TA w T u → TA W T u
 | .nil, _, h => h
 | .leaf k v, _, ⟨b, h1, h2, h3⟩ => ⟨b, h1, (e b (blk_lt h2) (ty_blk h2)).trans h2, h3⟩
 | .node d l r, _, ⟨b, s0, s1, h1, h2, h3, h4⟩ => ⟨b, s0, s1, h1, (e b (blk_lt h2) (ty_blk h2)).trans h2, TA.keep e h3, TA.keep e h4⟩
theorem TA.ext {w W : World} {T : TR} {u : Value} (h : TA w T u) (k : Ext w W) : TA W T u := h.keep fun b hb _ => k.block b hb
theorem TA.holds {w : World} {T : TR} {u : Value} (h : TA w T u) : (As.t 105 fun W => TA W T u).holds w := ⟨h, fun _ _ e => h.keep e⟩
theorem TA.one {w : World} {T : TR} {u : Value} (h : TA w T u) : u.cells = #[u] ∧ u.oneCell' = true := by
 cases T with
 | nil => rw [show u = nlp from h]; exact ⟨rfl, rfl⟩
 | leaf k v => obtain ⟨b, rfl, _⟩ := h; exact ⟨rfl, rfl⟩
 | node d l r => obtain ⟨b, s0, s1, rfl, _⟩ := h; exact ⟨rfl, rfl⟩
theorem TA.pt {w : World} {T : TR} {u : Value} (h : TA w T u) : ∃ p, u = .pointer p := by
 cases T with
 | nil => exact ⟨_, h⟩
 | leaf k v => obtain ⟨b, h, _⟩ := h; exact ⟨_, h⟩
 | node d l r => obtain ⟨b, s0, s1, h, _⟩ := h; exact ⟨_, h⟩
/-- a tree that is one has a block -/
theorem TA.blk {w : World} {T : TR} {u : Value} (h : TA w T u) : (T = .nil ∧ u = nlp) ∨ ∃ b k v s0 s1 sp, u = ptr b ∧ Blk w b (ndc k v s0 s1 sp (rs T) (cnt T)) 105 := by
 cases T with
 | nil => exact .inl ⟨rfl, h⟩
 | leaf k v => obtain ⟨b, h1, h2, _⟩ := h; exact .inr ⟨b, k, v, _, _, _, h1, h2⟩
 | node d l r => obtain ⟨b, s0, s1, h1, h2, _⟩ := h; exact .inr ⟨b, 0, 0, s0, s1, _, h1, h2⟩
attribute [local irreducible] hs4 sE sL sN

theorem root_nil {q : Prop} (w : World) (hG : GT q w) :
  Calls Tryd.prog 26 #[nlp] w fun e w' => Ret (.agg (arrK .u8 32 (byt sE))) w w' e := by
 have hS := SH.nil [] w
 go_enter Tryd.func26, Tryd.ntmps26
 go_upto_region 0 with fail
 refine RL hS ?_
 clear hS
 refine MN (z := arrK .u8 32 (byt 0)) (t := 22) ?_
 intro p2_1
 refine MZ fun W hS => ?_
 go_upto_region 2 with fail
 refine RL hS ?_
 clear hS
 obtain ⟨U1, hU1⟩ := exn (sE)
 have HU1 := Lib.hid hU1
 clear hU1
 refine MC (v := .agg (arrK .u8 32 (byt U1))) (fun W hS => (by rw [HU1.out]; exact empty_c W (GT_ext hG hS.ext))) ?_
 refine MR 0 ?_ 
 refine MZ fun W hS => ?_
 have e_ := HU1.out
 subst e_
 go_wp2
 exact bodyPost_ret (res_row rfl rfl (hS.blk (i := 0) rfl) (by kernel_rfl) (by rw [arrK_size]; kernel_rfl)) rfl ⟨rfl, hS.ext⟩
theorem root_b (w : World) {b k v S n : Nat} {s0 s1 : Value} {sp : Bool} (hB : Blk w b (ndc k v s0 s1 sp S n) 105) :
  Calls Tryd.prog 26 #[ptr b] w fun e w' => Ret (.agg (arrK .u8 32 (byt S))) w w' e := by
 have hS := SH.nil [] w
 go_enter Tryd.func26, Tryd.ntmps26
 go_upto_region 0 with fail
 refine RL hS ?_
 clear hS
 refine MN (z := arrK .u8 32 (byt 0)) (t := 22) ?_
 intro p2_1
 refine MZ fun W hS => ?_
 go_upto_region 3 with fail
 refine RL hS ?_
 clear hS
 refine MV ?_
 refine MV ?_
 refine MV ?_
 refine MF (v := .agg (arrK .u8 32 (byt S))) (fun W hS => run_atrow (vs := (arrK .u8 32 (byt S)).toList) rfl rfl (fun i v hv => by rw [blk_cell (blk_step hB hS.ext)]; exact nd_sum i v (by simpa using hv)) (by kernel_rfl) (by first | kernel_rfl | (simp only [Array.length_toList]; rw [arrK_size]; kernel_rfl))) ?_
 refine MR 0 ?_ 
 refine MZ fun W hS => ?_
 go_wp2
 exact bodyPost_ret (res_row rfl rfl (hS.blk (i := 0) rfl) (by kernel_rfl) (by rw [arrK_size]; kernel_rfl)) rfl ⟨rfl, hS.ext⟩
theorem root_c {q : Prop} {T : TR} {u : Value} (w : World) (hG : GT q w) (h : TA w T u) : Calls Tryd.prog 26 #[u] w fun e w' => Ret (.agg (arrK .u8 32 (byt (rs T)))) w w' e := by
 rcases h.blk with ⟨rfl, rfl⟩ | ⟨b, k, v, s0, s1, sp, rfl, hB⟩
 ·
  exact root_nil w hG
 ·
  exact root_b w hB
end Go.Proofs.YtndnlbinnhdmbaaDoor

/- Trees in memory: what a tree is, Root, Len, one, join. Conditions: the tables hold their numbers. bits of a key. Conditions: the bit's number is below 256, the key's parts are bytes. how many bits two keys begin with alike: the document's. Conditions: the keys' parts are bytes. -/
import Derived.Test.YtejkmhgkkibafaaGreatDoorJ37
import Derived.Test.YtejkmhgkkibafaaGreatDoorGc
import Derived.Test.YtejkmhgkkibafaaGreatDoorJ32
import Derived.Test.YtejkmhgkkibafaaGreatDoorJ11
set_option linter.unusedSimpArgs false
set_option linter.unusedVariables false
namespace Go.Proofs.YtejkmhgkkibafaaGreatDoor
set_option maxHeartbeats 1500000
set_option maxRecDepth 100000
open Go.RowKit
attribute [local irreducible] wpList wpTr wpX
set_option linter.unusedSimpArgs false
/-- a tree: nothing, a leaf, a node -/
inductive TR where
 | nil : TR
 | leaf : Nat → Nat → TR
 | node : Nat → TR → TR → TR
def rs : TR → Nat
 | .nil => sE
 | .leaf k v => sL k v
 | .node d l r => sN (d : Int) (rs l) (rs r)
def cnt : TR → Nat
 | .nil => 0
 | .leaf _ _ => 1
 | .node _ l r => cnt l + cnt r
/-- a node's cells -/
def ndc (k v : Nat) (s0 s1 : Value) (sp : Bool) (S n : Nat) : Array Value := lf k v ++ (#[s0, s1, .bool sp] ++ (arrK .u8 32 (byt S) ++ #[.int .i64 (n : Int)]))
section
variable {k v S n : Nat} {s0 s1 : Value} {sp : Bool}
theorem nd_key : ∀ i u, (arrK .u8 32 (byt k))[i]? = some u → (ndc k v s0 s1 sp S n)[0 + i]? = some u := fun i u h => by have := lf_k (k := k) (v := v) i u h; rw [Nat.zero_add] at this ⊢; exact app_l this
theorem nd_r {i : Nat} {u : Value} (h : (#[s0, s1, .bool sp] ++ (arrK .u8 32 (byt S) ++ #[.int .i64 (n : Int)]))[i]? = some u) : (ndc k v s0 s1 sp S n)[64 + i]? = some u := app_r lf_size h
theorem nd_s0 : (ndc k v s0 s1 sp S n)[64]? = some s0 := nd_r (i := 0) (app_l rfl)
theorem nd_s1 : (ndc k v s0 s1 sp S n)[65]? = some s1 := nd_r (i := 1) (app_l rfl)
theorem nd_sp : (ndc k v s0 s1 sp S n)[66]? = some (.bool sp) := nd_r (i := 2) (app_l rfl)
theorem nd_sum : ∀ i u, (arrK .u8 32 (byt S))[i]? = some u → (ndc k v s0 s1 sp S n)[67 + i]? = some u := fun i u h => by
 have h1 : (#[s0, s1, Value.bool sp] ++ (arrK .u8 32 (byt S) ++ #[.int .i64 (n : Int)]))[3 + i]? = some u := app_r rfl (app_l h)
 have := nd_r (k := k) (v := v) h1
 rw [← Nat.add_assoc] at this; exact this
theorem nd_n : (ndc k v s0 s1 sp S n)[99]? = some (.int .i64 (n : Int)) := by
 have h1 : (#[s0, s1, Value.bool sp] ++ (arrK .u8 32 (byt S) ++ #[.int .i64 (n : Int)]))[3 + (32 + 0)]? = some (.int .i64 (n : Int)) := app_r rfl (app_r (arrK_size _ _ _) rfl)
 rw [show (99 : Nat) = 64 + (3 + (32 + 0)) from rfl]; exact nd_r h1
theorem nd_sides : ∀ i u, (#[s0, s1] : Array Value)[i]? = some u → (ndc k v s0 s1 sp S n)[64 + i]? = some u := fun i u h => by
 match i, h with
 | 0, h => exact nd_s0.trans h
 | 1, h => exact nd_s1.trans h
 | i + 2, h => simp at h
end
abbrev ptr (b : Nat) : Value := .pointer (some ⟨b, 0, none⟩)
abbrev nlp : Value := .pointer none
/-- the value u is the tree T in the world w -/
def TA (w : World) : TR → Value → Prop
 | .nil, u => u = nlp
 | .leaf k v, u => ∃ b, u = ptr b ∧ Blk w b (ndc k v nlp nlp false (sL k v) 1) 151 ∧ k < 2 ^ 256 ∧ v < 2 ^ 256
 | .node d l r, u => ∃ b s0 s1, u = ptr b ∧ Blk w b (ndc 0 0 s0 s1 true (rs (.node d l r)) (cnt l + cnt r)) 151 ∧ TA w l s0 ∧ TA w r s1
theorem ty_blk {w : World} {b : Nat} {cs : Array Value} {t : TypeId} (h : Blk w b cs t) : tyAt w b = some t := by unfold tyAt; rw [show w.heap[b]? = _ from h]
theorem TA.keep {w W : World} (e : ∀ k, k < w.heap.size → tyAt w k = some 151 → W.heap[k]? = w.heap[k]?) : ∀ {T : TR} {u : Value}, TA w T u → TA W T u
 | .nil, _, h => h
 | .leaf k v, _, ⟨b, h1, h2, h3⟩ => ⟨b, h1, (e b (blk_lt h2) (ty_blk h2)).trans h2, h3⟩
 | .node d l r, _, ⟨b, s0, s1, h1, h2, h3, h4⟩ => ⟨b, s0, s1, h1, (e b (blk_lt h2) (ty_blk h2)).trans h2, TA.keep e h3, TA.keep e h4⟩
theorem TA.ext {w W : World} {T : TR} {u : Value} (h : TA w T u) (k : Ext w W) : TA W T u := h.keep fun b hb _ => k.block b hb
theorem TA.holds {w : World} {T : TR} {u : Value} (h : TA w T u) : (As.t 151 fun W => TA W T u).holds w := ⟨h, fun _ _ e => h.keep e⟩
theorem TA.one {w : World} {T : TR} {u : Value} (h : TA w T u) : u.cells = #[u] ∧ u.oneCell' = true := by
 cases T with
 | nil => rw [show u = nlp from h]; exact ⟨rfl, rfl⟩
 | leaf k v => obtain ⟨b, rfl, _⟩ := h; exact ⟨rfl, rfl⟩
 | node d l r => obtain ⟨b, s0, s1, rfl, _⟩ := h; exact ⟨rfl, rfl⟩
theorem TA.pt {w : World} {T : TR} {u : Value} (h : TA w T u) : ∃ p, u = .pointer p := by
 cases T with
 | nil => exact ⟨_, h⟩
 | leaf k v => obtain ⟨b, h, _⟩ := h; exact ⟨_, h⟩
 | node d l r => obtain ⟨b, s0, s1, h, _⟩ := h; exact ⟨_, h⟩
/-- a tree that is one has a block -/
theorem TA.blk {w : World} {T : TR} {u : Value} (h : TA w T u) : (T = .nil ∧ u = nlp) ∨ ∃ b k v s0 s1 sp, u = ptr b ∧ Blk w b (ndc k v s0 s1 sp (rs T) (cnt T)) 151 := by
 cases T with
 | nil => exact .inl ⟨rfl, h⟩
 | leaf k v => obtain ⟨b, h1, h2, _⟩ := h; exact .inr ⟨b, k, v, _, _, _, h1, h2⟩
 | node d l r => obtain ⟨b, s0, s1, h1, h2, _⟩ := h; exact .inr ⟨b, 0, 0, s0, s1, _, h1, h2⟩
/-- the call hands back the tree T; nothing old has turned -/
def TRet (T : TR) (w w' : World) (e : Ending) : Prop := ∃ u, e = .returned u ∧ Ext w w' ∧ TA w' T u
theorem tcall {f : FuncId} {args : Array Value} {F : List Nat} {w W : World} {H : List As} {T : TR} (hS : SH F w W H) (hc : Calls Tryz.prog f args W fun e W' => TRet T W W' e) (ht : H.all (fun y => SH.tyOk y (.t 151 fun _ => True)) = true) :
  Calls Tryz.prog f args W fun e W' => ∃ u, e = .returned u ∧ SH F w W' (.t 151 (fun W => TA W T u) :: H) :=
 hc.mono fun e W' ⟨u, h1, h2, h3⟩ => ⟨u, h1, (hS.grow h2).fact h3.holds ht⟩
attribute [local irreducible] hs4 sE sL sN

theorem root_nil {q : Prop} (w : World) (hG : GT q w) :
  Calls Tryz.prog 51 #[nlp] w fun e w' => Ret (.agg (arrK .u8 32 (byt sE))) w w' e := by
 have hS := SH.nil [] w
 go_enter Tryz.func51, Tryz.ntmps51
 go_upto_region 0 with fail
 refine RL hS ?_
 clear hS
 refine MN (z := arrK .u8 32 (byt 0)) (t := 23) ?_
 intro p2_1
 refine MZ fun W hS => ?_
 go_upto_region 2 with fail
 refine RL hS ?_
 clear hS
 obtain ⟨U1, hU1⟩ := exn (sE)
 have HU1 := Lib.hid hU1
 clear hU1
 refine MC (v := .agg (arrK .u8 32 (byt U1))) (fun W hS => (by rw [HU1.out]; exact empty_c W (GT_ext hG hS.ext))) ?_
 refine MR 0 ?_ 
 refine MZ fun W hS => ?_
 have e_ := HU1.out
 subst e_
 go_wp2
 exact bodyPost_ret (res_row rfl rfl (hS.blk (i := 0) rfl) (by kernel_rfl) (by rw [arrK_size]; kernel_rfl)) rfl ⟨rfl, hS.ext⟩
theorem root_b (w : World) {b k v S n : Nat} {s0 s1 : Value} {sp : Bool} (hB : Blk w b (ndc k v s0 s1 sp S n) 151) :
  Calls Tryz.prog 51 #[ptr b] w fun e w' => Ret (.agg (arrK .u8 32 (byt S))) w w' e := by
 have hS := SH.nil [] w
 go_enter Tryz.func51, Tryz.ntmps51
 go_upto_region 0 with fail
 refine RL hS ?_
 clear hS
 refine MN (z := arrK .u8 32 (byt 0)) (t := 23) ?_
 intro p2_1
 refine MZ fun W hS => ?_
 go_upto_region 3 with fail
 refine RL hS ?_
 clear hS
 refine MV ?_
 refine MV ?_
 refine MV ?_
 refine MF (v := .agg (arrK .u8 32 (byt S))) (fun W hS => run_atrow (vs := (arrK .u8 32 (byt S)).toList) rfl rfl (fun i v hv => by rw [blk_cell (blk_step hB hS.ext)]; exact nd_sum i v (by simpa using hv)) (by kernel_rfl) (by first | kernel_rfl | (simp only [Array.length_toList]; rw [arrK_size]; kernel_rfl))) ?_
 refine MR 0 ?_ 
 refine MZ fun W hS => ?_
 go_wp2
 exact bodyPost_ret (res_row rfl rfl (hS.blk (i := 0) rfl) (by kernel_rfl) (by rw [arrK_size]; kernel_rfl)) rfl ⟨rfl, hS.ext⟩
theorem root_c {q : Prop} {T : TR} {u : Value} (w : World) (hG : GT q w) (h : TA w T u) : Calls Tryz.prog 51 #[u] w fun e w' => Ret (.agg (arrK .u8 32 (byt (rs T)))) w w' e := by
 rcases h.blk with ⟨rfl, rfl⟩ | ⟨b, k, v, s0, s1, sp, rfl, hB⟩
 ·
  exact root_nil w hG
 ·
  exact root_b w hB
theorem len_nil (w : World) :
  Calls Tryz.prog 182 #[nlp] w fun e w' => Ret (.int .i64 ((0 : Nat) : Int)) w w' e := by
 have hS := SH.nil [] w
 go_enter Tryz.func182, Tryz.ntmps182
 go_wp2
 exact bodyPost_ret (v := .int .i64 0) (by simp only [results, Tryz.results182]; go_simp) rfl ⟨rfl, hS.ext⟩
theorem len_b (w : World) {b k v S n : Nat} {s0 s1 : Value} {sp : Bool} (hB : Blk w b (ndc k v s0 s1 sp S n) 151) :
  Calls Tryz.prog 182 #[ptr b] w fun e w' => Ret (.int .i64 (n : Int)) w w' e := by
 have hS := SH.nil [] w
 go_enter Tryz.func182, Tryz.ntmps182
 go_upto_region 3 with fail
 refine RL hS ?_
 clear hS
 refine MV ?_
 refine MV ?_
 refine MV ?_
 refine MF (v := .int .i64 (n : Int)) (fun W hS => run_at rfl rfl (by rw [blk_cell (blk_step hB hS.ext)]; exact nd_n) (by kernel_rfl)) ?_
 refine MV ?_
 refine MZ fun W hS => ?_
 go_wp2
 exact bodyPost_ret (v := .int .i64 (n : Int)) (by simp only [results, Tryz.results182]; go_simp) rfl ⟨rfl, hS.ext⟩
theorem len_c {T : TR} {u : Value} (w : World) (h : TA w T u) : Calls Tryz.prog 182 #[u] w fun e w' => Ret (.int .i64 (cnt T : Int)) w w' e := by
 rcases h.blk with ⟨rfl, rfl⟩ | ⟨b, k, v, s0, s1, sp, rfl, hB⟩
 ·
  exact len_nil w
 ·
  exact len_b w hB
theorem one_c {q : Prop} {k v : Nat} (hk : k < 2 ^ 256) (hv : v < 2 ^ 256) (w : World) (hG : GT q w) :
  Calls Tryz.prog 161 #[.agg (lf k v)] w fun e w' => TRet (.leaf k v) w w' e := by
 have hS := SH.nil [] w
 go_enter Tryz.func161, Tryz.ntmps161
 go_upto_region 0 with fail
 refine RL hS ?_
 clear hS
 refine MN (z := lf k v) (t := 51) ?_
 intro p1_1
 refine MV ?_
 refine MZ fun W hS => ?_
 go_upto_region 1 with fail
 refine RTh (.q 0 (.q 1 (.e 2 (.q 3 (.e 4 (.q 5 .z)))))) hS ?_
 clear hS
 refine TL 0 ?_ (hs := by rw [lf_size]; kernel_rfl)
 refine TL 0 ?_ (hs := by rw [lf_size]; kernel_rfl)
 refine TE (fun _ h => h) ?_
 obtain ⟨U1, hU1⟩ := exn (sL k v)
 have HU1 := Lib.hid hU1
 clear hU1
 refine MC (v := .agg (arrK .u8 32 (byt U1))) (fun W hS => (by rw [HU1.out]; exact leafSum_c k v W (GT_ext hG hS.ext))) ?_
 refine TNh (fun W hS => hS) ?_
 refine TW ?_ (v := .agg (ndc k v nlp nlp false U1 1)) (hv := by intro W; first | rfl | kernel_rfl)
 refine TE (fun _ h => h) ?_
 refine MN (z := ndc k v nlp nlp false U1 1) (t := 151) ?_ (hr := by intro w; kernel_rfl)
 intro p7_2
 refine TNh (fun W hS => hS.pick [1]) ?_
 refine TV ?_
 refine TZ (fun _ h => h) fun W hS => ?_
 have e_ := HU1.out
 subst e_
 go_wp2
 exact bodyPost_ret (v := ptr p7_2) (by simp only [results, Tryz.results161]; go_simp) rfl ⟨_, rfl, hS.ext, ⟨_, rfl, (hS.blk (i := 0) rfl), hk, hv⟩⟩
theorem join_p {q : Prop} {L R : TR} {pa pb : Option Addr} (d : Nat) (hn : cnt L + cnt R < 4611686018427387904) (w : World) (hG : GT q w) (hl : TA w L (.pointer pa)) (hr_ : TA w R (.pointer pb)) :
  Calls Tryz.prog 163 #[.int .i64 (d : Int), .pointer pa, .pointer pb] w fun e w' => TRet (.node d L R) w w' e := by
 have hS := SH.nil [] w
 go_enter Tryz.func163, Tryz.ntmps163
 go_upto_region 1 with fail
 refine RL hS ?_
 clear hS
 refine MV ?_
 refine MV ?_
 refine MW ?_ (v := .agg #[.pointer pa, .pointer pb]) (hv := by intro W; first | rfl | kernel_rfl)
 refine MV ?_
 refine MV ?_
 refine MC (v := .agg (arrK .u8 32 (byt (rs L)))) (fun W hS => root_c W (GT_ext hG hS.ext) (TA.ext hl hS.ext)) ?_
 refine MV ?_
 refine MC (v := .agg (arrK .u8 32 (byt (rs R)))) (fun W hS => root_c W (GT_ext hG hS.ext) (TA.ext hr_ hS.ext)) ?_
 obtain ⟨U1, hU1⟩ := exn (sN (d : Int) (rs L) (rs R))
 have HU1 := Lib.hid hU1
 clear hU1
 refine MC (v := .agg (arrK .u8 32 (byt U1))) (fun W hS => (by rw [HU1.out]; exact nodeSum_c (d : Int) (rs L) (rs R) W (GT_ext hG hS.ext))) ?_
 refine MV ?_
 refine MC (v := .int .i64 (cnt L : Int)) (fun W hS => len_c W (TA.ext hl hS.ext)) ?_
 refine MV ?_
 refine MC (v := .int .i64 (cnt R : Int)) (fun W hS => len_c W (TA.ext hr_ hS.ext)) ?_
 refine MW ?_ (v := .int .i64 ((cnt L + cnt R : Nat) : Int)) (hv := by intro W; go_simp; (try simp only [IntKind.wrap_i64]); omega)
 refine MW ?_ (v := .agg (ndc 0 0 (.pointer pa) (.pointer pb) true U1 (cnt L + cnt R))) (hv := by intro W; first | rfl | kernel_rfl)
 refine MN (z := ndc 0 0 (.pointer pa) (.pointer pb) true U1 (cnt L + cnt R)) (t := 151) ?_ (hr := by intro w; kernel_rfl)
 intro p22_1
 refine MV ?_
 refine MZ fun W hS => ?_
 have e_ := HU1.out
 subst e_
 go_wp2
 exact bodyPost_ret (v := ptr p22_1) (by simp only [results, Tryz.results163]; go_simp) rfl ⟨_, rfl, hS.ext, ⟨_, _, _, rfl, (hS.blk (i := 0) rfl), hl.ext hS.ext, hr_.ext hS.ext⟩⟩
theorem join_c {q : Prop} {L R : TR} {a b : Value} (d : Nat) (hn : cnt L + cnt R < 4611686018427387904) (w : World) (hG : GT q w) (hl : TA w L a) (hr_ : TA w R b) :
  Calls Tryz.prog 163 #[.int .i64 (d : Int), a, b] w fun e w' => TRet (.node d L R) w w' e := by
 obtain ⟨pa, rfl⟩ := hl.pt
 obtain ⟨pb, rfl⟩ := hr_.pt
 exact join_p d hn w hG hl hr_
end Go.Proofs.YtejkmhgkkibafaaGreatDoor

set_option linter.unusedSimpArgs false
set_option linter.unusedVariables false
namespace Go.Proofs.YtejkmhgkkibafaaGreatDoor
set_option maxHeartbeats 1500000
set_option maxRecDepth 100000
open Go.RowKit
attribute [local irreducible] wpList
/-- bit i of a key -/
def kbit (f : Nat → Int) (i : Nat) : Int := f (i / 8) / 2 ^ (7 - i % 8) % 2
theorem div_byte {x : Int} {n : Nat} (h : 0 ≤ x ∧ x < 256) : 0 ≤ x / 2 ^ n ∧ x / 2 ^ n < 256 := by
  obtain ⟨a, rfl⟩ := Int.eq_ofNat_of_zero_le h.1
  rw [show ((a : Int) / 2 ^ n) = ((a / 2 ^ n : Nat) : Int) by rw [Int.natCast_ediv, Int.natCast_pow]; rfl]
  have h2 := Nat.div_le_self a (2 ^ n)
  have h3 := h.2
  clear h
  generalize a / 2 ^ n = q at *
  omega
section
variable {w : World} {o : Oper} {a : Act} {x y : Operand} {t t' : TypeId} {p : Int}
theorem run_shr_8 {P : Program} {k : IntKind} {n : Nat} (hn : n ≤ 8) (ho : o.op = .binOp .shr t x y t') (hx : a.eval x = .int .u8 p) (hy : a.eval y = .int k (n : Int)) : (execOp a.eval o).run P w = .ok (.value (.int .u8 (p / 2 ^ n))) w := by
  have h : min ((n : Int)).toNat IntKind.u8.bits = n := by rw [Int.toNat_natCast]; exact Nat.min_eq_left hn
  simp only [execOp, ho, hx, hy, eqGuard, binOp, Sem.run_bind]
  simp [Op.shift, h, go_sem, Sem.run_bind]
theorem run_cv8 (hp : 0 ≤ p ∧ p < 256) (ho : o.op = .convert 5 3 x) (hx : a.eval x = .int .u8 p) : (execOp a.eval o).run Tryz.prog w = .ok (.value (.int .i64 p)) w := by
  have hw : IntKind.wrap .i64 p = p := by rw [IntKind.wrap_i64]; omega
  simp [execOp, ho, hx, convert, run_underlying Tryz.underlying5, run_underlying Tryz.underlying3, Sem.run_bind, Conv.intToInt, hw]
theorem and_one (h : 0 ≤ p ∧ p < 256) : bits .and .i64 p 1 = p % 2 := bits_mask .i64 63 (by decide) wr63 1 (by decide) p h.1 (by omega)
end

theorem within_c (i : Nat) (hi : i < 256) (w : World) :
  Calls Tryz.prog 144 #[.int .i64 (i : Int)] w fun e w' => Ret (.bool true) w w' e := by
 have hi1 : (i : Int) < 256 := by omega
 have hi0 : (0 : Int) ≤ (i : Int) := by omega
 have off0 : Off [] w w := Off.refl _ _
 go_enter Tryz.func144, Tryz.ntmps144
 go_upto_region 1 with fail
 refine wp_region_lit ?_
 refine Lv ?_
 refine Lw ?_ (v := .bool true) (hv := by first | (go_simp; done) | (go_simp; omega))
 refine Lw ?_ (v := .bool true)
 refine Lv ?_
 refine Lw ?_ (v := .bool true) (hv := by first | (go_simp; done) | (go_simp; omega))
 refine Lw ?_ (v := .bool true)
 refine Lw ?_ (v := .bool true)
 refine wpL_nil ?_
 go_wp2
 exact bodyPost_ret (v := .bool true) (by simp only [results, Tryz.results144]; go_simp) rfl ⟨rfl, off0.ext⟩
theorem kbit_c (f : Nat → Int) (hf : ∀ j, 0 ≤ f j ∧ f j < 256) (i : Nat) (hi : i < 256) (w : World) :
  Calls Tryz.prog 100 #[.agg (arrK .u8 32 f), .int .i64 (i : Int)] w fun e w' => Ret (.int .i64 (kbit f i)) w w' e := by
 have hi1 : (i : Int) < 256 := by omega
 have hi0 : (0 : Int) ≤ (i : Int) := by omega
 have hD := div_byte (n := 7 - i % 8) (hf (i / 8))
 have hA := and_one hD
 clear hf
 have off0 : Off [] w w := Off.refl _ _
 go_enter Tryz.func100, Tryz.ntmps100
 go_upto_region 0 with fail
 refine wp_region_lit ?_
 refine Ln ?_ (z := arrK .u8 32 f) (t := 31)
 intro p2_1 W1 n_t2 hO h_
 replace off0 := off0.o hO
 have k_t2 := h_
 clear hO h_ n_t2
 refine Lw ?_ (v := .int .i64 0)
 refine wpL_nil ?_
 go_upto_region 1 with fail
 refine wp_region_lit ?_
 refine Lv ?_
 refine Lr ?_ (within_c i hi W1)
 intro W2 hO
 replace k_t2 := k_t2.o hO
 replace off0 := off0.o hO
 clear hO
 refine Lw ?_ (v := .bool false)
 refine wpL_nil ?_
 go_upto_region 3 with fail
 refine wp_region_lit ?_
 refine Lv ?_
 refine Lw ?_ (v := .int .i64 (((i / 8 : Nat) : Int))) (hv := by go_simp; (try simp only [IntKind.wrap_u64, IntKind.wrap_i64]); (try omega))
 refine Lw ?_ (v := .pointer (some ⟨p2_1, 0 + (i / 8), none⟩)) (hv := run_ixarr (m := 32) (by decide) (by omega) Tryz.underlying31 (by kernel_rfl) rfl rfl rfl)
 refine Lg ?_ k_t2 (v := .int .u8 (f (i / 8))) (hj := by rw [Nat.zero_add]; exact arrK_get _ _ _ _ (by omega))
 refine Lv ?_
 refine Lw ?_ (v := .int .i64 (((i % 8 : Nat) : Int))) (hv := by go_simp; (try rw [Int.tmod_eq_emod_of_nonneg (by omega)]); (try omega))
 refine Lw ?_ (v := .int .i64 (((7 - i % 8 : Nat) : Int))) (hv := by go_simp; (try simp only [IntKind.wrap_u64, IntKind.wrap_i64]); (try omega))
 refine Lw ?_ (v := .int .u8 (f (i / 8) / 2 ^ (7 - i % 8))) (hv := by exact run_shr_8 (n := 7 - i % 8) (by omega) rfl rfl rfl)
 refine Lw ?_ (v := .int .i64 (f (i / 8) / 2 ^ (7 - i % 8))) (hv := by exact run_cv8 hD rfl rfl)
 refine Lw ?_ (v := .int .i64 (kbit f i)) (hv := by unfold kbit; rw [← hA]; exact run_and_i rfl rfl rfl)
 refine Lv ?_
 refine wpL_nil ?_
 go_wp2
 exact bodyPost_ret (v := .int .i64 (kbit f i)) (by simp only [results, Tryz.results100]; go_simp) rfl ⟨rfl, off0.ext⟩
end Go.Proofs.YtejkmhgkkibafaaGreatDoor

set_option linter.unusedSimpArgs false
set_option linter.unusedVariables false
namespace Go.Proofs.YtejkmhgkkibafaaGreatDoor
set_option maxHeartbeats 1500000
set_option maxRecDepth 100000
open Go.RowKit
attribute [local irreducible] wpList
def kcomF (f g : Nat → Int) : Nat → Nat → Nat
  | 0, i => i
  | n + 1, i => if kbit f i = kbit g i then kcomF f g n (i + 1) else i
def kcom (f g : Nat → Int) : Nat := kcomF f g 256 0
theorem kcom_step {f g : Nat → Int} {i : Nat} (h : i < 256) : kcomF f g (256 - i) i = if kbit f i = kbit g i then kcomF f g (256 - (i + 1)) (i + 1) else i := by
  rw [show 256 - i = (256 - (i + 1)) + 1 by omega]; rfl

end Go.Proofs.YtejkmhgkkibafaaGreatDoor

/- custumallaw04.CodecBack. No conditions. -/
import Derived.Test.YteniajdmmffamaaCdVb
namespace Go.Proofs.Yteniajdmmffamaa
set_option linter.unusedSimpArgs false
set_option linter.unusedVariables false
open Go.RowKit
attribute [local irreducible] wpList wpTr
theorem neA_self (q : Pt) {K N : Int} {S T : List UInt8} (hS : S.length = 32) {o : Oper} {a : Act} {x y : Operand} {t2 : TypeId} {W : World} (ho : o.op = .binOp .neq 34 x y t2) (hx : a.eval x = .agg (partC K N S T)) (hy : a.eval y = .agg (partC K N S T)) :
  (execOp a.eval o).run Try.prog W = .ok (.value (.bool false)) W := by
 have hg : Try.prog.eqGuardType Try.prog.depth 34 = false := by kernel_rfl
 have h := run_neq_struct (P := Try.prog) W 34 (partC K N S T) (partC K N S T)
 rw [partC_self K N S T hS W] at h
 simp [execOp, ho, hx, hy, eqGuard, hg, h, Sem.run_bind]
theorem run_fa {P : Program} {s : TypeId} {fs : Array Field} {i off b e : Nat} (n : Nat) {o : Oper} {a : Act} {x : Operand} {W : World} (ho : o.op = .fieldAddr s x i) (hx : a.eval x = .pointer (some ⟨b, e, none⟩)) (hu : P.underlying s = some (.struct fs)) (hf : (fs[i]?).map (fun f => (f.offset, (P.info? f.type).map (·.size))) = some (off, some (n + 1))) :
  (execOp a.eval o).run P W = .ok (.value (.pointer (some ⟨b, e + off, none⟩))) W := by
 cases hq : fs[i]? with
 | none => simp [hq] at hf
 | some f =>
  simp only [hq, Option.map_some, Option.some.injEq, Prod.mk.injEq] at hf
  obtain ⟨ho2, hs⟩ := hf
  cases hi : P.info? f.type with
  | none => simp [hi] at hs
  | some j =>
   have hj : j.size = n + 1 := by simpa [hi] using hs
   simp [execOp, ho, hx, Instr.fieldAt, run_underlying hu, Sem.run_bind, hq, ho2, Instr.sureAddr, Addr.add_mid, fieldPlace, sizeOf, typeInfo, hi, hj]
theorem ptI {W : World} {gI cI n J : Nat} {e : List Value} (h : ∃ g c, Value.slice (some ⟨gI, 0, none⟩) n cI = .slice (some ⟨g, 0, none⟩) n c ∧ ∀ i x, e[i]? = some x → W.cell? ⟨g, J + i, none⟩ = some x) (i : Nat) {x : Value} (hx : e[i]? = some x) : W.cell? ⟨gI, 0 + J + i, none⟩ = some x := by
 obtain ⟨g, c, h1, h2⟩ := h
 injection h1 with h1
 injection h1 with h1
 injection h1 with h1
 subst h1
 rw [Nat.zero_add]
 exact h2 i x hx
theorem ptS {W : World} {gI cI n J : Nat} {q : Pt} (h : ∃ g c, Value.slice (some ⟨gI, 0, none⟩) n cI = .slice (some ⟨g, 0, none⟩) n c ∧ ∀ i x, (eP q)[i]? = some x → W.cell? ⟨g, J + i, none⟩ = some x) : ∀ i v, (bs8 q.S)[i]? = some v → W.cell? ⟨gI, 0 + J + 2 + i, none⟩ = some v := fun i v hv => by
 have := ptI h (2 + i) (x := v) (by unfold eP; rw [Array.getElem?_toList]; exact partC_sum _ _ _ _ i v hv)
 rw [← Nat.add_assoc] at this
 exact this
theorem ptT {q : Pt} : (eP q)[34]? = some (str q.text) := by unfold eP; rw [Array.getElem?_toList]; exact partC_text _ _ _ _ q.hS
theorem partW_size {q : Pt} : (partW q.kind q.N q.S q.text).size = 35 := by
 unfold partW
 exact partC_size (by split <;> simp [q.hS])
theorem partW_one {q : Pt} : (partW q.kind q.N q.S q.text).all (·.oneCell') = true := partC_one _ _ _ _

set_option maxRecDepth 100000 in
set_option maxHeartbeats 1500000 in
theorem codecBack_c (u : Value) (ps : List Pt) (c : UInt8) (w : World) (hps0 : Pts w u ps) :
  Calls Try.prog 5 #[u, .int .u8 (c.toNat : Int)] w fun e w' => Ret (.bool true) w w' e := by
 obtain ⟨A, c0, rfl⟩ := plen hps0
 have hps := Lib.hid hps0
 clear hps0
 have off0 : Off [] w w := Off.refl _ _
 have sz := off0.size
 go_enter Try.func5, Try.ntmps5
 go_upto_region 1 with fail
 refine wp_region_lit ?_
 refine wpL_val (v := .agg #[.slice none 0 0, .bool false]) (by rfl) (by first | rfl | (go_simp; done) | (go_simp; with_reducible rfl) | (go_simp; omega)) ?_
 try simp only [Act.put, nA, nB, nC]
 refine wpL_new (z := #[.slice none 0 0, .bool false]) (t := 31) (by rfl) (by first | kernel_rfl | (go_simp; done) | (go_simp; rfl)) ?_
 try simp only [Act.put, nA, nB, nC]
 intro p20_1 W1 n_t20 hO h_
 have fb_t20 : Fb p20_1 w.heap.size [] := fb_new (Nat.le_trans sz n_t20)
 replace off0 := off0.step hO i0
 replace sz := off0.size
 have k_t20 := h_
 clear hO h_ n_t20
 have ow_nw := own_nil W1
 have fr_nw : Fr (Value.ownBlock (.slice none 0 0)) w.heap.size [] := fr_none
 have ne_nw_t20 : Value.ownBlock (.slice none 0 0) ≠ some p20_1 := fun e_ => by cases e_
 (refine wpL_val (v := ?_) (by rfl) ?_ ?_; rotate_left 1; focus (go_simp; first | done | with_reducible rfl))
 try simp only [Act.put, nA, nB, nC]
 refine wpL_nil ?_
 have ow_in : Row 34 35 W1 (.slice none 0 0) [] := row_nil _ _ _
 have fr_in : Fr (Value.ownBlock (.slice none 0 0)) w.heap.size [] := fr_none
 have ne_in_t20 : Value.ownBlock (.slice none 0 0) ≠ some p20_1 := fun e_ => by cases e_
 have dj_in_nw : ∀ x, Value.ownBlock (.slice none 0 0) = some x → (Value.ownBlock (.slice none 0 0)) ≠ some x := fun x e_ => by cases e_
 go_wp2_with fail
 have ow_b := ow_nw
 clear ow_nw
 have fr_b := fr_nw
 have ne_b_t20 := ne_nw_t20
 have dj_b_in := (dj_symm dj_in_nw)
 go_loopw [6, 7] (fun sa si wr => ∃ (k : Nat) (v : Value) (vin : Value), (k ≤ ps.length ∧ k ≤ 20) ∧ (vin = sa) ∧ (si = .int .i64 (k : Int)) ∧ Off [] w wr ∧ Blk wr p20_1 #[v, .bool false] 31 ∧ Own wr v (fB (gs ps k)) ∧ Row 34 35 wr vin (eS (gs ps k)) ∧ Fr (Value.ownBlock v) w.heap.size [] ∧ (Value.ownBlock v) ≠ some p20_1 ∧ (∀ x, (Value.ownBlock v) = some x → (Value.ownBlock vin) ≠ some x) ∧ Fr (Value.ownBlock vin) w.heap.size [] ∧ (Value.ownBlock vin) ≠ some p20_1)
  (fun sa si _ => 20 - (intOf si).toNat)
 case atStart => exact ⟨0, _, _, ⟨Nat.zero_le _, by omega⟩, rfl, rfl, off0, k_t20, ow_b, ow_in, fr_b, ne_b_t20, dj_b_in, fr_in, ne_in_t20⟩
 case round =>
  obtain ⟨k, v, vin, ⟨hk, hk2⟩, rfl, rfl, off0, k_t20, ow_b, ow_in, fr_b, ne_b_t20, dj_b_in, fr_in, ne_in_t20⟩ := hrel
  obtain ⟨W2, eW_⟩ := wname off0
  subst eW_
  have sz := off0.size
  have hgl := gs_len ps k
  have hlen := fB_len (gs ps k)
  have hel := eS_len (gs ps k)
  by_cases hend : k < ps.length ∧ k < 20
  ·
   have _f := hend
   have hlt := hend.1
   go_upto_region 4 with fail
   refine wp_region_lit ?_
   (refine wpL_val (v := ?_) (by rfl) ?_ ?_; rotate_left 1; focus (go_simp; first | done | with_reducible rfl))
   try simp only [Act.put, nA, nB, nC]
   (refine wpL_val (v := ?_) (by rfl) ?_ ?_; rotate_left 1; focus (go_simp; first | done | with_reducible rfl))
   try simp only [Act.put, nA, nB, nC]
   (refine wpL_val (v := ?_) (by rfl) ?_ ?_; rotate_left 1; focus (go_simp; first | done | with_reducible rfl))
   try simp only [Act.put, nA, nB, nC]
   refine wpL_val (v := .bool true) (by rfl) (by first | rfl | (go_simp; done) | (go_simp; with_reducible rfl) | (go_simp; omega)) ?_
   try simp only [Act.put, nA, nB, nC]
   refine wpL_val (v := .bool true) (by rfl) (by first | rfl | (go_simp; done) | (go_simp; with_reducible rfl) | (go_simp; omega)) ?_
   try simp only [Act.put, nA, nB, nC]
   (refine wpL_val (v := ?_) (by rfl) ?_ ?_; rotate_left 1; focus (go_simp; first | done | with_reducible rfl))
   try simp only [Act.put, nA, nB, nC]
   refine wpL_val (v := .bool true) (by rfl) (by first | rfl | (go_simp; done) | (go_simp; with_reducible rfl) | (go_simp; omega)) ?_
   try simp only [Act.put, nA, nB, nC]
   refine wpL_val (v := .bool true) (by rfl) (by first | rfl | (go_simp; done) | (go_simp; with_reducible rfl) | (go_simp; omega)) ?_
   try simp only [Act.put, nA, nB, nC]
   refine wpL_nil ?_
   go_upto_region 6 with fail
   refine wp_region_lit ?_
   (refine wpL_val (v := ?_) (by rfl) ?_ ?_; rotate_left 1; focus (go_simp; first | done | with_reducible rfl))
   try simp only [Act.put, nA, nB, nC]
   (refine wpL_val (v := ?_) (by rfl) ?_ ?_; rotate_left 1; focus (go_simp; first | done | with_reducible rfl))
   try simp only [Act.put, nA, nB, nC]
   obtain ⟨q, ad, hq, rfl, hcell⟩ := pts_at hps.out off0 hlt
   have hpl : (ptB q).length ≤ 302 := ptB_len q
   refine wpL_ixp (j := k) hlt (by rfl) rfl rfl rfl ?_
   try simp only [Act.put, nA, nB, nC]
   refine wpL_ldp (q := q) hcell (by rfl) rfl rfl ?_
   try simp only [Act.put, nA, nB, nC]
   clear hcell
   refine wpL_ret (tame_q q W2) (by rfl) rfl (by kernel_rfl) rfl ?_
   try simp only [Act.put, nA, nB, nC]
   intro W3 hO
   replace k_t20 := blk_off k_t20 hO nm0
   replace ow_b := Own.off ow_b hO f0
   replace ow_in := Row.off ow_in hO f0
   replace off0 := off0.step hO i0
   replace sz := off0.size
   clear hO
   refine wpL_new (z := partC 0 0 (List.replicate 32 0) []) (t := 34) (by rfl) (by first | kernel_rfl | (go_simp; done) | (go_simp; rfl)) ?_
   try simp only [Act.put, nA, nB, nC]
   intro p8_4 W4 n_t8 hO h_
   have nq_t20_t8 : p20_1 ≠ p8_4 := Nat.ne_of_lt (Nat.lt_of_lt_of_le (blk_lt k_t20) n_t8)
   have ne_b_t8 := ne_new (Own.lt ow_b) n_t8
   have ne_in_t8 := ne_new (Row.lt ow_in) n_t8
   have fb_t8 : Fb p8_4 w.heap.size [] := fb_new (Nat.le_trans sz n_t8)
   replace k_t20 := blk_off k_t20 hO nm0
   replace ow_b := Own.off ow_b hO f0
   replace ow_in := Row.off ow_in hO f0
   replace off0 := off0.step hO i0
   replace sz := off0.size
   have k_t8 := h_
   clear hO h_ n_t8
   refine wpL_putrow (cells := partC (q.kind : Int) q.N q.S q.text) (by rfl) rfl rfl rfl k_t8 (by rw [partC_size q.hS]; kernel_rfl) (by rw [partC_size (List.length_replicate), partC_size q.hS]) (by exact partC_one _ _ _ _) ?_
   try simp only [Act.put, nA, nB, nC]
   intro W5 hO h_
   replace k_t8 : Blk W5 p8_4 (partC (q.kind : Int) q.N q.S q.text) 34 := h_
   clear h_
   replace k_t20 := blk_off k_t20 hO (nm1 nq_t20_t8)
   replace ow_b := Own.off ow_b hO (f1 ne_b_t8)
   replace ow_in := Row.off ow_in hO (f1 ne_in_t8)
   replace off0 := off0.step hO (i1 fb_t8)
   replace sz := off0.size
   clear hO
   refine wpL_nil ?_
   by_cases hok : partOk q.kind q.N = true
   ·
    have _f := hok
    go_upto_region 7 with fail
    refine wp_region_lit ?_
    refine wpL_load0 (by rfl) rfl rfl k_t8 (by kernel_rfl) (by rw [partC_size q.hS]; kernel_rfl) ?_
    try simp only [Act.put, nA, nB, nC]
    refine wpL_ret (rwrite_q q true hok W5) (by rfl) rfl (by kernel_rfl) rfl ?_
    try simp only [Act.put, nA, nB, nC]
    intro W6 hO
    replace k_t20 := blk_off k_t20 hO nm0
    replace k_t8 := blk_off k_t8 hO nm0
    replace ow_b := Own.off ow_b hO f0
    replace ow_in := Row.off ow_in hO f0
    replace off0 := off0.step hO i0
    replace sz := off0.size
    clear hO
    (refine wpL_val (v := ?_) (by rfl) ?_ ?_; rotate_left 1; focus (go_simp; first | done | with_reducible rfl))
    try simp only [Act.put, nA, nB, nC]
    (refine wpL_val (v := ?_) (by rfl) ?_ ?_; rotate_left 1; focus (go_simp; first | done | with_reducible rfl))
    try simp only [Act.put, nA, nB, nC]
    refine wpL_val (v := .bool true) (by rfl) (by first | rfl | (go_simp; done) | (go_simp; with_reducible rfl) | (go_simp; omega)) ?_
    try simp only [Act.put, nA, nB, nC]
    (refine wpL_val (v := ?_) (by rfl) ?_ ?_; rotate_left 1; focus (go_simp; first | done | with_reducible rfl))
    try simp only [Act.put, nA, nB, nC]
    refine wpL_val (v := .bool true) (by rfl) (by first | rfl | (go_simp; done) | (go_simp; with_reducible rfl) | (go_simp; omega)) ?_
    try simp only [Act.put, nA, nB, nC]
    refine wpL_nil ?_
    go_upto_region 9 with fail
    refine wp_region_lit ?_
    (refine wpL_val (v := ?_) (by rfl) ?_ ?_; rotate_left 1; focus (go_simp; first | done | with_reducible rfl))
    try simp only [Act.put, nA, nB, nC]
    refine wpL_load0 (by rfl) rfl rfl k_t8 (by kernel_rfl) (by rw [partC_size q.hS]; kernel_rfl) ?_
    try simp only [Act.put, nA, nB, nC]
    refine wpL_newS (z := (partC (q.kind : Int) q.N q.S q.text)) (t := 34) (n := 1) (c := 1) (by rfl) (by exact run_bsA rfl rfl rfl Try.underlying22 (by rw [partC_size q.hS]; kernel_rfl) (by rw [partC_size q.hS]; kernel_rfl) (by rw [partC_size q.hS]; decide) (by rw [partC_size q.hS]; decide)) ?_
    try simp only [Act.put, nA, nB, nC]
    intro p45_7 W7 n_s45 hO h_
    have nq_t20_s45 : p20_1 ≠ p45_7 := Nat.ne_of_lt (Nat.lt_of_lt_of_le (blk_lt k_t20) n_s45)
    have nq_t8_s45 : p8_4 ≠ p45_7 := Nat.ne_of_lt (Nat.lt_of_lt_of_le (blk_lt k_t8) n_s45)
    have ne_b_s45 := ne_new (Own.lt ow_b) n_s45
    have ne_in_s45 := ne_new (Row.lt ow_in) n_s45
    have fb_s45 : Fb p45_7 w.heap.size [] := fb_new (Nat.le_trans sz n_s45)
    replace k_t20 := blk_off k_t20 hO nm0
    replace k_t8 := blk_off k_t8 hO nm0
    replace ow_b := Own.off ow_b hO f0
    replace ow_in := Row.off ow_in hO f0
    replace off0 := off0.step hO i0
    replace sz := off0.size
    have k_s45 := h_
    clear hO h_ n_s45
    refine wpL_append1 (es := (eS (gs ps k))) (cs := (partC (q.kind : Int) q.N q.S q.text)) (bytes := 64) (by rfl) rfl rfl rfl ow_in k_s45 (by rw [partC_size q.hS]) (partC_one _ _ _ _) (by decide) Try.underlying22 (by kernel_rfl) (by first | omega | (simp only [List.length_append, List.length_cons, List.length_nil]; omega)) (by unfold maxLen; first | omega | (simp only [List.length_append, List.length_cons, List.length_nil]; omega)) ?_
    try simp only [Act.put, nA, nB, nC]
    intro v46_8 W8 ow_a46 hO at_a46
    have ne_a46_t20 := own_ne at_a46 ne_in_t20 (blk_lt k_t20)
    have ne_a46_t8 := own_ne at_a46 ne_in_t8 (blk_lt k_t8)
    have ne_a46_s45 := own_ne at_a46 ne_in_s45 (blk_lt k_s45)
    have dj_a46_b := own_dj at_a46 (dj_symm dj_b_in) (Own.lt ow_b)
    have fr_a46 := own_fr at_a46 fr_in sz
    replace k_t20 := blk_off k_t20 hO (nmo ne_in_t20)
    replace k_t8 := blk_off k_t8 hO (nmo ne_in_t8)
    replace k_s45 := blk_off k_s45 hO (nmo ne_in_s45)
    replace ow_b := Own.off ow_b hO (fo (dj_symm dj_b_in))
    replace off0 := off0.step hO (io fr_in)
    replace sz := off0.size
    clear hO at_a46
    have ow_in := ow_a46
    clear ow_a46
    have fr_in := fr_a46
    have ne_in_t20 := ne_a46_t20
    have ne_in_t8 := ne_a46_t8
    have ne_in_s45 := ne_a46_s45
    have dj_in_b := dj_a46_b
    (refine wpL_val (v := ?_) (by rfl) ?_ ?_; rotate_left 1; focus (go_simp; first | done | with_reducible rfl))
    try simp only [Act.put, nA, nB, nC]
    refine wpL_nil ?_
    go_upto_region 10 with fail
    refine wp_region_lit ?_
    (refine wpL_val (v := ?_) (by rfl) ?_ ?_; rotate_left 1; focus (go_simp; first | done | with_reducible rfl))
    try simp only [Act.put, nA, nB, nC]
    refine wpL_load0 (by rfl) rfl rfl k_t8 (by kernel_rfl) (by rw [partC_size q.hS]; kernel_rfl) ?_
    try simp only [Act.put, nA, nB, nC]
    refine wpL_callv (write_q q hok p20_1 _ _ _ ⟨k_t20, ow_b⟩ (by omega)) (by rfl) rfl (by kernel_rfl) rfl ?_
    try simp only [Act.put, nA, nB, nC]
    rintro W9 ⟨v_b1, hto⟩
    have at_b1 := hto.fr
    have hO := hto.off
    have kk := hto.wr.1
    have ow_b1 := hto.wr.2
    clear hto
    have ne_b1_t20 := own_ne at_b1 ne_b_t20 (blk_lt k_t20)
    have ne_b1_t8 := own_ne at_b1 ne_b_t8 (blk_lt k_t8)
    have ne_b1_s45 := own_ne at_b1 ne_b_s45 (blk_lt k_s45)
    have dj_b1_in := own_dj at_b1 (dj_symm dj_in_b) (Row.lt ow_in)
    have fr_b1 := own_fr at_b1 fr_b sz
    replace k_t8 := blk_off k_t8 hO (nmc nq_t20_t8.symm (nmo ne_b_t8))
    replace k_s45 := blk_off k_s45 hO (nmc nq_t20_s45.symm (nmo ne_b_s45))
    replace ow_in := Row.off ow_in hO (fc ne_in_t20 (fo (dj_symm dj_in_b)))
    replace off0 := off0.step hO (ic fb_t20 (io fr_b))
    replace sz := off0.size
    replace k_t20 := kk
    have ne_b1_t20 := Own.ne_blk ow_b1 k_t20 (by decide)
    clear hO at_b1 kk
    refine wpL_nil ?_
    have ow_b := ow_b1
    clear ow_b1
    have fr_b := fr_b1
    have ne_b_t20 := ne_b1_t20
    have ne_b_t8 := ne_b1_t8
    have ne_b_s45 := ne_b1_s45
    have dj_b_in := dj_b1_in
    go_wp2
    go_roundw
    case rel => exact ⟨k + 1, _, _, ⟨by omega, by omega⟩, rfl, by go_num, off0, k_t20, (by rw [gs_yes hq hok, fB_snoc]; exact ow_b), (by rw [gs_yes hq hok, eS_snoc]; exact ow_in), fr_b, ne_b_t20, dj_b_in, fr_in, ne_in_t20⟩
    case measure => simp [intOf]; omega
   ·
    have _f := hok
    go_upto_region 7 with fail
    refine wp_region_lit ?_
    refine wpL_load0 (by rfl) rfl rfl k_t8 (by kernel_rfl) (by rw [partC_size q.hS]; kernel_rfl) ?_
    try simp only [Act.put, nA, nB, nC]
    refine wpL_ret (rwrite_q q false (Bool.eq_false_iff.2 hok) W5) (by rfl) rfl (by kernel_rfl) rfl ?_
    try simp only [Act.put, nA, nB, nC]
    intro W6 hO
    replace k_t20 := blk_off k_t20 hO nm0
    replace k_t8 := blk_off k_t8 hO nm0
    replace ow_b := Own.off ow_b hO f0
    replace ow_in := Row.off ow_in hO f0
    replace off0 := off0.step hO i0
    replace sz := off0.size
    clear hO
    (refine wpL_val (v := ?_) (by rfl) ?_ ?_; rotate_left 1; focus (go_simp; first | done | with_reducible rfl))
    try simp only [Act.put, nA, nB, nC]
    (refine wpL_val (v := ?_) (by rfl) ?_ ?_; rotate_left 1; focus (go_simp; first | done | with_reducible rfl))
    try simp only [Act.put, nA, nB, nC]
    refine wpL_val (v := .bool false) (by rfl) (by first | rfl | (go_simp; done) | (go_simp; with_reducible rfl) | (go_simp; omega)) ?_
    try simp only [Act.put, nA, nB, nC]
    (refine wpL_val (v := ?_) (by rfl) ?_ ?_; rotate_left 1; focus (go_simp; first | done | with_reducible rfl))
    try simp only [Act.put, nA, nB, nC]
    refine wpL_val (v := .bool false) (by rfl) (by first | rfl | (go_simp; done) | (go_simp; with_reducible rfl) | (go_simp; omega)) ?_
    try simp only [Act.put, nA, nB, nC]
    refine wpL_nil ?_
    go_wp2
    go_roundw
    case rel => exact ⟨k + 1, _, _, ⟨by omega, by omega⟩, rfl, by go_num, off0, k_t20, (by rw [gs_no hq hok]; exact ow_b), (by rw [gs_no hq hok]; exact ow_in), fr_b, ne_b_t20, dj_b_in, fr_in, ne_in_t20⟩
    case measure => simp [intOf]; omega
  ·
   have _f := hend
   obtain ⟨G, hGe⟩ : ∃ G, gs ps k = G := ⟨_, rfl⟩
   have hGo : ∀ q ∈ G, partOk q.kind q.N = true := hGe ▸ gs_ok
   rw [hGe] at ow_b ow_in hgl hlen
   clear hel
   have hG20 : G.length ≤ 20 := by omega
   go_upto_region 4 with fail
   refine wp_region_litj (fun a0 a_ wr => ∃ (u21_ : Value) (u22_ : Value) (u23_ : Value) (u24_ : Value) (u25_ : Value) (u26_ : Value) (u27_ : Value), a_ = putL a0 [(21, u21_), (22, u22_), (23, u23_), (24, u24_), (25, u25_), (26, u26_), (27, u27_), (28, .bool false)] ∧ W2 = wr) ?_ ?_
   ·
    skip
    by_cases hlt : k < ps.length
    ·
     have _f := hlt
     by_cases h20 : k < 20
     ·
      have _f := h20
      exact absurd ⟨hlt, h20⟩ hend
     ·
      have _f := h20
      (refine wpL_val (v := ?_) (by rfl) ?_ ?_; rotate_left 1; focus (go_simp; first | done | with_reducible rfl))
      try simp only [Act.put, nA, nB, nC]
      (refine wpL_val (v := ?_) (by rfl) ?_ ?_; rotate_left 1; focus (go_simp; first | done | with_reducible rfl))
      try simp only [Act.put, nA, nB, nC]
      (refine wpL_val (v := ?_) (by rfl) ?_ ?_; rotate_left 1; focus (go_simp; first | done | with_reducible rfl))
      try simp only [Act.put, nA, nB, nC]
      refine wpL_val (v := .bool true) (by rfl) (by first | rfl | (go_simp; done) | (go_simp; with_reducible rfl) | (go_simp; omega)) ?_
      try simp only [Act.put, nA, nB, nC]
      refine wpL_val (v := .bool true) (by rfl) (by first | rfl | (go_simp; done) | (go_simp; with_reducible rfl) | (go_simp; omega)) ?_
      try simp only [Act.put, nA, nB, nC]
      (refine wpL_val (v := ?_) (by rfl) ?_ ?_; rotate_left 1; focus (go_simp; first | done | with_reducible rfl))
      try simp only [Act.put, nA, nB, nC]
      refine wpL_val (v := .bool false) (by rfl) (by first | rfl | (go_simp; done) | (go_simp; with_reducible rfl) | (go_simp; omega)) ?_
      try simp only [Act.put, nA, nB, nC]
      refine wpL_val (v := .bool false) (by rfl) (by first | rfl | (go_simp; done) | (go_simp; with_reducible rfl) | (go_simp; omega)) ?_
      try simp only [Act.put, nA, nB, nC]
      refine wpL_nil ?_
      exact ⟨(.int .i64 (k : Int)), (.slice A ps.length c0), (.int .i64 (ps.length : Int)), (.bool true), (.bool true), (.int .i64 (k : Int)), (.bool false), (by simp only [putL, List.foldl_cons, List.foldl_nil, Act.put, nA, nB, nC]), rfl⟩
    ·
     have _f := hlt
     (refine wpL_val (v := ?_) (by rfl) ?_ ?_; rotate_left 1; focus (go_simp; first | done | with_reducible rfl))
     try simp only [Act.put, nA, nB, nC]
     (refine wpL_val (v := ?_) (by rfl) ?_ ?_; rotate_left 1; focus (go_simp; first | done | with_reducible rfl))
     try simp only [Act.put, nA, nB, nC]
     (refine wpL_val (v := ?_) (by rfl) ?_ ?_; rotate_left 1; focus (go_simp; first | done | with_reducible rfl))
     try simp only [Act.put, nA, nB, nC]
     refine wpL_val (v := .bool false) (by rfl) (by first | rfl | (go_simp; done) | (go_simp; with_reducible rfl) | (go_simp; omega)) ?_
     try simp only [Act.put, nA, nB, nC]
     refine wpL_val (v := .bool false) (by rfl) (by first | rfl | (go_simp; done) | (go_simp; with_reducible rfl) | (go_simp; omega)) ?_
     try simp only [Act.put, nA, nB, nC]
     refine wpL_skip (by rfl) ?_
     try simp only [Act.put, nA, nB, nC]
     refine wpL_skip (by rfl) ?_
     try simp only [Act.put, nA, nB, nC]
     refine wpL_val (v := .bool false) (by rfl) (by first | rfl | (go_simp; done) | (go_simp; with_reducible rfl) | (go_simp; omega)) ?_
     try simp only [Act.put, nA, nB, nC]
     refine wpL_nil ?_
     exact ⟨(.int .i64 (k : Int)), (.slice A ps.length c0), (.int .i64 (ps.length : Int)), (.bool false), (.bool false), undef, undef, (by simp only [putL, List.foldl_cons, List.foldl_nil, Act.put, nA, nB, nC]), rfl⟩
   ·
    skip
    rintro _ _ ⟨u21_, u22_, u23_, u24_, u25_, u26_, u27_, rfl, rfl⟩
    simp only [putL, List.foldl_cons, List.foldl_nil]
    try simp only [Act.put, nA, nB, nC]
    go_upto_region 11 with fail
    refine wp_region_lit ?_
    (refine wpL_val (v := ?_) (by rfl) ?_ ?_; rotate_left 1; focus (go_simp; first | done | with_reducible rfl))
    try simp only [Act.put, nA, nB, nC]
    refine wpL_call (R := fun r W => ∃ u, r = .tuple #[u, .int .i64 0] ∧ NewB W2 (fB G) u W) ((wbytes_false p20_1 _ (fB G) _ ⟨k_t20, ow_b⟩ (by first | omega | (simp only [List.length_append, List.length_cons, List.length_nil]; omega))).mono fun _ _ ⟨u, h1, h2⟩ => ⟨_, h1, u, rfl, h2⟩) (by rfl) rfl (by kernel_rfl) rfl ?_
    try simp only [Act.put, nA, nB, nC]
    rintro _ W3 ⟨v_c1, rfl, hnb⟩
    try simp only [Act.put, nA, nB, nC]
    have hO := hnb.off
    have ow_c1 := hnb.own
    have at_c1 : Of (Value.ownBlock v_c1) none W2.heap.size := hnb.fr
    clear hnb
    have ne_c1_t20 := own_ne at_c1 (fun h => by cases h) (blk_lt k_t20)
    have dj_c1_b := own_dj at_c1 (fun x h => by cases h) (Own.lt ow_b)
    have dj_c1_in := own_dj at_c1 (fun x h => by cases h) (Row.lt ow_in)
    have fr_c1 : Fr (Value.ownBlock v_c1) w.heap.size [] := own_fr at_c1 fr_none sz
    replace k_t20 := blk_off k_t20 hO nm0
    replace ow_b := Own.off ow_b hO f0
    replace ow_in := Row.off ow_in hO f0
    replace off0 := off0.step hO i0
    replace sz := off0.size
    clear hO at_c1
    (refine wpL_val (v := ?_) (by rfl) ?_ ?_; rotate_left 1; focus (go_simp; first | done | with_reducible rfl))
    try simp only [Act.put, nA, nB, nC]
    (refine wpL_val (v := ?_) (by rfl) ?_ ?_; rotate_left 1; focus (go_simp; first | done | with_reducible rfl))
    try simp only [Act.put, nA, nB, nC]
    refine wpL_val (v := .int .i64 0) (by rfl) (by first | rfl | (go_simp; done) | (go_simp; with_reducible rfl) | (go_simp; omega)) ?_
    try simp only [Act.put, nA, nB, nC]
    (refine wpL_val (v := ?_) (by rfl) ?_ ?_; rotate_left 1; focus (go_simp; first | done | with_reducible rfl))
    try simp only [Act.put, nA, nB, nC]
    refine wpL_val (v := .int .i64 0) (by rfl) (by first | rfl | (go_simp; done) | (go_simp; with_reducible rfl) | (go_simp; omega)) ?_
    try simp only [Act.put, nA, nB, nC]
    refine wpL_nil ?_
    go_upto_region 12 with fail
    refine wp_region_lit ?_
    refine wpL_ret (codes_c W3) (by rfl) rfl (by kernel_rfl) rfl ?_
    try simp only [Act.put, nA, nB, nC]
    intro W4 hO
    replace k_t20 := blk_off k_t20 hO nm0
    replace ow_b := Own.off ow_b hO f0
    replace ow_in := Row.off ow_in hO f0
    replace ow_c1 := Own.off ow_c1 hO f0
    replace off0 := off0.step hO i0
    replace sz := off0.size
    clear hO
    refine wpL_val (v := .bool false) (by rfl) (by first | rfl | (go_simp; done) | (go_simp; with_reducible rfl) | (go_simp; omega)) ?_
    try simp only [Act.put, nA, nB, nC]
    refine wpL_val (v := .bool false) (by rfl) (by first | rfl | (go_simp; done) | (go_simp; with_reducible rfl) | (go_simp; omega)) ?_
    try simp only [Act.put, nA, nB, nC]
    refine wpL_val (v := .int .i64 0) (by rfl) (by first | rfl | (go_simp; done) | (go_simp; with_reducible rfl) | (go_simp; omega)) ?_
    try simp only [Act.put, nA, nB, nC]
    refine wpL_val (v := .bool false) (by rfl) (by first | rfl | (go_simp; done) | (go_simp; with_reducible rfl) | (go_simp; omega)) ?_
    try simp only [Act.put, nA, nB, nC]
    refine wpL_val (v := .bool false) (by rfl) (by first | rfl | (go_simp; done) | (go_simp; with_reducible rfl) | (go_simp; omega)) ?_
    try simp only [Act.put, nA, nB, nC]
    refine wpL_nil ?_
    go_upto_region 14 with fail
    refine wp_region_lit ?_
    (refine wpL_val (v := ?_) (by rfl) ?_ ?_; rotate_left 1; focus (go_simp; first | done | with_reducible rfl))
    try simp only [Act.put, nA, nB, nC]
    refine wpL_call (R := fun r W => ∃ p, r = .pointer (some ⟨p, 0, none⟩) ∧ ∃ v, Rdr W p v (fB G) 0 ∧ Off [] W4 W ∧ Fb p W4.heap.size [] ∧ Fr v.ownBlock W4.heap.size []) ((read_c _ _ _ (Own.sl ow_c1) (by first | omega | (simp only [List.length_append, List.length_cons, List.length_nil]; omega))).mono fun _ _ ⟨p, h1, h2⟩ => ⟨_, h1, p, rfl, h2⟩) (by rfl) rfl (by kernel_rfl) rfl ?_
    try simp only [Act.put, nA, nB, nC]
    rintro _ W5 ⟨pr1, rfl, vr1, hrd, hO, hfb, at_rv⟩
    try simp only [Act.put, nA, nB, nC]
    have n_rd : W4.heap.size ≤ pr1 := Nat.le_of_not_lt fun h => by simpa using hfb h
    have ne_rv1_t20 : sb vr1 (fB G) ≠ some p20_1 := ne_sb (own_ne (O := none) at_rv (fun h => by cases h) (blk_lt k_t20))
    have dj_b_rv1 : ∀ x, (Value.ownBlock v) = some x → sb vr1 (fB G) ≠ some x := dj_sb (dj_symm (own_dj (O := none) at_rv (fun x h => by cases h) (Own.lt ow_b)))
    have dj_in_rv1 : ∀ x, (Value.ownBlock vin) = some x → sb vr1 (fB G) ≠ some x := dj_sb (dj_symm (own_dj (O := none) at_rv (fun x h => by cases h) (Row.lt ow_in)))
    have dj_c1_rv1 : ∀ x, (Value.ownBlock v_c1) = some x → sb vr1 (fB G) ≠ some x := dj_sb (dj_symm (own_dj (O := none) at_rv (fun x h => by cases h) (Own.lt ow_c1)))
    have nq_t20_rd1 : p20_1 ≠ pr1 := Nat.ne_of_lt (Nat.lt_of_lt_of_le (blk_lt k_t20) n_rd)
    have ne_b_rd1 := ne_new (Own.lt ow_b) n_rd
    have ne_in_rd1 := ne_new (Row.lt ow_in) n_rd
    have ne_c1_rd1 := ne_new (Own.lt ow_c1) n_rd
    have fb_rd1 : Fb pr1 w.heap.size [] := fb_new (Nat.le_trans sz n_rd)
    replace k_t20 := blk_off k_t20 hO nm0
    replace ow_b := Own.off ow_b hO f0
    replace ow_in := Row.off ow_in hO f0
    replace ow_c1 := Own.off ow_c1 hO f0
    replace off0 := off0.step hO i0
    replace sz := off0.size
    have k_rd1 := hrd.1
    have ow_rv1 := hrd.2.1
    have ne_rv1_rd1 := hrd.2.2
    clear hrd hO hfb n_rd at_rv
    refine wpL_newS (z := #[]) (t := 5) (n := 0) (c := 0) (by rfl) (by first | kernel_rfl | (go_simp; done) | (go_simp; rfl)) ?_
    try simp only [Act.put, nA, nB, nC]
    intro p63_6 W6 n_s63 hO h_
    have ne_s63_t20 : Value.ownBlock (.slice (some ⟨p63_6, 0, none⟩) 0 0) ≠ some p20_1 := fun e_ => (Nat.ne_of_lt (Nat.lt_of_lt_of_le (blk_lt k_t20) n_s63)) (Option.some.inj e_).symm
    have ne_s63_rd1 : Value.ownBlock (.slice (some ⟨p63_6, 0, none⟩) 0 0) ≠ some pr1 := fun e_ => (Nat.ne_of_lt (Nat.lt_of_lt_of_le (blk_lt k_rd1) n_s63)) (Option.some.inj e_).symm
    have dj_b_s63 : ∀ x, (Value.ownBlock v) = some x → Value.ownBlock (.slice (some ⟨p63_6, 0, none⟩) 0 0) ≠ some x := dj_new (Own.lt ow_b) n_s63
    have dj_in_s63 : ∀ x, (Value.ownBlock vin) = some x → Value.ownBlock (.slice (some ⟨p63_6, 0, none⟩) 0 0) ≠ some x := dj_new (Row.lt ow_in) n_s63
    have dj_c1_s63 : ∀ x, (Value.ownBlock v_c1) = some x → Value.ownBlock (.slice (some ⟨p63_6, 0, none⟩) 0 0) ≠ some x := dj_new (Own.lt ow_c1) n_s63
    have dj_rv1_s63 : ∀ x, (sb vr1 (fB G)) = some x → Value.ownBlock (.slice (some ⟨p63_6, 0, none⟩) 0 0) ≠ some x := dj_new (Sl.lt ow_rv1) n_s63
    have fr_s63 : Fr (Value.ownBlock (.slice (some ⟨p63_6, 0, none⟩) 0 0)) w.heap.size [] := fr_new (Nat.le_trans sz n_s63)
    replace k_t20 := blk_off k_t20 hO nm0
    replace k_rd1 := blk_off k_rd1 hO nm0
    replace ow_b := Own.off ow_b hO f0
    replace ow_in := Row.off ow_in hO f0
    replace ow_c1 := Own.off ow_c1 hO f0
    replace ow_rv1 := Sl.off ow_rv1 hO f0
    replace off0 := off0.step hO i0
    replace sz := off0.size
    have ow_s63 : Own W6 (.slice (some ⟨p63_6, 0, none⟩) 0 0) [] := own_blk h_ (by rfl) (by show 0 ≤ maxLen; decide)
    clear hO h_ n_s63
    (refine wpL_val (v := ?_) (by rfl) ?_ ?_; rotate_left 1; focus (go_simp; first | done | with_reducible rfl))
    try simp only [Act.put, nA, nB, nC]
    refine wpL_append (xs := []) (ys := (fB G)) (by rfl) rfl rfl rfl ow_s63 (ow_c1.sl) (by first | omega | (simp only [List.length_append, List.length_cons, List.length_nil]; omega)) ?_
    try simp only [Act.put, nA, nB, nC]
    intro v65_7 W7 ow_a65 hO at_a65 nil_a65
    clear nil_a65
    have ne_a65_t20 := own_ne at_a65 ne_s63_t20 (blk_lt k_t20)
    have ne_a65_rd1 := own_ne at_a65 ne_s63_rd1 (blk_lt k_rd1)
    have dj_a65_b := own_dj at_a65 (dj_symm dj_b_s63) (Own.lt ow_b)
    have dj_a65_in := own_dj at_a65 (dj_symm dj_in_s63) (Row.lt ow_in)
    have dj_a65_c1 := own_dj at_a65 (dj_symm dj_c1_s63) (Own.lt ow_c1)
    have dj_a65_rv1 := own_dj at_a65 (dj_symm dj_rv1_s63) (Sl.lt ow_rv1)
    have fr_a65 := own_fr at_a65 fr_s63 sz
    replace k_t20 := blk_off k_t20 hO (nmo ne_s63_t20)
    replace k_rd1 := blk_off k_rd1 hO (nmo ne_s63_rd1)
    replace ow_b := Own.off ow_b hO (fo (dj_symm dj_b_s63))
    replace ow_in := Row.off ow_in hO (fo (dj_symm dj_in_s63))
    replace ow_c1 := Own.off ow_c1 hO (fo (dj_symm dj_c1_s63))
    replace ow_rv1 := Sl.off ow_rv1 hO (fo (dj_symm dj_rv1_s63))
    replace off0 := off0.step hO (io fr_s63)
    replace sz := off0.size
    clear hO at_a65
    (refine wpL_val (v := ?_) (by rfl) ?_ ?_; rotate_left 1; focus (go_simp; first | done | with_reducible rfl))
    try simp only [Act.put, nA, nB, nC]
    refine wpL_newS (z := #[.int .u8 (c.toNat : Int)]) (t := 5) (n := 1) (c := 1) (by rfl) (by first | kernel_rfl | (go_simp; done) | (go_simp; rfl)) ?_
    try simp only [Act.put, nA, nB, nC]
    intro p67_8 W8 n_s67 hO h_
    have ne_s67_t20 : Value.ownBlock (.slice (some ⟨p67_8, 0, none⟩) 1 1) ≠ some p20_1 := fun e_ => (Nat.ne_of_lt (Nat.lt_of_lt_of_le (blk_lt k_t20) n_s67)) (Option.some.inj e_).symm
    have ne_s67_rd1 : Value.ownBlock (.slice (some ⟨p67_8, 0, none⟩) 1 1) ≠ some pr1 := fun e_ => (Nat.ne_of_lt (Nat.lt_of_lt_of_le (blk_lt k_rd1) n_s67)) (Option.some.inj e_).symm
    have dj_b_s67 : ∀ x, (Value.ownBlock v) = some x → Value.ownBlock (.slice (some ⟨p67_8, 0, none⟩) 1 1) ≠ some x := dj_new (Own.lt ow_b) n_s67
    have dj_in_s67 : ∀ x, (Value.ownBlock vin) = some x → Value.ownBlock (.slice (some ⟨p67_8, 0, none⟩) 1 1) ≠ some x := dj_new (Row.lt ow_in) n_s67
    have dj_c1_s67 : ∀ x, (Value.ownBlock v_c1) = some x → Value.ownBlock (.slice (some ⟨p67_8, 0, none⟩) 1 1) ≠ some x := dj_new (Own.lt ow_c1) n_s67
    have dj_rv1_s67 : ∀ x, (sb vr1 (fB G)) = some x → Value.ownBlock (.slice (some ⟨p67_8, 0, none⟩) 1 1) ≠ some x := dj_new (Sl.lt ow_rv1) n_s67
    have dj_a65_s67 : ∀ x, (Value.ownBlock v65_7) = some x → Value.ownBlock (.slice (some ⟨p67_8, 0, none⟩) 1 1) ≠ some x := dj_new (Own.lt ow_a65) n_s67
    have fr_s67 : Fr (Value.ownBlock (.slice (some ⟨p67_8, 0, none⟩) 1 1)) w.heap.size [] := fr_new (Nat.le_trans sz n_s67)
    replace k_t20 := blk_off k_t20 hO nm0
    replace k_rd1 := blk_off k_rd1 hO nm0
    replace ow_b := Own.off ow_b hO f0
    replace ow_in := Row.off ow_in hO f0
    replace ow_c1 := Own.off ow_c1 hO f0
    replace ow_rv1 := Sl.off ow_rv1 hO f0
    replace ow_a65 := Own.off ow_a65 hO f0
    replace off0 := off0.step hO i0
    replace sz := off0.size
    have ow_s67 : Own W8 (.slice (some ⟨p67_8, 0, none⟩) 1 1) [c] := own_blk h_ (by rfl) (by show 1 ≤ maxLen; decide)
    clear hO h_ n_s67
    refine wpL_append (xs := ([] ++ (fB G))) (ys := [c]) (by rfl) rfl rfl rfl ow_a65 (ow_s67.sl) (by first | omega | (simp only [List.length_append, List.length_cons, List.length_nil]; omega)) ?_
    try simp only [Act.put, nA, nB, nC]
    intro v68_9 W9 ow_a68 hO at_a68 nil_a68
    clear nil_a68
    have ne_a68_t20 := own_ne at_a68 ne_a65_t20 (blk_lt k_t20)
    have ne_a68_rd1 := own_ne at_a68 ne_a65_rd1 (blk_lt k_rd1)
    have dj_a68_b := own_dj at_a68 dj_a65_b (Own.lt ow_b)
    have dj_a68_in := own_dj at_a68 dj_a65_in (Row.lt ow_in)
    have dj_a68_c1 := own_dj at_a68 dj_a65_c1 (Own.lt ow_c1)
    have dj_a68_rv1 := own_dj at_a68 dj_a65_rv1 (Sl.lt ow_rv1)
    have dj_a68_s67 := own_dj at_a68 dj_a65_s67 (Own.lt ow_s67)
    have fr_a68 := own_fr at_a68 fr_a65 sz
    replace k_t20 := blk_off k_t20 hO (nmo ne_a65_t20)
    replace k_rd1 := blk_off k_rd1 hO (nmo ne_a65_rd1)
    replace ow_b := Own.off ow_b hO (fo dj_a65_b)
    replace ow_in := Row.off ow_in hO (fo dj_a65_in)
    replace ow_c1 := Own.off ow_c1 hO (fo dj_a65_c1)
    replace ow_rv1 := Sl.off ow_rv1 hO (fo dj_a65_rv1)
    replace ow_s67 := Own.off ow_s67 hO (fo dj_a65_s67)
    replace off0 := off0.step hO (io fr_a65)
    replace sz := off0.size
    clear hO at_a68
    refine wpL_call (R := fun r W => ∃ p, r = .pointer (some ⟨p, 0, none⟩) ∧ ∃ v, Rdr W p v (([] ++ (fB G)) ++ [c]) 0 ∧ Off [] W9 W ∧ Fb p W9.heap.size [] ∧ Fr v.ownBlock W9.heap.size []) ((read_c _ _ _ (Own.sl ow_a68) (by first | omega | (simp only [List.length_append, List.length_cons, List.length_nil]; omega))).mono fun _ _ ⟨p, h1, h2⟩ => ⟨_, h1, p, rfl, h2⟩) (by rfl) rfl (by kernel_rfl) rfl ?_
    try simp only [Act.put, nA, nB, nC]
    rintro _ W10 ⟨pr2, rfl, vr2, hrd, hO, hfb, at_rv⟩
    try simp only [Act.put, nA, nB, nC]
    have n_rd : W9.heap.size ≤ pr2 := Nat.le_of_not_lt fun h => by simpa using hfb h
    have ne_rv2_t20 : sb vr2 (([] ++ (fB G)) ++ [c]) ≠ some p20_1 := ne_sb (own_ne (O := none) at_rv (fun h => by cases h) (blk_lt k_t20))
    have ne_rv2_rd1 : sb vr2 (([] ++ (fB G)) ++ [c]) ≠ some pr1 := ne_sb (own_ne (O := none) at_rv (fun h => by cases h) (blk_lt k_rd1))
    have dj_b_rv2 : ∀ x, (Value.ownBlock v) = some x → sb vr2 (([] ++ (fB G)) ++ [c]) ≠ some x := dj_sb (dj_symm (own_dj (O := none) at_rv (fun x h => by cases h) (Own.lt ow_b)))
    have dj_in_rv2 : ∀ x, (Value.ownBlock vin) = some x → sb vr2 (([] ++ (fB G)) ++ [c]) ≠ some x := dj_sb (dj_symm (own_dj (O := none) at_rv (fun x h => by cases h) (Row.lt ow_in)))
    have dj_c1_rv2 : ∀ x, (Value.ownBlock v_c1) = some x → sb vr2 (([] ++ (fB G)) ++ [c]) ≠ some x := dj_sb (dj_symm (own_dj (O := none) at_rv (fun x h => by cases h) (Own.lt ow_c1)))
    have dj_rv1_rv2 : ∀ x, (sb vr1 (fB G)) = some x → sb vr2 (([] ++ (fB G)) ++ [c]) ≠ some x := dj_sb (dj_symm (own_dj (O := none) at_rv (fun x h => by cases h) (Sl.lt ow_rv1)))
    have dj_s67_rv2 : ∀ x, (Value.ownBlock (.slice (some ⟨p67_8, 0, none⟩) 1 1)) = some x → sb vr2 (([] ++ (fB G)) ++ [c]) ≠ some x := dj_sb (dj_symm (own_dj (O := none) at_rv (fun x h => by cases h) (Own.lt ow_s67)))
    have dj_a68_rv2 : ∀ x, (Value.ownBlock v68_9) = some x → sb vr2 (([] ++ (fB G)) ++ [c]) ≠ some x := dj_sb (dj_symm (own_dj (O := none) at_rv (fun x h => by cases h) (Own.lt ow_a68)))
    have nq_t20_rd2 : p20_1 ≠ pr2 := Nat.ne_of_lt (Nat.lt_of_lt_of_le (blk_lt k_t20) n_rd)
    have nq_rd1_rd2 : pr1 ≠ pr2 := Nat.ne_of_lt (Nat.lt_of_lt_of_le (blk_lt k_rd1) n_rd)
    have ne_b_rd2 := ne_new (Own.lt ow_b) n_rd
    have ne_in_rd2 := ne_new (Row.lt ow_in) n_rd
    have ne_c1_rd2 := ne_new (Own.lt ow_c1) n_rd
    have ne_rv1_rd2 := ne_new (Sl.lt ow_rv1) n_rd
    have ne_s67_rd2 := ne_new (Own.lt ow_s67) n_rd
    have ne_a68_rd2 := ne_new (Own.lt ow_a68) n_rd
    have fb_rd2 : Fb pr2 w.heap.size [] := fb_new (Nat.le_trans sz n_rd)
    replace k_t20 := blk_off k_t20 hO nm0
    replace k_rd1 := blk_off k_rd1 hO nm0
    replace ow_b := Own.off ow_b hO f0
    replace ow_in := Row.off ow_in hO f0
    replace ow_c1 := Own.off ow_c1 hO f0
    replace ow_rv1 := Sl.off ow_rv1 hO f0
    replace ow_s67 := Own.off ow_s67 hO f0
    replace ow_a68 := Own.off ow_a68 hO f0
    replace off0 := off0.step hO i0
    replace sz := off0.size
    have k_rd2 := hrd.1
    have ow_rv2 := hrd.2.1
    have ne_rv2_rd2 := hrd.2.2
    clear hrd hO hfb n_rd at_rv
    (refine wpL_val (v := ?_) (by rfl) ?_ ?_; rotate_left 1; focus (go_simp; first | done | with_reducible rfl))
    try simp only [Act.put, nA, nB, nC]
    (refine wpL_val (v := ?_) (by rfl) ?_ ?_; rotate_left 1; focus (go_simp; first | done | with_reducible rfl))
    try simp only [Act.put, nA, nB, nC]
    refine wpL_nil ?_
    clear ow_b fr_b ne_b_t20 ne_b_rd1 ne_b_rd2 dj_b_in dj_c1_b dj_b_rv1 dj_b_s67 dj_a68_b dj_b_rv2
    clear ow_c1 fr_c1 ne_c1_t20 ne_c1_rd1 ne_c1_rd2 dj_c1_in dj_c1_rv1 dj_c1_s67 dj_a68_c1 dj_c1_rv2
    clear ow_s67 fr_s67 ne_s67_t20 ne_s67_rd1 ne_s67_rd2 dj_in_s67 dj_rv1_s67 dj_a68_s67 dj_s67_rv2
    clear ow_a68 fr_a68 ne_a68_t20 ne_a68_rd1 ne_a68_rd2 dj_a68_in dj_a68_rv1 dj_a68_rv2
    have hd0 : fB G = fB (List.drop 0 G) := rfl
    skip
    go_wp2_with fail
    go_loopw [15] (fun si wr => ∃ (j : Nat) (va : Value) (vb : Value), (j ≤ G.length) ∧ (si = .int .i64 (j : Int)) ∧ Off [] w wr ∧ Blk wr p20_1 #[v, .bool false] 31 ∧ Blk wr pr1 #[va, .int .i64 0] 57 ∧ Blk wr pr2 #[vb, .int .i64 0] 57 ∧ Row 34 35 wr vin (eS G) ∧ Sl wr va (fB (List.drop j G)) ∧ Sl wr vb (fB (List.drop j G) ++ [c]) ∧ (sb va (fB (List.drop j G))) ≠ some p20_1 ∧ (sb va (fB (List.drop j G))) ≠ some pr1 ∧ (sb va (fB (List.drop j G))) ≠ some pr2 ∧ (∀ x, (sb va (fB (List.drop j G))) = some x → (Value.ownBlock vin) ≠ some x) ∧ (∀ x, (sb va (fB (List.drop j G))) = some x → (sb vb (fB (List.drop j G) ++ [c])) ≠ some x) ∧ (sb vb (fB (List.drop j G) ++ [c])) ≠ some p20_1 ∧ (sb vb (fB (List.drop j G) ++ [c])) ≠ some pr1 ∧ (sb vb (fB (List.drop j G) ++ [c])) ≠ some pr2 ∧ (∀ x, (sb vb (fB (List.drop j G) ++ [c])) = some x → (Value.ownBlock vin) ≠ some x))
     (fun si _ => G.length - (intOf si).toNat)
    case atStart => exact ⟨0, _, _, Nat.zero_le _, rfl, off0, k_t20, k_rd1, k_rd2, ow_in, ow_rv1, ow_rv2, ne_rv1_t20, ne_rv1_rd1, ne_rv1_rd2, (dj_symm dj_in_rv1), dj_rv1_rv2, ne_rv2_t20, ne_rv2_rd1, ne_rv2_rd2, (dj_symm dj_in_rv2)⟩
    case round =>
     obtain ⟨j, va, vb, hj, rfl, off0, k_t20, k_rd1, k_rd2, ow_in, ow_rv1, ow_rv2, ne_rv1_t20, ne_rv1_rd1, ne_rv1_rd2, dj_rv1_in, dj_rv1_rv2, ne_rv2_t20, ne_rv2_rd1, ne_rv2_rd2, dj_rv2_in⟩ := hrel
     obtain ⟨W11, eW_⟩ := wname off0
     subst eW_
     have sz := off0.size
     have hdl := fB_drop_len G j
     by_cases hjl : j < G.length
     ·
      have _f := hjl
      obtain ⟨q, hq⟩ : ∃ q, G[j]? = some q := ⟨_, List.getElem?_eq_getElem hjl⟩
      have hok : partOk q.kind q.N = true := hGo q (List.mem_of_getElem? hq)
      have hqB := fB_drop hq
      have hdl2 := fB_drop_len G (j + 1)
      have hpl : (ptB q).length ≤ 302 := ptB_len q
      obtain ⟨gI, cI, hvI, hcI⟩ := ow_in.at (eS_at hq)
      subst hvI
      (try rw [hqB] at ow_rv1); (try rw [List.append_assoc] at ow_rv1)
      (try rw [hqB] at ne_rv1_t20); (try rw [List.append_assoc] at ne_rv1_t20)
      (try rw [hqB] at ne_rv1_rd1); (try rw [List.append_assoc] at ne_rv1_rd1)
      (try rw [hqB] at ne_rv1_rd2); (try rw [List.append_assoc] at ne_rv1_rd2)
      (try rw [hqB] at dj_rv1_in); (try rw [List.append_assoc] at dj_rv1_in)
      (try rw [hqB] at dj_rv1_rv2); (try rw [List.append_assoc] at dj_rv1_rv2)
      (try rw [hqB] at ow_rv2); (try rw [List.append_assoc] at ow_rv2)
      (try rw [hqB] at ne_rv2_t20); (try rw [List.append_assoc] at ne_rv2_t20)
      (try rw [hqB] at ne_rv2_rd1); (try rw [List.append_assoc] at ne_rv2_rd1)
      (try rw [hqB] at ne_rv2_rd2); (try rw [List.append_assoc] at ne_rv2_rd2)
      (try rw [hqB] at dj_rv2_in); (try rw [List.append_assoc] at dj_rv2_in)
      go_upto_region 16 with fail
      refine wp_region_lit ?_
      (refine wpL_val (v := ?_) (by rfl) ?_ ?_; rotate_left 1; focus (go_simp; first | done | with_reducible rfl))
      try simp only [Act.put, nA, nB, nC]
      (refine wpL_val (v := ?_) (by rfl) ?_ ?_; rotate_left 1; focus (go_simp; first | done | with_reducible rfl))
      try simp only [Act.put, nA, nB, nC]
      refine wpL_val (v := .int .i64 ((eS G).length : Int)) (by rfl) (by exact run_lenR ow_in rfl rfl Try.underlying22) ?_
      try simp only [Act.put, nA, nB, nC]
      refine wpL_val (v := .bool true) (by rfl) (by first | (go_simp; done) | (go_simp; simp [eS_len, hjl]; done) | (go_simp; rw [eS_len]; omega)) ?_
      try simp only [Act.put, nA, nB, nC]
      refine wpL_nil ?_
      go_upto_region 18 with fail
      refine wp_region_trj (.q 0 (.q 1 (.q 2 (.q 3 (.q 4 (.q 5 (.q 7 (.q 8 (.q 9 (.q 10 (.q 11 (.q 12 (.c 6 (.c 13 (.b 14 (.e 15 (.e 16 (.e 17 .z))) 15 (.e 14 (.e 16 (.e 17 .z)))) 14 (.b 13 (.e 15 (.e 16 (.e 17 .z))) 15 (.e 13 (.e 16 (.e 17 .z)))) 15 (.b 13 (.e 14 (.e 16 (.e 17 .z))) 14 (.e 13 (.e 16 (.e 17 .z))))) 14 (.b 6 (.b 13 (.e 15 (.e 16 (.e 17 .z))) 15 (.e 13 (.e 16 (.e 17 .z)))) 15 (.e 6 (.e 13 (.e 16 (.e 17 .z))))) 15 (.b 6 (.b 13 (.e 14 (.e 16 (.e 17 .z))) 14 (.e 13 (.e 16 (.e 17 .z)))) 14 (.e 6 (.e 13 (.e 16 (.e 17 .z)))))))))))))))))) (fun W => (Row 34 35 W (.slice (some ⟨gI, 0, none⟩) (eS G).length cI) (eS G))) (fun a0 a_ wr => ∃ (j_t16 : Nat) (j_t17 : Nat) (jv_b2 : Value) (jv_b3 : Value), a_ = putL a0 [(76, .pointer (some ⟨pr1, 0, none⟩)), (77, (.slice (some ⟨gI, 0, none⟩) (eS G).length cI)), (78, .int .i64 (j : Int)), (79, .pointer (some ⟨gI, 0 + j * 35, none⟩)), (80, .pointer (some ⟨gI, 0 + j * 35 + 0, none⟩)), (81, .int .i64 (q.kind : Int)), (82, .agg (partW q.kind q.N q.S q.text)), (83, .pointer (some ⟨pr2, 0, none⟩)), (84, (.slice (some ⟨gI, 0, none⟩) (eS G).length cI)), (85, .int .i64 (j : Int)), (86, .pointer (some ⟨gI, 0 + j * 35, none⟩)), (87, .pointer (some ⟨gI, 0 + j * 35 + 0, none⟩)), (88, .int .i64 (q.kind : Int)), (89, .agg (partW q.kind q.N q.S q.text)), (16, .pointer (some ⟨j_t16, 0, none⟩)), (17, .pointer (some ⟨j_t17, 0, none⟩))] ∧ Off [] w wr ∧ Blk wr p20_1 #[v, .bool false] 31 ∧ Blk wr pr1 #[jv_b2, .int .i64 0] 57 ∧ Blk wr pr2 #[jv_b3, .int .i64 0] 57 ∧ Blk wr j_t16 (partW q.kind q.N q.S q.text) 34 ∧ Blk wr j_t17 (partW q.kind q.N q.S q.text) 34 ∧ Row 34 35 wr (.slice (some ⟨gI, 0, none⟩) (eS G).length cI) (eS G) ∧ Sl wr jv_b2 (fB (List.drop (j + 1) G)) ∧ Sl wr jv_b3 (fB (List.drop (j + 1) G) ++ [c]) ∧ (sb jv_b2 (fB (List.drop (j + 1) G))) ≠ some p20_1 ∧ (sb jv_b2 (fB (List.drop (j + 1) G))) ≠ some pr1 ∧ (sb jv_b2 (fB (List.drop (j + 1) G))) ≠ some pr2 ∧ (sb jv_b2 (fB (List.drop (j + 1) G))) ≠ some j_t16 ∧ (sb jv_b2 (fB (List.drop (j + 1) G))) ≠ some j_t17 ∧ (∀ x, (sb jv_b2 (fB (List.drop (j + 1) G))) = some x → (Value.ownBlock (.slice (some ⟨gI, 0, none⟩) (eS G).length cI)) ≠ some x) ∧ (∀ x, (sb jv_b2 (fB (List.drop (j + 1) G))) = some x → (sb jv_b3 (fB (List.drop (j + 1) G) ++ [c])) ≠ some x) ∧ (sb jv_b3 (fB (List.drop (j + 1) G) ++ [c])) ≠ some p20_1 ∧ (sb jv_b3 (fB (List.drop (j + 1) G) ++ [c])) ≠ some pr1 ∧ (sb jv_b3 (fB (List.drop (j + 1) G) ++ [c])) ≠ some pr2 ∧ (sb jv_b3 (fB (List.drop (j + 1) G) ++ [c])) ≠ some j_t16 ∧ (sb jv_b3 (fB (List.drop (j + 1) G) ++ [c])) ≠ some j_t17 ∧ (∀ x, (sb jv_b3 (fB (List.drop (j + 1) G) ++ [c])) = some x → (Value.ownBlock (.slice (some ⟨gI, 0, none⟩) (eS G).length cI)) ≠ some x) ∧ Fb j_t16 w.heap.size [] ∧ p20_1 ≠ j_t16 ∧ pr1 ≠ j_t16 ∧ pr2 ≠ j_t16 ∧ (Value.ownBlock (.slice (some ⟨gI, 0, none⟩) (eS G).length cI)) ≠ some j_t16 ∧ Fb j_t17 w.heap.size [] ∧ p20_1 ≠ j_t17 ∧ pr1 ≠ j_t17 ∧ pr2 ≠ j_t17 ∧ j_t16 ≠ j_t17 ∧ (Value.ownBlock (.slice (some ⟨gI, 0, none⟩) (eS G).length cI)) ≠ some j_t17) (by kernel_rfl) (by kernel_rfl) ?_ ?_
      ·
       skip
       intro W12 hO
       replace k_t20 := blk_off k_t20 hO nm0
       replace k_rd1 := blk_off k_rd1 hO nm0
       replace k_rd2 := blk_off k_rd2 hO nm0
       replace ow_in := Row.off ow_in hO f0
       replace ow_rv1 := Sl.off ow_rv1 hO f0
       replace ow_rv2 := Sl.off ow_rv2 hO f0
       replace off0 := off0.step hO i0
       replace sz := off0.size
       clear hO
       refine ⟨ow_in, ?_⟩
       (refine wpT_q (v := ?_) rfl (by rfl) (fun W hS => ?_) ?_; rotate_left 1; focus (go_simp; first | done | with_reducible rfl))
       try simp only [Act.put, nA, nB, nC]
       (refine wpT_q (v := ?_) rfl (by rfl) (fun W hS => ?_) ?_; rotate_left 1; focus (go_simp; first | done | with_reducible rfl))
       try simp only [Act.put, nA, nB, nC]
       (refine wpT_q (v := ?_) rfl (by rfl) (fun W hS => ?_) ?_; rotate_left 1; focus (go_simp; first | done | with_reducible rfl))
       try simp only [Act.put, nA, nB, nC]
       refine wpT_q (v := .pointer (some ⟨gI, 0 + j * 35, none⟩)) rfl (by rfl) (fun W hS => by exact ((run_ixR (ad := ⟨gI, 0, none⟩) (j := j) (k := 35) (by rw [eS_len]; exact hjl) rfl rfl rfl Try.underlying22 (by kernel_rfl)).trans (by rw [Addr.add_mid]))) ?_
       try simp only [Act.put, nA, nB, nC]
       refine wpT_q (v := .pointer (some ⟨gI, 0 + j * 35 + 0, none⟩)) rfl (by rfl) (fun W hS => by exact (run_fa (i := 0) (off := 0) 0 rfl rfl Try.underlying34 (by kernel_rfl))) ?_
       try simp only [Act.put, nA, nB, nC]
       refine wpT_q (v := .int .i64 (q.kind : Int)) rfl (by rfl) (fun W hS => by exact (run_at rfl rfl (ptI ((hS).at (eS_at hq)) 0 (x := .int .i64 (q.kind : Int)) rfl) (by kernel_rfl))) ?_
       try simp only [Act.put, nA, nB, nC]
       (refine wpT_q (v := ?_) rfl (by rfl) (fun W hS => ?_) ?_; rotate_left 1; focus (go_simp; first | done | with_reducible rfl))
       try simp only [Act.put, nA, nB, nC]
       (refine wpT_q (v := ?_) rfl (by rfl) (fun W hS => ?_) ?_; rotate_left 1; focus (go_simp; first | done | with_reducible rfl))
       try simp only [Act.put, nA, nB, nC]
       (refine wpT_q (v := ?_) rfl (by rfl) (fun W hS => ?_) ?_; rotate_left 1; focus (go_simp; first | done | with_reducible rfl))
       try simp only [Act.put, nA, nB, nC]
       refine wpT_q (v := .pointer (some ⟨gI, 0 + j * 35, none⟩)) rfl (by rfl) (fun W hS => by exact ((run_ixR (ad := ⟨gI, 0, none⟩) (j := j) (k := 35) (by rw [eS_len]; exact hjl) rfl rfl rfl Try.underlying22 (by kernel_rfl)).trans (by rw [Addr.add_mid]))) ?_
       try simp only [Act.put, nA, nB, nC]
       refine wpT_q (v := .pointer (some ⟨gI, 0 + j * 35 + 0, none⟩)) rfl (by rfl) (fun W hS => by exact (run_fa (i := 0) (off := 0) 0 rfl rfl Try.underlying34 (by kernel_rfl))) ?_
       try simp only [Act.put, nA, nB, nC]
       refine wpT_q (v := .int .i64 (q.kind : Int)) rfl (by rfl) (fun W hS => by exact (run_at rfl rfl (ptI ((hS).at (eS_at hq)) 0 (x := .int .i64 (q.kind : Int)) rfl) (by kernel_rfl))) ?_
       try simp only [Act.put, nA, nB, nC]
       refine wpT_c rfl rfl rfl ?_ ?_ ?_
       ·
        skip
        refine wpL_callv (v := .agg (partW q.kind q.N q.S q.text)) (next_q q hok pr1 va (fB (List.drop (j + 1) G)) _ ⟨k_rd1, ow_rv1, ne_rv1_rd1⟩ (by simp only [List.length_append, List.length_cons, List.length_nil]; omega)) (by rfl) rfl (by kernel_rfl) rfl ?_
        try simp only [Act.put, nA, nB, nC]
        rintro W13 ⟨v_b2, hto⟩
        have hO := hto.off
        have kk := hto.rd.1
        have hv2 := hto.rd.2.1
        have hs2 := hto.sub
        clear hto
        replace k_t20 := blk_off k_t20 hO (nm1 nq_t20_rd1)
        replace k_rd2 := blk_off k_rd2 hO (nm1 nq_rd1_rd2.symm)
        replace ow_in := Row.off ow_in hO (f1 ne_in_rd1)
        replace ow_rv1 := Sl.off ow_rv1 hO (f1 ne_rv1_rd1)
        replace ow_rv2 := Sl.off ow_rv2 hO (f1 ne_rv2_rd1)
        replace off0 := off0.step hO (i1 fb_rd1)
        replace sz := off0.size
        replace k_rd1 := kk
        clear kk hO
        have ow_b2 := hv2
        clear hv2
        have ne_b2_t20 : sb v_b2 (fB (List.drop (j + 1) G)) ≠ some p20_1 := sub_ne hs2 ne_rv1_t20
        have ne_b2_rd1 : sb v_b2 (fB (List.drop (j + 1) G)) ≠ some pr1 := sub_ne hs2 ne_rv1_rd1
        have ne_b2_rd2 : sb v_b2 (fB (List.drop (j + 1) G)) ≠ some pr2 := sub_ne hs2 ne_rv1_rd2
        have dj_in_b2 : ∀ x, (Value.ownBlock (.slice (some ⟨gI, 0, none⟩) (eS G).length cI)) = some x → sb v_b2 (fB (List.drop (j + 1) G)) ≠ some x := sub_dj hs2 (dj_symm dj_rv1_in)
        have dj_rv2_b2 : ∀ x, (sb vb (ptB q ++ (fB (List.drop (j + 1) G) ++ [c]))) = some x → sb v_b2 (fB (List.drop (j + 1) G)) ≠ some x := sub_dj hs2 (dj_symm dj_rv1_rv2)
        clear ow_rv1 ne_rv1_t20 ne_rv1_rd1 ne_rv1_rd2 dj_rv1_in dj_rv1_rv2
        refine wpT_n (fun W => (Row 34 35 W (.slice (some ⟨gI, 0, none⟩) (eS G).length cI) (eS G))) (fun W hS => hS) ow_in ?_
        refine wpT_c rfl rfl rfl ?_ ?_ ?_
        ·
         skip
         refine wpL_callv (v := .agg (partW q.kind q.N q.S q.text)) (next_q q hok pr2 vb (fB (List.drop (j + 1) G) ++ [c]) _ ⟨k_rd2, ow_rv2, ne_rv2_rd2⟩ (by simp only [List.length_append, List.length_cons, List.length_nil]; omega)) (by rfl) rfl (by kernel_rfl) rfl ?_
         try simp only [Act.put, nA, nB, nC]
         rintro W14 ⟨v_b3, hto⟩
         have hO := hto.off
         have kk := hto.rd.1
         have hv2 := hto.rd.2.1
         have hs2 := hto.sub
         clear hto
         replace k_t20 := blk_off k_t20 hO (nm1 nq_t20_rd2)
         replace k_rd1 := blk_off k_rd1 hO (nm1 nq_rd1_rd2)
         replace ow_in := Row.off ow_in hO (f1 ne_in_rd2)
         replace ow_rv2 := Sl.off ow_rv2 hO (f1 ne_rv2_rd2)
         replace ow_b2 := Sl.off ow_b2 hO (f1 ne_b2_rd2)
         replace off0 := off0.step hO (i1 fb_rd2)
         replace sz := off0.size
         replace k_rd2 := kk
         clear kk hO
         have ow_b3 := hv2
         clear hv2
         have ne_b3_t20 : sb v_b3 (fB (List.drop (j + 1) G) ++ [c]) ≠ some p20_1 := sub_ne hs2 ne_rv2_t20
         have ne_b3_rd1 : sb v_b3 (fB (List.drop (j + 1) G) ++ [c]) ≠ some pr1 := sub_ne hs2 ne_rv2_rd1
         have ne_b3_rd2 : sb v_b3 (fB (List.drop (j + 1) G) ++ [c]) ≠ some pr2 := sub_ne hs2 ne_rv2_rd2
         have dj_in_b3 : ∀ x, (Value.ownBlock (.slice (some ⟨gI, 0, none⟩) (eS G).length cI)) = some x → sb v_b3 (fB (List.drop (j + 1) G) ++ [c]) ≠ some x := sub_dj hs2 (dj_symm dj_rv2_in)
         have dj_b2_b3 : ∀ x, (sb v_b2 (fB (List.drop (j + 1) G))) = some x → sb v_b3 (fB (List.drop (j + 1) G) ++ [c]) ≠ some x := sub_dj hs2 (dj_symm dj_rv2_b2)
         clear ow_rv2 ne_rv2_t20 ne_rv2_rd1 ne_rv2_rd2 dj_rv2_in dj_rv2_b2
         refine wpT_n (fun W => (Row 34 35 W (.slice (some ⟨gI, 0, none⟩) (eS G).length cI) (eS G))) (fun W hS => hS) ow_in ?_
         refine wpT_b rfl rfl ?_ ?_
         ·
          skip
          refine wpL_new (z := partC 0 0 (List.replicate 32 0) []) (t := 34) (by rfl) (by first | kernel_rfl | (go_simp; done) | (go_simp; rfl)) ?_
          try simp only [Act.put, nA, nB, nC]
          intro p16_15 W15 n_t16 hO h_
          have nq_t20_t16 : p20_1 ≠ p16_15 := Nat.ne_of_lt (Nat.lt_of_lt_of_le (blk_lt k_t20) n_t16)
          have nq_rd1_t16 : pr1 ≠ p16_15 := Nat.ne_of_lt (Nat.lt_of_lt_of_le (blk_lt k_rd1) n_t16)
          have nq_rd2_t16 : pr2 ≠ p16_15 := Nat.ne_of_lt (Nat.lt_of_lt_of_le (blk_lt k_rd2) n_t16)
          have ne_in_t16 := ne_new (Row.lt ow_in) n_t16
          have ne_b2_t16 := ne_new (Sl.lt ow_b2) n_t16
          have ne_b3_t16 := ne_new (Sl.lt ow_b3) n_t16
          have fb_t16 : Fb p16_15 w.heap.size [] := fb_new (Nat.le_trans sz n_t16)
          replace k_t20 := blk_off k_t20 hO nm0
          replace k_rd1 := blk_off k_rd1 hO nm0
          replace k_rd2 := blk_off k_rd2 hO nm0
          replace ow_in := Row.off ow_in hO f0
          replace ow_b2 := Sl.off ow_b2 hO f0
          replace ow_b3 := Sl.off ow_b3 hO f0
          replace off0 := off0.step hO i0
          replace sz := off0.size
          have k_t16 := h_
          clear hO h_ n_t16
          refine wpT_n (fun W => (Row 34 35 W (.slice (some ⟨gI, 0, none⟩) (eS G).length cI) (eS G))) (fun W hS => hS) ow_in ?_
          refine wpT_e rfl ?_
          refine wpL_new (z := partC 0 0 (List.replicate 32 0) []) (t := 34) (by rfl) (by first | kernel_rfl | (go_simp; done) | (go_simp; rfl)) ?_
          try simp only [Act.put, nA, nB, nC]
          intro p17_16 W16 n_t17 hO h_
          have nq_t20_t17 : p20_1 ≠ p17_16 := Nat.ne_of_lt (Nat.lt_of_lt_of_le (blk_lt k_t20) n_t17)
          have nq_rd1_t17 : pr1 ≠ p17_16 := Nat.ne_of_lt (Nat.lt_of_lt_of_le (blk_lt k_rd1) n_t17)
          have nq_rd2_t17 : pr2 ≠ p17_16 := Nat.ne_of_lt (Nat.lt_of_lt_of_le (blk_lt k_rd2) n_t17)
          have nq_t16_t17 : p16_15 ≠ p17_16 := Nat.ne_of_lt (Nat.lt_of_lt_of_le (blk_lt k_t16) n_t17)
          have ne_in_t17 := ne_new (Row.lt ow_in) n_t17
          have ne_b2_t17 := ne_new (Sl.lt ow_b2) n_t17
          have ne_b3_t17 := ne_new (Sl.lt ow_b3) n_t17
          have fb_t17 : Fb p17_16 w.heap.size [] := fb_new (Nat.le_trans sz n_t17)
          replace k_t20 := blk_off k_t20 hO nm0
          replace k_rd1 := blk_off k_rd1 hO nm0
          replace k_rd2 := blk_off k_rd2 hO nm0
          replace k_t16 := blk_off k_t16 hO nm0
          replace ow_in := Row.off ow_in hO f0
          replace ow_b2 := Sl.off ow_b2 hO f0
          replace ow_b3 := Sl.off ow_b3 hO f0
          replace off0 := off0.step hO i0
          replace sz := off0.size
          have k_t17 := h_
          clear hO h_ n_t17
          refine wpT_n (fun W => (Row 34 35 W (.slice (some ⟨gI, 0, none⟩) (eS G).length cI) (eS G))) (fun W hS => hS) ow_in ?_
          refine wpT_e rfl ?_
          refine wpL_putrow (cells := partW q.kind q.N q.S q.text) (by rfl) rfl rfl rfl k_t16 (by rw [partW_size]; kernel_rfl) (by rw [partC_size (List.length_replicate), partW_size]) (by exact partC_one _ _ _ _) ?_
          try simp only [Act.put, nA, nB, nC]
          intro W17 hO h_
          replace k_t16 : Blk W17 p16_15 (partW q.kind q.N q.S q.text) 34 := h_
          clear h_
          replace k_t20 := blk_off k_t20 hO (nm1 nq_t20_t16)
          replace k_rd1 := blk_off k_rd1 hO (nm1 nq_rd1_t16)
          replace k_rd2 := blk_off k_rd2 hO (nm1 nq_rd2_t16)
          replace k_t17 := blk_off k_t17 hO (nm1 nq_t16_t17.symm)
          replace ow_in := Row.off ow_in hO (f1 ne_in_t16)
          replace ow_b2 := Sl.off ow_b2 hO (f1 ne_b2_t16)
          replace ow_b3 := Sl.off ow_b3 hO (f1 ne_b3_t16)
          replace off0 := off0.step hO (i1 fb_t16)
          replace sz := off0.size
          clear hO
          refine wpT_n (fun W => (Row 34 35 W (.slice (some ⟨gI, 0, none⟩) (eS G).length cI) (eS G))) (fun W hS => hS) ow_in ?_
          refine wpT_e rfl ?_
          refine wpL_putrow (cells := partW q.kind q.N q.S q.text) (by rfl) rfl rfl rfl k_t17 (by rw [partW_size]; kernel_rfl) (by rw [partC_size (List.length_replicate), partW_size]) (by exact partC_one _ _ _ _) ?_
          try simp only [Act.put, nA, nB, nC]
          intro W18 hO h_
          replace k_t17 : Blk W18 p17_16 (partW q.kind q.N q.S q.text) 34 := h_
          clear h_
          replace k_t20 := blk_off k_t20 hO (nm1 nq_t20_t17)
          replace k_rd1 := blk_off k_rd1 hO (nm1 nq_rd1_t17)
          replace k_rd2 := blk_off k_rd2 hO (nm1 nq_rd2_t17)
          replace k_t16 := blk_off k_t16 hO (nm1 nq_t16_t17)
          replace ow_in := Row.off ow_in hO (f1 ne_in_t17)
          replace ow_b2 := Sl.off ow_b2 hO (f1 ne_b2_t17)
          replace ow_b3 := Sl.off ow_b3 hO (f1 ne_b3_t17)
          replace off0 := off0.step hO (i1 fb_t17)
          replace sz := off0.size
          clear hO
          refine wpT_n (fun W => (Row 34 35 W (.slice (some ⟨gI, 0, none⟩) (eS G).length cI) (eS G))) (fun W hS => hS) ow_in ?_
          refine wpT_z ?_
          exact ⟨p16_15, p17_16, v_b2, v_b3, (by simp only [putL, List.foldl_cons, List.foldl_nil, Act.put, nA, nB, nC]), off0, k_t20, k_rd1, k_rd2, k_t16, k_t17, ow_in, ow_b2, ow_b3, ne_b2_t20, ne_b2_rd1, ne_b2_rd2, ne_b2_t16, ne_b2_t17, (dj_symm dj_in_b2), dj_b2_b3, ne_b3_t20, ne_b3_rd1, ne_b3_rd2, ne_b3_t16, ne_b3_t17, (dj_symm dj_in_b3), fb_t16, nq_t20_t16, nq_rd1_t16, nq_rd2_t16, ne_in_t16, fb_t17, nq_t20_t17, nq_rd1_t17, nq_rd2_t17, nq_t16_t17, ne_in_t17⟩
         ·
          skip
          refine wpL_new (z := partC 0 0 (List.replicate 32 0) []) (t := 34) (by rfl) (by first | kernel_rfl | (go_simp; done) | (go_simp; rfl)) ?_
          try simp only [Act.put, nA, nB, nC]
          intro p17_15 W15 n_t17 hO h_
          have nq_t20_t17 : p20_1 ≠ p17_15 := Nat.ne_of_lt (Nat.lt_of_lt_of_le (blk_lt k_t20) n_t17)
          have nq_rd1_t17 : pr1 ≠ p17_15 := Nat.ne_of_lt (Nat.lt_of_lt_of_le (blk_lt k_rd1) n_t17)
          have nq_rd2_t17 : pr2 ≠ p17_15 := Nat.ne_of_lt (Nat.lt_of_lt_of_le (blk_lt k_rd2) n_t17)
          have ne_in_t17 := ne_new (Row.lt ow_in) n_t17
          have ne_b2_t17 := ne_new (Sl.lt ow_b2) n_t17
          have ne_b3_t17 := ne_new (Sl.lt ow_b3) n_t17
          have fb_t17 : Fb p17_15 w.heap.size [] := fb_new (Nat.le_trans sz n_t17)
          replace k_t20 := blk_off k_t20 hO nm0
          replace k_rd1 := blk_off k_rd1 hO nm0
          replace k_rd2 := blk_off k_rd2 hO nm0
          replace ow_in := Row.off ow_in hO f0
          replace ow_b2 := Sl.off ow_b2 hO f0
          replace ow_b3 := Sl.off ow_b3 hO f0
          replace off0 := off0.step hO i0
          replace sz := off0.size
          have k_t17 := h_
          clear hO h_ n_t17
          refine wpT_n (fun W => (Row 34 35 W (.slice (some ⟨gI, 0, none⟩) (eS G).length cI) (eS G))) (fun W hS => hS) ow_in ?_
          refine wpT_e rfl ?_
          refine wpL_new (z := partC 0 0 (List.replicate 32 0) []) (t := 34) (by rfl) (by first | kernel_rfl | (go_simp; done) | (go_simp; rfl)) ?_
          try simp only [Act.put, nA, nB, nC]
          intro p16_16 W16 n_t16 hO h_
          have nq_t20_t16 : p20_1 ≠ p16_16 := Nat.ne_of_lt (Nat.lt_of_lt_of_le (blk_lt k_t20) n_t16)
          have nq_rd1_t16 : pr1 ≠ p16_16 := Nat.ne_of_lt (Nat.lt_of_lt_of_le (blk_lt k_rd1) n_t16)
          have nq_rd2_t16 : pr2 ≠ p16_16 := Nat.ne_of_lt (Nat.lt_of_lt_of_le (blk_lt k_rd2) n_t16)
          have nq_t17_t16 : p17_15 ≠ p16_16 := Nat.ne_of_lt (Nat.lt_of_lt_of_le (blk_lt k_t17) n_t16)
          have ne_in_t16 := ne_new (Row.lt ow_in) n_t16
          have ne_b2_t16 := ne_new (Sl.lt ow_b2) n_t16
          have ne_b3_t16 := ne_new (Sl.lt ow_b3) n_t16
          have fb_t16 : Fb p16_16 w.heap.size [] := fb_new (Nat.le_trans sz n_t16)
          replace k_t20 := blk_off k_t20 hO nm0
          replace k_rd1 := blk_off k_rd1 hO nm0
          replace k_rd2 := blk_off k_rd2 hO nm0
          replace k_t17 := blk_off k_t17 hO nm0
          replace ow_in := Row.off ow_in hO f0
          replace ow_b2 := Sl.off ow_b2 hO f0
          replace ow_b3 := Sl.off ow_b3 hO f0
          replace off0 := off0.step hO i0
          replace sz := off0.size
          have k_t16 := h_
          clear hO h_ n_t16
          refine wpT_n (fun W => (Row 34 35 W (.slice (some ⟨gI, 0, none⟩) (eS G).length cI) (eS G))) (fun W hS => hS) ow_in ?_
          refine wpT_e rfl ?_
          refine wpL_putrow (cells := partW q.kind q.N q.S q.text) (by rfl) rfl rfl rfl k_t16 (by rw [partW_size]; kernel_rfl) (by rw [partC_size (List.length_replicate), partW_size]) (by exact partC_one _ _ _ _) ?_
          try simp only [Act.put, nA, nB, nC]
          intro W17 hO h_
          replace k_t16 : Blk W17 p16_16 (partW q.kind q.N q.S q.text) 34 := h_
          clear h_
          replace k_t20 := blk_off k_t20 hO (nm1 nq_t20_t16)
          replace k_rd1 := blk_off k_rd1 hO (nm1 nq_rd1_t16)
          replace k_rd2 := blk_off k_rd2 hO (nm1 nq_rd2_t16)
          replace k_t17 := blk_off k_t17 hO (nm1 nq_t17_t16)
          replace ow_in := Row.off ow_in hO (f1 ne_in_t16)
          replace ow_b2 := Sl.off ow_b2 hO (f1 ne_b2_t16)
          replace ow_b3 := Sl.off ow_b3 hO (f1 ne_b3_t16)
          replace off0 := off0.step hO (i1 fb_t16)
          replace sz := off0.size
          clear hO
          refine wpT_n (fun W => (Row 34 35 W (.slice (some ⟨gI, 0, none⟩) (eS G).length cI) (eS G))) (fun W hS => hS) ow_in ?_
          refine wpT_e rfl ?_
          refine wpL_putrow (cells := partW q.kind q.N q.S q.text) (by rfl) rfl rfl rfl k_t17 (by rw [partW_size]; kernel_rfl) (by rw [partC_size (List.length_replicate), partW_size]) (by exact partC_one _ _ _ _) ?_
          try simp only [Act.put, nA, nB, nC]
          intro W18 hO h_
          replace k_t17 : Blk W18 p17_15 (partW q.kind q.N q.S q.text) 34 := h_
          clear h_
          replace k_t20 := blk_off k_t20 hO (nm1 nq_t20_t17)
          replace k_rd1 := blk_off k_rd1 hO (nm1 nq_rd1_t17)
          replace k_rd2 := blk_off k_rd2 hO (nm1 nq_rd2_t17)
          replace k_t16 := blk_off k_t16 hO (nm1 nq_t17_t16.symm)
          replace ow_in := Row.off ow_in hO (f1 ne_in_t17)
          replace ow_b2 := Sl.off ow_b2 hO (f1 ne_b2_t17)
          replace ow_b3 := Sl.off ow_b3 hO (f1 ne_b3_t17)
          replace off0 := off0.step hO (i1 fb_t17)
          replace sz := off0.size
          clear hO
          refine wpT_n (fun W => (Row 34 35 W (.slice (some ⟨gI, 0, none⟩) (eS G).length cI) (eS G))) (fun W hS => hS) ow_in ?_
          refine wpT_z ?_
          exact ⟨p16_16, p17_15, v_b2, v_b3, (by simp only [putL, List.foldl_cons, List.foldl_nil, Act.put, nA, nB, nC]), off0, k_t20, k_rd1, k_rd2, k_t16, k_t17, ow_in, ow_b2, ow_b3, ne_b2_t20, ne_b2_rd1, ne_b2_rd2, ne_b2_t16, ne_b2_t17, (dj_symm dj_in_b2), dj_b2_b3, ne_b3_t20, ne_b3_rd1, ne_b3_rd2, ne_b3_t16, ne_b3_t17, (dj_symm dj_in_b3), fb_t16, nq_t20_t16, nq_rd1_t16, nq_rd2_t16, ne_in_t16, fb_t17, nq_t20_t17, nq_rd1_t17, nq_rd2_t17, nq_t17_t16.symm, ne_in_t17⟩
        ·
         skip
         refine wpL_new (z := partC 0 0 (List.replicate 32 0) []) (t := 34) (by rfl) (by first | kernel_rfl | (go_simp; done) | (go_simp; rfl)) ?_
         try simp only [Act.put, nA, nB, nC]
         intro p16_14 W14 n_t16 hO h_
         have nq_t20_t16 : p20_1 ≠ p16_14 := Nat.ne_of_lt (Nat.lt_of_lt_of_le (blk_lt k_t20) n_t16)
         have nq_rd1_t16 : pr1 ≠ p16_14 := Nat.ne_of_lt (Nat.lt_of_lt_of_le (blk_lt k_rd1) n_t16)
         have nq_rd2_t16 : pr2 ≠ p16_14 := Nat.ne_of_lt (Nat.lt_of_lt_of_le (blk_lt k_rd2) n_t16)
         have ne_in_t16 := ne_new (Row.lt ow_in) n_t16
         have ne_rv2_t16 := ne_new (Sl.lt ow_rv2) n_t16
         have ne_b2_t16 := ne_new (Sl.lt ow_b2) n_t16
         have fb_t16 : Fb p16_14 w.heap.size [] := fb_new (Nat.le_trans sz n_t16)
         replace k_t20 := blk_off k_t20 hO nm0
         replace k_rd1 := blk_off k_rd1 hO nm0
         replace k_rd2 := blk_off k_rd2 hO nm0
         replace ow_in := Row.off ow_in hO f0
         replace ow_rv2 := Sl.off ow_rv2 hO f0
         replace ow_b2 := Sl.off ow_b2 hO f0
         replace off0 := off0.step hO i0
         replace sz := off0.size
         have k_t16 := h_
         clear hO h_ n_t16
         refine wpT_n (fun W => (Row 34 35 W (.slice (some ⟨gI, 0, none⟩) (eS G).length cI) (eS G))) (fun W hS => hS) ow_in ?_
         refine wpT_b rfl rfl ?_ ?_
         ·
          skip
          refine wpL_callv (v := .agg (partW q.kind q.N q.S q.text)) (next_q q hok pr2 vb (fB (List.drop (j + 1) G) ++ [c]) _ ⟨k_rd2, ow_rv2, ne_rv2_rd2⟩ (by simp only [List.length_append, List.length_cons, List.length_nil]; omega)) (by rfl) rfl (by kernel_rfl) rfl ?_
          try simp only [Act.put, nA, nB, nC]
          rintro W15 ⟨v_b3, hto⟩
          have hO := hto.off
          have kk := hto.rd.1
          have hv2 := hto.rd.2.1
          have hs2 := hto.sub
          clear hto
          replace k_t20 := blk_off k_t20 hO (nm1 nq_t20_rd2)
          replace k_rd1 := blk_off k_rd1 hO (nm1 nq_rd1_rd2)
          replace k_t16 := blk_off k_t16 hO (nm1 nq_rd2_t16.symm)
          replace ow_in := Row.off ow_in hO (f1 ne_in_rd2)
          replace ow_rv2 := Sl.off ow_rv2 hO (f1 ne_rv2_rd2)
          replace ow_b2 := Sl.off ow_b2 hO (f1 ne_b2_rd2)
          replace off0 := off0.step hO (i1 fb_rd2)
          replace sz := off0.size
          replace k_rd2 := kk
          clear kk hO
          have ow_b3 := hv2
          clear hv2
          have ne_b3_t20 : sb v_b3 (fB (List.drop (j + 1) G) ++ [c]) ≠ some p20_1 := sub_ne hs2 ne_rv2_t20
          have ne_b3_rd1 : sb v_b3 (fB (List.drop (j + 1) G) ++ [c]) ≠ some pr1 := sub_ne hs2 ne_rv2_rd1
          have ne_b3_rd2 : sb v_b3 (fB (List.drop (j + 1) G) ++ [c]) ≠ some pr2 := sub_ne hs2 ne_rv2_rd2
          have ne_b3_t16 : sb v_b3 (fB (List.drop (j + 1) G) ++ [c]) ≠ some p16_14 := sub_ne hs2 ne_rv2_t16
          have dj_in_b3 : ∀ x, (Value.ownBlock (.slice (some ⟨gI, 0, none⟩) (eS G).length cI)) = some x → sb v_b3 (fB (List.drop (j + 1) G) ++ [c]) ≠ some x := sub_dj hs2 (dj_symm dj_rv2_in)
          have dj_b2_b3 : ∀ x, (sb v_b2 (fB (List.drop (j + 1) G))) = some x → sb v_b3 (fB (List.drop (j + 1) G) ++ [c]) ≠ some x := sub_dj hs2 (dj_symm dj_rv2_b2)
          clear ow_rv2 ne_rv2_t20 ne_rv2_rd1 ne_rv2_rd2 ne_rv2_t16 dj_rv2_in dj_rv2_b2
          refine wpT_n (fun W => (Row 34 35 W (.slice (some ⟨gI, 0, none⟩) (eS G).length cI) (eS G))) (fun W hS => hS) ow_in ?_
          refine wpT_e rfl ?_
          refine wpL_new (z := partC 0 0 (List.replicate 32 0) []) (t := 34) (by rfl) (by first | kernel_rfl | (go_simp; done) | (go_simp; rfl)) ?_
          try simp only [Act.put, nA, nB, nC]
          intro p17_16 W16 n_t17 hO h_
          have nq_t20_t17 : p20_1 ≠ p17_16 := Nat.ne_of_lt (Nat.lt_of_lt_of_le (blk_lt k_t20) n_t17)
          have nq_rd1_t17 : pr1 ≠ p17_16 := Nat.ne_of_lt (Nat.lt_of_lt_of_le (blk_lt k_rd1) n_t17)
          have nq_rd2_t17 : pr2 ≠ p17_16 := Nat.ne_of_lt (Nat.lt_of_lt_of_le (blk_lt k_rd2) n_t17)
          have nq_t16_t17 : p16_14 ≠ p17_16 := Nat.ne_of_lt (Nat.lt_of_lt_of_le (blk_lt k_t16) n_t17)
          have ne_in_t17 := ne_new (Row.lt ow_in) n_t17
          have ne_b2_t17 := ne_new (Sl.lt ow_b2) n_t17
          have ne_b3_t17 := ne_new (Sl.lt ow_b3) n_t17
          have fb_t17 : Fb p17_16 w.heap.size [] := fb_new (Nat.le_trans sz n_t17)
          replace k_t20 := blk_off k_t20 hO nm0
          replace k_rd1 := blk_off k_rd1 hO nm0
          replace k_rd2 := blk_off k_rd2 hO nm0
          replace k_t16 := blk_off k_t16 hO nm0
          replace ow_in := Row.off ow_in hO f0
          replace ow_b2 := Sl.off ow_b2 hO f0
          replace ow_b3 := Sl.off ow_b3 hO f0
          replace off0 := off0.step hO i0
          replace sz := off0.size
          have k_t17 := h_
          clear hO h_ n_t17
          refine wpT_n (fun W => (Row 34 35 W (.slice (some ⟨gI, 0, none⟩) (eS G).length cI) (eS G))) (fun W hS => hS) ow_in ?_
          refine wpT_e rfl ?_
          refine wpL_putrow (cells := partW q.kind q.N q.S q.text) (by rfl) rfl rfl rfl k_t16 (by rw [partW_size]; kernel_rfl) (by rw [partC_size (List.length_replicate), partW_size]) (by exact partC_one _ _ _ _) ?_
          try simp only [Act.put, nA, nB, nC]
          intro W17 hO h_
          replace k_t16 : Blk W17 p16_14 (partW q.kind q.N q.S q.text) 34 := h_
          clear h_
          replace k_t20 := blk_off k_t20 hO (nm1 nq_t20_t16)
          replace k_rd1 := blk_off k_rd1 hO (nm1 nq_rd1_t16)
          replace k_rd2 := blk_off k_rd2 hO (nm1 nq_rd2_t16)
          replace k_t17 := blk_off k_t17 hO (nm1 nq_t16_t17.symm)
          replace ow_in := Row.off ow_in hO (f1 ne_in_t16)
          replace ow_b2 := Sl.off ow_b2 hO (f1 ne_b2_t16)
          replace ow_b3 := Sl.off ow_b3 hO (f1 ne_b3_t16)
          replace off0 := off0.step hO (i1 fb_t16)
          replace sz := off0.size
          clear hO
          refine wpT_n (fun W => (Row 34 35 W (.slice (some ⟨gI, 0, none⟩) (eS G).length cI) (eS G))) (fun W hS => hS) ow_in ?_
          refine wpT_e rfl ?_
          refine wpL_putrow (cells := partW q.kind q.N q.S q.text) (by rfl) rfl rfl rfl k_t17 (by rw [partW_size]; kernel_rfl) (by rw [partC_size (List.length_replicate), partW_size]) (by exact partC_one _ _ _ _) ?_
          try simp only [Act.put, nA, nB, nC]
          intro W18 hO h_
          replace k_t17 : Blk W18 p17_16 (partW q.kind q.N q.S q.text) 34 := h_
          clear h_
          replace k_t20 := blk_off k_t20 hO (nm1 nq_t20_t17)
          replace k_rd1 := blk_off k_rd1 hO (nm1 nq_rd1_t17)
          replace k_rd2 := blk_off k_rd2 hO (nm1 nq_rd2_t17)
          replace k_t16 := blk_off k_t16 hO (nm1 nq_t16_t17)
          replace ow_in := Row.off ow_in hO (f1 ne_in_t17)
          replace ow_b2 := Sl.off ow_b2 hO (f1 ne_b2_t17)
          replace ow_b3 := Sl.off ow_b3 hO (f1 ne_b3_t17)
          replace off0 := off0.step hO (i1 fb_t17)
          replace sz := off0.size
          clear hO
          refine wpT_n (fun W => (Row 34 35 W (.slice (some ⟨gI, 0, none⟩) (eS G).length cI) (eS G))) (fun W hS => hS) ow_in ?_
          refine wpT_z ?_
          exact ⟨p16_14, p17_16, v_b2, v_b3, (by simp only [putL, List.foldl_cons, List.foldl_nil, Act.put, nA, nB, nC]), off0, k_t20, k_rd1, k_rd2, k_t16, k_t17, ow_in, ow_b2, ow_b3, ne_b2_t20, ne_b2_rd1, ne_b2_rd2, ne_b2_t16, ne_b2_t17, (dj_symm dj_in_b2), dj_b2_b3, ne_b3_t20, ne_b3_rd1, ne_b3_rd2, ne_b3_t16, ne_b3_t17, (dj_symm dj_in_b3), fb_t16, nq_t20_t16, nq_rd1_t16, nq_rd2_t16, ne_in_t16, fb_t17, nq_t20_t17, nq_rd1_t17, nq_rd2_t17, nq_t16_t17, ne_in_t17⟩
         ·
          skip
          refine wpL_new (z := partC 0 0 (List.replicate 32 0) []) (t := 34) (by rfl) (by first | kernel_rfl | (go_simp; done) | (go_simp; rfl)) ?_
          try simp only [Act.put, nA, nB, nC]
          intro p17_15 W15 n_t17 hO h_
          have nq_t20_t17 : p20_1 ≠ p17_15 := Nat.ne_of_lt (Nat.lt_of_lt_of_le (blk_lt k_t20) n_t17)
          have nq_rd1_t17 : pr1 ≠ p17_15 := Nat.ne_of_lt (Nat.lt_of_lt_of_le (blk_lt k_rd1) n_t17)
          have nq_rd2_t17 : pr2 ≠ p17_15 := Nat.ne_of_lt (Nat.lt_of_lt_of_le (blk_lt k_rd2) n_t17)
          have nq_t16_t17 : p16_14 ≠ p17_15 := Nat.ne_of_lt (Nat.lt_of_lt_of_le (blk_lt k_t16) n_t17)
          have ne_in_t17 := ne_new (Row.lt ow_in) n_t17
          have ne_rv2_t17 := ne_new (Sl.lt ow_rv2) n_t17
          have ne_b2_t17 := ne_new (Sl.lt ow_b2) n_t17
          have fb_t17 : Fb p17_15 w.heap.size [] := fb_new (Nat.le_trans sz n_t17)
          replace k_t20 := blk_off k_t20 hO nm0
          replace k_rd1 := blk_off k_rd1 hO nm0
          replace k_rd2 := blk_off k_rd2 hO nm0
          replace k_t16 := blk_off k_t16 hO nm0
          replace ow_in := Row.off ow_in hO f0
          replace ow_rv2 := Sl.off ow_rv2 hO f0
          replace ow_b2 := Sl.off ow_b2 hO f0
          replace off0 := off0.step hO i0
          replace sz := off0.size
          have k_t17 := h_
          clear hO h_ n_t17
          refine wpT_n (fun W => (Row 34 35 W (.slice (some ⟨gI, 0, none⟩) (eS G).length cI) (eS G))) (fun W hS => hS) ow_in ?_
          refine wpT_e rfl ?_
          refine wpL_callv (v := .agg (partW q.kind q.N q.S q.text)) (next_q q hok pr2 vb (fB (List.drop (j + 1) G) ++ [c]) _ ⟨k_rd2, ow_rv2, ne_rv2_rd2⟩ (by simp only [List.length_append, List.length_cons, List.length_nil]; omega)) (by rfl) rfl (by kernel_rfl) rfl ?_
          try simp only [Act.put, nA, nB, nC]
          rintro W16 ⟨v_b3, hto⟩
          have hO := hto.off
          have kk := hto.rd.1
          have hv2 := hto.rd.2.1
          have hs2 := hto.sub
          clear hto
          replace k_t20 := blk_off k_t20 hO (nm1 nq_t20_rd2)
          replace k_rd1 := blk_off k_rd1 hO (nm1 nq_rd1_rd2)
          replace k_t16 := blk_off k_t16 hO (nm1 nq_rd2_t16.symm)
          replace k_t17 := blk_off k_t17 hO (nm1 nq_rd2_t17.symm)
          replace ow_in := Row.off ow_in hO (f1 ne_in_rd2)
          replace ow_rv2 := Sl.off ow_rv2 hO (f1 ne_rv2_rd2)
          replace ow_b2 := Sl.off ow_b2 hO (f1 ne_b2_rd2)
          replace off0 := off0.step hO (i1 fb_rd2)
          replace sz := off0.size
          replace k_rd2 := kk
          clear kk hO
          have ow_b3 := hv2
          clear hv2
          have ne_b3_t20 : sb v_b3 (fB (List.drop (j + 1) G) ++ [c]) ≠ some p20_1 := sub_ne hs2 ne_rv2_t20
          have ne_b3_rd1 : sb v_b3 (fB (List.drop (j + 1) G) ++ [c]) ≠ some pr1 := sub_ne hs2 ne_rv2_rd1
          have ne_b3_rd2 : sb v_b3 (fB (List.drop (j + 1) G) ++ [c]) ≠ some pr2 := sub_ne hs2 ne_rv2_rd2
          have ne_b3_t16 : sb v_b3 (fB (List.drop (j + 1) G) ++ [c]) ≠ some p16_14 := sub_ne hs2 ne_rv2_t16
          have ne_b3_t17 : sb v_b3 (fB (List.drop (j + 1) G) ++ [c]) ≠ some p17_15 := sub_ne hs2 ne_rv2_t17
          have dj_in_b3 : ∀ x, (Value.ownBlock (.slice (some ⟨gI, 0, none⟩) (eS G).length cI)) = some x → sb v_b3 (fB (List.drop (j + 1) G) ++ [c]) ≠ some x := sub_dj hs2 (dj_symm dj_rv2_in)
          have dj_b2_b3 : ∀ x, (sb v_b2 (fB (List.drop (j + 1) G))) = some x → sb v_b3 (fB (List.drop (j + 1) G) ++ [c]) ≠ some x := sub_dj hs2 (dj_symm dj_rv2_b2)
          clear ow_rv2 ne_rv2_t20 ne_rv2_rd1 ne_rv2_rd2 ne_rv2_t16 ne_rv2_t17 dj_rv2_in dj_rv2_b2
          refine wpT_n (fun W => (Row 34 35 W (.slice (some ⟨gI, 0, none⟩) (eS G).length cI) (eS G))) (fun W hS => hS) ow_in ?_
          refine wpT_e rfl ?_
          refine wpL_putrow (cells := partW q.kind q.N q.S q.text) (by rfl) rfl rfl rfl k_t16 (by rw [partW_size]; kernel_rfl) (by rw [partC_size (List.length_replicate), partW_size]) (by exact partC_one _ _ _ _) ?_
          try simp only [Act.put, nA, nB, nC]
          intro W17 hO h_
          replace k_t16 : Blk W17 p16_14 (partW q.kind q.N q.S q.text) 34 := h_
          clear h_
          replace k_t20 := blk_off k_t20 hO (nm1 nq_t20_t16)
          replace k_rd1 := blk_off k_rd1 hO (nm1 nq_rd1_t16)
          replace k_rd2 := blk_off k_rd2 hO (nm1 nq_rd2_t16)
          replace k_t17 := blk_off k_t17 hO (nm1 nq_t16_t17.symm)
          replace ow_in := Row.off ow_in hO (f1 ne_in_t16)
          replace ow_b2 := Sl.off ow_b2 hO (f1 ne_b2_t16)
          replace ow_b3 := Sl.off ow_b3 hO (f1 ne_b3_t16)
          replace off0 := off0.step hO (i1 fb_t16)
          replace sz := off0.size
          clear hO
          refine wpT_n (fun W => (Row 34 35 W (.slice (some ⟨gI, 0, none⟩) (eS G).length cI) (eS G))) (fun W hS => hS) ow_in ?_
          refine wpT_e rfl ?_
          refine wpL_putrow (cells := partW q.kind q.N q.S q.text) (by rfl) rfl rfl rfl k_t17 (by rw [partW_size]; kernel_rfl) (by rw [partC_size (List.length_replicate), partW_size]) (by exact partC_one _ _ _ _) ?_
          try simp only [Act.put, nA, nB, nC]
          intro W18 hO h_
          replace k_t17 : Blk W18 p17_15 (partW q.kind q.N q.S q.text) 34 := h_
          clear h_
          replace k_t20 := blk_off k_t20 hO (nm1 nq_t20_t17)
          replace k_rd1 := blk_off k_rd1 hO (nm1 nq_rd1_t17)
          replace k_rd2 := blk_off k_rd2 hO (nm1 nq_rd2_t17)
          replace k_t16 := blk_off k_t16 hO (nm1 nq_t16_t17)
          replace ow_in := Row.off ow_in hO (f1 ne_in_t17)
          replace ow_b2 := Sl.off ow_b2 hO (f1 ne_b2_t17)
          replace ow_b3 := Sl.off ow_b3 hO (f1 ne_b3_t17)
          replace off0 := off0.step hO (i1 fb_t17)
          replace sz := off0.size
          clear hO
          refine wpT_n (fun W => (Row 34 35 W (.slice (some ⟨gI, 0, none⟩) (eS G).length cI) (eS G))) (fun W hS => hS) ow_in ?_
          refine wpT_z ?_
          exact ⟨p16_14, p17_15, v_b2, v_b3, (by simp only [putL, List.foldl_cons, List.foldl_nil, Act.put, nA, nB, nC]), off0, k_t20, k_rd1, k_rd2, k_t16, k_t17, ow_in, ow_b2, ow_b3, ne_b2_t20, ne_b2_rd1, ne_b2_rd2, ne_b2_t16, ne_b2_t17, (dj_symm dj_in_b2), dj_b2_b3, ne_b3_t20, ne_b3_rd1, ne_b3_rd2, ne_b3_t16, ne_b3_t17, (dj_symm dj_in_b3), fb_t16, nq_t20_t16, nq_rd1_t16, nq_rd2_t16, ne_in_t16, fb_t17, nq_t20_t17, nq_rd1_t17, nq_rd2_t17, nq_t16_t17, ne_in_t17⟩
        ·
         skip
         refine wpL_new (z := partC 0 0 (List.replicate 32 0) []) (t := 34) (by rfl) (by first | kernel_rfl | (go_simp; done) | (go_simp; rfl)) ?_
         try simp only [Act.put, nA, nB, nC]
         intro p17_14 W14 n_t17 hO h_
         have nq_t20_t17 : p20_1 ≠ p17_14 := Nat.ne_of_lt (Nat.lt_of_lt_of_le (blk_lt k_t20) n_t17)
         have nq_rd1_t17 : pr1 ≠ p17_14 := Nat.ne_of_lt (Nat.lt_of_lt_of_le (blk_lt k_rd1) n_t17)
         have nq_rd2_t17 : pr2 ≠ p17_14 := Nat.ne_of_lt (Nat.lt_of_lt_of_le (blk_lt k_rd2) n_t17)
         have ne_in_t17 := ne_new (Row.lt ow_in) n_t17
         have ne_rv2_t17 := ne_new (Sl.lt ow_rv2) n_t17
         have ne_b2_t17 := ne_new (Sl.lt ow_b2) n_t17
         have fb_t17 : Fb p17_14 w.heap.size [] := fb_new (Nat.le_trans sz n_t17)
         replace k_t20 := blk_off k_t20 hO nm0
         replace k_rd1 := blk_off k_rd1 hO nm0
         replace k_rd2 := blk_off k_rd2 hO nm0
         replace ow_in := Row.off ow_in hO f0
         replace ow_rv2 := Sl.off ow_rv2 hO f0
         replace ow_b2 := Sl.off ow_b2 hO f0
         replace off0 := off0.step hO i0
         replace sz := off0.size
         have k_t17 := h_
         clear hO h_ n_t17
         refine wpT_n (fun W => (Row 34 35 W (.slice (some ⟨gI, 0, none⟩) (eS G).length cI) (eS G))) (fun W hS => hS) ow_in ?_
         refine wpT_b rfl rfl ?_ ?_
         ·
          skip
          refine wpL_callv (v := .agg (partW q.kind q.N q.S q.text)) (next_q q hok pr2 vb (fB (List.drop (j + 1) G) ++ [c]) _ ⟨k_rd2, ow_rv2, ne_rv2_rd2⟩ (by simp only [List.length_append, List.length_cons, List.length_nil]; omega)) (by rfl) rfl (by kernel_rfl) rfl ?_
          try simp only [Act.put, nA, nB, nC]
          rintro W15 ⟨v_b3, hto⟩
          have hO := hto.off
          have kk := hto.rd.1
          have hv2 := hto.rd.2.1
          have hs2 := hto.sub
          clear hto
          replace k_t20 := blk_off k_t20 hO (nm1 nq_t20_rd2)
          replace k_rd1 := blk_off k_rd1 hO (nm1 nq_rd1_rd2)
          replace k_t17 := blk_off k_t17 hO (nm1 nq_rd2_t17.symm)
          replace ow_in := Row.off ow_in hO (f1 ne_in_rd2)
          replace ow_rv2 := Sl.off ow_rv2 hO (f1 ne_rv2_rd2)
          replace ow_b2 := Sl.off ow_b2 hO (f1 ne_b2_rd2)
          replace off0 := off0.step hO (i1 fb_rd2)
          replace sz := off0.size
          replace k_rd2 := kk
          clear kk hO
          have ow_b3 := hv2
          clear hv2
          have ne_b3_t20 : sb v_b3 (fB (List.drop (j + 1) G) ++ [c]) ≠ some p20_1 := sub_ne hs2 ne_rv2_t20
          have ne_b3_rd1 : sb v_b3 (fB (List.drop (j + 1) G) ++ [c]) ≠ some pr1 := sub_ne hs2 ne_rv2_rd1
          have ne_b3_rd2 : sb v_b3 (fB (List.drop (j + 1) G) ++ [c]) ≠ some pr2 := sub_ne hs2 ne_rv2_rd2
          have ne_b3_t17 : sb v_b3 (fB (List.drop (j + 1) G) ++ [c]) ≠ some p17_14 := sub_ne hs2 ne_rv2_t17
          have dj_in_b3 : ∀ x, (Value.ownBlock (.slice (some ⟨gI, 0, none⟩) (eS G).length cI)) = some x → sb v_b3 (fB (List.drop (j + 1) G) ++ [c]) ≠ some x := sub_dj hs2 (dj_symm dj_rv2_in)
          have dj_b2_b3 : ∀ x, (sb v_b2 (fB (List.drop (j + 1) G))) = some x → sb v_b3 (fB (List.drop (j + 1) G) ++ [c]) ≠ some x := sub_dj hs2 (dj_symm dj_rv2_b2)
          clear ow_rv2 ne_rv2_t20 ne_rv2_rd1 ne_rv2_rd2 ne_rv2_t17 dj_rv2_in dj_rv2_b2
          refine wpT_n (fun W => (Row 34 35 W (.slice (some ⟨gI, 0, none⟩) (eS G).length cI) (eS G))) (fun W hS => hS) ow_in ?_
          refine wpT_e rfl ?_
          refine wpL_new (z := partC 0 0 (List.replicate 32 0) []) (t := 34) (by rfl) (by first | kernel_rfl | (go_simp; done) | (go_simp; rfl)) ?_
          try simp only [Act.put, nA, nB, nC]
          intro p16_16 W16 n_t16 hO h_
          have nq_t20_t16 : p20_1 ≠ p16_16 := Nat.ne_of_lt (Nat.lt_of_lt_of_le (blk_lt k_t20) n_t16)
          have nq_rd1_t16 : pr1 ≠ p16_16 := Nat.ne_of_lt (Nat.lt_of_lt_of_le (blk_lt k_rd1) n_t16)
          have nq_rd2_t16 : pr2 ≠ p16_16 := Nat.ne_of_lt (Nat.lt_of_lt_of_le (blk_lt k_rd2) n_t16)
          have nq_t17_t16 : p17_14 ≠ p16_16 := Nat.ne_of_lt (Nat.lt_of_lt_of_le (blk_lt k_t17) n_t16)
          have ne_in_t16 := ne_new (Row.lt ow_in) n_t16
          have ne_b2_t16 := ne_new (Sl.lt ow_b2) n_t16
          have ne_b3_t16 := ne_new (Sl.lt ow_b3) n_t16
          have fb_t16 : Fb p16_16 w.heap.size [] := fb_new (Nat.le_trans sz n_t16)
          replace k_t20 := blk_off k_t20 hO nm0
          replace k_rd1 := blk_off k_rd1 hO nm0
          replace k_rd2 := blk_off k_rd2 hO nm0
          replace k_t17 := blk_off k_t17 hO nm0
          replace ow_in := Row.off ow_in hO f0
          replace ow_b2 := Sl.off ow_b2 hO f0
          replace ow_b3 := Sl.off ow_b3 hO f0
          replace off0 := off0.step hO i0
          replace sz := off0.size
          have k_t16 := h_
          clear hO h_ n_t16
          refine wpT_n (fun W => (Row 34 35 W (.slice (some ⟨gI, 0, none⟩) (eS G).length cI) (eS G))) (fun W hS => hS) ow_in ?_
          refine wpT_e rfl ?_
          refine wpL_putrow (cells := partW q.kind q.N q.S q.text) (by rfl) rfl rfl rfl k_t16 (by rw [partW_size]; kernel_rfl) (by rw [partC_size (List.length_replicate), partW_size]) (by exact partC_one _ _ _ _) ?_
          try simp only [Act.put, nA, nB, nC]
          intro W17 hO h_
          replace k_t16 : Blk W17 p16_16 (partW q.kind q.N q.S q.text) 34 := h_
          clear h_
          replace k_t20 := blk_off k_t20 hO (nm1 nq_t20_t16)
          replace k_rd1 := blk_off k_rd1 hO (nm1 nq_rd1_t16)
          replace k_rd2 := blk_off k_rd2 hO (nm1 nq_rd2_t16)
          replace k_t17 := blk_off k_t17 hO (nm1 nq_t17_t16)
          replace ow_in := Row.off ow_in hO (f1 ne_in_t16)
          replace ow_b2 := Sl.off ow_b2 hO (f1 ne_b2_t16)
          replace ow_b3 := Sl.off ow_b3 hO (f1 ne_b3_t16)
          replace off0 := off0.step hO (i1 fb_t16)
          replace sz := off0.size
          clear hO
          refine wpT_n (fun W => (Row 34 35 W (.slice (some ⟨gI, 0, none⟩) (eS G).length cI) (eS G))) (fun W hS => hS) ow_in ?_
          refine wpT_e rfl ?_
          refine wpL_putrow (cells := partW q.kind q.N q.S q.text) (by rfl) rfl rfl rfl k_t17 (by rw [partW_size]; kernel_rfl) (by rw [partC_size (List.length_replicate), partW_size]) (by exact partC_one _ _ _ _) ?_
          try simp only [Act.put, nA, nB, nC]
          intro W18 hO h_
          replace k_t17 : Blk W18 p17_14 (partW q.kind q.N q.S q.text) 34 := h_
          clear h_
          replace k_t20 := blk_off k_t20 hO (nm1 nq_t20_t17)
          replace k_rd1 := blk_off k_rd1 hO (nm1 nq_rd1_t17)
          replace k_rd2 := blk_off k_rd2 hO (nm1 nq_rd2_t17)
          replace k_t16 := blk_off k_t16 hO (nm1 nq_t17_t16.symm)
          replace ow_in := Row.off ow_in hO (f1 ne_in_t17)
          replace ow_b2 := Sl.off ow_b2 hO (f1 ne_b2_t17)
          replace ow_b3 := Sl.off ow_b3 hO (f1 ne_b3_t17)
          replace off0 := off0.step hO (i1 fb_t17)
          replace sz := off0.size
          clear hO
          refine wpT_n (fun W => (Row 34 35 W (.slice (some ⟨gI, 0, none⟩) (eS G).length cI) (eS G))) (fun W hS => hS) ow_in ?_
          refine wpT_z ?_
          exact ⟨p16_16, p17_14, v_b2, v_b3, (by simp only [putL, List.foldl_cons, List.foldl_nil, Act.put, nA, nB, nC]), off0, k_t20, k_rd1, k_rd2, k_t16, k_t17, ow_in, ow_b2, ow_b3, ne_b2_t20, ne_b2_rd1, ne_b2_rd2, ne_b2_t16, ne_b2_t17, (dj_symm dj_in_b2), dj_b2_b3, ne_b3_t20, ne_b3_rd1, ne_b3_rd2, ne_b3_t16, ne_b3_t17, (dj_symm dj_in_b3), fb_t16, nq_t20_t16, nq_rd1_t16, nq_rd2_t16, ne_in_t16, fb_t17, nq_t20_t17, nq_rd1_t17, nq_rd2_t17, nq_t17_t16.symm, ne_in_t17⟩
         ·
          skip
          refine wpL_new (z := partC 0 0 (List.replicate 32 0) []) (t := 34) (by rfl) (by first | kernel_rfl | (go_simp; done) | (go_simp; rfl)) ?_
          try simp only [Act.put, nA, nB, nC]
          intro p16_15 W15 n_t16 hO h_
          have nq_t20_t16 : p20_1 ≠ p16_15 := Nat.ne_of_lt (Nat.lt_of_lt_of_le (blk_lt k_t20) n_t16)
          have nq_rd1_t16 : pr1 ≠ p16_15 := Nat.ne_of_lt (Nat.lt_of_lt_of_le (blk_lt k_rd1) n_t16)
          have nq_rd2_t16 : pr2 ≠ p16_15 := Nat.ne_of_lt (Nat.lt_of_lt_of_le (blk_lt k_rd2) n_t16)
          have nq_t17_t16 : p17_14 ≠ p16_15 := Nat.ne_of_lt (Nat.lt_of_lt_of_le (blk_lt k_t17) n_t16)
          have ne_in_t16 := ne_new (Row.lt ow_in) n_t16
          have ne_rv2_t16 := ne_new (Sl.lt ow_rv2) n_t16
          have ne_b2_t16 := ne_new (Sl.lt ow_b2) n_t16
          have fb_t16 : Fb p16_15 w.heap.size [] := fb_new (Nat.le_trans sz n_t16)
          replace k_t20 := blk_off k_t20 hO nm0
          replace k_rd1 := blk_off k_rd1 hO nm0
          replace k_rd2 := blk_off k_rd2 hO nm0
          replace k_t17 := blk_off k_t17 hO nm0
          replace ow_in := Row.off ow_in hO f0
          replace ow_rv2 := Sl.off ow_rv2 hO f0
          replace ow_b2 := Sl.off ow_b2 hO f0
          replace off0 := off0.step hO i0
          replace sz := off0.size
          have k_t16 := h_
          clear hO h_ n_t16
          refine wpT_n (fun W => (Row 34 35 W (.slice (some ⟨gI, 0, none⟩) (eS G).length cI) (eS G))) (fun W hS => hS) ow_in ?_
          refine wpT_e rfl ?_
          refine wpL_callv (v := .agg (partW q.kind q.N q.S q.text)) (next_q q hok pr2 vb (fB (List.drop (j + 1) G) ++ [c]) _ ⟨k_rd2, ow_rv2, ne_rv2_rd2⟩ (by simp only [List.length_append, List.length_cons, List.length_nil]; omega)) (by rfl) rfl (by kernel_rfl) rfl ?_
          try simp only [Act.put, nA, nB, nC]
          rintro W16 ⟨v_b3, hto⟩
          have hO := hto.off
          have kk := hto.rd.1
          have hv2 := hto.rd.2.1
          have hs2 := hto.sub
          clear hto
          replace k_t20 := blk_off k_t20 hO (nm1 nq_t20_rd2)
          replace k_rd1 := blk_off k_rd1 hO (nm1 nq_rd1_rd2)
          replace k_t17 := blk_off k_t17 hO (nm1 nq_rd2_t17.symm)
          replace k_t16 := blk_off k_t16 hO (nm1 nq_rd2_t16.symm)
          replace ow_in := Row.off ow_in hO (f1 ne_in_rd2)
          replace ow_rv2 := Sl.off ow_rv2 hO (f1 ne_rv2_rd2)
          replace ow_b2 := Sl.off ow_b2 hO (f1 ne_b2_rd2)
          replace off0 := off0.step hO (i1 fb_rd2)
          replace sz := off0.size
          replace k_rd2 := kk
          clear kk hO
          have ow_b3 := hv2
          clear hv2
          have ne_b3_t20 : sb v_b3 (fB (List.drop (j + 1) G) ++ [c]) ≠ some p20_1 := sub_ne hs2 ne_rv2_t20
          have ne_b3_rd1 : sb v_b3 (fB (List.drop (j + 1) G) ++ [c]) ≠ some pr1 := sub_ne hs2 ne_rv2_rd1
          have ne_b3_rd2 : sb v_b3 (fB (List.drop (j + 1) G) ++ [c]) ≠ some pr2 := sub_ne hs2 ne_rv2_rd2
          have ne_b3_t17 : sb v_b3 (fB (List.drop (j + 1) G) ++ [c]) ≠ some p17_14 := sub_ne hs2 ne_rv2_t17
          have ne_b3_t16 : sb v_b3 (fB (List.drop (j + 1) G) ++ [c]) ≠ some p16_15 := sub_ne hs2 ne_rv2_t16
          have dj_in_b3 : ∀ x, (Value.ownBlock (.slice (some ⟨gI, 0, none⟩) (eS G).length cI)) = some x → sb v_b3 (fB (List.drop (j + 1) G) ++ [c]) ≠ some x := sub_dj hs2 (dj_symm dj_rv2_in)
          have dj_b2_b3 : ∀ x, (sb v_b2 (fB (List.drop (j + 1) G))) = some x → sb v_b3 (fB (List.drop (j + 1) G) ++ [c]) ≠ some x := sub_dj hs2 (dj_symm dj_rv2_b2)
          clear ow_rv2 ne_rv2_t20 ne_rv2_rd1 ne_rv2_rd2 ne_rv2_t17 ne_rv2_t16 dj_rv2_in dj_rv2_b2
          refine wpT_n (fun W => (Row 34 35 W (.slice (some ⟨gI, 0, none⟩) (eS G).length cI) (eS G))) (fun W hS => hS) ow_in ?_
          refine wpT_e rfl ?_
          refine wpL_putrow (cells := partW q.kind q.N q.S q.text) (by rfl) rfl rfl rfl k_t16 (by rw [partW_size]; kernel_rfl) (by rw [partC_size (List.length_replicate), partW_size]) (by exact partC_one _ _ _ _) ?_
          try simp only [Act.put, nA, nB, nC]
          intro W17 hO h_
          replace k_t16 : Blk W17 p16_15 (partW q.kind q.N q.S q.text) 34 := h_
          clear h_
          replace k_t20 := blk_off k_t20 hO (nm1 nq_t20_t16)
          replace k_rd1 := blk_off k_rd1 hO (nm1 nq_rd1_t16)
          replace k_rd2 := blk_off k_rd2 hO (nm1 nq_rd2_t16)
          replace k_t17 := blk_off k_t17 hO (nm1 nq_t17_t16)
          replace ow_in := Row.off ow_in hO (f1 ne_in_t16)
          replace ow_b2 := Sl.off ow_b2 hO (f1 ne_b2_t16)
          replace ow_b3 := Sl.off ow_b3 hO (f1 ne_b3_t16)
          replace off0 := off0.step hO (i1 fb_t16)
          replace sz := off0.size
          clear hO
          refine wpT_n (fun W => (Row 34 35 W (.slice (some ⟨gI, 0, none⟩) (eS G).length cI) (eS G))) (fun W hS => hS) ow_in ?_
          refine wpT_e rfl ?_
          refine wpL_putrow (cells := partW q.kind q.N q.S q.text) (by rfl) rfl rfl rfl k_t17 (by rw [partW_size]; kernel_rfl) (by rw [partC_size (List.length_replicate), partW_size]) (by exact partC_one _ _ _ _) ?_
          try simp only [Act.put, nA, nB, nC]
          intro W18 hO h_
          replace k_t17 : Blk W18 p17_14 (partW q.kind q.N q.S q.text) 34 := h_
          clear h_
          replace k_t20 := blk_off k_t20 hO (nm1 nq_t20_t17)
          replace k_rd1 := blk_off k_rd1 hO (nm1 nq_rd1_t17)
          replace k_rd2 := blk_off k_rd2 hO (nm1 nq_rd2_t17)
          replace k_t16 := blk_off k_t16 hO (nm1 nq_t17_t16.symm)
          replace ow_in := Row.off ow_in hO (f1 ne_in_t17)
          replace ow_b2 := Sl.off ow_b2 hO (f1 ne_b2_t17)
          replace ow_b3 := Sl.off ow_b3 hO (f1 ne_b3_t17)
          replace off0 := off0.step hO (i1 fb_t17)
          replace sz := off0.size
          clear hO
          refine wpT_n (fun W => (Row 34 35 W (.slice (some ⟨gI, 0, none⟩) (eS G).length cI) (eS G))) (fun W hS => hS) ow_in ?_
          refine wpT_z ?_
          exact ⟨p16_15, p17_14, v_b2, v_b3, (by simp only [putL, List.foldl_cons, List.foldl_nil, Act.put, nA, nB, nC]), off0, k_t20, k_rd1, k_rd2, k_t16, k_t17, ow_in, ow_b2, ow_b3, ne_b2_t20, ne_b2_rd1, ne_b2_rd2, ne_b2_t16, ne_b2_t17, (dj_symm dj_in_b2), dj_b2_b3, ne_b3_t20, ne_b3_rd1, ne_b3_rd2, ne_b3_t16, ne_b3_t17, (dj_symm dj_in_b3), fb_t16, nq_t20_t16, nq_rd1_t16, nq_rd2_t16, ne_in_t16, fb_t17, nq_t20_t17, nq_rd1_t17, nq_rd2_t17, nq_t17_t16.symm, ne_in_t17⟩
       ·
        skip
        refine wpL_new (z := partC 0 0 (List.replicate 32 0) []) (t := 34) (by rfl) (by first | kernel_rfl | (go_simp; done) | (go_simp; rfl)) ?_
        try simp only [Act.put, nA, nB, nC]
        intro p16_13 W13 n_t16 hO h_
        have nq_t20_t16 : p20_1 ≠ p16_13 := Nat.ne_of_lt (Nat.lt_of_lt_of_le (blk_lt k_t20) n_t16)
        have nq_rd1_t16 : pr1 ≠ p16_13 := Nat.ne_of_lt (Nat.lt_of_lt_of_le (blk_lt k_rd1) n_t16)
        have nq_rd2_t16 : pr2 ≠ p16_13 := Nat.ne_of_lt (Nat.lt_of_lt_of_le (blk_lt k_rd2) n_t16)
        have ne_in_t16 := ne_new (Row.lt ow_in) n_t16
        have ne_rv1_t16 := ne_new (Sl.lt ow_rv1) n_t16
        have ne_rv2_t16 := ne_new (Sl.lt ow_rv2) n_t16
        have fb_t16 : Fb p16_13 w.heap.size [] := fb_new (Nat.le_trans sz n_t16)
        replace k_t20 := blk_off k_t20 hO nm0
        replace k_rd1 := blk_off k_rd1 hO nm0
        replace k_rd2 := blk_off k_rd2 hO nm0
        replace ow_in := Row.off ow_in hO f0
        replace ow_rv1 := Sl.off ow_rv1 hO f0
        replace ow_rv2 := Sl.off ow_rv2 hO f0
        replace off0 := off0.step hO i0
        replace sz := off0.size
        have k_t16 := h_
        clear hO h_ n_t16
        refine wpT_n (fun W => (Row 34 35 W (.slice (some ⟨gI, 0, none⟩) (eS G).length cI) (eS G))) (fun W hS => hS) ow_in ?_
        refine wpT_b rfl rfl ?_ ?_
        ·
         skip
         refine wpL_callv (v := .agg (partW q.kind q.N q.S q.text)) (next_q q hok pr1 va (fB (List.drop (j + 1) G)) _ ⟨k_rd1, ow_rv1, ne_rv1_rd1⟩ (by simp only [List.length_append, List.length_cons, List.length_nil]; omega)) (by rfl) rfl (by kernel_rfl) rfl ?_
         try simp only [Act.put, nA, nB, nC]
         rintro W14 ⟨v_b2, hto⟩
         have hO := hto.off
         have kk := hto.rd.1
         have hv2 := hto.rd.2.1
         have hs2 := hto.sub
         clear hto
         replace k_t20 := blk_off k_t20 hO (nm1 nq_t20_rd1)
         replace k_rd2 := blk_off k_rd2 hO (nm1 nq_rd1_rd2.symm)
         replace k_t16 := blk_off k_t16 hO (nm1 nq_rd1_t16.symm)
         replace ow_in := Row.off ow_in hO (f1 ne_in_rd1)
         replace ow_rv1 := Sl.off ow_rv1 hO (f1 ne_rv1_rd1)
         replace ow_rv2 := Sl.off ow_rv2 hO (f1 ne_rv2_rd1)
         replace off0 := off0.step hO (i1 fb_rd1)
         replace sz := off0.size
         replace k_rd1 := kk
         clear kk hO
         have ow_b2 := hv2
         clear hv2
         have ne_b2_t20 : sb v_b2 (fB (List.drop (j + 1) G)) ≠ some p20_1 := sub_ne hs2 ne_rv1_t20
         have ne_b2_rd1 : sb v_b2 (fB (List.drop (j + 1) G)) ≠ some pr1 := sub_ne hs2 ne_rv1_rd1
         have ne_b2_rd2 : sb v_b2 (fB (List.drop (j + 1) G)) ≠ some pr2 := sub_ne hs2 ne_rv1_rd2
         have ne_b2_t16 : sb v_b2 (fB (List.drop (j + 1) G)) ≠ some p16_13 := sub_ne hs2 ne_rv1_t16
         have dj_in_b2 : ∀ x, (Value.ownBlock (.slice (some ⟨gI, 0, none⟩) (eS G).length cI)) = some x → sb v_b2 (fB (List.drop (j + 1) G)) ≠ some x := sub_dj hs2 (dj_symm dj_rv1_in)
         have dj_rv2_b2 : ∀ x, (sb vb (ptB q ++ (fB (List.drop (j + 1) G) ++ [c]))) = some x → sb v_b2 (fB (List.drop (j + 1) G)) ≠ some x := sub_dj hs2 (dj_symm dj_rv1_rv2)
         clear ow_rv1 ne_rv1_t20 ne_rv1_rd1 ne_rv1_rd2 ne_rv1_t16 dj_rv1_in dj_rv1_rv2
         refine wpT_n (fun W => (Row 34 35 W (.slice (some ⟨gI, 0, none⟩) (eS G).length cI) (eS G))) (fun W hS => hS) ow_in ?_
         refine wpT_b rfl rfl ?_ ?_
         ·
          skip
          refine wpL_callv (v := .agg (partW q.kind q.N q.S q.text)) (next_q q hok pr2 vb (fB (List.drop (j + 1) G) ++ [c]) _ ⟨k_rd2, ow_rv2, ne_rv2_rd2⟩ (by simp only [List.length_append, List.length_cons, List.length_nil]; omega)) (by rfl) rfl (by kernel_rfl) rfl ?_
          try simp only [Act.put, nA, nB, nC]
          rintro W15 ⟨v_b3, hto⟩
          have hO := hto.off
          have kk := hto.rd.1
          have hv2 := hto.rd.2.1
          have hs2 := hto.sub
          clear hto
          replace k_t20 := blk_off k_t20 hO (nm1 nq_t20_rd2)
          replace k_rd1 := blk_off k_rd1 hO (nm1 nq_rd1_rd2)
          replace k_t16 := blk_off k_t16 hO (nm1 nq_rd2_t16.symm)
          replace ow_in := Row.off ow_in hO (f1 ne_in_rd2)
          replace ow_rv2 := Sl.off ow_rv2 hO (f1 ne_rv2_rd2)
          replace ow_b2 := Sl.off ow_b2 hO (f1 ne_b2_rd2)
          replace off0 := off0.step hO (i1 fb_rd2)
          replace sz := off0.size
          replace k_rd2 := kk
          clear kk hO
          have ow_b3 := hv2
          clear hv2
          have ne_b3_t20 : sb v_b3 (fB (List.drop (j + 1) G) ++ [c]) ≠ some p20_1 := sub_ne hs2 ne_rv2_t20
          have ne_b3_rd1 : sb v_b3 (fB (List.drop (j + 1) G) ++ [c]) ≠ some pr1 := sub_ne hs2 ne_rv2_rd1
          have ne_b3_rd2 : sb v_b3 (fB (List.drop (j + 1) G) ++ [c]) ≠ some pr2 := sub_ne hs2 ne_rv2_rd2
          have ne_b3_t16 : sb v_b3 (fB (List.drop (j + 1) G) ++ [c]) ≠ some p16_13 := sub_ne hs2 ne_rv2_t16
          have dj_in_b3 : ∀ x, (Value.ownBlock (.slice (some ⟨gI, 0, none⟩) (eS G).length cI)) = some x → sb v_b3 (fB (List.drop (j + 1) G) ++ [c]) ≠ some x := sub_dj hs2 (dj_symm dj_rv2_in)
          have dj_b2_b3 : ∀ x, (sb v_b2 (fB (List.drop (j + 1) G))) = some x → sb v_b3 (fB (List.drop (j + 1) G) ++ [c]) ≠ some x := sub_dj hs2 (dj_symm dj_rv2_b2)
          clear ow_rv2 ne_rv2_t20 ne_rv2_rd1 ne_rv2_rd2 ne_rv2_t16 dj_rv2_in dj_rv2_b2
          refine wpT_n (fun W => (Row 34 35 W (.slice (some ⟨gI, 0, none⟩) (eS G).length cI) (eS G))) (fun W hS => hS) ow_in ?_
          refine wpT_e rfl ?_
          refine wpL_new (z := partC 0 0 (List.replicate 32 0) []) (t := 34) (by rfl) (by first | kernel_rfl | (go_simp; done) | (go_simp; rfl)) ?_
          try simp only [Act.put, nA, nB, nC]
          intro p17_16 W16 n_t17 hO h_
          have nq_t20_t17 : p20_1 ≠ p17_16 := Nat.ne_of_lt (Nat.lt_of_lt_of_le (blk_lt k_t20) n_t17)
          have nq_rd1_t17 : pr1 ≠ p17_16 := Nat.ne_of_lt (Nat.lt_of_lt_of_le (blk_lt k_rd1) n_t17)
          have nq_rd2_t17 : pr2 ≠ p17_16 := Nat.ne_of_lt (Nat.lt_of_lt_of_le (blk_lt k_rd2) n_t17)
          have nq_t16_t17 : p16_13 ≠ p17_16 := Nat.ne_of_lt (Nat.lt_of_lt_of_le (blk_lt k_t16) n_t17)
          have ne_in_t17 := ne_new (Row.lt ow_in) n_t17
          have ne_b2_t17 := ne_new (Sl.lt ow_b2) n_t17
          have ne_b3_t17 := ne_new (Sl.lt ow_b3) n_t17
          have fb_t17 : Fb p17_16 w.heap.size [] := fb_new (Nat.le_trans sz n_t17)
          replace k_t20 := blk_off k_t20 hO nm0
          replace k_rd1 := blk_off k_rd1 hO nm0
          replace k_rd2 := blk_off k_rd2 hO nm0
          replace k_t16 := blk_off k_t16 hO nm0
          replace ow_in := Row.off ow_in hO f0
          replace ow_b2 := Sl.off ow_b2 hO f0
          replace ow_b3 := Sl.off ow_b3 hO f0
          replace off0 := off0.step hO i0
          replace sz := off0.size
          have k_t17 := h_
          clear hO h_ n_t17
          refine wpT_n (fun W => (Row 34 35 W (.slice (some ⟨gI, 0, none⟩) (eS G).length cI) (eS G))) (fun W hS => hS) ow_in ?_
          refine wpT_e rfl ?_
          refine wpL_putrow (cells := partW q.kind q.N q.S q.text) (by rfl) rfl rfl rfl k_t16 (by rw [partW_size]; kernel_rfl) (by rw [partC_size (List.length_replicate), partW_size]) (by exact partC_one _ _ _ _) ?_
          try simp only [Act.put, nA, nB, nC]
          intro W17 hO h_
          replace k_t16 : Blk W17 p16_13 (partW q.kind q.N q.S q.text) 34 := h_
          clear h_
          replace k_t20 := blk_off k_t20 hO (nm1 nq_t20_t16)
          replace k_rd1 := blk_off k_rd1 hO (nm1 nq_rd1_t16)
          replace k_rd2 := blk_off k_rd2 hO (nm1 nq_rd2_t16)
          replace k_t17 := blk_off k_t17 hO (nm1 nq_t16_t17.symm)
          replace ow_in := Row.off ow_in hO (f1 ne_in_t16)
          replace ow_b2 := Sl.off ow_b2 hO (f1 ne_b2_t16)
          replace ow_b3 := Sl.off ow_b3 hO (f1 ne_b3_t16)
          replace off0 := off0.step hO (i1 fb_t16)
          replace sz := off0.size
          clear hO
          refine wpT_n (fun W => (Row 34 35 W (.slice (some ⟨gI, 0, none⟩) (eS G).length cI) (eS G))) (fun W hS => hS) ow_in ?_
          refine wpT_e rfl ?_
          refine wpL_putrow (cells := partW q.kind q.N q.S q.text) (by rfl) rfl rfl rfl k_t17 (by rw [partW_size]; kernel_rfl) (by rw [partC_size (List.length_replicate), partW_size]) (by exact partC_one _ _ _ _) ?_
          try simp only [Act.put, nA, nB, nC]
          intro W18 hO h_
          replace k_t17 : Blk W18 p17_16 (partW q.kind q.N q.S q.text) 34 := h_
          clear h_
          replace k_t20 := blk_off k_t20 hO (nm1 nq_t20_t17)
          replace k_rd1 := blk_off k_rd1 hO (nm1 nq_rd1_t17)
          replace k_rd2 := blk_off k_rd2 hO (nm1 nq_rd2_t17)
          replace k_t16 := blk_off k_t16 hO (nm1 nq_t16_t17)
          replace ow_in := Row.off ow_in hO (f1 ne_in_t17)
          replace ow_b2 := Sl.off ow_b2 hO (f1 ne_b2_t17)
          replace ow_b3 := Sl.off ow_b3 hO (f1 ne_b3_t17)
          replace off0 := off0.step hO (i1 fb_t17)
          replace sz := off0.size
          clear hO
          refine wpT_n (fun W => (Row 34 35 W (.slice (some ⟨gI, 0, none⟩) (eS G).length cI) (eS G))) (fun W hS => hS) ow_in ?_
          refine wpT_z ?_
          exact ⟨p16_13, p17_16, v_b2, v_b3, (by simp only [putL, List.foldl_cons, List.foldl_nil, Act.put, nA, nB, nC]), off0, k_t20, k_rd1, k_rd2, k_t16, k_t17, ow_in, ow_b2, ow_b3, ne_b2_t20, ne_b2_rd1, ne_b2_rd2, ne_b2_t16, ne_b2_t17, (dj_symm dj_in_b2), dj_b2_b3, ne_b3_t20, ne_b3_rd1, ne_b3_rd2, ne_b3_t16, ne_b3_t17, (dj_symm dj_in_b3), fb_t16, nq_t20_t16, nq_rd1_t16, nq_rd2_t16, ne_in_t16, fb_t17, nq_t20_t17, nq_rd1_t17, nq_rd2_t17, nq_t16_t17, ne_in_t17⟩
         ·
          skip
          refine wpL_new (z := partC 0 0 (List.replicate 32 0) []) (t := 34) (by rfl) (by first | kernel_rfl | (go_simp; done) | (go_simp; rfl)) ?_
          try simp only [Act.put, nA, nB, nC]
          intro p17_15 W15 n_t17 hO h_
          have nq_t20_t17 : p20_1 ≠ p17_15 := Nat.ne_of_lt (Nat.lt_of_lt_of_le (blk_lt k_t20) n_t17)
          have nq_rd1_t17 : pr1 ≠ p17_15 := Nat.ne_of_lt (Nat.lt_of_lt_of_le (blk_lt k_rd1) n_t17)
          have nq_rd2_t17 : pr2 ≠ p17_15 := Nat.ne_of_lt (Nat.lt_of_lt_of_le (blk_lt k_rd2) n_t17)
          have nq_t16_t17 : p16_13 ≠ p17_15 := Nat.ne_of_lt (Nat.lt_of_lt_of_le (blk_lt k_t16) n_t17)
          have ne_in_t17 := ne_new (Row.lt ow_in) n_t17
          have ne_rv2_t17 := ne_new (Sl.lt ow_rv2) n_t17
          have ne_b2_t17 := ne_new (Sl.lt ow_b2) n_t17
          have fb_t17 : Fb p17_15 w.heap.size [] := fb_new (Nat.le_trans sz n_t17)
          replace k_t20 := blk_off k_t20 hO nm0
          replace k_rd1 := blk_off k_rd1 hO nm0
          replace k_rd2 := blk_off k_rd2 hO nm0
          replace k_t16 := blk_off k_t16 hO nm0
          replace ow_in := Row.off ow_in hO f0
          replace ow_rv2 := Sl.off ow_rv2 hO f0
          replace ow_b2 := Sl.off ow_b2 hO f0
          replace off0 := off0.step hO i0
          replace sz := off0.size
          have k_t17 := h_
          clear hO h_ n_t17
          refine wpT_n (fun W => (Row 34 35 W (.slice (some ⟨gI, 0, none⟩) (eS G).length cI) (eS G))) (fun W hS => hS) ow_in ?_
          refine wpT_e rfl ?_
          refine wpL_callv (v := .agg (partW q.kind q.N q.S q.text)) (next_q q hok pr2 vb (fB (List.drop (j + 1) G) ++ [c]) _ ⟨k_rd2, ow_rv2, ne_rv2_rd2⟩ (by simp only [List.length_append, List.length_cons, List.length_nil]; omega)) (by rfl) rfl (by kernel_rfl) rfl ?_
          try simp only [Act.put, nA, nB, nC]
          rintro W16 ⟨v_b3, hto⟩
          have hO := hto.off
          have kk := hto.rd.1
          have hv2 := hto.rd.2.1
          have hs2 := hto.sub
          clear hto
          replace k_t20 := blk_off k_t20 hO (nm1 nq_t20_rd2)
          replace k_rd1 := blk_off k_rd1 hO (nm1 nq_rd1_rd2)
          replace k_t16 := blk_off k_t16 hO (nm1 nq_rd2_t16.symm)
          replace k_t17 := blk_off k_t17 hO (nm1 nq_rd2_t17.symm)
          replace ow_in := Row.off ow_in hO (f1 ne_in_rd2)
          replace ow_rv2 := Sl.off ow_rv2 hO (f1 ne_rv2_rd2)
          replace ow_b2 := Sl.off ow_b2 hO (f1 ne_b2_rd2)
          replace off0 := off0.step hO (i1 fb_rd2)
          replace sz := off0.size
          replace k_rd2 := kk
          clear kk hO
          have ow_b3 := hv2
          clear hv2
          have ne_b3_t20 : sb v_b3 (fB (List.drop (j + 1) G) ++ [c]) ≠ some p20_1 := sub_ne hs2 ne_rv2_t20
          have ne_b3_rd1 : sb v_b3 (fB (List.drop (j + 1) G) ++ [c]) ≠ some pr1 := sub_ne hs2 ne_rv2_rd1
          have ne_b3_rd2 : sb v_b3 (fB (List.drop (j + 1) G) ++ [c]) ≠ some pr2 := sub_ne hs2 ne_rv2_rd2
          have ne_b3_t16 : sb v_b3 (fB (List.drop (j + 1) G) ++ [c]) ≠ some p16_13 := sub_ne hs2 ne_rv2_t16
          have ne_b3_t17 : sb v_b3 (fB (List.drop (j + 1) G) ++ [c]) ≠ some p17_15 := sub_ne hs2 ne_rv2_t17
          have dj_in_b3 : ∀ x, (Value.ownBlock (.slice (some ⟨gI, 0, none⟩) (eS G).length cI)) = some x → sb v_b3 (fB (List.drop (j + 1) G) ++ [c]) ≠ some x := sub_dj hs2 (dj_symm dj_rv2_in)
          have dj_b2_b3 : ∀ x, (sb v_b2 (fB (List.drop (j + 1) G))) = some x → sb v_b3 (fB (List.drop (j + 1) G) ++ [c]) ≠ some x := sub_dj hs2 (dj_symm dj_rv2_b2)
          clear ow_rv2 ne_rv2_t20 ne_rv2_rd1 ne_rv2_rd2 ne_rv2_t16 ne_rv2_t17 dj_rv2_in dj_rv2_b2
          refine wpT_n (fun W => (Row 34 35 W (.slice (some ⟨gI, 0, none⟩) (eS G).length cI) (eS G))) (fun W hS => hS) ow_in ?_
          refine wpT_e rfl ?_
          refine wpL_putrow (cells := partW q.kind q.N q.S q.text) (by rfl) rfl rfl rfl k_t16 (by rw [partW_size]; kernel_rfl) (by rw [partC_size (List.length_replicate), partW_size]) (by exact partC_one _ _ _ _) ?_
          try simp only [Act.put, nA, nB, nC]
          intro W17 hO h_
          replace k_t16 : Blk W17 p16_13 (partW q.kind q.N q.S q.text) 34 := h_
          clear h_
          replace k_t20 := blk_off k_t20 hO (nm1 nq_t20_t16)
          replace k_rd1 := blk_off k_rd1 hO (nm1 nq_rd1_t16)
          replace k_rd2 := blk_off k_rd2 hO (nm1 nq_rd2_t16)
          replace k_t17 := blk_off k_t17 hO (nm1 nq_t16_t17.symm)
          replace ow_in := Row.off ow_in hO (f1 ne_in_t16)
          replace ow_b2 := Sl.off ow_b2 hO (f1 ne_b2_t16)
          replace ow_b3 := Sl.off ow_b3 hO (f1 ne_b3_t16)
          replace off0 := off0.step hO (i1 fb_t16)
          replace sz := off0.size
          clear hO
          refine wpT_n (fun W => (Row 34 35 W (.slice (some ⟨gI, 0, none⟩) (eS G).length cI) (eS G))) (fun W hS => hS) ow_in ?_
          refine wpT_e rfl ?_
          refine wpL_putrow (cells := partW q.kind q.N q.S q.text) (by rfl) rfl rfl rfl k_t17 (by rw [partW_size]; kernel_rfl) (by rw [partC_size (List.length_replicate), partW_size]) (by exact partC_one _ _ _ _) ?_
          try simp only [Act.put, nA, nB, nC]
          intro W18 hO h_
          replace k_t17 : Blk W18 p17_15 (partW q.kind q.N q.S q.text) 34 := h_
          clear h_
          replace k_t20 := blk_off k_t20 hO (nm1 nq_t20_t17)
          replace k_rd1 := blk_off k_rd1 hO (nm1 nq_rd1_t17)
          replace k_rd2 := blk_off k_rd2 hO (nm1 nq_rd2_t17)
          replace k_t16 := blk_off k_t16 hO (nm1 nq_t16_t17)
          replace ow_in := Row.off ow_in hO (f1 ne_in_t17)
          replace ow_b2 := Sl.off ow_b2 hO (f1 ne_b2_t17)
          replace ow_b3 := Sl.off ow_b3 hO (f1 ne_b3_t17)
          replace off0 := off0.step hO (i1 fb_t17)
          replace sz := off0.size
          clear hO
          refine wpT_n (fun W => (Row 34 35 W (.slice (some ⟨gI, 0, none⟩) (eS G).length cI) (eS G))) (fun W hS => hS) ow_in ?_
          refine wpT_z ?_
          exact ⟨p16_13, p17_15, v_b2, v_b3, (by simp only [putL, List.foldl_cons, List.foldl_nil, Act.put, nA, nB, nC]), off0, k_t20, k_rd1, k_rd2, k_t16, k_t17, ow_in, ow_b2, ow_b3, ne_b2_t20, ne_b2_rd1, ne_b2_rd2, ne_b2_t16, ne_b2_t17, (dj_symm dj_in_b2), dj_b2_b3, ne_b3_t20, ne_b3_rd1, ne_b3_rd2, ne_b3_t16, ne_b3_t17, (dj_symm dj_in_b3), fb_t16, nq_t20_t16, nq_rd1_t16, nq_rd2_t16, ne_in_t16, fb_t17, nq_t20_t17, nq_rd1_t17, nq_rd2_t17, nq_t16_t17, ne_in_t17⟩
        ·
         skip
         refine wpL_new (z := partC 0 0 (List.replicate 32 0) []) (t := 34) (by rfl) (by first | kernel_rfl | (go_simp; done) | (go_simp; rfl)) ?_
         try simp only [Act.put, nA, nB, nC]
         intro p17_14 W14 n_t17 hO h_
         have nq_t20_t17 : p20_1 ≠ p17_14 := Nat.ne_of_lt (Nat.lt_of_lt_of_le (blk_lt k_t20) n_t17)
         have nq_rd1_t17 : pr1 ≠ p17_14 := Nat.ne_of_lt (Nat.lt_of_lt_of_le (blk_lt k_rd1) n_t17)
         have nq_rd2_t17 : pr2 ≠ p17_14 := Nat.ne_of_lt (Nat.lt_of_lt_of_le (blk_lt k_rd2) n_t17)
         have nq_t16_t17 : p16_13 ≠ p17_14 := Nat.ne_of_lt (Nat.lt_of_lt_of_le (blk_lt k_t16) n_t17)
         have ne_in_t17 := ne_new (Row.lt ow_in) n_t17
         have ne_rv1_t17 := ne_new (Sl.lt ow_rv1) n_t17
         have ne_rv2_t17 := ne_new (Sl.lt ow_rv2) n_t17
         have fb_t17 : Fb p17_14 w.heap.size [] := fb_new (Nat.le_trans sz n_t17)
         replace k_t20 := blk_off k_t20 hO nm0
         replace k_rd1 := blk_off k_rd1 hO nm0
         replace k_rd2 := blk_off k_rd2 hO nm0
         replace k_t16 := blk_off k_t16 hO nm0
         replace ow_in := Row.off ow_in hO f0
         replace ow_rv1 := Sl.off ow_rv1 hO f0
         replace ow_rv2 := Sl.off ow_rv2 hO f0
         replace off0 := off0.step hO i0
         replace sz := off0.size
         have k_t17 := h_
         clear hO h_ n_t17
         refine wpT_n (fun W => (Row 34 35 W (.slice (some ⟨gI, 0, none⟩) (eS G).length cI) (eS G))) (fun W hS => hS) ow_in ?_
         refine wpT_e rfl ?_
         refine wpL_callv (v := .agg (partW q.kind q.N q.S q.text)) (next_q q hok pr1 va (fB (List.drop (j + 1) G)) _ ⟨k_rd1, ow_rv1, ne_rv1_rd1⟩ (by simp only [List.length_append, List.length_cons, List.length_nil]; omega)) (by rfl) rfl (by kernel_rfl) rfl ?_
         try simp only [Act.put, nA, nB, nC]
         rintro W15 ⟨v_b2, hto⟩
         have hO := hto.off
         have kk := hto.rd.1
         have hv2 := hto.rd.2.1
         have hs2 := hto.sub
         clear hto
         replace k_t20 := blk_off k_t20 hO (nm1 nq_t20_rd1)
         replace k_rd2 := blk_off k_rd2 hO (nm1 nq_rd1_rd2.symm)
         replace k_t16 := blk_off k_t16 hO (nm1 nq_rd1_t16.symm)
         replace k_t17 := blk_off k_t17 hO (nm1 nq_rd1_t17.symm)
         replace ow_in := Row.off ow_in hO (f1 ne_in_rd1)
         replace ow_rv1 := Sl.off ow_rv1 hO (f1 ne_rv1_rd1)
         replace ow_rv2 := Sl.off ow_rv2 hO (f1 ne_rv2_rd1)
         replace off0 := off0.step hO (i1 fb_rd1)
         replace sz := off0.size
         replace k_rd1 := kk
         clear kk hO
         have ow_b2 := hv2
         clear hv2
         have ne_b2_t20 : sb v_b2 (fB (List.drop (j + 1) G)) ≠ some p20_1 := sub_ne hs2 ne_rv1_t20
         have ne_b2_rd1 : sb v_b2 (fB (List.drop (j + 1) G)) ≠ some pr1 := sub_ne hs2 ne_rv1_rd1
         have ne_b2_rd2 : sb v_b2 (fB (List.drop (j + 1) G)) ≠ some pr2 := sub_ne hs2 ne_rv1_rd2
         have ne_b2_t16 : sb v_b2 (fB (List.drop (j + 1) G)) ≠ some p16_13 := sub_ne hs2 ne_rv1_t16
         have ne_b2_t17 : sb v_b2 (fB (List.drop (j + 1) G)) ≠ some p17_14 := sub_ne hs2 ne_rv1_t17
         have dj_in_b2 : ∀ x, (Value.ownBlock (.slice (some ⟨gI, 0, none⟩) (eS G).length cI)) = some x → sb v_b2 (fB (List.drop (j + 1) G)) ≠ some x := sub_dj hs2 (dj_symm dj_rv1_in)
         have dj_rv2_b2 : ∀ x, (sb vb (ptB q ++ (fB (List.drop (j + 1) G) ++ [c]))) = some x → sb v_b2 (fB (List.drop (j + 1) G)) ≠ some x := sub_dj hs2 (dj_symm dj_rv1_rv2)
         clear ow_rv1 ne_rv1_t20 ne_rv1_rd1 ne_rv1_rd2 ne_rv1_t16 ne_rv1_t17 dj_rv1_in dj_rv1_rv2
         refine wpT_n (fun W => (Row 34 35 W (.slice (some ⟨gI, 0, none⟩) (eS G).length cI) (eS G))) (fun W hS => hS) ow_in ?_
         refine wpT_e rfl ?_
         refine wpL_callv (v := .agg (partW q.kind q.N q.S q.text)) (next_q q hok pr2 vb (fB (List.drop (j + 1) G) ++ [c]) _ ⟨k_rd2, ow_rv2, ne_rv2_rd2⟩ (by simp only [List.length_append, List.length_cons, List.length_nil]; omega)) (by rfl) rfl (by kernel_rfl) rfl ?_
         try simp only [Act.put, nA, nB, nC]
         rintro W16 ⟨v_b3, hto⟩
         have hO := hto.off
         have kk := hto.rd.1
         have hv2 := hto.rd.2.1
         have hs2 := hto.sub
         clear hto
         replace k_t20 := blk_off k_t20 hO (nm1 nq_t20_rd2)
         replace k_rd1 := blk_off k_rd1 hO (nm1 nq_rd1_rd2)
         replace k_t16 := blk_off k_t16 hO (nm1 nq_rd2_t16.symm)
         replace k_t17 := blk_off k_t17 hO (nm1 nq_rd2_t17.symm)
         replace ow_in := Row.off ow_in hO (f1 ne_in_rd2)
         replace ow_rv2 := Sl.off ow_rv2 hO (f1 ne_rv2_rd2)
         replace ow_b2 := Sl.off ow_b2 hO (f1 ne_b2_rd2)
         replace off0 := off0.step hO (i1 fb_rd2)
         replace sz := off0.size
         replace k_rd2 := kk
         clear kk hO
         have ow_b3 := hv2
         clear hv2
         have ne_b3_t20 : sb v_b3 (fB (List.drop (j + 1) G) ++ [c]) ≠ some p20_1 := sub_ne hs2 ne_rv2_t20
         have ne_b3_rd1 : sb v_b3 (fB (List.drop (j + 1) G) ++ [c]) ≠ some pr1 := sub_ne hs2 ne_rv2_rd1
         have ne_b3_rd2 : sb v_b3 (fB (List.drop (j + 1) G) ++ [c]) ≠ some pr2 := sub_ne hs2 ne_rv2_rd2
         have ne_b3_t16 : sb v_b3 (fB (List.drop (j + 1) G) ++ [c]) ≠ some p16_13 := sub_ne hs2 ne_rv2_t16
         have ne_b3_t17 : sb v_b3 (fB (List.drop (j + 1) G) ++ [c]) ≠ some p17_14 := sub_ne hs2 ne_rv2_t17
         have dj_in_b3 : ∀ x, (Value.ownBlock (.slice (some ⟨gI, 0, none⟩) (eS G).length cI)) = some x → sb v_b3 (fB (List.drop (j + 1) G) ++ [c]) ≠ some x := sub_dj hs2 (dj_symm dj_rv2_in)
         have dj_b2_b3 : ∀ x, (sb v_b2 (fB (List.drop (j + 1) G))) = some x → sb v_b3 (fB (List.drop (j + 1) G) ++ [c]) ≠ some x := sub_dj hs2 (dj_symm dj_rv2_b2)
         clear ow_rv2 ne_rv2_t20 ne_rv2_rd1 ne_rv2_rd2 ne_rv2_t16 ne_rv2_t17 dj_rv2_in dj_rv2_b2
         refine wpT_n (fun W => (Row 34 35 W (.slice (some ⟨gI, 0, none⟩) (eS G).length cI) (eS G))) (fun W hS => hS) ow_in ?_
         refine wpT_e rfl ?_
         refine wpL_putrow (cells := partW q.kind q.N q.S q.text) (by rfl) rfl rfl rfl k_t16 (by rw [partW_size]; kernel_rfl) (by rw [partC_size (List.length_replicate), partW_size]) (by exact partC_one _ _ _ _) ?_
         try simp only [Act.put, nA, nB, nC]
         intro W17 hO h_
         replace k_t16 : Blk W17 p16_13 (partW q.kind q.N q.S q.text) 34 := h_
         clear h_
         replace k_t20 := blk_off k_t20 hO (nm1 nq_t20_t16)
         replace k_rd1 := blk_off k_rd1 hO (nm1 nq_rd1_t16)
         replace k_rd2 := blk_off k_rd2 hO (nm1 nq_rd2_t16)
         replace k_t17 := blk_off k_t17 hO (nm1 nq_t16_t17.symm)
         replace ow_in := Row.off ow_in hO (f1 ne_in_t16)
         replace ow_b2 := Sl.off ow_b2 hO (f1 ne_b2_t16)
         replace ow_b3 := Sl.off ow_b3 hO (f1 ne_b3_t16)
         replace off0 := off0.step hO (i1 fb_t16)
         replace sz := off0.size
         clear hO
         refine wpT_n (fun W => (Row 34 35 W (.slice (some ⟨gI, 0, none⟩) (eS G).length cI) (eS G))) (fun W hS => hS) ow_in ?_
         refine wpT_e rfl ?_
         refine wpL_putrow (cells := partW q.kind q.N q.S q.text) (by rfl) rfl rfl rfl k_t17 (by rw [partW_size]; kernel_rfl) (by rw [partC_size (List.length_replicate), partW_size]) (by exact partC_one _ _ _ _) ?_
         try simp only [Act.put, nA, nB, nC]
         intro W18 hO h_
         replace k_t17 : Blk W18 p17_14 (partW q.kind q.N q.S q.text) 34 := h_
         clear h_
         replace k_t20 := blk_off k_t20 hO (nm1 nq_t20_t17)
         replace k_rd1 := blk_off k_rd1 hO (nm1 nq_rd1_t17)
         replace k_rd2 := blk_off k_rd2 hO (nm1 nq_rd2_t17)
         replace k_t16 := blk_off k_t16 hO (nm1 nq_t16_t17)
         replace ow_in := Row.off ow_in hO (f1 ne_in_t17)
         replace ow_b2 := Sl.off ow_b2 hO (f1 ne_b2_t17)
         replace ow_b3 := Sl.off ow_b3 hO (f1 ne_b3_t17)
         replace off0 := off0.step hO (i1 fb_t17)
         replace sz := off0.size
         clear hO
         refine wpT_n (fun W => (Row 34 35 W (.slice (some ⟨gI, 0, none⟩) (eS G).length cI) (eS G))) (fun W hS => hS) ow_in ?_
         refine wpT_z ?_
         exact ⟨p16_13, p17_14, v_b2, v_b3, (by simp only [putL, List.foldl_cons, List.foldl_nil, Act.put, nA, nB, nC]), off0, k_t20, k_rd1, k_rd2, k_t16, k_t17, ow_in, ow_b2, ow_b3, ne_b2_t20, ne_b2_rd1, ne_b2_rd2, ne_b2_t16, ne_b2_t17, (dj_symm dj_in_b2), dj_b2_b3, ne_b3_t20, ne_b3_rd1, ne_b3_rd2, ne_b3_t16, ne_b3_t17, (dj_symm dj_in_b3), fb_t16, nq_t20_t16, nq_rd1_t16, nq_rd2_t16, ne_in_t16, fb_t17, nq_t20_t17, nq_rd1_t17, nq_rd2_t17, nq_t16_t17, ne_in_t17⟩
       ·
        skip
        refine wpL_new (z := partC 0 0 (List.replicate 32 0) []) (t := 34) (by rfl) (by first | kernel_rfl | (go_simp; done) | (go_simp; rfl)) ?_
        try simp only [Act.put, nA, nB, nC]
        intro p17_13 W13 n_t17 hO h_
        have nq_t20_t17 : p20_1 ≠ p17_13 := Nat.ne_of_lt (Nat.lt_of_lt_of_le (blk_lt k_t20) n_t17)
        have nq_rd1_t17 : pr1 ≠ p17_13 := Nat.ne_of_lt (Nat.lt_of_lt_of_le (blk_lt k_rd1) n_t17)
        have nq_rd2_t17 : pr2 ≠ p17_13 := Nat.ne_of_lt (Nat.lt_of_lt_of_le (blk_lt k_rd2) n_t17)
        have ne_in_t17 := ne_new (Row.lt ow_in) n_t17
        have ne_rv1_t17 := ne_new (Sl.lt ow_rv1) n_t17
        have ne_rv2_t17 := ne_new (Sl.lt ow_rv2) n_t17
        have fb_t17 : Fb p17_13 w.heap.size [] := fb_new (Nat.le_trans sz n_t17)
        replace k_t20 := blk_off k_t20 hO nm0
        replace k_rd1 := blk_off k_rd1 hO nm0
        replace k_rd2 := blk_off k_rd2 hO nm0
        replace ow_in := Row.off ow_in hO f0
        replace ow_rv1 := Sl.off ow_rv1 hO f0
        replace ow_rv2 := Sl.off ow_rv2 hO f0
        replace off0 := off0.step hO i0
        replace sz := off0.size
        have k_t17 := h_
        clear hO h_ n_t17
        refine wpT_n (fun W => (Row 34 35 W (.slice (some ⟨gI, 0, none⟩) (eS G).length cI) (eS G))) (fun W hS => hS) ow_in ?_
        refine wpT_b rfl rfl ?_ ?_
        ·
         skip
         refine wpL_callv (v := .agg (partW q.kind q.N q.S q.text)) (next_q q hok pr1 va (fB (List.drop (j + 1) G)) _ ⟨k_rd1, ow_rv1, ne_rv1_rd1⟩ (by simp only [List.length_append, List.length_cons, List.length_nil]; omega)) (by rfl) rfl (by kernel_rfl) rfl ?_
         try simp only [Act.put, nA, nB, nC]
         rintro W14 ⟨v_b2, hto⟩
         have hO := hto.off
         have kk := hto.rd.1
         have hv2 := hto.rd.2.1
         have hs2 := hto.sub
         clear hto
         replace k_t20 := blk_off k_t20 hO (nm1 nq_t20_rd1)
         replace k_rd2 := blk_off k_rd2 hO (nm1 nq_rd1_rd2.symm)
         replace k_t17 := blk_off k_t17 hO (nm1 nq_rd1_t17.symm)
         replace ow_in := Row.off ow_in hO (f1 ne_in_rd1)
         replace ow_rv1 := Sl.off ow_rv1 hO (f1 ne_rv1_rd1)
         replace ow_rv2 := Sl.off ow_rv2 hO (f1 ne_rv2_rd1)
         replace off0 := off0.step hO (i1 fb_rd1)
         replace sz := off0.size
         replace k_rd1 := kk
         clear kk hO
         have ow_b2 := hv2
         clear hv2
         have ne_b2_t20 : sb v_b2 (fB (List.drop (j + 1) G)) ≠ some p20_1 := sub_ne hs2 ne_rv1_t20
         have ne_b2_rd1 : sb v_b2 (fB (List.drop (j + 1) G)) ≠ some pr1 := sub_ne hs2 ne_rv1_rd1
         have ne_b2_rd2 : sb v_b2 (fB (List.drop (j + 1) G)) ≠ some pr2 := sub_ne hs2 ne_rv1_rd2
         have ne_b2_t17 : sb v_b2 (fB (List.drop (j + 1) G)) ≠ some p17_13 := sub_ne hs2 ne_rv1_t17
         have dj_in_b2 : ∀ x, (Value.ownBlock (.slice (some ⟨gI, 0, none⟩) (eS G).length cI)) = some x → sb v_b2 (fB (List.drop (j + 1) G)) ≠ some x := sub_dj hs2 (dj_symm dj_rv1_in)
         have dj_rv2_b2 : ∀ x, (sb vb (ptB q ++ (fB (List.drop (j + 1) G) ++ [c]))) = some x → sb v_b2 (fB (List.drop (j + 1) G)) ≠ some x := sub_dj hs2 (dj_symm dj_rv1_rv2)
         clear ow_rv1 ne_rv1_t20 ne_rv1_rd1 ne_rv1_rd2 ne_rv1_t17 dj_rv1_in dj_rv1_rv2
         refine wpT_n (fun W => (Row 34 35 W (.slice (some ⟨gI, 0, none⟩) (eS G).length cI) (eS G))) (fun W hS => hS) ow_in ?_
         refine wpT_b rfl rfl ?_ ?_
         ·
          skip
          refine wpL_callv (v := .agg (partW q.kind q.N q.S q.text)) (next_q q hok pr2 vb (fB (List.drop (j + 1) G) ++ [c]) _ ⟨k_rd2, ow_rv2, ne_rv2_rd2⟩ (by simp only [List.length_append, List.length_cons, List.length_nil]; omega)) (by rfl) rfl (by kernel_rfl) rfl ?_
          try simp only [Act.put, nA, nB, nC]
          rintro W15 ⟨v_b3, hto⟩
          have hO := hto.off
          have kk := hto.rd.1
          have hv2 := hto.rd.2.1
          have hs2 := hto.sub
          clear hto
          replace k_t20 := blk_off k_t20 hO (nm1 nq_t20_rd2)
          replace k_rd1 := blk_off k_rd1 hO (nm1 nq_rd1_rd2)
          replace k_t17 := blk_off k_t17 hO (nm1 nq_rd2_t17.symm)
          replace ow_in := Row.off ow_in hO (f1 ne_in_rd2)
          replace ow_rv2 := Sl.off ow_rv2 hO (f1 ne_rv2_rd2)
          replace ow_b2 := Sl.off ow_b2 hO (f1 ne_b2_rd2)
          replace off0 := off0.step hO (i1 fb_rd2)
          replace sz := off0.size
          replace k_rd2 := kk
          clear kk hO
          have ow_b3 := hv2
          clear hv2
          have ne_b3_t20 : sb v_b3 (fB (List.drop (j + 1) G) ++ [c]) ≠ some p20_1 := sub_ne hs2 ne_rv2_t20
          have ne_b3_rd1 : sb v_b3 (fB (List.drop (j + 1) G) ++ [c]) ≠ some pr1 := sub_ne hs2 ne_rv2_rd1
          have ne_b3_rd2 : sb v_b3 (fB (List.drop (j + 1) G) ++ [c]) ≠ some pr2 := sub_ne hs2 ne_rv2_rd2
          have ne_b3_t17 : sb v_b3 (fB (List.drop (j + 1) G) ++ [c]) ≠ some p17_13 := sub_ne hs2 ne_rv2_t17
          have dj_in_b3 : ∀ x, (Value.ownBlock (.slice (some ⟨gI, 0, none⟩) (eS G).length cI)) = some x → sb v_b3 (fB (List.drop (j + 1) G) ++ [c]) ≠ some x := sub_dj hs2 (dj_symm dj_rv2_in)
          have dj_b2_b3 : ∀ x, (sb v_b2 (fB (List.drop (j + 1) G))) = some x → sb v_b3 (fB (List.drop (j + 1) G) ++ [c]) ≠ some x := sub_dj hs2 (dj_symm dj_rv2_b2)
          clear ow_rv2 ne_rv2_t20 ne_rv2_rd1 ne_rv2_rd2 ne_rv2_t17 dj_rv2_in dj_rv2_b2
          refine wpT_n (fun W => (Row 34 35 W (.slice (some ⟨gI, 0, none⟩) (eS G).length cI) (eS G))) (fun W hS => hS) ow_in ?_
          refine wpT_e rfl ?_
          refine wpL_new (z := partC 0 0 (List.replicate 32 0) []) (t := 34) (by rfl) (by first | kernel_rfl | (go_simp; done) | (go_simp; rfl)) ?_
          try simp only [Act.put, nA, nB, nC]
          intro p16_16 W16 n_t16 hO h_
          have nq_t20_t16 : p20_1 ≠ p16_16 := Nat.ne_of_lt (Nat.lt_of_lt_of_le (blk_lt k_t20) n_t16)
          have nq_rd1_t16 : pr1 ≠ p16_16 := Nat.ne_of_lt (Nat.lt_of_lt_of_le (blk_lt k_rd1) n_t16)
          have nq_rd2_t16 : pr2 ≠ p16_16 := Nat.ne_of_lt (Nat.lt_of_lt_of_le (blk_lt k_rd2) n_t16)
          have nq_t17_t16 : p17_13 ≠ p16_16 := Nat.ne_of_lt (Nat.lt_of_lt_of_le (blk_lt k_t17) n_t16)
          have ne_in_t16 := ne_new (Row.lt ow_in) n_t16
          have ne_b2_t16 := ne_new (Sl.lt ow_b2) n_t16
          have ne_b3_t16 := ne_new (Sl.lt ow_b3) n_t16
          have fb_t16 : Fb p16_16 w.heap.size [] := fb_new (Nat.le_trans sz n_t16)
          replace k_t20 := blk_off k_t20 hO nm0
          replace k_rd1 := blk_off k_rd1 hO nm0
          replace k_rd2 := blk_off k_rd2 hO nm0
          replace k_t17 := blk_off k_t17 hO nm0
          replace ow_in := Row.off ow_in hO f0
          replace ow_b2 := Sl.off ow_b2 hO f0
          replace ow_b3 := Sl.off ow_b3 hO f0
          replace off0 := off0.step hO i0
          replace sz := off0.size
          have k_t16 := h_
          clear hO h_ n_t16
          refine wpT_n (fun W => (Row 34 35 W (.slice (some ⟨gI, 0, none⟩) (eS G).length cI) (eS G))) (fun W hS => hS) ow_in ?_
          refine wpT_e rfl ?_
          refine wpL_putrow (cells := partW q.kind q.N q.S q.text) (by rfl) rfl rfl rfl k_t16 (by rw [partW_size]; kernel_rfl) (by rw [partC_size (List.length_replicate), partW_size]) (by exact partC_one _ _ _ _) ?_
          try simp only [Act.put, nA, nB, nC]
          intro W17 hO h_
          replace k_t16 : Blk W17 p16_16 (partW q.kind q.N q.S q.text) 34 := h_
          clear h_
          replace k_t20 := blk_off k_t20 hO (nm1 nq_t20_t16)
          replace k_rd1 := blk_off k_rd1 hO (nm1 nq_rd1_t16)
          replace k_rd2 := blk_off k_rd2 hO (nm1 nq_rd2_t16)
          replace k_t17 := blk_off k_t17 hO (nm1 nq_t17_t16)
          replace ow_in := Row.off ow_in hO (f1 ne_in_t16)
          replace ow_b2 := Sl.off ow_b2 hO (f1 ne_b2_t16)
          replace ow_b3 := Sl.off ow_b3 hO (f1 ne_b3_t16)
          replace off0 := off0.step hO (i1 fb_t16)
          replace sz := off0.size
          clear hO
          refine wpT_n (fun W => (Row 34 35 W (.slice (some ⟨gI, 0, none⟩) (eS G).length cI) (eS G))) (fun W hS => hS) ow_in ?_
          refine wpT_e rfl ?_
          refine wpL_putrow (cells := partW q.kind q.N q.S q.text) (by rfl) rfl rfl rfl k_t17 (by rw [partW_size]; kernel_rfl) (by rw [partC_size (List.length_replicate), partW_size]) (by exact partC_one _ _ _ _) ?_
          try simp only [Act.put, nA, nB, nC]
          intro W18 hO h_
          replace k_t17 : Blk W18 p17_13 (partW q.kind q.N q.S q.text) 34 := h_
          clear h_
          replace k_t20 := blk_off k_t20 hO (nm1 nq_t20_t17)
          replace k_rd1 := blk_off k_rd1 hO (nm1 nq_rd1_t17)
          replace k_rd2 := blk_off k_rd2 hO (nm1 nq_rd2_t17)
          replace k_t16 := blk_off k_t16 hO (nm1 nq_t17_t16.symm)
          replace ow_in := Row.off ow_in hO (f1 ne_in_t17)
          replace ow_b2 := Sl.off ow_b2 hO (f1 ne_b2_t17)
          replace ow_b3 := Sl.off ow_b3 hO (f1 ne_b3_t17)
          replace off0 := off0.step hO (i1 fb_t17)
          replace sz := off0.size
          clear hO
          refine wpT_n (fun W => (Row 34 35 W (.slice (some ⟨gI, 0, none⟩) (eS G).length cI) (eS G))) (fun W hS => hS) ow_in ?_
          refine wpT_z ?_
          exact ⟨p16_16, p17_13, v_b2, v_b3, (by simp only [putL, List.foldl_cons, List.foldl_nil, Act.put, nA, nB, nC]), off0, k_t20, k_rd1, k_rd2, k_t16, k_t17, ow_in, ow_b2, ow_b3, ne_b2_t20, ne_b2_rd1, ne_b2_rd2, ne_b2_t16, ne_b2_t17, (dj_symm dj_in_b2), dj_b2_b3, ne_b3_t20, ne_b3_rd1, ne_b3_rd2, ne_b3_t16, ne_b3_t17, (dj_symm dj_in_b3), fb_t16, nq_t20_t16, nq_rd1_t16, nq_rd2_t16, ne_in_t16, fb_t17, nq_t20_t17, nq_rd1_t17, nq_rd2_t17, nq_t17_t16.symm, ne_in_t17⟩
         ·
          skip
          refine wpL_new (z := partC 0 0 (List.replicate 32 0) []) (t := 34) (by rfl) (by first | kernel_rfl | (go_simp; done) | (go_simp; rfl)) ?_
          try simp only [Act.put, nA, nB, nC]
          intro p16_15 W15 n_t16 hO h_
          have nq_t20_t16 : p20_1 ≠ p16_15 := Nat.ne_of_lt (Nat.lt_of_lt_of_le (blk_lt k_t20) n_t16)
          have nq_rd1_t16 : pr1 ≠ p16_15 := Nat.ne_of_lt (Nat.lt_of_lt_of_le (blk_lt k_rd1) n_t16)
          have nq_rd2_t16 : pr2 ≠ p16_15 := Nat.ne_of_lt (Nat.lt_of_lt_of_le (blk_lt k_rd2) n_t16)
          have nq_t17_t16 : p17_13 ≠ p16_15 := Nat.ne_of_lt (Nat.lt_of_lt_of_le (blk_lt k_t17) n_t16)
          have ne_in_t16 := ne_new (Row.lt ow_in) n_t16
          have ne_rv2_t16 := ne_new (Sl.lt ow_rv2) n_t16
          have ne_b2_t16 := ne_new (Sl.lt ow_b2) n_t16
          have fb_t16 : Fb p16_15 w.heap.size [] := fb_new (Nat.le_trans sz n_t16)
          replace k_t20 := blk_off k_t20 hO nm0
          replace k_rd1 := blk_off k_rd1 hO nm0
          replace k_rd2 := blk_off k_rd2 hO nm0
          replace k_t17 := blk_off k_t17 hO nm0
          replace ow_in := Row.off ow_in hO f0
          replace ow_rv2 := Sl.off ow_rv2 hO f0
          replace ow_b2 := Sl.off ow_b2 hO f0
          replace off0 := off0.step hO i0
          replace sz := off0.size
          have k_t16 := h_
          clear hO h_ n_t16
          refine wpT_n (fun W => (Row 34 35 W (.slice (some ⟨gI, 0, none⟩) (eS G).length cI) (eS G))) (fun W hS => hS) ow_in ?_
          refine wpT_e rfl ?_
          refine wpL_callv (v := .agg (partW q.kind q.N q.S q.text)) (next_q q hok pr2 vb (fB (List.drop (j + 1) G) ++ [c]) _ ⟨k_rd2, ow_rv2, ne_rv2_rd2⟩ (by simp only [List.length_append, List.length_cons, List.length_nil]; omega)) (by rfl) rfl (by kernel_rfl) rfl ?_
          try simp only [Act.put, nA, nB, nC]
          rintro W16 ⟨v_b3, hto⟩
          have hO := hto.off
          have kk := hto.rd.1
          have hv2 := hto.rd.2.1
          have hs2 := hto.sub
          clear hto
          replace k_t20 := blk_off k_t20 hO (nm1 nq_t20_rd2)
          replace k_rd1 := blk_off k_rd1 hO (nm1 nq_rd1_rd2)
          replace k_t17 := blk_off k_t17 hO (nm1 nq_rd2_t17.symm)
          replace k_t16 := blk_off k_t16 hO (nm1 nq_rd2_t16.symm)
          replace ow_in := Row.off ow_in hO (f1 ne_in_rd2)
          replace ow_rv2 := Sl.off ow_rv2 hO (f1 ne_rv2_rd2)
          replace ow_b2 := Sl.off ow_b2 hO (f1 ne_b2_rd2)
          replace off0 := off0.step hO (i1 fb_rd2)
          replace sz := off0.size
          replace k_rd2 := kk
          clear kk hO
          have ow_b3 := hv2
          clear hv2
          have ne_b3_t20 : sb v_b3 (fB (List.drop (j + 1) G) ++ [c]) ≠ some p20_1 := sub_ne hs2 ne_rv2_t20
          have ne_b3_rd1 : sb v_b3 (fB (List.drop (j + 1) G) ++ [c]) ≠ some pr1 := sub_ne hs2 ne_rv2_rd1
          have ne_b3_rd2 : sb v_b3 (fB (List.drop (j + 1) G) ++ [c]) ≠ some pr2 := sub_ne hs2 ne_rv2_rd2
          have ne_b3_t17 : sb v_b3 (fB (List.drop (j + 1) G) ++ [c]) ≠ some p17_13 := sub_ne hs2 ne_rv2_t17
          have ne_b3_t16 : sb v_b3 (fB (List.drop (j + 1) G) ++ [c]) ≠ some p16_15 := sub_ne hs2 ne_rv2_t16
          have dj_in_b3 : ∀ x, (Value.ownBlock (.slice (some ⟨gI, 0, none⟩) (eS G).length cI)) = some x → sb v_b3 (fB (List.drop (j + 1) G) ++ [c]) ≠ some x := sub_dj hs2 (dj_symm dj_rv2_in)
          have dj_b2_b3 : ∀ x, (sb v_b2 (fB (List.drop (j + 1) G))) = some x → sb v_b3 (fB (List.drop (j + 1) G) ++ [c]) ≠ some x := sub_dj hs2 (dj_symm dj_rv2_b2)
          clear ow_rv2 ne_rv2_t20 ne_rv2_rd1 ne_rv2_rd2 ne_rv2_t17 ne_rv2_t16 dj_rv2_in dj_rv2_b2
          refine wpT_n (fun W => (Row 34 35 W (.slice (some ⟨gI, 0, none⟩) (eS G).length cI) (eS G))) (fun W hS => hS) ow_in ?_
          refine wpT_e rfl ?_
          refine wpL_putrow (cells := partW q.kind q.N q.S q.text) (by rfl) rfl rfl rfl k_t16 (by rw [partW_size]; kernel_rfl) (by rw [partC_size (List.length_replicate), partW_size]) (by exact partC_one _ _ _ _) ?_
          try simp only [Act.put, nA, nB, nC]
          intro W17 hO h_
          replace k_t16 : Blk W17 p16_15 (partW q.kind q.N q.S q.text) 34 := h_
          clear h_
          replace k_t20 := blk_off k_t20 hO (nm1 nq_t20_t16)
          replace k_rd1 := blk_off k_rd1 hO (nm1 nq_rd1_t16)
          replace k_rd2 := blk_off k_rd2 hO (nm1 nq_rd2_t16)
          replace k_t17 := blk_off k_t17 hO (nm1 nq_t17_t16)
          replace ow_in := Row.off ow_in hO (f1 ne_in_t16)
          replace ow_b2 := Sl.off ow_b2 hO (f1 ne_b2_t16)
          replace ow_b3 := Sl.off ow_b3 hO (f1 ne_b3_t16)
          replace off0 := off0.step hO (i1 fb_t16)
          replace sz := off0.size
          clear hO
          refine wpT_n (fun W => (Row 34 35 W (.slice (some ⟨gI, 0, none⟩) (eS G).length cI) (eS G))) (fun W hS => hS) ow_in ?_
          refine wpT_e rfl ?_
          refine wpL_putrow (cells := partW q.kind q.N q.S q.text) (by rfl) rfl rfl rfl k_t17 (by rw [partW_size]; kernel_rfl) (by rw [partC_size (List.length_replicate), partW_size]) (by exact partC_one _ _ _ _) ?_
          try simp only [Act.put, nA, nB, nC]
          intro W18 hO h_
          replace k_t17 : Blk W18 p17_13 (partW q.kind q.N q.S q.text) 34 := h_
          clear h_
          replace k_t20 := blk_off k_t20 hO (nm1 nq_t20_t17)
          replace k_rd1 := blk_off k_rd1 hO (nm1 nq_rd1_t17)
          replace k_rd2 := blk_off k_rd2 hO (nm1 nq_rd2_t17)
          replace k_t16 := blk_off k_t16 hO (nm1 nq_t17_t16.symm)
          replace ow_in := Row.off ow_in hO (f1 ne_in_t17)
          replace ow_b2 := Sl.off ow_b2 hO (f1 ne_b2_t17)
          replace ow_b3 := Sl.off ow_b3 hO (f1 ne_b3_t17)
          replace off0 := off0.step hO (i1 fb_t17)
          replace sz := off0.size
          clear hO
          refine wpT_n (fun W => (Row 34 35 W (.slice (some ⟨gI, 0, none⟩) (eS G).length cI) (eS G))) (fun W hS => hS) ow_in ?_
          refine wpT_z ?_
          exact ⟨p16_15, p17_13, v_b2, v_b3, (by simp only [putL, List.foldl_cons, List.foldl_nil, Act.put, nA, nB, nC]), off0, k_t20, k_rd1, k_rd2, k_t16, k_t17, ow_in, ow_b2, ow_b3, ne_b2_t20, ne_b2_rd1, ne_b2_rd2, ne_b2_t16, ne_b2_t17, (dj_symm dj_in_b2), dj_b2_b3, ne_b3_t20, ne_b3_rd1, ne_b3_rd2, ne_b3_t16, ne_b3_t17, (dj_symm dj_in_b3), fb_t16, nq_t20_t16, nq_rd1_t16, nq_rd2_t16, ne_in_t16, fb_t17, nq_t20_t17, nq_rd1_t17, nq_rd2_t17, nq_t17_t16.symm, ne_in_t17⟩
        ·
         skip
         refine wpL_new (z := partC 0 0 (List.replicate 32 0) []) (t := 34) (by rfl) (by first | kernel_rfl | (go_simp; done) | (go_simp; rfl)) ?_
         try simp only [Act.put, nA, nB, nC]
         intro p16_14 W14 n_t16 hO h_
         have nq_t20_t16 : p20_1 ≠ p16_14 := Nat.ne_of_lt (Nat.lt_of_lt_of_le (blk_lt k_t20) n_t16)
         have nq_rd1_t16 : pr1 ≠ p16_14 := Nat.ne_of_lt (Nat.lt_of_lt_of_le (blk_lt k_rd1) n_t16)
         have nq_rd2_t16 : pr2 ≠ p16_14 := Nat.ne_of_lt (Nat.lt_of_lt_of_le (blk_lt k_rd2) n_t16)
         have nq_t17_t16 : p17_13 ≠ p16_14 := Nat.ne_of_lt (Nat.lt_of_lt_of_le (blk_lt k_t17) n_t16)
         have ne_in_t16 := ne_new (Row.lt ow_in) n_t16
         have ne_rv1_t16 := ne_new (Sl.lt ow_rv1) n_t16
         have ne_rv2_t16 := ne_new (Sl.lt ow_rv2) n_t16
         have fb_t16 : Fb p16_14 w.heap.size [] := fb_new (Nat.le_trans sz n_t16)
         replace k_t20 := blk_off k_t20 hO nm0
         replace k_rd1 := blk_off k_rd1 hO nm0
         replace k_rd2 := blk_off k_rd2 hO nm0
         replace k_t17 := blk_off k_t17 hO nm0
         replace ow_in := Row.off ow_in hO f0
         replace ow_rv1 := Sl.off ow_rv1 hO f0
         replace ow_rv2 := Sl.off ow_rv2 hO f0
         replace off0 := off0.step hO i0
         replace sz := off0.size
         have k_t16 := h_
         clear hO h_ n_t16
         refine wpT_n (fun W => (Row 34 35 W (.slice (some ⟨gI, 0, none⟩) (eS G).length cI) (eS G))) (fun W hS => hS) ow_in ?_
         refine wpT_e rfl ?_
         refine wpL_callv (v := .agg (partW q.kind q.N q.S q.text)) (next_q q hok pr1 va (fB (List.drop (j + 1) G)) _ ⟨k_rd1, ow_rv1, ne_rv1_rd1⟩ (by simp only [List.length_append, List.length_cons, List.length_nil]; omega)) (by rfl) rfl (by kernel_rfl) rfl ?_
         try simp only [Act.put, nA, nB, nC]
         rintro W15 ⟨v_b2, hto⟩
         have hO := hto.off
         have kk := hto.rd.1
         have hv2 := hto.rd.2.1
         have hs2 := hto.sub
         clear hto
         replace k_t20 := blk_off k_t20 hO (nm1 nq_t20_rd1)
         replace k_rd2 := blk_off k_rd2 hO (nm1 nq_rd1_rd2.symm)
         replace k_t17 := blk_off k_t17 hO (nm1 nq_rd1_t17.symm)
         replace k_t16 := blk_off k_t16 hO (nm1 nq_rd1_t16.symm)
         replace ow_in := Row.off ow_in hO (f1 ne_in_rd1)
         replace ow_rv1 := Sl.off ow_rv1 hO (f1 ne_rv1_rd1)
         replace ow_rv2 := Sl.off ow_rv2 hO (f1 ne_rv2_rd1)
         replace off0 := off0.step hO (i1 fb_rd1)
         replace sz := off0.size
         replace k_rd1 := kk
         clear kk hO
         have ow_b2 := hv2
         clear hv2
         have ne_b2_t20 : sb v_b2 (fB (List.drop (j + 1) G)) ≠ some p20_1 := sub_ne hs2 ne_rv1_t20
         have ne_b2_rd1 : sb v_b2 (fB (List.drop (j + 1) G)) ≠ some pr1 := sub_ne hs2 ne_rv1_rd1
         have ne_b2_rd2 : sb v_b2 (fB (List.drop (j + 1) G)) ≠ some pr2 := sub_ne hs2 ne_rv1_rd2
         have ne_b2_t17 : sb v_b2 (fB (List.drop (j + 1) G)) ≠ some p17_13 := sub_ne hs2 ne_rv1_t17
         have ne_b2_t16 : sb v_b2 (fB (List.drop (j + 1) G)) ≠ some p16_14 := sub_ne hs2 ne_rv1_t16
         have dj_in_b2 : ∀ x, (Value.ownBlock (.slice (some ⟨gI, 0, none⟩) (eS G).length cI)) = some x → sb v_b2 (fB (List.drop (j + 1) G)) ≠ some x := sub_dj hs2 (dj_symm dj_rv1_in)
         have dj_rv2_b2 : ∀ x, (sb vb (ptB q ++ (fB (List.drop (j + 1) G) ++ [c]))) = some x → sb v_b2 (fB (List.drop (j + 1) G)) ≠ some x := sub_dj hs2 (dj_symm dj_rv1_rv2)
         clear ow_rv1 ne_rv1_t20 ne_rv1_rd1 ne_rv1_rd2 ne_rv1_t17 ne_rv1_t16 dj_rv1_in dj_rv1_rv2
         refine wpT_n (fun W => (Row 34 35 W (.slice (some ⟨gI, 0, none⟩) (eS G).length cI) (eS G))) (fun W hS => hS) ow_in ?_
         refine wpT_e rfl ?_
         refine wpL_callv (v := .agg (partW q.kind q.N q.S q.text)) (next_q q hok pr2 vb (fB (List.drop (j + 1) G) ++ [c]) _ ⟨k_rd2, ow_rv2, ne_rv2_rd2⟩ (by simp only [List.length_append, List.length_cons, List.length_nil]; omega)) (by rfl) rfl (by kernel_rfl) rfl ?_
         try simp only [Act.put, nA, nB, nC]
         rintro W16 ⟨v_b3, hto⟩
         have hO := hto.off
         have kk := hto.rd.1
         have hv2 := hto.rd.2.1
         have hs2 := hto.sub
         clear hto
         replace k_t20 := blk_off k_t20 hO (nm1 nq_t20_rd2)
         replace k_rd1 := blk_off k_rd1 hO (nm1 nq_rd1_rd2)
         replace k_t17 := blk_off k_t17 hO (nm1 nq_rd2_t17.symm)
         replace k_t16 := blk_off k_t16 hO (nm1 nq_rd2_t16.symm)
         replace ow_in := Row.off ow_in hO (f1 ne_in_rd2)
         replace ow_rv2 := Sl.off ow_rv2 hO (f1 ne_rv2_rd2)
         replace ow_b2 := Sl.off ow_b2 hO (f1 ne_b2_rd2)
         replace off0 := off0.step hO (i1 fb_rd2)
         replace sz := off0.size
         replace k_rd2 := kk
         clear kk hO
         have ow_b3 := hv2
         clear hv2
         have ne_b3_t20 : sb v_b3 (fB (List.drop (j + 1) G) ++ [c]) ≠ some p20_1 := sub_ne hs2 ne_rv2_t20
         have ne_b3_rd1 : sb v_b3 (fB (List.drop (j + 1) G) ++ [c]) ≠ some pr1 := sub_ne hs2 ne_rv2_rd1
         have ne_b3_rd2 : sb v_b3 (fB (List.drop (j + 1) G) ++ [c]) ≠ some pr2 := sub_ne hs2 ne_rv2_rd2
         have ne_b3_t17 : sb v_b3 (fB (List.drop (j + 1) G) ++ [c]) ≠ some p17_13 := sub_ne hs2 ne_rv2_t17
         have ne_b3_t16 : sb v_b3 (fB (List.drop (j + 1) G) ++ [c]) ≠ some p16_14 := sub_ne hs2 ne_rv2_t16
         have dj_in_b3 : ∀ x, (Value.ownBlock (.slice (some ⟨gI, 0, none⟩) (eS G).length cI)) = some x → sb v_b3 (fB (List.drop (j + 1) G) ++ [c]) ≠ some x := sub_dj hs2 (dj_symm dj_rv2_in)
         have dj_b2_b3 : ∀ x, (sb v_b2 (fB (List.drop (j + 1) G))) = some x → sb v_b3 (fB (List.drop (j + 1) G) ++ [c]) ≠ some x := sub_dj hs2 (dj_symm dj_rv2_b2)
         clear ow_rv2 ne_rv2_t20 ne_rv2_rd1 ne_rv2_rd2 ne_rv2_t17 ne_rv2_t16 dj_rv2_in dj_rv2_b2
         refine wpT_n (fun W => (Row 34 35 W (.slice (some ⟨gI, 0, none⟩) (eS G).length cI) (eS G))) (fun W hS => hS) ow_in ?_
         refine wpT_e rfl ?_
         refine wpL_putrow (cells := partW q.kind q.N q.S q.text) (by rfl) rfl rfl rfl k_t16 (by rw [partW_size]; kernel_rfl) (by rw [partC_size (List.length_replicate), partW_size]) (by exact partC_one _ _ _ _) ?_
         try simp only [Act.put, nA, nB, nC]
         intro W17 hO h_
         replace k_t16 : Blk W17 p16_14 (partW q.kind q.N q.S q.text) 34 := h_
         clear h_
         replace k_t20 := blk_off k_t20 hO (nm1 nq_t20_t16)
         replace k_rd1 := blk_off k_rd1 hO (nm1 nq_rd1_t16)
         replace k_rd2 := blk_off k_rd2 hO (nm1 nq_rd2_t16)
         replace k_t17 := blk_off k_t17 hO (nm1 nq_t17_t16)
         replace ow_in := Row.off ow_in hO (f1 ne_in_t16)
         replace ow_b2 := Sl.off ow_b2 hO (f1 ne_b2_t16)
         replace ow_b3 := Sl.off ow_b3 hO (f1 ne_b3_t16)
         replace off0 := off0.step hO (i1 fb_t16)
         replace sz := off0.size
         clear hO
         refine wpT_n (fun W => (Row 34 35 W (.slice (some ⟨gI, 0, none⟩) (eS G).length cI) (eS G))) (fun W hS => hS) ow_in ?_
         refine wpT_e rfl ?_
         refine wpL_putrow (cells := partW q.kind q.N q.S q.text) (by rfl) rfl rfl rfl k_t17 (by rw [partW_size]; kernel_rfl) (by rw [partC_size (List.length_replicate), partW_size]) (by exact partC_one _ _ _ _) ?_
         try simp only [Act.put, nA, nB, nC]
         intro W18 hO h_
         replace k_t17 : Blk W18 p17_13 (partW q.kind q.N q.S q.text) 34 := h_
         clear h_
         replace k_t20 := blk_off k_t20 hO (nm1 nq_t20_t17)
         replace k_rd1 := blk_off k_rd1 hO (nm1 nq_rd1_t17)
         replace k_rd2 := blk_off k_rd2 hO (nm1 nq_rd2_t17)
         replace k_t16 := blk_off k_t16 hO (nm1 nq_t17_t16.symm)
         replace ow_in := Row.off ow_in hO (f1 ne_in_t17)
         replace ow_b2 := Sl.off ow_b2 hO (f1 ne_b2_t17)
         replace ow_b3 := Sl.off ow_b3 hO (f1 ne_b3_t17)
         replace off0 := off0.step hO (i1 fb_t17)
         replace sz := off0.size
         clear hO
         refine wpT_n (fun W => (Row 34 35 W (.slice (some ⟨gI, 0, none⟩) (eS G).length cI) (eS G))) (fun W hS => hS) ow_in ?_
         refine wpT_z ?_
         exact ⟨p16_14, p17_13, v_b2, v_b3, (by simp only [putL, List.foldl_cons, List.foldl_nil, Act.put, nA, nB, nC]), off0, k_t20, k_rd1, k_rd2, k_t16, k_t17, ow_in, ow_b2, ow_b3, ne_b2_t20, ne_b2_rd1, ne_b2_rd2, ne_b2_t16, ne_b2_t17, (dj_symm dj_in_b2), dj_b2_b3, ne_b3_t20, ne_b3_rd1, ne_b3_rd2, ne_b3_t16, ne_b3_t17, (dj_symm dj_in_b3), fb_t16, nq_t20_t16, nq_rd1_t16, nq_rd2_t16, ne_in_t16, fb_t17, nq_t20_t17, nq_rd1_t17, nq_rd2_t17, nq_t17_t16.symm, ne_in_t17⟩
      rintro _ W19 ⟨j_t16, j_t17, jv_b2, jv_b3, rfl, off0, k_t20, k_rd1, k_rd2, k_t16, k_t17, ow_in, ow_b2, ow_b3, ne_b2_t20, ne_b2_rd1, ne_b2_rd2, ne_b2_t16, ne_b2_t17, dj_b2_in, dj_b2_b3, ne_b3_t20, ne_b3_rd1, ne_b3_rd2, ne_b3_t16, ne_b3_t17, dj_b3_in, fb_t16, nq_t20_t16, nq_rd1_t16, nq_rd2_t16, ne_in_t16, fb_t17, nq_t20_t17, nq_rd1_t17, nq_rd2_t17, nq_t16_t17, ne_in_t17⟩
      have sz := off0.size
      simp only [putL, List.foldl_cons, List.foldl_nil]
      try simp only [Act.put, nA, nB, nC]
      go_upto_region 19 with fail
      refine wp_region_lit ?_
      (refine wpL_val (v := ?_) (by rfl) ?_ ?_; rotate_left 1; focus (go_simp; first | done | with_reducible rfl))
      try simp only [Act.put, nA, nB, nC]
      (refine wpL_val (v := ?_) (by rfl) ?_ ?_; rotate_left 1; focus (go_simp; first | done | with_reducible rfl))
      try simp only [Act.put, nA, nB, nC]
      refine wpL_val (v := .pointer (some ⟨gI, 0 + j * 35, none⟩)) (by rfl) (by exact (run_ixR (ad := ⟨gI, 0, none⟩) (j := j) (k := 35) (by rw [eS_len]; exact hjl) rfl rfl rfl Try.underlying22 (by kernel_rfl)).trans (by rw [Addr.add_mid])) ?_
      try simp only [Act.put, nA, nB, nC]
      refine wpL_val (v := .pointer (some ⟨gI, 0 + j * 35 + 0, none⟩)) (by rfl) (by exact (run_fa (i := 0) (off := 0) 0 rfl rfl Try.underlying34 (by kernel_rfl))) ?_
      try simp only [Act.put, nA, nB, nC]
      refine wpL_at (v := .int .i64 (q.kind : Int)) (by rfl) rfl rfl (ptI (ow_in.at (eS_at hq)) 0 (x := .int .i64 (q.kind : Int)) rfl) (by kernel_rfl) ?_
      try simp only [Act.put, nA, nB, nC]
      refine wpL_val (v := .agg (partC (q.kind : Int) 0 (List.replicate 32 0) [])) (by rfl) (by kernel_rfl) ?_
      try simp only [Act.put, nA, nB, nC]
      refine wpL_new (z := partC 0 0 (List.replicate 32 0) []) (t := 34) (by rfl) (by first | kernel_rfl | (go_simp; done) | (go_simp; rfl)) ?_
      try simp only [Act.put, nA, nB, nC]
      intro p18_20 W20 n_t18 hO h_
      have nq_t20_t18 : p20_1 ≠ p18_20 := Nat.ne_of_lt (Nat.lt_of_lt_of_le (blk_lt k_t20) n_t18)
      have nq_rd1_t18 : pr1 ≠ p18_20 := Nat.ne_of_lt (Nat.lt_of_lt_of_le (blk_lt k_rd1) n_t18)
      have nq_rd2_t18 : pr2 ≠ p18_20 := Nat.ne_of_lt (Nat.lt_of_lt_of_le (blk_lt k_rd2) n_t18)
      have nq_t16_t18 : j_t16 ≠ p18_20 := Nat.ne_of_lt (Nat.lt_of_lt_of_le (blk_lt k_t16) n_t18)
      have nq_t17_t18 : j_t17 ≠ p18_20 := Nat.ne_of_lt (Nat.lt_of_lt_of_le (blk_lt k_t17) n_t18)
      have ne_in_t18 := ne_new (Row.lt ow_in) n_t18
      have ne_b2_t18 := ne_new (Sl.lt ow_b2) n_t18
      have ne_b3_t18 := ne_new (Sl.lt ow_b3) n_t18
      have fb_t18 : Fb p18_20 w.heap.size [] := fb_new (Nat.le_trans sz n_t18)
      replace k_t20 := blk_off k_t20 hO nm0
      replace k_rd1 := blk_off k_rd1 hO nm0
      replace k_rd2 := blk_off k_rd2 hO nm0
      replace k_t16 := blk_off k_t16 hO nm0
      replace k_t17 := blk_off k_t17 hO nm0
      replace ow_in := Row.off ow_in hO f0
      replace ow_b2 := Sl.off ow_b2 hO f0
      replace ow_b3 := Sl.off ow_b3 hO f0
      replace off0 := off0.step hO i0
      replace sz := off0.size
      have k_t18 := h_
      clear hO h_ n_t18
      refine wpL_putrow (cells := partC (q.kind : Int) 0 (List.replicate 32 0) []) (by rfl) rfl rfl rfl k_t18 (by rw [partC_size (List.length_replicate)]; kernel_rfl) (by rw [partC_size (List.length_replicate), partC_size (List.length_replicate)]) (by exact partC_one _ _ _ _) ?_
      try simp only [Act.put, nA, nB, nC]
      intro W21 hO h_
      replace k_t18 : Blk W21 p18_20 (partC (q.kind : Int) 0 (List.replicate 32 0) []) 34 := h_
      clear h_
      replace k_t20 := blk_off k_t20 hO (nm1 nq_t20_t18)
      replace k_rd1 := blk_off k_rd1 hO (nm1 nq_rd1_t18)
      replace k_rd2 := blk_off k_rd2 hO (nm1 nq_rd2_t18)
      replace k_t16 := blk_off k_t16 hO (nm1 nq_t16_t18)
      replace k_t17 := blk_off k_t17 hO (nm1 nq_t17_t18)
      replace ow_in := Row.off ow_in hO (f1 ne_in_t18)
      replace ow_b2 := Sl.off ow_b2 hO (f1 ne_b2_t18)
      replace ow_b3 := Sl.off ow_b3 hO (f1 ne_b3_t18)
      replace off0 := off0.step hO (i1 fb_t18)
      replace sz := off0.size
      clear hO
      refine wpL_nil ?_
      by_cases hkn : q.kind = 1
      ·
       have _f := hkn
       rw [show partW q.kind q.N q.S q.text = partC (q.kind : Int) q.N (List.replicate 32 0) ([]) from by unfold partW; simp only [hkn]; rfl] at k_t16
       replace k_t16 : Blk W21 j_t16 (partC (q.kind : Int) q.N (List.replicate 32 0) []) 34 := k_t16
       rw [show partW q.kind q.N q.S q.text = partC (q.kind : Int) q.N (List.replicate 32 0) ([]) from by unfold partW; simp only [hkn]; rfl] at k_t17
       replace k_t17 : Blk W21 j_t17 (partC (q.kind : Int) q.N (List.replicate 32 0) []) 34 := k_t17
       go_upto_region 20 with fail
       refine wp_region_lit ?_
       (refine wpL_val (v := ?_) (by rfl) ?_ ?_; rotate_left 1; focus (go_simp; first | done | with_reducible rfl))
       try simp only [Act.put, nA, nB, nC]
       (refine wpL_val (v := ?_) (by rfl) ?_ ?_; rotate_left 1; focus (go_simp; first | done | with_reducible rfl))
       try simp only [Act.put, nA, nB, nC]
       refine wpL_val (v := .pointer (some ⟨gI, 0 + j * 35, none⟩)) (by rfl) (by exact (run_ixR (ad := ⟨gI, 0, none⟩) (j := j) (k := 35) (by rw [eS_len]; exact hjl) rfl rfl rfl Try.underlying22 (by kernel_rfl)).trans (by rw [Addr.add_mid])) ?_
       try simp only [Act.put, nA, nB, nC]
       refine wpL_val (v := .pointer (some ⟨gI, 0 + j * 35 + 0, none⟩)) (by rfl) (by exact (run_fa (i := 0) (off := 0) 0 rfl rfl Try.underlying34 (by kernel_rfl))) ?_
       try simp only [Act.put, nA, nB, nC]
       refine wpL_at (v := .int .i64 (q.kind : Int)) (by rfl) rfl rfl (ptI (ow_in.at (eS_at hq)) 0 (x := .int .i64 (q.kind : Int)) rfl) (by kernel_rfl) ?_
       try simp only [Act.put, nA, nB, nC]
       refine wpL_nil ?_
       go_upto_region 21 with fail
       refine wp_region_lit ?_
       refine wpL_val (v := .bool true) (by rfl) (by first | rfl | (go_simp; done) | (go_simp; simp [hkn]; done) | (go_simp; omega)) ?_
       try simp only [Act.put, nA, nB, nC]
       refine wpL_val (v := .bool true) (by rfl) (by first | rfl | (go_simp; done) | (go_simp; simp [hkn]; done) | (go_simp; omega)) ?_
       try simp only [Act.put, nA, nB, nC]
       refine wpL_nil ?_
       go_upto_region 23 with fail
       refine wp_region_lit ?_
       (refine wpL_val (v := ?_) (by rfl) ?_ ?_; rotate_left 1; focus (go_simp; first | done | with_reducible rfl))
       try simp only [Act.put, nA, nB, nC]
       (refine wpL_val (v := ?_) (by rfl) ?_ ?_; rotate_left 1; focus (go_simp; first | done | with_reducible rfl))
       try simp only [Act.put, nA, nB, nC]
       refine wpL_val (v := .pointer (some ⟨gI, 0 + j * 35, none⟩)) (by rfl) (by exact (run_ixR (ad := ⟨gI, 0, none⟩) (j := j) (k := 35) (by rw [eS_len]; exact hjl) rfl rfl rfl Try.underlying22 (by kernel_rfl)).trans (by rw [Addr.add_mid])) ?_
       try simp only [Act.put, nA, nB, nC]
       refine wpL_val (v := .pointer (some ⟨gI, 0 + j * 35 + 1, none⟩)) (by rfl) (by exact (run_fa (i := 1) (off := 1) 0 rfl rfl Try.underlying34 (by kernel_rfl))) ?_
       try simp only [Act.put, nA, nB, nC]
       refine wpL_at (v := .int .i64 q.N) (by rfl) rfl rfl (ptI (ow_in.at (eS_at hq)) 1 (x := .int .i64 q.N) rfl) (by kernel_rfl) ?_
       try simp only [Act.put, nA, nB, nC]
       (refine wpL_val (v := ?_) (by rfl) ?_ ?_; rotate_left 1; focus (go_simp; first | done | with_reducible rfl))
       try simp only [Act.put, nA, nB, nC]
       refine wpL_put1 (v := .int .i64 q.N) ⟨rfl, rfl⟩ (by rfl) rfl rfl rfl k_t18 (by rw [partC_size (List.length_replicate)]; decide) (by kernel_rfl) ?_
       try simp only [Act.put, nA, nB, nC]
       intro W22 hO h_
       rw [partC_set1] at h_
       replace k_t18 : Blk W22 p18_20 (partC (q.kind : Int) q.N (List.replicate 32 0) []) 34 := h_
       clear h_
       replace k_t20 := blk_off k_t20 hO (nm1 nq_t20_t18)
       replace k_rd1 := blk_off k_rd1 hO (nm1 nq_rd1_t18)
       replace k_rd2 := blk_off k_rd2 hO (nm1 nq_rd2_t18)
       replace k_t16 := blk_off k_t16 hO (nm1 nq_t16_t18)
       replace k_t17 := blk_off k_t17 hO (nm1 nq_t17_t18)
       replace ow_in := Row.off ow_in hO (f1 ne_in_t18)
       replace ow_b2 := Sl.off ow_b2 hO (f1 ne_b2_t18)
       replace ow_b3 := Sl.off ow_b3 hO (f1 ne_b3_t18)
       replace off0 := off0.step hO (i1 fb_t18)
       replace sz := off0.size
       clear hO
       refine wpL_nil ?_
       go_upto_region 30 with fail
       refine wp_region_lit ?_
       refine wpL_load0 (by rfl) rfl rfl k_t16 (by kernel_rfl) (by rw [partC_size (List.length_replicate)]; kernel_rfl) ?_
       try simp only [Act.put, nA, nB, nC]
       refine wpL_load0 (by rfl) rfl rfl k_t18 (by kernel_rfl) (by rw [partC_size (List.length_replicate)]; kernel_rfl) ?_
       try simp only [Act.put, nA, nB, nC]
       refine wpL_val (v := .bool false) (by rfl) (by exact neA_self q (K := (q.kind : Int)) (N := q.N) (S := List.replicate 32 0) (T := []) (List.length_replicate) rfl rfl rfl) ?_
       try simp only [Act.put, nA, nB, nC]
       refine wpL_val (v := .bool false) (by rfl) (by first | rfl | (go_simp; done) | (go_simp; with_reducible rfl) | (go_simp; omega)) ?_
       try simp only [Act.put, nA, nB, nC]
       refine wpL_load0 (by rfl) rfl rfl k_t17 (by kernel_rfl) (by rw [partC_size (List.length_replicate)]; kernel_rfl) ?_
       try simp only [Act.put, nA, nB, nC]
       refine wpL_load0 (by rfl) rfl rfl k_t18 (by kernel_rfl) (by rw [partC_size (List.length_replicate)]; kernel_rfl) ?_
       try simp only [Act.put, nA, nB, nC]
       refine wpL_val (v := .bool false) (by rfl) (by exact neA_self q (K := (q.kind : Int)) (N := q.N) (S := List.replicate 32 0) (T := []) (List.length_replicate) rfl rfl rfl) ?_
       try simp only [Act.put, nA, nB, nC]
       refine wpL_val (v := .bool false) (by rfl) (by first | rfl | (go_simp; done) | (go_simp; with_reducible rfl) | (go_simp; omega)) ?_
       try simp only [Act.put, nA, nB, nC]
       refine wpL_nil ?_
       have ow_rv1 := ow_b2
       clear ow_b2
       have ne_rv1_t20 := ne_b2_t20
       have ne_rv1_rd1 := ne_b2_rd1
       have ne_rv1_rd2 := ne_b2_rd2
       have ne_rv1_t16 := ne_b2_t16
       have ne_rv1_t17 := ne_b2_t17
       have ne_rv1_t18 := ne_b2_t18
       have dj_rv1_in := dj_b2_in
       have dj_rv1_b3 := dj_b2_b3
       have ow_rv2 := ow_b3
       clear ow_b3
       have ne_rv2_t20 := ne_b3_t20
       have ne_rv2_rd1 := ne_b3_rd1
       have ne_rv2_rd2 := ne_b3_rd2
       have ne_rv2_t16 := ne_b3_t16
       have ne_rv2_t17 := ne_b3_t17
       have ne_rv2_t18 := ne_b3_t18
       have dj_rv2_in := dj_b3_in
       have dj_rv2_rv1 := (dj_symm dj_rv1_b3)
       go_wp2
       go_roundw
       case rel => exact ⟨j + 1, _, _, by omega, by go_num, off0, k_t20, k_rd1, k_rd2, ow_in, ow_rv1, ow_rv2, ne_rv1_t20, ne_rv1_rd1, ne_rv1_rd2, dj_rv1_in, (dj_symm dj_rv2_rv1), ne_rv2_t20, ne_rv2_rd1, ne_rv2_rd2, dj_rv2_in⟩
       case measure => simp [intOf]; omega
      ·
       have _f := hkn
       have hkn_1 := hkn
       clear hkn
       by_cases hkn : q.kind = 2
       ·
        have _f := hkn
        rw [show partW q.kind q.N q.S q.text = partC (q.kind : Int) (q.N % 2) (List.replicate 32 0) ([]) from by unfold partW; simp only [hkn]; rfl] at k_t16
        replace k_t16 : Blk W21 j_t16 (partC (q.kind : Int) (q.N % 2) (List.replicate 32 0) []) 34 := k_t16
        rw [show partW q.kind q.N q.S q.text = partC (q.kind : Int) (q.N % 2) (List.replicate 32 0) ([]) from by unfold partW; simp only [hkn]; rfl] at k_t17
        replace k_t17 : Blk W21 j_t17 (partC (q.kind : Int) (q.N % 2) (List.replicate 32 0) []) 34 := k_t17
        go_upto_region 20 with fail
        refine wp_region_lit ?_
        (refine wpL_val (v := ?_) (by rfl) ?_ ?_; rotate_left 1; focus (go_simp; first | done | with_reducible rfl))
        try simp only [Act.put, nA, nB, nC]
        (refine wpL_val (v := ?_) (by rfl) ?_ ?_; rotate_left 1; focus (go_simp; first | done | with_reducible rfl))
        try simp only [Act.put, nA, nB, nC]
        refine wpL_val (v := .pointer (some ⟨gI, 0 + j * 35, none⟩)) (by rfl) (by exact (run_ixR (ad := ⟨gI, 0, none⟩) (j := j) (k := 35) (by rw [eS_len]; exact hjl) rfl rfl rfl Try.underlying22 (by kernel_rfl)).trans (by rw [Addr.add_mid])) ?_
        try simp only [Act.put, nA, nB, nC]
        refine wpL_val (v := .pointer (some ⟨gI, 0 + j * 35 + 0, none⟩)) (by rfl) (by exact (run_fa (i := 0) (off := 0) 0 rfl rfl Try.underlying34 (by kernel_rfl))) ?_
        try simp only [Act.put, nA, nB, nC]
        refine wpL_at (v := .int .i64 (q.kind : Int)) (by rfl) rfl rfl (ptI (ow_in.at (eS_at hq)) 0 (x := .int .i64 (q.kind : Int)) rfl) (by kernel_rfl) ?_
        try simp only [Act.put, nA, nB, nC]
        refine wpL_nil ?_
        go_upto_region 21 with fail
        refine wp_region_lit ?_
        refine wpL_val (v := .bool false) (by rfl) (by first | rfl | (go_simp; done) | (go_simp; simp [hkn]; done) | (go_simp; omega)) ?_
        try simp only [Act.put, nA, nB, nC]
        refine wpL_val (v := .bool false) (by rfl) (by first | rfl | (go_simp; done) | (go_simp; simp [hkn]; done) | (go_simp; omega)) ?_
        try simp only [Act.put, nA, nB, nC]
        refine wpL_nil ?_
        go_upto_region 22 with fail
        refine wp_region_lit ?_
        refine wpL_val (v := .bool false) (by rfl) (by first | rfl | (go_simp; done) | (go_simp; simp [hkn]; done) | (go_simp; omega)) ?_
        try simp only [Act.put, nA, nB, nC]
        refine wpL_val (v := .bool false) (by rfl) (by first | rfl | (go_simp; done) | (go_simp; simp [hkn]; done) | (go_simp; omega)) ?_
        try simp only [Act.put, nA, nB, nC]
        refine wpL_nil ?_
        go_upto_region 24 with fail
        refine wp_region_lit ?_
        refine wpL_val (v := .bool true) (by rfl) (by first | rfl | (go_simp; done) | (go_simp; simp [hkn]; done) | (go_simp; omega)) ?_
        try simp only [Act.put, nA, nB, nC]
        refine wpL_val (v := .bool true) (by rfl) (by first | rfl | (go_simp; done) | (go_simp; simp [hkn]; done) | (go_simp; omega)) ?_
        try simp only [Act.put, nA, nB, nC]
        refine wpL_nil ?_
        go_upto_region 25 with fail
        refine wp_region_lit ?_
        (refine wpL_val (v := ?_) (by rfl) ?_ ?_; rotate_left 1; focus (go_simp; first | done | with_reducible rfl))
        try simp only [Act.put, nA, nB, nC]
        (refine wpL_val (v := ?_) (by rfl) ?_ ?_; rotate_left 1; focus (go_simp; first | done | with_reducible rfl))
        try simp only [Act.put, nA, nB, nC]
        refine wpL_val (v := .pointer (some ⟨gI, 0 + j * 35, none⟩)) (by rfl) (by exact (run_ixR (ad := ⟨gI, 0, none⟩) (j := j) (k := 35) (by rw [eS_len]; exact hjl) rfl rfl rfl Try.underlying22 (by kernel_rfl)).trans (by rw [Addr.add_mid])) ?_
        try simp only [Act.put, nA, nB, nC]
        refine wpL_val (v := .pointer (some ⟨gI, 0 + j * 35 + 1, none⟩)) (by rfl) (by exact (run_fa (i := 1) (off := 1) 0 rfl rfl Try.underlying34 (by kernel_rfl))) ?_
        try simp only [Act.put, nA, nB, nC]
        refine wpL_at (v := .int .i64 q.N) (by rfl) rfl rfl (ptI (ow_in.at (eS_at hq)) 1 (x := .int .i64 q.N) rfl) (by kernel_rfl) ?_
        try simp only [Act.put, nA, nB, nC]
        refine wpL_val (v := .int .i64 (q.N % 2)) (by rfl) (by first | (go_simp; rw [and_one]; done) | (go_simp; done) | (rw [← and_one]; rfl)) ?_
        try simp only [Act.put, nA, nB, nC]
        (refine wpL_val (v := ?_) (by rfl) ?_ ?_; rotate_left 1; focus (go_simp; first | done | with_reducible rfl))
        try simp only [Act.put, nA, nB, nC]
        refine wpL_put1 (v := .int .i64 (q.N % 2)) ⟨rfl, rfl⟩ (by rfl) rfl rfl rfl k_t18 (by rw [partC_size (List.length_replicate)]; decide) (by kernel_rfl) ?_
        try simp only [Act.put, nA, nB, nC]
        intro W22 hO h_
        rw [partC_set1] at h_
        replace k_t18 : Blk W22 p18_20 (partC (q.kind : Int) (q.N % 2) (List.replicate 32 0) []) 34 := h_
        clear h_
        replace k_t20 := blk_off k_t20 hO (nm1 nq_t20_t18)
        replace k_rd1 := blk_off k_rd1 hO (nm1 nq_rd1_t18)
        replace k_rd2 := blk_off k_rd2 hO (nm1 nq_rd2_t18)
        replace k_t16 := blk_off k_t16 hO (nm1 nq_t16_t18)
        replace k_t17 := blk_off k_t17 hO (nm1 nq_t17_t18)
        replace ow_in := Row.off ow_in hO (f1 ne_in_t18)
        replace ow_b2 := Sl.off ow_b2 hO (f1 ne_b2_t18)
        replace ow_b3 := Sl.off ow_b3 hO (f1 ne_b3_t18)
        replace off0 := off0.step hO (i1 fb_t18)
        replace sz := off0.size
        clear hO
        refine wpL_nil ?_
        go_upto_region 30 with fail
        refine wp_region_lit ?_
        refine wpL_load0 (by rfl) rfl rfl k_t16 (by kernel_rfl) (by rw [partC_size (List.length_replicate)]; kernel_rfl) ?_
        try simp only [Act.put, nA, nB, nC]
        refine wpL_load0 (by rfl) rfl rfl k_t18 (by kernel_rfl) (by rw [partC_size (List.length_replicate)]; kernel_rfl) ?_
        try simp only [Act.put, nA, nB, nC]
        refine wpL_val (v := .bool false) (by rfl) (by exact neA_self q (K := (q.kind : Int)) (N := (q.N % 2)) (S := List.replicate 32 0) (T := []) (List.length_replicate) rfl rfl rfl) ?_
        try simp only [Act.put, nA, nB, nC]
        refine wpL_val (v := .bool false) (by rfl) (by first | rfl | (go_simp; done) | (go_simp; with_reducible rfl) | (go_simp; omega)) ?_
        try simp only [Act.put, nA, nB, nC]
        refine wpL_load0 (by rfl) rfl rfl k_t17 (by kernel_rfl) (by rw [partC_size (List.length_replicate)]; kernel_rfl) ?_
        try simp only [Act.put, nA, nB, nC]
        refine wpL_load0 (by rfl) rfl rfl k_t18 (by kernel_rfl) (by rw [partC_size (List.length_replicate)]; kernel_rfl) ?_
        try simp only [Act.put, nA, nB, nC]
        refine wpL_val (v := .bool false) (by rfl) (by exact neA_self q (K := (q.kind : Int)) (N := (q.N % 2)) (S := List.replicate 32 0) (T := []) (List.length_replicate) rfl rfl rfl) ?_
        try simp only [Act.put, nA, nB, nC]
        refine wpL_val (v := .bool false) (by rfl) (by first | rfl | (go_simp; done) | (go_simp; with_reducible rfl) | (go_simp; omega)) ?_
        try simp only [Act.put, nA, nB, nC]
        refine wpL_nil ?_
        have ow_rv1 := ow_b2
        clear ow_b2
        have ne_rv1_t20 := ne_b2_t20
        have ne_rv1_rd1 := ne_b2_rd1
        have ne_rv1_rd2 := ne_b2_rd2
        have ne_rv1_t16 := ne_b2_t16
        have ne_rv1_t17 := ne_b2_t17
        have ne_rv1_t18 := ne_b2_t18
        have dj_rv1_in := dj_b2_in
        have dj_rv1_b3 := dj_b2_b3
        have ow_rv2 := ow_b3
        clear ow_b3
        have ne_rv2_t20 := ne_b3_t20
        have ne_rv2_rd1 := ne_b3_rd1
        have ne_rv2_rd2 := ne_b3_rd2
        have ne_rv2_t16 := ne_b3_t16
        have ne_rv2_t17 := ne_b3_t17
        have ne_rv2_t18 := ne_b3_t18
        have dj_rv2_in := dj_b3_in
        have dj_rv2_rv1 := (dj_symm dj_rv1_b3)
        go_wp2
        go_roundw
        case rel => exact ⟨j + 1, _, _, by omega, by go_num, off0, k_t20, k_rd1, k_rd2, ow_in, ow_rv1, ow_rv2, ne_rv1_t20, ne_rv1_rd1, ne_rv1_rd2, dj_rv1_in, (dj_symm dj_rv2_rv1), ne_rv2_t20, ne_rv2_rd1, ne_rv2_rd2, dj_rv2_in⟩
        case measure => simp [intOf]; omega
       ·
        have _f := hkn
        have hkn_2 := hkn
        clear hkn
        by_cases hkn : q.kind = 3
        ·
         have _f := hkn
         rw [show partW q.kind q.N q.S q.text = partC (q.kind : Int) q.N (List.replicate 32 0) ([]) from by unfold partW; simp only [hkn]; rfl] at k_t16
         replace k_t16 : Blk W21 j_t16 (partC (q.kind : Int) q.N (List.replicate 32 0) []) 34 := k_t16
         rw [show partW q.kind q.N q.S q.text = partC (q.kind : Int) q.N (List.replicate 32 0) ([]) from by unfold partW; simp only [hkn]; rfl] at k_t17
         replace k_t17 : Blk W21 j_t17 (partC (q.kind : Int) q.N (List.replicate 32 0) []) 34 := k_t17
         go_upto_region 20 with fail
         refine wp_region_lit ?_
         (refine wpL_val (v := ?_) (by rfl) ?_ ?_; rotate_left 1; focus (go_simp; first | done | with_reducible rfl))
         try simp only [Act.put, nA, nB, nC]
         (refine wpL_val (v := ?_) (by rfl) ?_ ?_; rotate_left 1; focus (go_simp; first | done | with_reducible rfl))
         try simp only [Act.put, nA, nB, nC]
         refine wpL_val (v := .pointer (some ⟨gI, 0 + j * 35, none⟩)) (by rfl) (by exact (run_ixR (ad := ⟨gI, 0, none⟩) (j := j) (k := 35) (by rw [eS_len]; exact hjl) rfl rfl rfl Try.underlying22 (by kernel_rfl)).trans (by rw [Addr.add_mid])) ?_
         try simp only [Act.put, nA, nB, nC]
         refine wpL_val (v := .pointer (some ⟨gI, 0 + j * 35 + 0, none⟩)) (by rfl) (by exact (run_fa (i := 0) (off := 0) 0 rfl rfl Try.underlying34 (by kernel_rfl))) ?_
         try simp only [Act.put, nA, nB, nC]
         refine wpL_at (v := .int .i64 (q.kind : Int)) (by rfl) rfl rfl (ptI (ow_in.at (eS_at hq)) 0 (x := .int .i64 (q.kind : Int)) rfl) (by kernel_rfl) ?_
         try simp only [Act.put, nA, nB, nC]
         refine wpL_nil ?_
         go_upto_region 21 with fail
         refine wp_region_lit ?_
         refine wpL_val (v := .bool false) (by rfl) (by first | rfl | (go_simp; done) | (go_simp; simp [hkn]; done) | (go_simp; omega)) ?_
         try simp only [Act.put, nA, nB, nC]
         refine wpL_val (v := .bool false) (by rfl) (by first | rfl | (go_simp; done) | (go_simp; simp [hkn]; done) | (go_simp; omega)) ?_
         try simp only [Act.put, nA, nB, nC]
         refine wpL_nil ?_
         go_upto_region 22 with fail
         refine wp_region_lit ?_
         refine wpL_val (v := .bool true) (by rfl) (by first | rfl | (go_simp; done) | (go_simp; simp [hkn]; done) | (go_simp; omega)) ?_
         try simp only [Act.put, nA, nB, nC]
         refine wpL_val (v := .bool true) (by rfl) (by first | rfl | (go_simp; done) | (go_simp; simp [hkn]; done) | (go_simp; omega)) ?_
         try simp only [Act.put, nA, nB, nC]
         refine wpL_nil ?_
         go_upto_region 23 with fail
         refine wp_region_lit ?_
         (refine wpL_val (v := ?_) (by rfl) ?_ ?_; rotate_left 1; focus (go_simp; first | done | with_reducible rfl))
         try simp only [Act.put, nA, nB, nC]
         (refine wpL_val (v := ?_) (by rfl) ?_ ?_; rotate_left 1; focus (go_simp; first | done | with_reducible rfl))
         try simp only [Act.put, nA, nB, nC]
         refine wpL_val (v := .pointer (some ⟨gI, 0 + j * 35, none⟩)) (by rfl) (by exact (run_ixR (ad := ⟨gI, 0, none⟩) (j := j) (k := 35) (by rw [eS_len]; exact hjl) rfl rfl rfl Try.underlying22 (by kernel_rfl)).trans (by rw [Addr.add_mid])) ?_
         try simp only [Act.put, nA, nB, nC]
         refine wpL_val (v := .pointer (some ⟨gI, 0 + j * 35 + 1, none⟩)) (by rfl) (by exact (run_fa (i := 1) (off := 1) 0 rfl rfl Try.underlying34 (by kernel_rfl))) ?_
         try simp only [Act.put, nA, nB, nC]
         refine wpL_at (v := .int .i64 q.N) (by rfl) rfl rfl (ptI (ow_in.at (eS_at hq)) 1 (x := .int .i64 q.N) rfl) (by kernel_rfl) ?_
         try simp only [Act.put, nA, nB, nC]
         (refine wpL_val (v := ?_) (by rfl) ?_ ?_; rotate_left 1; focus (go_simp; first | done | with_reducible rfl))
         try simp only [Act.put, nA, nB, nC]
         refine wpL_put1 (v := .int .i64 q.N) ⟨rfl, rfl⟩ (by rfl) rfl rfl rfl k_t18 (by rw [partC_size (List.length_replicate)]; decide) (by kernel_rfl) ?_
         try simp only [Act.put, nA, nB, nC]
         intro W22 hO h_
         rw [partC_set1] at h_
         replace k_t18 : Blk W22 p18_20 (partC (q.kind : Int) q.N (List.replicate 32 0) []) 34 := h_
         clear h_
         replace k_t20 := blk_off k_t20 hO (nm1 nq_t20_t18)
         replace k_rd1 := blk_off k_rd1 hO (nm1 nq_rd1_t18)
         replace k_rd2 := blk_off k_rd2 hO (nm1 nq_rd2_t18)
         replace k_t16 := blk_off k_t16 hO (nm1 nq_t16_t18)
         replace k_t17 := blk_off k_t17 hO (nm1 nq_t17_t18)
         replace ow_in := Row.off ow_in hO (f1 ne_in_t18)
         replace ow_b2 := Sl.off ow_b2 hO (f1 ne_b2_t18)
         replace ow_b3 := Sl.off ow_b3 hO (f1 ne_b3_t18)
         replace off0 := off0.step hO (i1 fb_t18)
         replace sz := off0.size
         clear hO
         refine wpL_nil ?_
         go_upto_region 30 with fail
         refine wp_region_lit ?_
         refine wpL_load0 (by rfl) rfl rfl k_t16 (by kernel_rfl) (by rw [partC_size (List.length_replicate)]; kernel_rfl) ?_
         try simp only [Act.put, nA, nB, nC]
         refine wpL_load0 (by rfl) rfl rfl k_t18 (by kernel_rfl) (by rw [partC_size (List.length_replicate)]; kernel_rfl) ?_
         try simp only [Act.put, nA, nB, nC]
         refine wpL_val (v := .bool false) (by rfl) (by exact neA_self q (K := (q.kind : Int)) (N := q.N) (S := List.replicate 32 0) (T := []) (List.length_replicate) rfl rfl rfl) ?_
         try simp only [Act.put, nA, nB, nC]
         refine wpL_val (v := .bool false) (by rfl) (by first | rfl | (go_simp; done) | (go_simp; with_reducible rfl) | (go_simp; omega)) ?_
         try simp only [Act.put, nA, nB, nC]
         refine wpL_load0 (by rfl) rfl rfl k_t17 (by kernel_rfl) (by rw [partC_size (List.length_replicate)]; kernel_rfl) ?_
         try simp only [Act.put, nA, nB, nC]
         refine wpL_load0 (by rfl) rfl rfl k_t18 (by kernel_rfl) (by rw [partC_size (List.length_replicate)]; kernel_rfl) ?_
         try simp only [Act.put, nA, nB, nC]
         refine wpL_val (v := .bool false) (by rfl) (by exact neA_self q (K := (q.kind : Int)) (N := q.N) (S := List.replicate 32 0) (T := []) (List.length_replicate) rfl rfl rfl) ?_
         try simp only [Act.put, nA, nB, nC]
         refine wpL_val (v := .bool false) (by rfl) (by first | rfl | (go_simp; done) | (go_simp; with_reducible rfl) | (go_simp; omega)) ?_
         try simp only [Act.put, nA, nB, nC]
         refine wpL_nil ?_
         have ow_rv1 := ow_b2
         clear ow_b2
         have ne_rv1_t20 := ne_b2_t20
         have ne_rv1_rd1 := ne_b2_rd1
         have ne_rv1_rd2 := ne_b2_rd2
         have ne_rv1_t16 := ne_b2_t16
         have ne_rv1_t17 := ne_b2_t17
         have ne_rv1_t18 := ne_b2_t18
         have dj_rv1_in := dj_b2_in
         have dj_rv1_b3 := dj_b2_b3
         have ow_rv2 := ow_b3
         clear ow_b3
         have ne_rv2_t20 := ne_b3_t20
         have ne_rv2_rd1 := ne_b3_rd1
         have ne_rv2_rd2 := ne_b3_rd2
         have ne_rv2_t16 := ne_b3_t16
         have ne_rv2_t17 := ne_b3_t17
         have ne_rv2_t18 := ne_b3_t18
         have dj_rv2_in := dj_b3_in
         have dj_rv2_rv1 := (dj_symm dj_rv1_b3)
         go_wp2
         go_roundw
         case rel => exact ⟨j + 1, _, _, by omega, by go_num, off0, k_t20, k_rd1, k_rd2, ow_in, ow_rv1, ow_rv2, ne_rv1_t20, ne_rv1_rd1, ne_rv1_rd2, dj_rv1_in, (dj_symm dj_rv2_rv1), ne_rv2_t20, ne_rv2_rd1, ne_rv2_rd2, dj_rv2_in⟩
         case measure => simp [intOf]; omega
        ·
         have _f := hkn
         have hkn_3 := hkn
         clear hkn
         by_cases hkn : q.kind = 4
         ·
          have _f := hkn
          rw [show partW q.kind q.N q.S q.text = partC (q.kind : Int) 0 (q.S) ([]) from by unfold partW; simp only [hkn]; rfl] at k_t16
          replace k_t16 : Blk W21 j_t16 (partC (q.kind : Int) 0 q.S []) 34 := k_t16
          rw [show partW q.kind q.N q.S q.text = partC (q.kind : Int) 0 (q.S) ([]) from by unfold partW; simp only [hkn]; rfl] at k_t17
          replace k_t17 : Blk W21 j_t17 (partC (q.kind : Int) 0 q.S []) 34 := k_t17
          go_upto_region 20 with fail
          refine wp_region_lit ?_
          (refine wpL_val (v := ?_) (by rfl) ?_ ?_; rotate_left 1; focus (go_simp; first | done | with_reducible rfl))
          try simp only [Act.put, nA, nB, nC]
          (refine wpL_val (v := ?_) (by rfl) ?_ ?_; rotate_left 1; focus (go_simp; first | done | with_reducible rfl))
          try simp only [Act.put, nA, nB, nC]
          refine wpL_val (v := .pointer (some ⟨gI, 0 + j * 35, none⟩)) (by rfl) (by exact (run_ixR (ad := ⟨gI, 0, none⟩) (j := j) (k := 35) (by rw [eS_len]; exact hjl) rfl rfl rfl Try.underlying22 (by kernel_rfl)).trans (by rw [Addr.add_mid])) ?_
          try simp only [Act.put, nA, nB, nC]
          refine wpL_val (v := .pointer (some ⟨gI, 0 + j * 35 + 0, none⟩)) (by rfl) (by exact (run_fa (i := 0) (off := 0) 0 rfl rfl Try.underlying34 (by kernel_rfl))) ?_
          try simp only [Act.put, nA, nB, nC]
          refine wpL_at (v := .int .i64 (q.kind : Int)) (by rfl) rfl rfl (ptI (ow_in.at (eS_at hq)) 0 (x := .int .i64 (q.kind : Int)) rfl) (by kernel_rfl) ?_
          try simp only [Act.put, nA, nB, nC]
          refine wpL_nil ?_
          go_upto_region 21 with fail
          refine wp_region_lit ?_
          refine wpL_val (v := .bool false) (by rfl) (by first | rfl | (go_simp; done) | (go_simp; simp [hkn]; done) | (go_simp; omega)) ?_
          try simp only [Act.put, nA, nB, nC]
          refine wpL_val (v := .bool false) (by rfl) (by first | rfl | (go_simp; done) | (go_simp; simp [hkn]; done) | (go_simp; omega)) ?_
          try simp only [Act.put, nA, nB, nC]
          refine wpL_nil ?_
          go_upto_region 22 with fail
          refine wp_region_lit ?_
          refine wpL_val (v := .bool false) (by rfl) (by first | rfl | (go_simp; done) | (go_simp; simp [hkn]; done) | (go_simp; omega)) ?_
          try simp only [Act.put, nA, nB, nC]
          refine wpL_val (v := .bool false) (by rfl) (by first | rfl | (go_simp; done) | (go_simp; simp [hkn]; done) | (go_simp; omega)) ?_
          try simp only [Act.put, nA, nB, nC]
          refine wpL_nil ?_
          go_upto_region 24 with fail
          refine wp_region_lit ?_
          refine wpL_val (v := .bool false) (by rfl) (by first | rfl | (go_simp; done) | (go_simp; simp [hkn]; done) | (go_simp; omega)) ?_
          try simp only [Act.put, nA, nB, nC]
          refine wpL_val (v := .bool false) (by rfl) (by first | rfl | (go_simp; done) | (go_simp; simp [hkn]; done) | (go_simp; omega)) ?_
          try simp only [Act.put, nA, nB, nC]
          refine wpL_nil ?_
          go_upto_region 26 with fail
          refine wp_region_lit ?_
          refine wpL_val (v := .bool true) (by rfl) (by first | rfl | (go_simp; done) | (go_simp; simp [hkn]; done) | (go_simp; omega)) ?_
          try simp only [Act.put, nA, nB, nC]
          refine wpL_val (v := .bool true) (by rfl) (by first | rfl | (go_simp; done) | (go_simp; simp [hkn]; done) | (go_simp; omega)) ?_
          try simp only [Act.put, nA, nB, nC]
          refine wpL_nil ?_
          go_upto_region 27 with fail
          refine wp_region_lit ?_
          (refine wpL_val (v := ?_) (by rfl) ?_ ?_; rotate_left 1; focus (go_simp; first | done | with_reducible rfl))
          try simp only [Act.put, nA, nB, nC]
          (refine wpL_val (v := ?_) (by rfl) ?_ ?_; rotate_left 1; focus (go_simp; first | done | with_reducible rfl))
          try simp only [Act.put, nA, nB, nC]
          refine wpL_val (v := .pointer (some ⟨gI, 0 + j * 35, none⟩)) (by rfl) (by exact (run_ixR (ad := ⟨gI, 0, none⟩) (j := j) (k := 35) (by rw [eS_len]; exact hjl) rfl rfl rfl Try.underlying22 (by kernel_rfl)).trans (by rw [Addr.add_mid])) ?_
          try simp only [Act.put, nA, nB, nC]
          refine wpL_val (v := .pointer (some ⟨gI, 0 + j * 35 + 2, none⟩)) (by rfl) (by exact (run_fa (i := 2) (off := 2) 31 rfl rfl Try.underlying34 (by kernel_rfl))) ?_
          try simp only [Act.put, nA, nB, nC]
          refine wpL_val (v := .agg (bs8 q.S).toArray) (by rfl) (by exact run_atrow rfl rfl (ptS (ow_in.at (eS_at hq))) (by kernel_rfl) (by rw [bs8_length, q.hS]; kernel_rfl)) ?_
          try simp only [Act.put, nA, nB, nC]
          (refine wpL_val (v := ?_) (by rfl) ?_ ?_; rotate_left 1; focus (go_simp; first | done | with_reducible rfl))
          try simp only [Act.put, nA, nB, nC]
          refine wpL_put (v := .agg (bs8 q.S).toArray) (by rfl) rfl rfl rfl k_t18 (by show 2 + (bs8 q.S).toArray.size ≤ _; rw [partC_size (List.length_replicate), List.size_toArray, bs8_length, q.hS]; decide) (by show _ = some (bs8 q.S).toArray.size; rw [List.size_toArray, bs8_length, q.hS]; kernel_rfl) (all_oneCell_toArray (bs8_one _)) ?_
          try simp only [Act.put, nA, nB, nC]
          intro W22 hO h_
          replace h_ := Eq.mp (congrArg (fun c => Blk _ _ c _) (partC_set2 _ _ _ _ _ (List.length_replicate) q.hS)) h_
          replace k_t18 : Blk W22 p18_20 (partC (q.kind : Int) 0 q.S []) 34 := h_
          clear h_
          replace k_t20 := blk_off k_t20 hO (nm1 nq_t20_t18)
          replace k_rd1 := blk_off k_rd1 hO (nm1 nq_rd1_t18)
          replace k_rd2 := blk_off k_rd2 hO (nm1 nq_rd2_t18)
          replace k_t16 := blk_off k_t16 hO (nm1 nq_t16_t18)
          replace k_t17 := blk_off k_t17 hO (nm1 nq_t17_t18)
          replace ow_in := Row.off ow_in hO (f1 ne_in_t18)
          replace ow_b2 := Sl.off ow_b2 hO (f1 ne_b2_t18)
          replace ow_b3 := Sl.off ow_b3 hO (f1 ne_b3_t18)
          replace off0 := off0.step hO (i1 fb_t18)
          replace sz := off0.size
          clear hO
          refine wpL_nil ?_
          go_upto_region 30 with fail
          refine wp_region_lit ?_
          refine wpL_load0 (by rfl) rfl rfl k_t16 (by kernel_rfl) (by rw [partC_size q.hS]; kernel_rfl) ?_
          try simp only [Act.put, nA, nB, nC]
          refine wpL_load0 (by rfl) rfl rfl k_t18 (by kernel_rfl) (by rw [partC_size q.hS]; kernel_rfl) ?_
          try simp only [Act.put, nA, nB, nC]
          refine wpL_val (v := .bool false) (by rfl) (by exact neA_self q (K := (q.kind : Int)) (N := 0) (S := q.S) (T := []) q.hS rfl rfl rfl) ?_
          try simp only [Act.put, nA, nB, nC]
          refine wpL_val (v := .bool false) (by rfl) (by first | rfl | (go_simp; done) | (go_simp; with_reducible rfl) | (go_simp; omega)) ?_
          try simp only [Act.put, nA, nB, nC]
          refine wpL_load0 (by rfl) rfl rfl k_t17 (by kernel_rfl) (by rw [partC_size q.hS]; kernel_rfl) ?_
          try simp only [Act.put, nA, nB, nC]
          refine wpL_load0 (by rfl) rfl rfl k_t18 (by kernel_rfl) (by rw [partC_size q.hS]; kernel_rfl) ?_
          try simp only [Act.put, nA, nB, nC]
          refine wpL_val (v := .bool false) (by rfl) (by exact neA_self q (K := (q.kind : Int)) (N := 0) (S := q.S) (T := []) q.hS rfl rfl rfl) ?_
          try simp only [Act.put, nA, nB, nC]
          refine wpL_val (v := .bool false) (by rfl) (by first | rfl | (go_simp; done) | (go_simp; with_reducible rfl) | (go_simp; omega)) ?_
          try simp only [Act.put, nA, nB, nC]
          refine wpL_nil ?_
          have ow_rv1 := ow_b2
          clear ow_b2
          have ne_rv1_t20 := ne_b2_t20
          have ne_rv1_rd1 := ne_b2_rd1
          have ne_rv1_rd2 := ne_b2_rd2
          have ne_rv1_t16 := ne_b2_t16
          have ne_rv1_t17 := ne_b2_t17
          have ne_rv1_t18 := ne_b2_t18
          have dj_rv1_in := dj_b2_in
          have dj_rv1_b3 := dj_b2_b3
          have ow_rv2 := ow_b3
          clear ow_b3
          have ne_rv2_t20 := ne_b3_t20
          have ne_rv2_rd1 := ne_b3_rd1
          have ne_rv2_rd2 := ne_b3_rd2
          have ne_rv2_t16 := ne_b3_t16
          have ne_rv2_t17 := ne_b3_t17
          have ne_rv2_t18 := ne_b3_t18
          have dj_rv2_in := dj_b3_in
          have dj_rv2_rv1 := (dj_symm dj_rv1_b3)
          go_wp2
          go_roundw
          case rel => exact ⟨j + 1, _, _, by omega, by go_num, off0, k_t20, k_rd1, k_rd2, ow_in, ow_rv1, ow_rv2, ne_rv1_t20, ne_rv1_rd1, ne_rv1_rd2, dj_rv1_in, (dj_symm dj_rv2_rv1), ne_rv2_t20, ne_rv2_rd1, ne_rv2_rd2, dj_rv2_in⟩
          case measure => simp [intOf]; omega
         ·
          have _f := hkn
          have hkn_4 := hkn
          clear hkn
          have hkn : q.kind = 5 := by have := q.kind_ok; omega
          rw [show partW q.kind q.N q.S q.text = partC (q.kind : Int) 0 (List.replicate 32 0) (q.text) from by unfold partW; simp only [hkn]; rfl] at k_t16
          replace k_t16 : Blk W21 j_t16 (partC (q.kind : Int) 0 (List.replicate 32 0) q.text) 34 := k_t16
          rw [show partW q.kind q.N q.S q.text = partC (q.kind : Int) 0 (List.replicate 32 0) (q.text) from by unfold partW; simp only [hkn]; rfl] at k_t17
          replace k_t17 : Blk W21 j_t17 (partC (q.kind : Int) 0 (List.replicate 32 0) q.text) 34 := k_t17
          go_upto_region 20 with fail
          refine wp_region_lit ?_
          (refine wpL_val (v := ?_) (by rfl) ?_ ?_; rotate_left 1; focus (go_simp; first | done | with_reducible rfl))
          try simp only [Act.put, nA, nB, nC]
          (refine wpL_val (v := ?_) (by rfl) ?_ ?_; rotate_left 1; focus (go_simp; first | done | with_reducible rfl))
          try simp only [Act.put, nA, nB, nC]
          refine wpL_val (v := .pointer (some ⟨gI, 0 + j * 35, none⟩)) (by rfl) (by exact (run_ixR (ad := ⟨gI, 0, none⟩) (j := j) (k := 35) (by rw [eS_len]; exact hjl) rfl rfl rfl Try.underlying22 (by kernel_rfl)).trans (by rw [Addr.add_mid])) ?_
          try simp only [Act.put, nA, nB, nC]
          refine wpL_val (v := .pointer (some ⟨gI, 0 + j * 35 + 0, none⟩)) (by rfl) (by exact (run_fa (i := 0) (off := 0) 0 rfl rfl Try.underlying34 (by kernel_rfl))) ?_
          try simp only [Act.put, nA, nB, nC]
          refine wpL_at (v := .int .i64 (q.kind : Int)) (by rfl) rfl rfl (ptI (ow_in.at (eS_at hq)) 0 (x := .int .i64 (q.kind : Int)) rfl) (by kernel_rfl) ?_
          try simp only [Act.put, nA, nB, nC]
          refine wpL_nil ?_
          go_upto_region 21 with fail
          refine wp_region_lit ?_
          refine wpL_val (v := .bool false) (by rfl) (by first | rfl | (go_simp; done) | (go_simp; simp [hkn]; done) | (go_simp; omega)) ?_
          try simp only [Act.put, nA, nB, nC]
          refine wpL_val (v := .bool false) (by rfl) (by first | rfl | (go_simp; done) | (go_simp; simp [hkn]; done) | (go_simp; omega)) ?_
          try simp only [Act.put, nA, nB, nC]
          refine wpL_nil ?_
          go_upto_region 22 with fail
          refine wp_region_lit ?_
          refine wpL_val (v := .bool false) (by rfl) (by first | rfl | (go_simp; done) | (go_simp; simp [hkn]; done) | (go_simp; omega)) ?_
          try simp only [Act.put, nA, nB, nC]
          refine wpL_val (v := .bool false) (by rfl) (by first | rfl | (go_simp; done) | (go_simp; simp [hkn]; done) | (go_simp; omega)) ?_
          try simp only [Act.put, nA, nB, nC]
          refine wpL_nil ?_
          go_upto_region 24 with fail
          refine wp_region_lit ?_
          refine wpL_val (v := .bool false) (by rfl) (by first | rfl | (go_simp; done) | (go_simp; simp [hkn]; done) | (go_simp; omega)) ?_
          try simp only [Act.put, nA, nB, nC]
          refine wpL_val (v := .bool false) (by rfl) (by first | rfl | (go_simp; done) | (go_simp; simp [hkn]; done) | (go_simp; omega)) ?_
          try simp only [Act.put, nA, nB, nC]
          refine wpL_nil ?_
          go_upto_region 26 with fail
          refine wp_region_lit ?_
          refine wpL_val (v := .bool false) (by rfl) (by first | rfl | (go_simp; done) | (go_simp; simp [hkn]; done) | (go_simp; omega)) ?_
          try simp only [Act.put, nA, nB, nC]
          refine wpL_val (v := .bool false) (by rfl) (by first | rfl | (go_simp; done) | (go_simp; simp [hkn]; done) | (go_simp; omega)) ?_
          try simp only [Act.put, nA, nB, nC]
          refine wpL_nil ?_
          go_upto_region 28 with fail
          refine wp_region_lit ?_
          refine wpL_val (v := .bool true) (by rfl) (by first | rfl | (go_simp; done) | (go_simp; simp [hkn]; done) | (go_simp; omega)) ?_
          try simp only [Act.put, nA, nB, nC]
          refine wpL_val (v := .bool true) (by rfl) (by first | rfl | (go_simp; done) | (go_simp; simp [hkn]; done) | (go_simp; omega)) ?_
          try simp only [Act.put, nA, nB, nC]
          refine wpL_nil ?_
          go_upto_region 29 with fail
          refine wp_region_lit ?_
          (refine wpL_val (v := ?_) (by rfl) ?_ ?_; rotate_left 1; focus (go_simp; first | done | with_reducible rfl))
          try simp only [Act.put, nA, nB, nC]
          (refine wpL_val (v := ?_) (by rfl) ?_ ?_; rotate_left 1; focus (go_simp; first | done | with_reducible rfl))
          try simp only [Act.put, nA, nB, nC]
          refine wpL_val (v := .pointer (some ⟨gI, 0 + j * 35, none⟩)) (by rfl) (by exact (run_ixR (ad := ⟨gI, 0, none⟩) (j := j) (k := 35) (by rw [eS_len]; exact hjl) rfl rfl rfl Try.underlying22 (by kernel_rfl)).trans (by rw [Addr.add_mid])) ?_
          try simp only [Act.put, nA, nB, nC]
          refine wpL_val (v := .pointer (some ⟨gI, 0 + j * 35 + 34, none⟩)) (by rfl) (by exact (run_fa (i := 3) (off := 34) 0 rfl rfl Try.underlying34 (by kernel_rfl))) ?_
          try simp only [Act.put, nA, nB, nC]
          refine wpL_at (v := str q.text) (by rfl) rfl rfl (ptI (ow_in.at (eS_at hq)) 34 ptT) (by kernel_rfl) ?_
          try simp only [Act.put, nA, nB, nC]
          (refine wpL_val (v := ?_) (by rfl) ?_ ?_; rotate_left 1; focus (go_simp; first | done | with_reducible rfl))
          try simp only [Act.put, nA, nB, nC]
          refine wpL_put1 (v := str q.text) ⟨rfl, rfl⟩ (by rfl) rfl rfl rfl k_t18 (by rw [partC_size (List.length_replicate)]; decide) (by kernel_rfl) ?_
          try simp only [Act.put, nA, nB, nC]
          intro W22 hO h_
          rw [partC_set34 _ _ _ _ _ (List.length_replicate)] at h_
          replace k_t18 : Blk W22 p18_20 (partC (q.kind : Int) 0 (List.replicate 32 0) q.text) 34 := h_
          clear h_
          replace k_t20 := blk_off k_t20 hO (nm1 nq_t20_t18)
          replace k_rd1 := blk_off k_rd1 hO (nm1 nq_rd1_t18)
          replace k_rd2 := blk_off k_rd2 hO (nm1 nq_rd2_t18)
          replace k_t16 := blk_off k_t16 hO (nm1 nq_t16_t18)
          replace k_t17 := blk_off k_t17 hO (nm1 nq_t17_t18)
          replace ow_in := Row.off ow_in hO (f1 ne_in_t18)
          replace ow_b2 := Sl.off ow_b2 hO (f1 ne_b2_t18)
          replace ow_b3 := Sl.off ow_b3 hO (f1 ne_b3_t18)
          replace off0 := off0.step hO (i1 fb_t18)
          replace sz := off0.size
          clear hO
          refine wpL_nil ?_
          go_upto_region 30 with fail
          refine wp_region_lit ?_
          refine wpL_load0 (by rfl) rfl rfl k_t16 (by kernel_rfl) (by rw [partC_size (List.length_replicate)]; kernel_rfl) ?_
          try simp only [Act.put, nA, nB, nC]
          refine wpL_load0 (by rfl) rfl rfl k_t18 (by kernel_rfl) (by rw [partC_size (List.length_replicate)]; kernel_rfl) ?_
          try simp only [Act.put, nA, nB, nC]
          refine wpL_val (v := .bool false) (by rfl) (by exact neA_self q (K := (q.kind : Int)) (N := 0) (S := List.replicate 32 0) (T := q.text) (List.length_replicate) rfl rfl rfl) ?_
          try simp only [Act.put, nA, nB, nC]
          refine wpL_val (v := .bool false) (by rfl) (by first | rfl | (go_simp; done) | (go_simp; with_reducible rfl) | (go_simp; omega)) ?_
          try simp only [Act.put, nA, nB, nC]
          refine wpL_load0 (by rfl) rfl rfl k_t17 (by kernel_rfl) (by rw [partC_size (List.length_replicate)]; kernel_rfl) ?_
          try simp only [Act.put, nA, nB, nC]
          refine wpL_load0 (by rfl) rfl rfl k_t18 (by kernel_rfl) (by rw [partC_size (List.length_replicate)]; kernel_rfl) ?_
          try simp only [Act.put, nA, nB, nC]
          refine wpL_val (v := .bool false) (by rfl) (by exact neA_self q (K := (q.kind : Int)) (N := 0) (S := List.replicate 32 0) (T := q.text) (List.length_replicate) rfl rfl rfl) ?_
          try simp only [Act.put, nA, nB, nC]
          refine wpL_val (v := .bool false) (by rfl) (by first | rfl | (go_simp; done) | (go_simp; with_reducible rfl) | (go_simp; omega)) ?_
          try simp only [Act.put, nA, nB, nC]
          refine wpL_nil ?_
          have ow_rv1 := ow_b2
          clear ow_b2
          have ne_rv1_t20 := ne_b2_t20
          have ne_rv1_rd1 := ne_b2_rd1
          have ne_rv1_rd2 := ne_b2_rd2
          have ne_rv1_t16 := ne_b2_t16
          have ne_rv1_t17 := ne_b2_t17
          have ne_rv1_t18 := ne_b2_t18
          have dj_rv1_in := dj_b2_in
          have dj_rv1_b3 := dj_b2_b3
          have ow_rv2 := ow_b3
          clear ow_b3
          have ne_rv2_t20 := ne_b3_t20
          have ne_rv2_rd1 := ne_b3_rd1
          have ne_rv2_rd2 := ne_b3_rd2
          have ne_rv2_t16 := ne_b3_t16
          have ne_rv2_t17 := ne_b3_t17
          have ne_rv2_t18 := ne_b3_t18
          have dj_rv2_in := dj_b3_in
          have dj_rv2_rv1 := (dj_symm dj_rv1_b3)
          go_wp2
          go_roundw
          case rel => exact ⟨j + 1, _, _, by omega, by go_num, off0, k_t20, k_rd1, k_rd2, ow_in, ow_rv1, ow_rv2, ne_rv1_t20, ne_rv1_rd1, ne_rv1_rd2, dj_rv1_in, (dj_symm dj_rv2_rv1), ne_rv2_t20, ne_rv2_rd1, ne_rv2_rd2, dj_rv2_in⟩
          case measure => simp [intOf]; omega
     ·
      have _f := hjl
      obtain rfl : j = G.length := by omega
      have hdn : fB (List.drop G.length G) = [] := by rw [List.drop_length]; rfl
      (try rw [hdn] at ow_rv1); (try rw [List.nil_append] at ow_rv1)
      (try rw [hdn] at ne_rv1_t20); (try rw [List.nil_append] at ne_rv1_t20)
      (try rw [hdn] at ne_rv1_rd1); (try rw [List.nil_append] at ne_rv1_rd1)
      (try rw [hdn] at ne_rv1_rd2); (try rw [List.nil_append] at ne_rv1_rd2)
      (try rw [hdn] at dj_rv1_in); (try rw [List.nil_append] at dj_rv1_in)
      (try rw [hdn] at dj_rv1_rv2); (try rw [List.nil_append] at dj_rv1_rv2)
      (try rw [hdn] at ow_rv2); (try rw [List.nil_append] at ow_rv2)
      (try rw [hdn] at ne_rv2_t20); (try rw [List.nil_append] at ne_rv2_t20)
      (try rw [hdn] at ne_rv2_rd1); (try rw [List.nil_append] at ne_rv2_rd1)
      (try rw [hdn] at ne_rv2_rd2); (try rw [List.nil_append] at ne_rv2_rd2)
      (try rw [hdn] at dj_rv2_in); (try rw [List.nil_append] at dj_rv2_in)
      go_upto_region 16 with fail
      refine wp_region_lit ?_
      (refine wpL_val (v := ?_) (by rfl) ?_ ?_; rotate_left 1; focus (go_simp; first | done | with_reducible rfl))
      try simp only [Act.put, nA, nB, nC]
      (refine wpL_val (v := ?_) (by rfl) ?_ ?_; rotate_left 1; focus (go_simp; first | done | with_reducible rfl))
      try simp only [Act.put, nA, nB, nC]
      refine wpL_val (v := .int .i64 ((eS G).length : Int)) (by rfl) (by exact run_lenR ow_in rfl rfl Try.underlying22) ?_
      try simp only [Act.put, nA, nB, nC]
      refine wpL_val (v := .bool false) (by rfl) (by first | (go_simp; done) | (go_simp; simp [eS_len]; done) | (go_simp; rw [eS_len]; omega)) ?_
      try simp only [Act.put, nA, nB, nC]
      refine wpL_nil ?_
      go_upto_region 32 with fail
      refine wp_region_lit ?_
      (refine wpL_val (v := ?_) (by rfl) ?_ ?_; rotate_left 1; focus (go_simp; first | done | with_reducible rfl))
      try simp only [Act.put, nA, nB, nC]
      refine wpL_ret (rend_ok pr1 va W11 ⟨k_rd1, ow_rv1, ne_rv1_rd1⟩) (by rfl) rfl (by kernel_rfl) rfl ?_
      try simp only [Act.put, nA, nB, nC]
      intro W12 hO
      replace k_t20 := blk_off k_t20 hO nm0
      replace k_rd1 := blk_off k_rd1 hO nm0
      replace k_rd2 := blk_off k_rd2 hO nm0
      replace ow_in := Row.off ow_in hO f0
      replace ow_rv1 := Sl.off ow_rv1 hO f0
      replace ow_rv2 := Sl.off ow_rv2 hO f0
      replace off0 := off0.step hO i0
      replace sz := off0.size
      clear hO
      refine wpL_val (v := .bool true) (by rfl) (by first | rfl | (go_simp; done) | (go_simp; with_reducible rfl) | (go_simp; omega)) ?_
      try simp only [Act.put, nA, nB, nC]
      refine wpL_val (v := .bool true) (by rfl) (by first | rfl | (go_simp; done) | (go_simp; with_reducible rfl) | (go_simp; omega)) ?_
      try simp only [Act.put, nA, nB, nC]
      (refine wpL_val (v := ?_) (by rfl) ?_ ?_; rotate_left 1; focus (go_simp; first | done | with_reducible rfl))
      try simp only [Act.put, nA, nB, nC]
      refine wpL_ret (rend_tail pr2 vb c [] W12 ⟨k_rd2, ow_rv2, ne_rv2_rd2⟩) (by rfl) rfl (by kernel_rfl) rfl ?_
      try simp only [Act.put, nA, nB, nC]
      intro W13 hO
      replace k_t20 := blk_off k_t20 hO nm0
      replace k_rd1 := blk_off k_rd1 hO nm0
      replace k_rd2 := blk_off k_rd2 hO nm0
      replace ow_in := Row.off ow_in hO f0
      replace ow_rv1 := Sl.off ow_rv1 hO f0
      replace ow_rv2 := Sl.off ow_rv2 hO f0
      replace off0 := off0.step hO i0
      replace sz := off0.size
      clear hO
      refine wpL_val (v := .bool true) (by rfl) (by first | rfl | (go_simp; done) | (go_simp; with_reducible rfl) | (go_simp; omega)) ?_
      try simp only [Act.put, nA, nB, nC]
      refine wpL_val (v := .bool true) (by rfl) (by first | rfl | (go_simp; done) | (go_simp; with_reducible rfl) | (go_simp; omega)) ?_
      try simp only [Act.put, nA, nB, nC]
      refine wpL_val (v := .bool true) (by rfl) (by first | rfl | (go_simp; done) | (go_simp; with_reducible rfl) | (go_simp; omega)) ?_
      try simp only [Act.put, nA, nB, nC]
      (refine wpL_val (v := ?_) (by rfl) ?_ ?_; rotate_left 1; focus (go_simp; first | done | with_reducible rfl))
      try simp only [Act.put, nA, nB, nC]
      refine wpL_ret (rleft_c pr2 vb [c] 0 W13 ⟨k_rd2, ow_rv2, ne_rv2_rd2⟩) (by rfl) rfl (by kernel_rfl) rfl ?_
      try simp only [Act.put, nA, nB, nC]
      intro W14 hO
      replace k_t20 := blk_off k_t20 hO nm0
      replace k_rd1 := blk_off k_rd1 hO nm0
      replace k_rd2 := blk_off k_rd2 hO nm0
      replace ow_in := Row.off ow_in hO f0
      replace ow_rv1 := Sl.off ow_rv1 hO f0
      replace ow_rv2 := Sl.off ow_rv2 hO f0
      replace off0 := off0.step hO i0
      replace sz := off0.size
      clear hO
      refine wpL_val (v := .bool true) (by rfl) (by first | rfl | (go_simp; done) | (go_simp; with_reducible rfl) | (go_simp; omega)) ?_
      try simp only [Act.put, nA, nB, nC]
      refine wpL_val (v := .bool true) (by rfl) (by first | rfl | (go_simp; done) | (go_simp; with_reducible rfl) | (go_simp; omega)) ?_
      try simp only [Act.put, nA, nB, nC]
      refine wpL_val (v := .bool true) (by rfl) (by first | rfl | (go_simp; done) | (go_simp; with_reducible rfl) | (go_simp; omega)) ?_
      try simp only [Act.put, nA, nB, nC]
      refine wpL_nil ?_
      go_wp2
      exact bodyPost_ret (v := .bool true) (by simp only [results, Try.results5]; go_simp) rfl ⟨rfl, off0.ext⟩
end Go.Proofs.Yteniajdmmffamaa

/- The document's point, challenge and Sum (vrf). Conditions: the sums' tables hold their numbers. The document's Sum, Prove, Check (vrf). Conditions: the sums' tables hold their numbers. -/
import Derived.Test.YtefpoollmbmkfaaDoorGc
import Derived.Test.YtefpoollmbmkfaaDoorVb
import Derived.Test.YtefpoollmbmkfaaDoorSgD
set_option linter.unusedSimpArgs false
set_option linter.unusedVariables false
namespace Go.Proofs.YtefpoollmbmkfaaDoor
set_option maxHeartbeats 2000000
set_option maxRecDepth 100000
open Go.RowKit
attribute [local irreducible] wpList
open Sc (LL clampF)
variable {kn : Kn}
attribute [local irreducible] hs
theorem rdec_rw {A B : Nat} {v : Value} {w : World} (h : A = B) (c : Calls Tryd.prog 57 #[str (lb 32 B)] w fun e w' => Ret v w w' e) : Calls Tryd.prog 57 #[str (lb 32 A)] w fun e w' => Ret v w w' e := h ▸ c
theorem take_lb {n k V : Nat} (h : k ≤ n) : List.take k (lb n V) = lb k V := by
  rw [show n = k + (n - k) by omega, lb_add, List.take_left' (lb_length _ _)]
section
variable {w : World} {o : Oper} {a : Act} {x y z : Operand} {t : TypeId}
theorem run_s16 {V C : Nat} (hC : C = V % P128) (ho : o.op = .slice t x none (some y) none) (ht : Tryd.prog.underlying t = some .string) (hx : a.eval x = str (lb 64 V)) (hy : a.eval y = .int .i64 16) : (execOp a.eval o).run Tryd.prog w = .ok (.value (str (lb 16 C))) w := by
  have h := run_shead (w := w) (n := 16) (by rw [lb_length]; decide) ho ht hx hy
  rw [take_lb (by decide), ← lb_mod] at h
  rw [hC]; exact h
end
theorem zero_lb (n : Nat) : List.replicate n (0 : UInt8) = lb n 0 := by
  induction n with
  | zero => rfl
  | succ n ih => rw [lb_succ, List.replicate_succ, ih]; rfl

theorem rpoint_some {V : Nat} {L : List UInt8} (hL : L.length ≤ 1099511627776) (c0 : Nat) (h256 : c0 < 256) (hok : candOk V L c0 = true) (hlow : ∀ i, i < c0 → candOk V L i = false) :
  ∃ X Y Z, RD X Y Z (candP V L c0) ∧ ∀ w, GR w → Calls Tryd.prog 62 #[str (lb 32 V), str L] w fun e w' => Ret (.tuple #[.agg (p3 X Y Z), .bool true]) w w' e := by
 obtain ⟨dx0, dr0, dc0⟩ := rDec_1 (cand_lt V L c0) (candOk_iff.1 hok).1
 obtain ⟨dy0, hdy0⟩ := exn (cand V L c0 % 2 ^ 255)
 rw [← hdy0] at dr0 dc0
 clear hdy0
 obtain ⟨ex0, ey0, ez0, er0, ec0⟩ := rEight_c dr0
 replace er0 : RD ex0 ey0 ez0 (candP V L c0) := er0
 refine ⟨ex0, ey0, ez0, er0, fun w hG => ?_⟩
 have off0 : Off [] w w := Off.refl _ _
 go_enter Tryd.func62, Tryd.ntmps62
 go_upto_region 0 with fail
 refine wp_region_lit ?_
 refine Ln ?_ (z := p3 0 0 0) (t := 78)
 intro p4_1 W1 n_t4 hO h_
 have fb_t4 := fbn off0 n_t4
 replace off0 := off0.o hO
 have k_t4 := h_
 clear hO h_ n_t4
 refine Lw ?_ (v := .bool false)
 refine wpL_nil ?_
 go_wp2_with fail
 go_loopw [6] (fun ii wr => ∃ (i : Nat), (i ≤ c0) ∧ (ii = .int .i64 (i : Int)) ∧ Off [] w wr ∧ Blk wr p4_1 (p3 0 0 0) 78)
  (fun ii _ => (256 - intOf ii).toNat)
 case atStart => exact ⟨0, Nat.zero_le _, rfl, off0, k_t4⟩
 case round =>
  obtain ⟨i, hi, rfl, off0, k_t4⟩ := hrel
  obtain ⟨W2, eW_⟩ := wname off0
  subst eW_
  go_upto_region 2 with fail
  refine wp_region_lit ?_
  refine Lv ?_
  refine Lw ?_ (v := .bool true) (hv := by exact run_lt (i := i) (n := 256) (decide_eq_true (by omega)) rfl rfl rfl)
  refine wpL_nil ?_
  by_cases hi0 : i = c0
  ·
   have _f := hi0
   subst hi0
   have hdo := (candOk_iff.1 hok).1
   have hne := (candOk_iff.1 hok).2
   go_upto_region 4 with fail
   refine wp_region_lit ?_
   refine Lv ?_
   refine wpL_cat (l := [3, 1]) (m := (lb 32 V)) (by first | omega | (simp only [List.length_append, List.length_cons, List.length_nil, lb_length]; omega)) (by rfl) rfl rfl rfl ?_
   (try simp only [Act.put, mA, mB, mC])
   refine Lv ?_
   refine wpL_cat (l := ([3, 1] ++ (lb 32 V))) (m := L) (by first | omega | (simp only [List.length_append, List.length_cons, List.length_nil, lb_length]; omega)) (by rfl) rfl rfl rfl ?_
   (try simp only [Act.put, mA, mB, mC])
   refine Lv ?_
   refine Lw ?_ (v := .int .u8 ((UInt8.ofNat i).toNat : Int)) (hv := by exact run_u8 rfl rfl)
   refine LnS ?_ (z := #[.int .u8 ((UInt8.ofNat i).toNat : Int)]) (t := 5) (n := 1) (c := 1)
   intro p20_3 W3 n_s20 hO h_
   have ne_s20_t4 : Value.ownBlock (.slice (some ⟨p20_3, 0, none⟩) 1 1) ≠ some p4_1 := obn k_t4 n_s20
   replace k_t4 := k_t4.o hO
   replace off0 := off0.o hO
   have ow_s20 : Own W3 (.slice (some ⟨p20_3, 0, none⟩) 1 1) [UInt8.ofNat i] := own_blk h_ (by rfl) (by show 1 ≤ maxLen; decide)
   clear hO h_ n_s20
   refine wpL_str (l := [UInt8.ofNat i]) (ow_s20.sl) (by rfl) rfl rfl ?_
   (try simp only [Act.put, mA, mB, mC])
   refine wpL_cat (l := (([3, 1] ++ (lb 32 V)) ++ L)) (m := [UInt8.ofNat i]) (by first | omega | (simp only [List.length_append, List.length_cons, List.length_nil, lb_length]; omega)) (by rfl) rfl rfl rfl ?_
   (try simp only [Act.put, mA, mB, mC])
   refine wpL_cat (l := ((([3, 1] ++ (lb 32 V)) ++ L) ++ [UInt8.ofNat i])) (m := [0]) (by first | omega | (simp only [List.length_append, List.length_cons, List.length_nil, lb_length]; omega)) (by rfl) rfl rfl rfl ?_
   (try simp only [Act.put, mA, mB, mC])
   obtain ⟨U1, hU1⟩ := exn (hs (((([3, 1] ++ (lb 32 V)) ++ L) ++ [UInt8.ofNat i]) ++ [0]))
   have HU1 := Lib.hid hU1
   clear hU1
   refine Lr ?_ (rsumN_c HU1.out (by first | omega | (simp only [List.length_append, List.length_cons, List.length_nil, lb_length]; omega)) W3 (GR_ext hG off0.ext))
   intro W4 hO
   replace k_t4 := k_t4.o hO
   replace ow_s20 := Own.off ow_s20 hO f0
   replace off0 := off0.o hO
   clear hO
   refine Lv ?_
   refine wpL_nil ?_
   go_upto_region 5 with fail
   refine wp_region_lit ?_
   refine Lv ?_
   refine Lw ?_ (v := str (lb 32 (lo U1))) (hv := by exact run_slo rfl Tryd.underlying9 rfl rfl)
   have hcb4 : lo U1 = cand V L i := by rw [HU1.out]; exact congrArg (fun l => lo (hs l)) (by simp only [List.append_assoc, List.cons_append, List.nil_append] <;> rfl)
   refine Lr ?_ (rdec_rw hcb4 (dc0 W4))
   intro W5 hO
   replace k_t4 := k_t4.o hO
   replace ow_s20 := Own.off ow_s20 hO f0
   replace off0 := off0.o hO
   clear hO
   refine Lv ?_
   refine Lv ?_
   refine Lw ?_ (v := .int .i64 0)
   refine LnP ?_ (z := p3 0 0 0) (t := 78) (cells := p3 dx0 dy0 1) (hi := by rw [p3_size]; kernel_rfl) (hs := by first | rw [p3_size, p3_size] | rw [p3_size] | kernel_rfl) (h1 := by exact p3_one)
   intro p8_6 W7 n_t8 hO h_
   have nq_t4_t8 := bn k_t4 n_t8
   have ne_s20_t8 := ne_new (Own.lt ow_s20) n_t8
   have fb_t8 := fbn off0 n_t8
   replace k_t4 := k_t4.o hO
   replace ow_s20 := Own.off ow_s20 hO f0
   replace off0 := off0.o hO
   have k_t8 := h_
   clear hO h_ n_t8
   refine Lw ?_ (v := .int .i64 0)
   refine wpL_nil ?_
   go_upto_region 7 with fail
   refine wp_region_lit ?_
   refine L0 ?_ k_t8 (hi := by rw [p3_size]; kernel_rfl)
   refine Lr ?_ (ec0 W7)
   intro W8 hO
   replace k_t4 := k_t4.o hO
   replace k_t8 := k_t8.o hO
   replace ow_s20 := Own.off ow_s20 hO f0
   replace off0 := off0.o hO
   clear hO
   refine Lp ?_ k_t8 (cells := p3 ex0 ey0 ez0) (hi := by rw [p3_size]; kernel_rfl) (hs := by first | rw [p3_size, p3_size] | rw [p3_size] | kernel_rfl) (h1 := by exact p3_one)
   intro W9 hO h_
   replace k_t8 : Blk W9 p8_6 (p3 ex0 ey0 ez0) 78 := h_
   clear h_
   replace k_t4 := k_t4.p hO nq_t4_t8
   replace ow_s20 := Own.off ow_s20 hO (f1 ne_s20_t8)
   replace off0 := off0.p hO fb_t8
   clear hO
   refine wpL_nil ?_
   go_upto_region 8 with fail
   refine Rx 4 ?_
   refine Xl ?_ k_t8 (hi := by rw [p3_size]; kernel_rfl)
   refine Xf ?_ (fun W hW => rZero_c W)
   have cs_ := rSame_c er0 rd_zero
   rw [show decide (candP V L i = p0) = false from decide_eq_false hne] at cs_
   refine Xf ?_ (fun W hW => cs_ W)
   refine Xv ?_
   refine wpX_nil fun W10 hE => ?_
   have hO := off_ext hE
   replace k_t4 := k_t4.o hO
   replace k_t8 := k_t8.o hO
   replace ow_s20 := Own.off ow_s20 hO f0
   replace off0 := off0.o hO
   clear hO hE
   refine LN ?_
   go_upto_region 9 with fail
   refine wp_region_lit ?_
   refine L0 ?_ k_t8 (hi := by rw [p3_size]; kernel_rfl)
   refine Lp ?_ k_t4 (cells := p3 ex0 ey0 ez0) (hi := by rw [p3_size]; kernel_rfl) (hs := by first | rw [p3_size, p3_size] | rw [p3_size] | kernel_rfl) (h1 := by exact p3_one)
   intro W11 hO h_
   replace k_t4 : Blk W11 p4_1 (p3 ex0 ey0 ez0) 78 := h_
   clear h_
   replace k_t8 := k_t8.p hO nq_t4_t8.symm
   replace ow_s20 := Own.off ow_s20 hO (f1 ne_s20_t4)
   replace off0 := off0.p hO fb_t4
   clear hO
   refine Lw ?_ (v := .bool true)
   refine wpL_nil ?_
   go_wp2
   exact bodyPost_ret (res_row2 rfl rfl rfl k_t4 (by kernel_rfl) (by rw [p3_size]; kernel_rfl)) rfl ⟨rfl, off0.ext⟩
  ·
   have _f := hi0
   have hbad := hlow i (by omega)
   go_upto_region 4 with fail
   refine wp_region_lit ?_
   refine Lv ?_
   refine wpL_cat (l := [3, 1]) (m := (lb 32 V)) (by first | omega | (simp only [List.length_append, List.length_cons, List.length_nil, lb_length]; omega)) (by rfl) rfl rfl rfl ?_
   (try simp only [Act.put, mA, mB, mC])
   refine Lv ?_
   refine wpL_cat (l := ([3, 1] ++ (lb 32 V))) (m := L) (by first | omega | (simp only [List.length_append, List.length_cons, List.length_nil, lb_length]; omega)) (by rfl) rfl rfl rfl ?_
   (try simp only [Act.put, mA, mB, mC])
   refine Lv ?_
   refine Lw ?_ (v := .int .u8 ((UInt8.ofNat i).toNat : Int)) (hv := by exact run_u8 rfl rfl)
   refine LnS ?_ (z := #[.int .u8 ((UInt8.ofNat i).toNat : Int)]) (t := 5) (n := 1) (c := 1)
   intro p20_3 W3 n_s20 hO h_
   replace k_t4 := k_t4.o hO
   replace off0 := off0.o hO
   have ow_s20 : Own W3 (.slice (some ⟨p20_3, 0, none⟩) 1 1) [UInt8.ofNat i] := own_blk h_ (by rfl) (by show 1 ≤ maxLen; decide)
   clear hO h_ n_s20
   refine wpL_str (l := [UInt8.ofNat i]) (ow_s20.sl) (by rfl) rfl rfl ?_
   (try simp only [Act.put, mA, mB, mC])
   refine wpL_cat (l := (([3, 1] ++ (lb 32 V)) ++ L)) (m := [UInt8.ofNat i]) (by first | omega | (simp only [List.length_append, List.length_cons, List.length_nil, lb_length]; omega)) (by rfl) rfl rfl rfl ?_
   (try simp only [Act.put, mA, mB, mC])
   refine wpL_cat (l := ((([3, 1] ++ (lb 32 V)) ++ L) ++ [UInt8.ofNat i])) (m := [0]) (by first | omega | (simp only [List.length_append, List.length_cons, List.length_nil, lb_length]; omega)) (by rfl) rfl rfl rfl ?_
   (try simp only [Act.put, mA, mB, mC])
   obtain ⟨U2, hU2⟩ := exn (hs (((([3, 1] ++ (lb 32 V)) ++ L) ++ [UInt8.ofNat i]) ++ [0]))
   have HU2 := Lib.hid hU2
   clear hU2
   refine Lr ?_ (rsumN_c HU2.out (by first | omega | (simp only [List.length_append, List.length_cons, List.length_nil, lb_length]; omega)) W3 (GR_ext hG off0.ext))
   intro W4 hO
   replace k_t4 := k_t4.o hO
   replace off0 := off0.o hO
   clear hO
   refine Lv ?_
   refine wpL_nil ?_
   by_cases hdo : dOk (cand V L i) = true
   ·
    have _f := hdo
    go_upto_region 5 with fail
    refine wp_region_lit ?_
    refine Lv ?_
    refine Lw ?_ (v := str (lb 32 (lo U2))) (hv := by exact run_slo rfl Tryd.underlying9 rfl rfl)
    have hcb4 : lo U2 = cand V L i := by rw [HU2.out]; exact congrArg (fun l => lo (hs l)) (by simp only [List.append_assoc, List.cons_append, List.nil_append] <;> rfl)
    obtain ⟨dx, dr, dc⟩ := rDec_1 (cand_lt V L i) hdo
    obtain ⟨dy, hdy⟩ := exn (cand V L i % 2 ^ 255)
    rw [← hdy] at dr dc
    clear hdy
    refine Lr ?_ (rdec_rw hcb4 (dc W4))
    intro W5 hO
    replace k_t4 := k_t4.o hO
    replace off0 := off0.o hO
    clear hO
    refine Lv ?_
    refine Lv ?_
    refine Lw ?_ (v := .int .i64 0)
    refine LnP ?_ (z := p3 0 0 0) (t := 78) (cells := p3 dx dy 1) (hi := by rw [p3_size]; kernel_rfl) (hs := by first | rw [p3_size, p3_size] | rw [p3_size] | kernel_rfl) (h1 := by exact p3_one)
    intro p8_6 W7 n_t8 hO h_
    have nq_t4_t8 := bn k_t4 n_t8
    have fb_t8 := fbn off0 n_t8
    replace k_t4 := k_t4.o hO
    replace off0 := off0.o hO
    have k_t8 := h_
    clear hO h_ n_t8
    refine Lw ?_ (v := .int .i64 0)
    refine wpL_nil ?_
    go_upto_region 7 with fail
    refine wp_region_lit ?_
    refine L0 ?_ k_t8 (hi := by rw [p3_size]; kernel_rfl)
    obtain ⟨ex, ey, ez, er, ec⟩ := rEight_c dr
    refine Lr ?_ (ec W7)
    intro W8 hO
    replace k_t4 := k_t4.o hO
    replace k_t8 := k_t8.o hO
    replace off0 := off0.o hO
    clear hO
    refine Lp ?_ k_t8 (cells := p3 ex ey ez) (hi := by rw [p3_size]; kernel_rfl) (hs := by first | rw [p3_size, p3_size] | rw [p3_size] | kernel_rfl) (h1 := by exact p3_one)
    intro W9 hO h_
    replace k_t8 : Blk W9 p8_6 (p3 ex ey ez) 78 := h_
    clear h_
    replace k_t4 := k_t4.p hO nq_t4_t8
    replace off0 := off0.p hO fb_t8
    clear hO
    refine wpL_nil ?_
    go_upto_region 8 with fail
    refine Rx 4 ?_
    refine Xl ?_ k_t8 (hi := by rw [p3_size]; kernel_rfl)
    refine Xf ?_ (fun W hW => rZero_c W)
    have cs_ := rSame_c er rd_zero
    rw [show decide (pm (dPt (cand V L i)) 8 = p0) = true from decide_eq_true (cand_bad hbad hdo)] at cs_
    refine Xf ?_ (fun W hW => cs_ W)
    refine Xv ?_
    refine wpX_nil fun W10 hE => ?_
    have hO := off_ext hE
    replace k_t4 := k_t4.o hO
    replace off0 := off0.o hO
    clear hO hE
    refine LN ?_
    go_upto_region 3 with fail
    refine wp_region_lit ?_
    refine Lv ?_
    refine Lw ?_ (v := .int .i64 (((i + 1 : Nat) : Int))) (hv := by go_simp; (try simp only [IntKind.wrap_i64]); (try omega))
    refine Lv ?_
    refine wpL_nil ?_
    go_wp2
    go_roundw
    case rel => exact ⟨i + 1, by omega, by go_num, off0, k_t4⟩
    case measure => simp [intOf]; omega
   ·
    have _f := hdo
    replace hdo : dOk (cand V L i) = false := by simpa using hdo
    go_upto_region 5 with fail
    refine wp_region_lit ?_
    refine Lv ?_
    refine Lw ?_ (v := str (lb 32 (lo U2))) (hv := by exact run_slo rfl Tryd.underlying9 rfl rfl)
    have hcb4 : lo U2 = cand V L i := by rw [HU2.out]; exact congrArg (fun l => lo (hs l)) (by simp only [List.append_assoc, List.cons_append, List.nil_append] <;> rfl)
    refine Lr ?_ (rdec_rw hcb4 (rDec_0 (cand_lt V L i) hdo W4))
    intro W5 hO
    replace k_t4 := k_t4.o hO
    replace off0 := off0.o hO
    clear hO
    refine Lv ?_
    refine Lv ?_
    refine Lw ?_ (v := .int .i64 15)
    refine LnP ?_ (z := p3 0 0 0) (t := 78) (cells := p3 0 0 0) (hi := by rw [p3_size]; kernel_rfl) (hs := by first | rw [p3_size, p3_size] | rw [p3_size] | kernel_rfl) (h1 := by exact p3_one)
    intro p8_6 W7 n_t8 hO h_
    replace k_t4 := k_t4.o hO
    replace off0 := off0.o hO
    clear hO h_ n_t8
    refine Lw ?_ (v := .int .i64 15)
    refine wpL_nil ?_
    go_upto_region 3 with fail
    refine wp_region_lit ?_
    refine Lv ?_
    refine Lw ?_ (v := .int .i64 (((i + 1 : Nat) : Int))) (hv := by go_simp; (try simp only [IntKind.wrap_i64]); (try omega))
    refine Lv ?_
    refine wpL_nil ?_
    go_wp2
    go_roundw
    case rel => exact ⟨i + 1, by omega, by go_num, off0, k_t4⟩
    case measure => simp [intOf]; omega
theorem rpoint_none {V : Nat} {L : List UInt8} (hL : L.length ≤ 1099511627776) (hlow : ∀ i, i < 256 → candOk V L i = false) :
  ∀ w, GR w → Calls Tryd.prog 62 #[str (lb 32 V), str L] w fun e w' => Ret (.tuple #[.agg (p3 0 0 0), .bool false]) w w' e := by
 intro w hG
 have off0 : Off [] w w := Off.refl _ _
 go_enter Tryd.func62, Tryd.ntmps62
 go_upto_region 0 with fail
 refine wp_region_lit ?_
 refine Ln ?_ (z := p3 0 0 0) (t := 78)
 intro p4_1 W1 n_t4 hO h_
 have fb_t4 := fbn off0 n_t4
 replace off0 := off0.o hO
 have k_t4 := h_
 clear hO h_ n_t4
 refine Lw ?_ (v := .bool false)
 refine wpL_nil ?_
 go_wp2_with fail
 go_loopw [6] (fun ii wr => ∃ (i : Nat), (i ≤ 256) ∧ (ii = .int .i64 (i : Int)) ∧ Off [] w wr ∧ Blk wr p4_1 (p3 0 0 0) 78)
  (fun ii _ => (256 - intOf ii).toNat)
 case atStart => exact ⟨0, Nat.zero_le _, rfl, off0, k_t4⟩
 case round =>
  obtain ⟨i, hi, rfl, off0, k_t4⟩ := hrel
  obtain ⟨W2, eW_⟩ := wname off0
  subst eW_
  by_cases h256 : i < 256
  ·
   have _f := h256
   have hbad := hlow i h256
   go_upto_region 2 with fail
   refine wp_region_lit ?_
   refine Lv ?_
   refine Lw ?_ (v := .bool true) (hv := by exact run_lt (i := i) (n := 256) (decide_eq_true h256) rfl rfl rfl)
   refine wpL_nil ?_
   go_upto_region 4 with fail
   refine wp_region_lit ?_
   refine Lv ?_
   refine wpL_cat (l := [3, 1]) (m := (lb 32 V)) (by first | omega | (simp only [List.length_append, List.length_cons, List.length_nil, lb_length]; omega)) (by rfl) rfl rfl rfl ?_
   (try simp only [Act.put, mA, mB, mC])
   refine Lv ?_
   refine wpL_cat (l := ([3, 1] ++ (lb 32 V))) (m := L) (by first | omega | (simp only [List.length_append, List.length_cons, List.length_nil, lb_length]; omega)) (by rfl) rfl rfl rfl ?_
   (try simp only [Act.put, mA, mB, mC])
   refine Lv ?_
   refine Lw ?_ (v := .int .u8 ((UInt8.ofNat i).toNat : Int)) (hv := by exact run_u8 rfl rfl)
   refine LnS ?_ (z := #[.int .u8 ((UInt8.ofNat i).toNat : Int)]) (t := 5) (n := 1) (c := 1)
   intro p20_3 W3 n_s20 hO h_
   replace k_t4 := k_t4.o hO
   replace off0 := off0.o hO
   have ow_s20 : Own W3 (.slice (some ⟨p20_3, 0, none⟩) 1 1) [UInt8.ofNat i] := own_blk h_ (by rfl) (by show 1 ≤ maxLen; decide)
   clear hO h_ n_s20
   refine wpL_str (l := [UInt8.ofNat i]) (ow_s20.sl) (by rfl) rfl rfl ?_
   (try simp only [Act.put, mA, mB, mC])
   refine wpL_cat (l := (([3, 1] ++ (lb 32 V)) ++ L)) (m := [UInt8.ofNat i]) (by first | omega | (simp only [List.length_append, List.length_cons, List.length_nil, lb_length]; omega)) (by rfl) rfl rfl rfl ?_
   (try simp only [Act.put, mA, mB, mC])
   refine wpL_cat (l := ((([3, 1] ++ (lb 32 V)) ++ L) ++ [UInt8.ofNat i])) (m := [0]) (by first | omega | (simp only [List.length_append, List.length_cons, List.length_nil, lb_length]; omega)) (by rfl) rfl rfl rfl ?_
   (try simp only [Act.put, mA, mB, mC])
   obtain ⟨U1, hU1⟩ := exn (hs (((([3, 1] ++ (lb 32 V)) ++ L) ++ [UInt8.ofNat i]) ++ [0]))
   have HU1 := Lib.hid hU1
   clear hU1
   refine Lr ?_ (rsumN_c HU1.out (by first | omega | (simp only [List.length_append, List.length_cons, List.length_nil, lb_length]; omega)) W3 (GR_ext hG off0.ext))
   intro W4 hO
   replace k_t4 := k_t4.o hO
   replace off0 := off0.o hO
   clear hO
   refine Lv ?_
   refine wpL_nil ?_
   by_cases hdo : dOk (cand V L i) = true
   ·
    have _f := hdo
    go_upto_region 5 with fail
    refine wp_region_lit ?_
    refine Lv ?_
    refine Lw ?_ (v := str (lb 32 (lo U1))) (hv := by exact run_slo rfl Tryd.underlying9 rfl rfl)
    have hcb4 : lo U1 = cand V L i := by rw [HU1.out]; exact congrArg (fun l => lo (hs l)) (by simp only [List.append_assoc, List.cons_append, List.nil_append] <;> rfl)
    obtain ⟨dx, dr, dc⟩ := rDec_1 (cand_lt V L i) hdo
    obtain ⟨dy, hdy⟩ := exn (cand V L i % 2 ^ 255)
    rw [← hdy] at dr dc
    clear hdy
    refine Lr ?_ (rdec_rw hcb4 (dc W4))
    intro W5 hO
    replace k_t4 := k_t4.o hO
    replace off0 := off0.o hO
    clear hO
    refine Lv ?_
    refine Lv ?_
    refine Lw ?_ (v := .int .i64 0)
    refine LnP ?_ (z := p3 0 0 0) (t := 78) (cells := p3 dx dy 1) (hi := by rw [p3_size]; kernel_rfl) (hs := by first | rw [p3_size, p3_size] | rw [p3_size] | kernel_rfl) (h1 := by exact p3_one)
    intro p8_6 W7 n_t8 hO h_
    have nq_t4_t8 := bn k_t4 n_t8
    have fb_t8 := fbn off0 n_t8
    replace k_t4 := k_t4.o hO
    replace off0 := off0.o hO
    have k_t8 := h_
    clear hO h_ n_t8
    refine Lw ?_ (v := .int .i64 0)
    refine wpL_nil ?_
    go_upto_region 7 with fail
    refine wp_region_lit ?_
    refine L0 ?_ k_t8 (hi := by rw [p3_size]; kernel_rfl)
    obtain ⟨ex, ey, ez, er, ec⟩ := rEight_c dr
    refine Lr ?_ (ec W7)
    intro W8 hO
    replace k_t4 := k_t4.o hO
    replace k_t8 := k_t8.o hO
    replace off0 := off0.o hO
    clear hO
    refine Lp ?_ k_t8 (cells := p3 ex ey ez) (hi := by rw [p3_size]; kernel_rfl) (hs := by first | rw [p3_size, p3_size] | rw [p3_size] | kernel_rfl) (h1 := by exact p3_one)
    intro W9 hO h_
    replace k_t8 : Blk W9 p8_6 (p3 ex ey ez) 78 := h_
    clear h_
    replace k_t4 := k_t4.p hO nq_t4_t8
    replace off0 := off0.p hO fb_t8
    clear hO
    refine wpL_nil ?_
    go_upto_region 8 with fail
    refine Rx 4 ?_
    refine Xl ?_ k_t8 (hi := by rw [p3_size]; kernel_rfl)
    refine Xf ?_ (fun W hW => rZero_c W)
    have cs_ := rSame_c er rd_zero
    rw [show decide (pm (dPt (cand V L i)) 8 = p0) = true from decide_eq_true (cand_bad hbad hdo)] at cs_
    refine Xf ?_ (fun W hW => cs_ W)
    refine Xv ?_
    refine wpX_nil fun W10 hE => ?_
    have hO := off_ext hE
    replace k_t4 := k_t4.o hO
    replace off0 := off0.o hO
    clear hO hE
    refine LN ?_
    go_upto_region 3 with fail
    refine wp_region_lit ?_
    refine Lv ?_
    refine Lw ?_ (v := .int .i64 (((i + 1 : Nat) : Int))) (hv := by go_simp; (try simp only [IntKind.wrap_i64]); (try omega))
    refine Lv ?_
    refine wpL_nil ?_
    go_wp2
    go_roundw
    case rel => exact ⟨i + 1, by omega, by go_num, off0, k_t4⟩
    case measure => simp [intOf]; omega
   ·
    have _f := hdo
    replace hdo : dOk (cand V L i) = false := by simpa using hdo
    go_upto_region 5 with fail
    refine wp_region_lit ?_
    refine Lv ?_
    refine Lw ?_ (v := str (lb 32 (lo U1))) (hv := by exact run_slo rfl Tryd.underlying9 rfl rfl)
    have hcb4 : lo U1 = cand V L i := by rw [HU1.out]; exact congrArg (fun l => lo (hs l)) (by simp only [List.append_assoc, List.cons_append, List.nil_append] <;> rfl)
    refine Lr ?_ (rdec_rw hcb4 (rDec_0 (cand_lt V L i) hdo W4))
    intro W5 hO
    replace k_t4 := k_t4.o hO
    replace off0 := off0.o hO
    clear hO
    refine Lv ?_
    refine Lv ?_
    refine Lw ?_ (v := .int .i64 15)
    refine LnP ?_ (z := p3 0 0 0) (t := 78) (cells := p3 0 0 0) (hi := by rw [p3_size]; kernel_rfl) (hs := by first | rw [p3_size, p3_size] | rw [p3_size] | kernel_rfl) (h1 := by exact p3_one)
    intro p8_6 W7 n_t8 hO h_
    replace k_t4 := k_t4.o hO
    replace off0 := off0.o hO
    clear hO h_ n_t8
    refine Lw ?_ (v := .int .i64 15)
    refine wpL_nil ?_
    go_upto_region 3 with fail
    refine wp_region_lit ?_
    refine Lv ?_
    refine Lw ?_ (v := .int .i64 (((i + 1 : Nat) : Int))) (hv := by go_simp; (try simp only [IntKind.wrap_i64]); (try omega))
    refine Lv ?_
    refine wpL_nil ?_
    go_wp2
    go_roundw
    case rel => exact ⟨i + 1, by omega, by go_num, off0, k_t4⟩
    case measure => simp [intOf]; omega
  ·
   have _f := h256
   go_upto_region 2 with fail
   refine wp_region_lit ?_
   refine Lv ?_
   refine Lw ?_ (v := .bool false) (hv := by exact run_lt (i := i) (n := 256) (decide_eq_false h256) rfl rfl rfl)
   refine wpL_nil ?_
   go_upto_region 10 with fail
   refine wp_region_lit ?_
   refine Lw ?_ (v := .agg (p3 0 0 0)) (hv := by kernel_rfl)
   refine Lp ?_ k_t4 (cells := p3 0 0 0) (hi := by rw [p3_size]; kernel_rfl) (hs := by first | rw [p3_size, p3_size] | rw [p3_size] | kernel_rfl) (h1 := by exact p3_one)
   intro W3 hO h_
   replace k_t4 : Blk W3 p4_1 (p3 0 0 0) 78 := h_
   clear h_
   replace off0 := off0.p hO fb_t4
   clear hO
   refine Lw ?_ (v := .bool false)
   refine wpL_nil ?_
   go_wp2
   exact bodyPost_ret (res_row2 rfl rfl rfl k_t4 (by kernel_rfl) (by rw [p3_size]; kernel_rfl)) rfl ⟨rfl, off0.ext⟩
theorem rch_c {V C : Nat} {X1 Y1 Z1 : Nat} {a1 : Pr} (h1 : RD X1 Y1 Z1 a1) {X2 Y2 Z2 : Nat} {a2 : Pr} (h2 : RD X2 Y2 Z2 a2) {X3 Y3 Z3 : Nat} {a3 : Pr} (h3 : RD X3 Y3 Z3 a3) {X4 Y4 Z4 : Nat} {a4 : Pr} (h4 : RD X4 Y4 Z4 a4) (hC : C = ch V a1 a2 a3 a4) :
  ∀ w, GR w → Calls Tryd.prog 63 #[str (lb 32 V), .agg (p3 X1 Y1 Z1), .agg (p3 X2 Y2 Z2), .agg (p3 X3 Y3 Z3), .agg (p3 X4 Y4 Z4)] w fun e w' => Ret (str (lb 16 C)) w w' e := by
 obtain ⟨U1, hU1⟩ := exn (enc a1)
 have bU1 : U1 < 2 ^ 256 := by rw [hU1]; exact enc_lt _
 have HU1 := Lib.hid hU1
 clear hU1
 obtain ⟨U2, hU2⟩ := exn (enc a2)
 have bU2 : U2 < 2 ^ 256 := by rw [hU2]; exact enc_lt _
 have HU2 := Lib.hid hU2
 clear hU2
 obtain ⟨U3, hU3⟩ := exn (enc a3)
 have bU3 : U3 < 2 ^ 256 := by rw [hU3]; exact enc_lt _
 have HU3 := Lib.hid hU3
 clear hU3
 obtain ⟨U4, hU4⟩ := exn (enc a4)
 have bU4 : U4 < 2 ^ 256 := by rw [hU4]; exact enc_lt _
 have HU4 := Lib.hid hU4
 clear hU4
 obtain ⟨U5, hU5⟩ := exn (hs (((((([3, 2] ++ (lb 32 V)) ++ (lb 32 U1)) ++ (lb 32 U2)) ++ (lb 32 U3)) ++ (lb 32 U4)) ++ [0]))
 have HU5 := Lib.hid hU5
 clear hU5
 obtain ⟨U6, hU6⟩ := exn (U5 % P128)
 have qU6 : U6 < P128 := by rw [hU6]; exact Nat.mod_lt _ (by decide)
 have HU6 := Lib.hid hU6
 clear hU6
 intro w hG
 have off0 : Off [] w w := Off.refl _ _
 go_enter Tryd.func63, Tryd.ntmps63
 go_upto_region 0 with fail
 refine wp_region_lit ?_
 refine Ln ?_ (z := p3 X1 Y1 Z1) (t := 78)
 intro p6_1 W1 n_t6 hO h_
 replace off0 := off0.o hO
 have k_t6 := h_
 clear hO h_ n_t6
 refine Ln ?_ (z := p3 X2 Y2 Z2) (t := 78)
 intro p7_2 W2 n_t7 hO h_
 replace k_t6 := k_t6.o hO
 replace off0 := off0.o hO
 have k_t7 := h_
 clear hO h_ n_t7
 refine Ln ?_ (z := p3 X3 Y3 Z3) (t := 78)
 intro p8_3 W3 n_t8 hO h_
 replace k_t6 := k_t6.o hO
 replace k_t7 := k_t7.o hO
 replace off0 := off0.o hO
 have k_t8 := h_
 clear hO h_ n_t8
 refine Ln ?_ (z := p3 X4 Y4 Z4) (t := 78)
 intro p9_4 W4 n_t9 hO h_
 replace k_t6 := k_t6.o hO
 replace k_t7 := k_t7.o hO
 replace k_t8 := k_t8.o hO
 replace off0 := off0.o hO
 have k_t9 := h_
 clear hO h_ n_t9
 refine Lv ?_
 refine wpL_nil ?_
 go_upto_region 1 with fail
 refine Rx 18 ?_
 refine Xv ?_
 refine wpX_cat (l := [3, 2]) (m := (lb 32 V)) (by first | omega | (simp only [List.length_append, List.length_cons, List.length_nil, lb_length]; omega)) (by rfl) rfl rfl rfl ?_
 (try simp only [Act.put, mA, mB, mC])
 refine Xl ?_ k_t6 (hi := by rw [p3_size]; kernel_rfl)
 refine Xf ?_ (fun W hW => rencN_c h1 HU1.out W)
 refine wpX_cat (l := ([3, 2] ++ (lb 32 V))) (m := (lb 32 U1)) (by first | omega | (simp only [List.length_append, List.length_cons, List.length_nil, lb_length]; omega)) (by rfl) rfl rfl rfl ?_
 (try simp only [Act.put, mA, mB, mC])
 refine Xl ?_ k_t7 (hi := by rw [p3_size]; kernel_rfl)
 refine Xf ?_ (fun W hW => rencN_c h2 HU2.out W)
 refine wpX_cat (l := (([3, 2] ++ (lb 32 V)) ++ (lb 32 U1))) (m := (lb 32 U2)) (by first | omega | (simp only [List.length_append, List.length_cons, List.length_nil, lb_length]; omega)) (by rfl) rfl rfl rfl ?_
 (try simp only [Act.put, mA, mB, mC])
 refine Xl ?_ k_t8 (hi := by rw [p3_size]; kernel_rfl)
 refine Xf ?_ (fun W hW => rencN_c h3 HU3.out W)
 refine wpX_cat (l := ((([3, 2] ++ (lb 32 V)) ++ (lb 32 U1)) ++ (lb 32 U2))) (m := (lb 32 U3)) (by first | omega | (simp only [List.length_append, List.length_cons, List.length_nil, lb_length]; omega)) (by rfl) rfl rfl rfl ?_
 (try simp only [Act.put, mA, mB, mC])
 refine Xl ?_ k_t9 (hi := by rw [p3_size]; kernel_rfl)
 refine Xf ?_ (fun W hW => rencN_c h4 HU4.out W)
 refine wpX_cat (l := (((([3, 2] ++ (lb 32 V)) ++ (lb 32 U1)) ++ (lb 32 U2)) ++ (lb 32 U3))) (m := (lb 32 U4)) (by first | omega | (simp only [List.length_append, List.length_cons, List.length_nil, lb_length]; omega)) (by rfl) rfl rfl rfl ?_
 (try simp only [Act.put, mA, mB, mC])
 refine wpX_cat (l := ((((([3, 2] ++ (lb 32 V)) ++ (lb 32 U1)) ++ (lb 32 U2)) ++ (lb 32 U3)) ++ (lb 32 U4))) (m := [0]) (by first | omega | (simp only [List.length_append, List.length_cons, List.length_nil, lb_length]; omega)) (by rfl) rfl rfl rfl ?_
 (try simp only [Act.put, mA, mB, mC])
 refine Xf ?_ (fun W hW => rsumN_c HU5.out (by first | omega | (simp only [List.length_append, List.length_cons, List.length_nil, lb_length]; omega)) W (GR_ext (GR_ext hG off0.ext) hW))
 refine Xw ?_ (v := str (lb 16 U6)) (hv := fun _ _ => by exact run_s16 HU6.out rfl Tryd.underlying9 rfl rfl)
 refine Xv ?_
 refine wpX_nil fun W5 hE => ?_
 have hO := off_ext hE
 replace off0 := off0.o hO
 clear hO hE
 refine LN ?_
 go_wp2
 rw [show C = U6 by rw [hC, HU6.out, HU5.out, HU4.out, HU3.out, HU2.out, HU1.out]; exact congrArg (fun l => hs l % P128) (by simp only [List.append_assoc, List.cons_append, List.nil_append] <;> rfl)]
 exact bodyPost_ret (v := str (lb 16 U6)) (by simp only [results, Tryd.results63]; go_simp) rfl ⟨rfl, off0.ext⟩
end Go.Proofs.YtefpoollmbmkfaaDoor

namespace Go.Proofs.YtefpoollmbmkfaaDoor
set_option maxHeartbeats 2000000
set_option maxRecDepth 100000
open Go.RowKit
attribute [local irreducible] wpList
open Sc (LL clampF)
variable {kn : Kn}
attribute [local irreducible] hs
theorem rpoint_s {V c0 : Nat} {L : List UInt8} (hL : L.length ≤ 1099511627776) (hv : vpt V L = some c0) {h : Pr} (hh : h = candP V L c0) :
    ∃ X Y Z, RD X Y Z h ∧ ∀ w, GR w → Calls Tryd.prog 62 #[str (lb 32 V), str L] w fun e w' => Ret (.tuple #[.agg (p3 X Y Z), .bool true]) w w' e := by
  obtain ⟨h1, h2, h3⟩ := vpt_some hv
  subst hh
  exact rpoint_some hL c0 h1 h2 h3
theorem rpoint_n {V : Nat} {L : List UInt8} (hL : L.length ≤ 1099511627776) (hv : vpt V L = none) (w : World) (hG : GR w) :
    Calls Tryd.prog 62 #[str (lb 32 V), str L] w fun e w' => Ret (.tuple #[.agg (p3 0 0 0), .bool false]) w w' e := rpoint_none hL (vpt_none hv) w hG
theorem p16 {C : Nat} (h : C < P128) : C < 2 ^ (8 * 16) := h

theorem ch_lt (V : Nat) (a b c d : Pr) : ch V a b c d < P128 := Nat.mod_lt _ (by decide)
theorem rprove_1 (S c0 : Nat) (L : List UInt8) (hL : L.length ≤ 1099511627776) (hv : vpt (kP S) L = some c0) {h : Pr} (hh : h = candP (kP S) L c0) :
  ∀ w, GR w → Calls Tryd.prog 24 #[str (lb 32 S), str L] w fun e w' => Ret (.tuple #[str (lb 80 (vPr S h)), .int .i64 0]) w w' e := by
 obtain ⟨U1, hU1⟩ := exn (kN S)
 have bU1 : U1 < 2 ^ 256 := by rw [hU1]; exact kN_lt _
 have HU1 := Lib.hid hU1
 clear hU1
 obtain ⟨U2, hU2⟩ := exn (kD S)
 have bU2 : U2 < 2 ^ 256 := by rw [hU2]; exact kD_lt _
 have HU2 := Lib.hid hU2
 clear hU2
 obtain ⟨U3, hU3⟩ := exn (kP S)
 have bU3 : U3 < 2 ^ 256 := by rw [hU3]; exact kP_lt _
 have HU3 := Lib.hid hU3
 clear hU3
 have hv_ : vpt U3 L = some c0 := by rw [HU3.out]; exact hv
 have hh_ : h = candP U3 L c0 := by rw [HU3.out]; exact hh
 obtain ⟨hx, hy, hz, hr, hcl⟩ := rpoint_s hL hv_ hh_
 obtain ⟨x1, y2, z3, r4, c5⟩ := rTimes_c hr (lb 32 U1) (by rw [lb_length]; decide)
 rw [le_lb 32 U1 bU1] at r4
 obtain ⟨U4, hU4⟩ := exn (enc h)
 have bU4 : U4 < 2 ^ 256 := by rw [hU4]; exact enc_lt _
 have HU4 := Lib.hid hU4
 clear hU4
 obtain ⟨U5, hU5⟩ := exn (hs ((lb 32 U2) ++ (lb 32 U4)))
 have HU5 := Lib.hid hU5
 clear hU5
 obtain ⟨U6, hU6⟩ := exn (U5 % LL)
 have lU6 : U6 < LL := by rw [hU6]; exact mLL _
 have bU6 : U6 < 2 ^ 256 := Nat.lt_trans lU6 LL_256
 have HU6 := Lib.hid hU6
 clear hU6
 obtain ⟨x6, y7, z8, r9, c10⟩ := rTimes_c rd_base (lb 32 U6) (by rw [lb_length]; decide)
 rw [le_lb 32 U6 bU6] at r9
 obtain ⟨x11, y12, z13, r14, c15⟩ := rTimes_c hr (lb 32 U6) (by rw [lb_length]; decide)
 rw [le_lb 32 U6 bU6] at r14
 obtain ⟨U7, hU7⟩ := exn (ch U3 h (pm h U1) (pm BP U6) (pm h U6))
 have qU7 : U7 < P128 := by rw [hU7]; exact ch_lt _ _ _ _ _
 have HU7 := Lib.hid hU7
 clear hU7
 obtain ⟨U8, hU8⟩ := exn (U7 % LL)
 have lU8 : U8 < LL := by rw [hU8]; exact mLL _
 have bU8 : U8 < 2 ^ 256 := Nat.lt_trans lU8 LL_256
 have HU8 := Lib.hid hU8
 clear hU8
 obtain ⟨U9, hU9⟩ := exn (U1 % LL)
 have lU9 : U9 < LL := by rw [hU9]; exact mLL _
 have bU9 : U9 < 2 ^ 256 := Nat.lt_trans lU9 LL_256
 have HU9 := Lib.hid hU9
 clear hU9
 obtain ⟨U10, hU10⟩ := exn (U8 * U9 % LL)
 have lU10 : U10 < LL := by rw [hU10]; exact mLL _
 have bU10 : U10 < 2 ^ 256 := Nat.lt_trans lU10 LL_256
 have HU10 := Lib.hid hU10
 clear hU10
 obtain ⟨U11, hU11⟩ := exn ((U6 + U10) % LL)
 have lU11 : U11 < LL := by rw [hU11]; exact mLL _
 have bU11 : U11 < 2 ^ 256 := Nat.lt_trans lU11 LL_256
 have HU11 := Lib.hid hU11
 clear hU11
 obtain ⟨U12, hU12⟩ := exn (enc (pm h U1))
 have bU12 : U12 < 2 ^ 256 := by rw [hU12]; exact enc_lt _
 have HU12 := Lib.hid hU12
 clear hU12
 intro w hG
 have off0 : Off [] w w := Off.refl _ _
 go_enter Tryd.func24, Tryd.ntmps24
 go_upto_region 1 with fail
 refine wp_region_lit ?_
 refine Lv ?_
 refine Lr ?_ (rspreadN_c HU1.out HU2.out HU3.out w (GR_ext hG off0.ext))
 intro W1 hO
 replace off0 := off0.o hO
 clear hO
 refine LnP ?_ (z := #[str [], str [], str []]) (t := 28) (cells := #[str (lb 32 U1), str (lb 32 U2), str (lb 32 U3)])
 intro p6_2 W3 n_t6 hO h_
 replace off0 := off0.o hO
 have k_t6 := h_
 clear hO h_ n_t6
 refine wpL_nil ?_
 go_upto_region 2 with fail
 refine wp_region_lit ?_
 refine Lv ?_
 refine Lg ?_ k_t6 (v := str (lb 32 U3))
 refine Lv ?_
 refine Lr ?_ (hcl W3 (GR_ext hG off0.ext))
 intro W4 hO
 replace k_t6 := k_t6.o hO
 replace off0 := off0.o hO
 clear hO
 refine Lv ?_
 refine Lv ?_
 refine Lw ?_ (v := .bool true)
 refine LnP ?_ (z := p3 0 0 0) (t := 78) (cells := p3 hx hy hz) (hi := by rw [p3_size]; kernel_rfl) (hs := by first | rw [p3_size, p3_size] | rw [p3_size] | kernel_rfl) (h1 := by exact p3_one)
 intro p7_5 W6 n_t7 hO h_
 replace k_t6 := k_t6.o hO
 replace off0 := off0.o hO
 have k_t7 := h_
 clear hO h_ n_t7
 refine Lw ?_ (v := .bool true)
 refine wpL_nil ?_
 go_upto_region 5 with fail
 refine wp_region_lit ?_
 refine L0 ?_ k_t7 (hi := by rw [p3_size]; kernel_rfl)
 refine Lv ?_
 refine Lg ?_ k_t6 (v := str (lb 32 U1))
 refine Lr ?_ (c5 W6)
 intro W7 hO
 replace k_t6 := k_t6.o hO
 replace k_t7 := k_t7.o hO
 replace off0 := off0.o hO
 clear hO
 refine LnP ?_ (z := p3 0 0 0) (t := 78) (cells := p3 x1 y2 z3) (hi := by rw [p3_size]; kernel_rfl) (hs := by first | rw [p3_size, p3_size] | rw [p3_size] | kernel_rfl) (h1 := by exact p3_one)
 intro p9_8 W9 n_t9 hO h_
 replace k_t6 := k_t6.o hO
 replace k_t7 := k_t7.o hO
 replace off0 := off0.o hO
 have k_t9 := h_
 clear hO h_ n_t9
 refine wpL_nil ?_
 go_upto_region 6 with fail
 refine Rx1 7 10 (z := arrK .i64 16 (l16 0)) (t := 83) ?_
 refine Xv ?_
 refine Xc ?_ (v := str (lb 32 U2)) (blk_rd k_t6)
 refine Xl ?_ k_t7 (hi := by rw [p3_size]; kernel_rfl)
 refine Xf ?_ (fun W hW => rencN_c hr HU4.out W)
 refine wpX_cat (l := (lb 32 U2)) (m := (lb 32 U4)) (by first | omega | (simp only [List.length_append, List.length_cons, List.length_nil, lb_length]; omega)) (by rfl) rfl rfl rfl ?_
 (try simp only [Act.put, mA, mB, mC])
 refine Xf ?_ (fun W hW => rsumN_c HU5.out (by first | omega | (simp only [List.length_append, List.length_cons, List.length_nil, lb_length]; omega)) W (GR_ext (GR_ext hG off0.ext) hW))
 refine Xf ?_ (fun W hW => rofN_c (n := 64) HU6.out (by rw [HU5.out]; exact hs_lt' _) (by decide) W)
 refine XN ?_
 intro p10_10 W10 n_t10 hE h_t10
 have hO := off_ext hE
 have nq_t6_t10 := bn k_t6 n_t10
 have nq_t7_t10 := bn k_t7 n_t10
 have nq_t9_t10 := bn k_t9 n_t10
 have fb_t10 := fbn off0 n_t10
 replace k_t6 := k_t6.o hO
 replace k_t7 := k_t7.o hO
 replace k_t9 := k_t9.o hO
 replace off0 := off0.o hO
 clear hO hE n_t10
 have k_t10 : Blk W10 p10_10 (arrK .i64 16 (l16 0)) 83 := h_t10
 clear h_t10
 refine LpA ?_ k_t10 (k := .i64) (n := 16) (f := l16 U6)
 intro W11 hO h_
 replace k_t10 : Blk W11 p10_10 (arrK .i64 16 (l16 U6)) 83 := h_
 clear h_
 replace k_t6 := k_t6.p hO nq_t6_t10
 replace k_t7 := k_t7.p hO nq_t7_t10
 replace k_t9 := k_t9.p hO nq_t9_t10
 replace off0 := off0.p hO fb_t10
 clear hO
 refine LN ?_
 go_upto_region 7 with fail
 refine Rx 14 ?_
 refine Xv ?_
 refine Xc ?_ (v := str (lb 32 U3)) (blk_rd k_t6)
 refine Xl ?_ k_t7 (hi := by rw [p3_size]; kernel_rfl)
 refine Xl ?_ k_t9 (hi := by rw [p3_size]; kernel_rfl)
 refine Xf ?_ (fun W hW => rBase_c W)
 refine XlA ?_ k_t10
 refine Xf ?_ (fun W hW => rbytesN_c U6 W)
 refine Xf ?_ (fun W hW => c10 W)
 refine Xl ?_ k_t7 (hi := by rw [p3_size]; kernel_rfl)
 refine XlA ?_ k_t10
 refine Xf ?_ (fun W hW => rbytesN_c U6 W)
 refine Xf ?_ (fun W hW => c15 W)
 refine Xf ?_ (fun W hW => rch_c hr r4 r9 r14 HU7.out W (GR_ext (GR_ext hG off0.ext) hW))
 refine Xv ?_
 refine wpX_nil fun W12 hE => ?_
 have hO := off_ext hE
 replace k_t6 := k_t6.o hO
 replace k_t9 := k_t9.o hO
 replace k_t10 := k_t10.o hO
 replace off0 := off0.o hO
 clear hO hE
 refine LN ?_
 go_upto_region 8 with fail
 refine Rx1 8 12 (z := arrK .i64 16 (l16 0)) (t := 83) ?_
 refine XlA ?_ k_t10
 refine Xv ?_
 refine Xf ?_ (fun W hW => rofN_c (n := 16) HU8.out (p16 qU7) (by decide) W)
 refine Xv ?_
 refine Xc ?_ (v := str (lb 32 U1)) (blk_rd k_t6)
 refine Xf ?_ (fun W hW => rofN_c (n := 32) HU9.out bU1 (by decide) W)
 refine Xf ?_ (fun W hW => rmulN_c HU10.out lU8 lU9 W)
 refine Xf ?_ (fun W hW => raddN_c HU11.out lU6 lU10 W)
 refine XN ?_
 intro p12_13 W13 n_t12 hE h_t12
 have hO := off_ext hE
 have nq_t9_t12 := bn k_t9 n_t12
 have fb_t12 := fbn off0 n_t12
 replace k_t9 := k_t9.o hO
 replace off0 := off0.o hO
 clear hO hE n_t12
 have k_t12 : Blk W13 p12_13 (arrK .i64 16 (l16 0)) 83 := h_t12
 clear h_t12
 refine LpA ?_ k_t12 (k := .i64) (n := 16) (f := l16 U11)
 intro W14 hO h_
 replace k_t12 : Blk W14 p12_13 (arrK .i64 16 (l16 U11)) 83 := h_
 clear h_
 replace k_t9 := k_t9.p hO nq_t9_t12
 replace off0 := off0.p hO fb_t12
 clear hO
 refine LN ?_
 go_upto_region 9 with fail
 refine Rx 9 ?_
 refine Xl ?_ k_t9 (hi := by rw [p3_size]; kernel_rfl)
 refine Xf ?_ (fun W hW => rencN_c r4 HU12.out W)
 refine Xv ?_
 refine wpX_cat (l := (lb 32 U12)) (m := (lb 16 U7)) (by first | omega | (simp only [List.length_append, List.length_cons, List.length_nil, lb_length]; omega)) (by rfl) rfl rfl rfl ?_
 (try simp only [Act.put, mA, mB, mC])
 refine XlA ?_ k_t12
 refine Xf ?_ (fun W hW => rbytesN_c U11 W)
 refine wpX_cat (l := ((lb 32 U12) ++ (lb 16 U7))) (m := (lb 32 U11)) (by first | omega | (simp only [List.length_append, List.length_cons, List.length_nil, lb_length]; omega)) (by rfl) rfl rfl rfl ?_
 (try simp only [Act.put, mA, mB, mC])
 refine Xv ?_
 refine Xv ?_
 refine wpX_nil fun W15 hE => ?_
 have hO := off_ext hE
 replace off0 := off0.o hO
 clear hO hE
 refine LN ?_
 go_wp2
 rw [show vPr S h = U12 + 2 ^ 256 * (U7 + P128 * U11) by rw [HU12.out, HU11.out, HU10.out, HU9.out, HU8.out, HU7.out, HU6.out, HU5.out, HU4.out, HU3.out, HU2.out, HU1.out]; rfl, ← lb_join3 bU12 qU7]
 exact bodyPost_ret (v := .tuple #[str (((lb 32 U12) ++ (lb 16 U7)) ++ (lb 32 U11)), .int .i64 0]) (by simp only [results, Tryd.results24]; go_simp) rfl ⟨rfl, off0.ext⟩
theorem rprove_0 (S : Nat) (L : List UInt8) (hL : L.length ≤ 1099511627776) (hv : vpt (kP S) L = none) :
  ∀ w, GR w → Calls Tryd.prog 24 #[str (lb 32 S), str L] w fun e w' => Ret (.tuple #[str (lb 80 0), .int .i64 15]) w w' e := by
 obtain ⟨U1, hU1⟩ := exn (kN S)
 have bU1 : U1 < 2 ^ 256 := by rw [hU1]; exact kN_lt _
 have HU1 := Lib.hid hU1
 clear hU1
 obtain ⟨U2, hU2⟩ := exn (kD S)
 have bU2 : U2 < 2 ^ 256 := by rw [hU2]; exact kD_lt _
 have HU2 := Lib.hid hU2
 clear hU2
 obtain ⟨U3, hU3⟩ := exn (kP S)
 have bU3 : U3 < 2 ^ 256 := by rw [hU3]; exact kP_lt _
 have HU3 := Lib.hid hU3
 clear hU3
 have hv_ : vpt U3 L = none := by rw [HU3.out]; exact hv
 intro w hG
 have off0 : Off [] w w := Off.refl _ _
 go_enter Tryd.func24, Tryd.ntmps24
 go_upto_region 1 with fail
 refine wp_region_lit ?_
 refine Lv ?_
 refine Lr ?_ (rspreadN_c HU1.out HU2.out HU3.out w (GR_ext hG off0.ext))
 intro W1 hO
 replace off0 := off0.o hO
 clear hO
 refine LnP ?_ (z := #[str [], str [], str []]) (t := 28) (cells := #[str (lb 32 U1), str (lb 32 U2), str (lb 32 U3)])
 intro p6_2 W3 n_t6 hO h_
 replace off0 := off0.o hO
 have k_t6 := h_
 clear hO h_ n_t6
 refine wpL_nil ?_
 go_upto_region 2 with fail
 refine wp_region_lit ?_
 refine Lv ?_
 refine Lg ?_ k_t6 (v := str (lb 32 U3))
 refine Lv ?_
 refine Lr ?_ (rpoint_n hL hv_ W3 (GR_ext hG off0.ext))
 intro W4 hO
 replace off0 := off0.o hO
 clear hO
 refine Lv ?_
 refine Lv ?_
 refine Lw ?_ (v := .bool false)
 refine LnP ?_ (z := p3 0 0 0) (t := 78) (cells := p3 0 0 0) (hi := by rw [p3_size]; kernel_rfl) (hs := by first | rw [p3_size, p3_size] | rw [p3_size] | kernel_rfl) (h1 := by exact p3_one)
 intro p7_5 W6 n_t7 hO h_
 replace off0 := off0.o hO
 clear hO h_ n_t7
 refine Lw ?_ (v := .bool false)
 refine wpL_nil ?_
 go_upto_region 4 with fail
 refine wp_region_lit ?_
 refine wpL_make (n := 80) (by first | omega | (simp only [List.length_append, List.length_cons, List.length_nil, lb_length]; omega)) (by rfl) rfl rfl rfl ?_
 (try simp only [Act.put, mA, mB, mC])
 intro p24_7 W7 n_k24 hO h_
 replace off0 := off0.o hO
 have ow_k24 : Own W7 (.slice (some ⟨p24_7, 0, none⟩) 80 80) (List.replicate 80 0) := h_
 clear hO h_ n_k24
 refine wpL_str (l := (List.replicate 80 0)) (ow_k24.sl) (by rfl) rfl rfl ?_
 (try simp only [Act.put, mA, mB, mC])
 refine Lv ?_
 refine Lw ?_ (v := .int .i64 15)
 refine wpL_nil ?_
 go_wp2
 rw [← zero_lb]
 exact bodyPost_ret (v := .tuple #[str (List.replicate 80 0), .int .i64 15]) (by simp only [results, Tryd.results24]; go_simp) rfl ⟨rfl, off0.ext⟩
end Go.Proofs.YtefpoollmbmkfaaDoor

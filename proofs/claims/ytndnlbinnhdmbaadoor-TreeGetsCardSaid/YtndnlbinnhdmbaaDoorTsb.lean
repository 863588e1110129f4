/- TreeGets. Conditions: keys and values have 256 bits; the tables hold their numbers. -/
import Derived.Test.YtndnlbinnhdmbaaDoorJ28
import Derived.Test.YtndnlbinnhdmbaaDoorJ26
set_option linter.unusedSimpArgs false
set_option linter.unusedVariables false
namespace Go.Proofs.YtndnlbinnhdmbaaDoor
set_option maxHeartbeats 3000000
set_option maxRecDepth 100000
open Go.RowKit
attribute [local irreducible] wpList wpTr wpX
set_option linter.unusedSimpArgs false
/-- a call that leaves one new thing -/
theorem ncall {P : Program} {α : Type} {f : FuncId} {args : Array Value} {F : List Nat} {w W : World} {H : List As} {V : α → Value} {X : α → As} (hS : SH F w W H) (hc : Calls P f args W fun e W' => ∃ x, e = .returned (V x) ∧ SH [] W W' [X x]) (ht : ∀ x, (X x).mv = true ∧ H.all (SH.tyOk (X x)) = true) :
  Calls P f args W fun e W' => ∃ x, e = .returned (V x) ∧ SH F w W' (X x :: H) :=
 hc.mono fun e W' ⟨x, h1, h2⟩ => ⟨x, h1, SH.frame (L := []) (L' := [X x]) (R := H) hS h2 ⟨.inr (ht x), trivial⟩⟩
theorem end_or {L : List Lf} {k : Nat} (h : ok256 L) : wayE (ofT L) k 0 = .nil ∨ (∃ x, wayE (ofT L) k 0 = .leaf k x ∧ x < 2 ^ 256) ∨ ∃ a x, a ≠ k ∧ wayE (ofT L) k 0 = .leaf a x ∧ a < 2 ^ 256 ∧ x < 2 ^ 256 := by
 rcases wayE_or (ofT L) k 0 with e | ⟨a, x, e⟩
 ·
  exact .inl e
 ·
  have e2 := e
  rw [ofT_can h] at e2
  obtain ⟨h1, h2⟩ := rlist_spec h
  have hb := h1 _ (under_can 256 0 rfl h2 (pre_0 _) e2).1
  by_cases hk : a = k
  ·
   subst hk; exact .inr (.inl ⟨x, e, hb.2⟩)
  ·
   exact .inr (.inr ⟨a, x, hk, e, hb.1, hb.2⟩)
theorem bsd_ofT_le {L : List Lf} {k : Nat} (h : ok256 L) : (bsd (ofT L) k 0).length ≤ 256 := by
 rw [ofT_can h]; exact bsd_can_len 256 0 rfl (rlist_spec h).2 (pre_0 _)
/-- 32 bytes that lie as an element of a row -/
theorem sl_c32 {W : World} {g o s : Nat} (h : ∀ i v, (b32l s)[i]? = some v → W.cell? ⟨g, o + i, none⟩ = some v) : Sl W (.slice (some ⟨g, o, none⟩) 32 32) (lb 32 s) := by
 refine ⟨some ⟨g, o, none⟩, 32, by rw [lb_length], by rw [lb_length]; decide, by decide, fun h => (by cases h), fun j x hj => ⟨_, rfl, ?_⟩⟩
 have hj2 : j < 32 := by have := (List.getElem?_eq_some_iff.1 hj).1; rwa [lb_length] at this
 rw [lb_get hj2] at hj
 have := Option.some.inj hj
 subst this
 rw [lb_byt, Addr.add_mid]
 exact h j _ (by unfold b32l; rw [Array.getElem?_toList]; exact arrK_get _ _ _ _ hj2)
attribute [local irreducible] hs4 sE sL sN

theorem run_lenRm {P : Program} {a : Act} {o : Oper} {x : Operand} {tS t : TypeId} {k n : Nat} {W : World} {v : Value} {es : List (List Value)} (h : Row t k W v es) (hn : es.length = n) (ho : o.op = .call { callee := .builtin .len, args := #[x], argTypes := #[tS] }) (hx : a.eval x = v) (ht : P.underlying tS = some (.slice t)) : (execOp a.eval o).run P W = .ok (.value (.int .i64 (n : Int))) W := by
 subst hn; exact run_lenR h ho hx ht
theorem treeGets_L {q : Prop} (hr : q) {ls L : List Lf} (hE8 : ls.take 8 = L) (hL : ok256 L) (hLl : L.length ≤ 8) {k : Nat} (hk : k < 2 ^ 256) {u0 : Value} (w : World) (hG : GT q w) (hl : RR 64 w u0 (ls.map lfl)) :
  Calls Tryd.prog 7 #[u0, .agg (arrK .u8 32 (byt k))] w fun e w' => Ret (.bool true) w w' e := by
 have hLm : L.length ≤ 1000 := by omega
 obtain ⟨ss, hss⟩ : ∃ ss, bsd (ofT L) k 0 = ss := ⟨_, rfl⟩
 have hN : (wayN (ofT L) k 0).length = ss.length := by rw [← hss, bsd_len]
 have hsl : ss.length ≤ 256 := by rw [← hss]; exact bsd_ofT_le hL
 have hS := SH.nil [] w
 go_enter Tryd.func7, Tryd.ntmps7
 go_upto_region 0 with fail
 refine RL hS ?_
 clear hS
 refine MN (z := arrK .u8 32 (byt k)) (t := 28) ?_
 intro p3_1
 refine MW ?_ (v := .bool false)
 refine MZ fun W hS => ?_
 go_upto_region 1 with fail
 refine RL hS ?_
 clear hS
 refine MV ?_
 refine ME (fun W hS => rcall (ls := L) hS ((by rw [← hE8]; exact few_c 8 (by decide) W (hl.ext hS.ext))) rfl) ?_
 intro u_fw2
 refine MV ?_
 refine MZ fun W hS => ?_
 go_upto_region 2 with fail
 refine RL hS ?_
 clear hS
 refine MV ?_
 refine ME (fun W hS => rcall (ls := L) hS (to_c (by have h_ := hLm; omega) W (hS.row (i := 0) rfl).rr) rfl) ?_
 intro u_to3
 refine ME (fun W hS => tcall (T := (ofT L)) hS (of_r hL hLm W (GT_ext hG hS.ext) (hS.row (i := 0) rfl).rr) rfl) ?_
 intro u_tof4
 refine MV ?_
 refine MZ fun W hS => ?_
 go_upto_region 3 with fail
 refine RL hS ?_
 clear hS
 refine MV ?_
 refine ME (fun W hS => rcall (ls := rlist L) hS (list_c hL (by have h_ := hLm; omega) W (hS.row (i := 2) rfl).rr) rfl) ?_
 intro u_ls5
 refine MV ?_
 refine MZ fun W hS => ?_
 rcases end_or (k := k) hL with he | ⟨x, he, hx⟩ | ⟨a, x, hak, he, ha, hx⟩
 ·
  have _f := True.intro
  go_upto_region 4 with fail
  refine RL hS ?_
  clear hS
  refine MV ?_
  refine ML 4 ?_
  refine MC (v := .tuple #[.agg (arrK .u8 32 (byt 0)), .bool false, .int .i64 (ss.length : Int)]) (fun W hS => (by have h_ := get_c (k := k) hk (of_tsz1 hLm) W (hS.tt (i := 1) rfl); rw [he, hN, show getR .nil ss.length k = (0, false, ss.length) from rfl] at h_; exact h_)) ?_
  refine MV ?_
  refine MV ?_
  refine MW ?_ (v := .bool false)
  refine MV ?_
  refine MN (z := arrK .u8 32 (byt 0)) (t := 22) ?_
  intro p7_6
  refine MR 0 ?_ 
  refine MW ?_ (v := .bool false)
  refine MV ?_
  refine MZ fun W hS => ?_
  go_upto_region 5 with fail
  refine RL hS ?_
  clear hS
  refine MV ?_
  refine ML 5 ?_
  refine ME (V := fun v => .tuple #[v, .agg (lf 0 0), .bool false]) (fun W hS => ncall hS (by have h_ := beside_c (k := k) (of_tsz1 hLm) W (GT_ext hG hS.ext) (hS.tt (i := 2) rfl); rw [he, hss] at h_; exact h_) (fun _ => ⟨rfl, rfl⟩)) ?_
  intro so
  refine MV ?_
  refine MV ?_
  refine MV ?_
  refine MW ?_ (v := .bool false)
  refine MN (z := lf 0 0) (t := 30) ?_
  intro p11_7
  refine MV ?_
  refine MR 0 ?_ (hz := by rw [lf_size]; kernel_rfl) (hs := by first | rw [lf_size, lf_size] | rw [lf_size] | kernel_rfl) (h1 := lf_one)
  refine MW ?_ (v := .bool false)
  refine MZ fun W hS => ?_
  go_upto_region 6 with fail
  refine RL hS ?_
  clear hS
  refine MV ?_
  refine ML 7 ?_
  refine ME (V := fun v => .tuple #[v, .agg (lf 0 0), .bool false]) (fun W hS => ncall hS (by have h_ := rBeside_c hr (k := k) (rlist_spec hL).2 (Nat.le_trans (rlist_len L) hLm) W (GT_ext hG hS.ext) (hS.row (i := 3) rfl).rr; rw [← ofT_can hL, he, hss] at h_; exact h_) (fun _ => ⟨rfl, rfl⟩)) ?_
  intro xo
  refine MV ?_
  refine MV ?_
  refine MV ?_
  refine MW ?_ (v := .bool false)
  refine MN (z := lf 0 0) (t := 24) ?_
  intro p14_8
  refine MV ?_
  refine MR 0 ?_ (hz := by rw [lf_size]; kernel_rfl) (hs := by first | rw [lf_size, lf_size] | rw [lf_size] | kernel_rfl) (h1 := lf_one)
  refine MW ?_ (v := .bool false)
  refine MZ fun W hS => ?_
  go_upto_region 7 with fail
  refine RL hS ?_
  clear hS
  refine MV ?_
  refine MF (v := .int .i64 (ss.length : Int)) (fun W hS => run_lenRm (hS.row (i := 1) rfl) (List.length_map _) rfl rfl Tryd.underlying61) ?_
  refine MV ?_
  refine MZ fun W hS => ?_
  go_upto_region 10 with fail
  refine RL hS ?_
  clear hS
  refine MC (v := .bool true) (fun W hS => trees_c hr W (GT_ext hG hS.ext)) ?_
  refine MW ?_ (v := .bool false)
  refine MW ?_ (v := .bool false)
  refine MV ?_
  refine MF (v := .int .i64 (ss.length : Int)) (fun W hS => run_lenRm (hS.row (i := 3) rfl) (List.length_map _) rfl rfl Tryd.underlying58) ?_
  refine MV ?_
  refine MF (v := .int .i64 (ss.length : Int)) (fun W hS => run_lenRm (hS.row (i := 1) rfl) (List.length_map _) rfl rfl Tryd.underlying61) ?_
  refine MW ?_ (v := .bool false)
  refine MW ?_ (v := .bool false)
  refine MW ?_ (v := .bool false)
  refine MW ?_ (v := .bool false)
  refine MW ?_ (v := .bool false)
  refine MW ?_ (v := .bool false)
  refine MW ?_ (v := .bool false)
  refine MW ?_ (v := .bool false)
  refine MV ?_
  refine Ml 2 lf_k ?_
  refine MV ?_
  refine Ml 2 lf_v ?_
  refine MW ?_ (v := .agg (lf 0 0)) (hv := by intro W; first | rfl | kernel_rfl)
  refine ML 0 ?_ (hs := by rw [lf_size]; kernel_rfl)
  refine MW ?_ (v := .bool false) (hv := fun _ => run_neqA ((fun w => (eqRL (0, 0) (0, 0) ⟨by decide, by decide⟩ ⟨by decide, by decide⟩ w).trans (by rw [decide_eq_true rfl])) _) (by kernel_rfl) rfl rfl rfl)
  refine MW ?_ (v := .bool false)
  refine MW ?_ (v := .bool false)
  refine MV ?_
  refine MV ?_
  refine MW ?_ (v := .bool false)
  refine MW ?_ (v := .bool false)
  refine MW ?_ (v := .bool false)
  refine MW ?_ (v := .bool false)
  refine MW ?_ (v := .bool false)
  refine MW ?_ (v := .bool false)
  refine MS ?_
  refine MS ?_
  refine MS ?_
  refine MS ?_
  refine MW ?_ (v := .bool false)
  refine MW ?_ (v := .bool false)
  refine MW ?_ (v := .bool false)
  refine MW ?_ (v := .bool false)
  refine MW ?_ (v := .bool false)
  refine MW ?_ (v := .bool false)
  refine MS ?_
  refine MS ?_
  refine MS ?_
  refine MS ?_
  refine MW ?_ (v := .bool false)
  refine MW ?_ (v := .bool false)
  refine MW ?_ (v := .bool false)
  refine MW ?_ (v := .bool false)
  refine MW ?_ (v := .bool true)
  refine MW ?_ (v := .bool true)
  refine ML 4 ?_
  refine MW ?_ (v := .agg (arrK .u8 32 (byt 0))) (hv := by intro W; kernel_rfl)
  refine MW ?_ (v := .bool false) (hv := fun _ => run_neqA ((fun w => eqS32 rfl w) _) (by kernel_rfl) rfl rfl rfl)
  refine MW ?_ (v := .bool false)
  refine MW ?_ (v := .bool false)
  refine MZ fun W hS => ?_
  go_wp2_with fail
  go_loopw [17] (fun ii wr => ∃ (i : Nat), (i ≤ ss.length) ∧ (ii = .int .i64 (i : Int)) ∧ SH [] w wr [.r 22 32 so (List.map b32l ss), .r 9 1 xo (List.map strl ss)])
   (fun ii _ => ss.length - (intOf ii).toNat)
  case atStart => exact ⟨0, Nat.zero_le _, rfl, (hS.pick [3, 1])⟩
  clear hS
  case round =>
   obtain ⟨i, hi, rfl, hS⟩ := hrel
   by_cases hlt : i < ss.length
   ·
    have _f := hlt
    obtain ⟨y, yh⟩ : ∃ y, ss[i]? = some y := ⟨_, List.getElem?_eq_getElem hlt⟩
    go_upto_region 13 with fail
    refine RL hS ?_
    clear hS
    refine MV ?_
    refine MV ?_
    refine MF (v := .int .i64 (ss.length : Int)) (fun W hS => run_lenRm (hS.row (i := 1) rfl) (List.length_map _) rfl rfl Tryd.underlying61) ?_
    refine MW ?_ (v := .bool true)
    refine MZ fun W hS => ?_
    go_upto_region 15 with fail
    refine RS hS ?_
    clear hS
    refine MV ?_
    refine MV ?_
    refine MI 0 i (e := (b32l y)) (by rw [List.getElem?_map, yh]; rfl) ?_
    intro gb116_9 _ hv116_9
    refine MW ?_ (v := .slice (some ⟨gb116_9, i * 32, none⟩) 32 32)
    refine MF (v := str (lb 32 y)) (fun W hS => run_cvs (sl_c32 (fun i_ v_ h_ => row_cell (hS.row (i := 0) rfl) hv116_9.out (by rw [List.getElem?_map, yh]; rfl) i_ v_ h_)) rfl rfl) ?_
    refine MV ?_
    refine MV ?_
    refine MI 1 i (e := (strl y)) (by rw [List.getElem?_map, yh]; rfl) ?_
    intro gb121_10 _ hv121_10
    refine MF (v := str (lb 32 y)) (fun W hS => run_at rfl rfl (row_cell (hS.row (i := 1) rfl) hv121_10.out (by rw [List.getElem?_map, yh]; rfl) 0 _ (rfl)) (by kernel_rfl)) ?_
    refine MW ?_ (v := .bool false) (hv := fun _ => run_strneB (l := (lb 32 y)) (m := (lb 32 y)) (b := true) (decide_eq_true rfl) rfl rfl rfl)
    refine MZx fun W hS => ?_
    go_wp2
    go_roundw
    case rel => exact ⟨i + 1, by omega, by go_num, hS⟩
    case measure => simp [intOf]; omega
   ·
    have _f := hlt
    go_upto_region 13 with fail
    refine RL hS ?_
    clear hS
    refine MV ?_
    refine MV ?_
    refine MF (v := .int .i64 (ss.length : Int)) (fun W hS => run_lenRm (hS.row (i := 1) rfl) (List.length_map _) rfl rfl Tryd.underlying61) ?_
    refine MW ?_ (v := .bool false)
    refine MZ fun W hS => ?_
    go_wp2
    exact bodyPost_ret (v := .bool true) (by simp only [results, Tryd.results7]; go_simp) rfl ⟨rfl, hS.ext⟩
 ·
  have _f := True.intro
  go_upto_region 4 with fail
  refine RL hS ?_
  clear hS
  refine MV ?_
  refine ML 4 ?_
  refine MC (v := .tuple #[.agg (arrK .u8 32 (byt x)), .bool true, .int .i64 ((ss.length + 1 : Nat) : Int)]) (fun W hS => (by have h_ := get_c (k := k) hk (of_tsz1 hLm) W (hS.tt (i := 1) rfl); rw [he, hN, show getR (.leaf k x) ss.length k = (x, true, ss.length + 1) from if_pos rfl] at h_; exact h_)) ?_
  refine MV ?_
  refine MV ?_
  refine MW ?_ (v := .bool true)
  refine MV ?_
  refine MN (z := arrK .u8 32 (byt 0)) (t := 22) ?_
  intro p7_11
  refine MR 0 ?_ 
  refine MW ?_ (v := .bool true)
  refine MV ?_
  refine MZ fun W hS => ?_
  go_upto_region 5 with fail
  refine RL hS ?_
  clear hS
  refine MV ?_
  refine ML 5 ?_
  refine ME (V := fun v => .tuple #[v, .agg (lf k x), .bool true]) (fun W hS => ncall hS (by have h_ := beside_c (k := k) (of_tsz1 hLm) W (GT_ext hG hS.ext) (hS.tt (i := 2) rfl); rw [he, hss] at h_; exact h_) (fun _ => ⟨rfl, rfl⟩)) ?_
  intro so
  refine MV ?_
  refine MV ?_
  refine MV ?_
  refine MW ?_ (v := .bool true)
  refine MN (z := lf 0 0) (t := 30) ?_
  intro p11_12
  refine MV ?_
  refine MR 0 ?_ (hz := by rw [lf_size]; kernel_rfl) (hs := by first | rw [lf_size, lf_size] | rw [lf_size] | kernel_rfl) (h1 := lf_one)
  refine MW ?_ (v := .bool true)
  refine MZ fun W hS => ?_
  go_upto_region 6 with fail
  refine RL hS ?_
  clear hS
  refine MV ?_
  refine ML 7 ?_
  refine ME (V := fun v => .tuple #[v, .agg (lf k x), .bool true]) (fun W hS => ncall hS (by have h_ := rBeside_c hr (k := k) (rlist_spec hL).2 (Nat.le_trans (rlist_len L) hLm) W (GT_ext hG hS.ext) (hS.row (i := 3) rfl).rr; rw [← ofT_can hL, he, hss] at h_; exact h_) (fun _ => ⟨rfl, rfl⟩)) ?_
  intro xo
  refine MV ?_
  refine MV ?_
  refine MV ?_
  refine MW ?_ (v := .bool true)
  refine MN (z := lf 0 0) (t := 24) ?_
  intro p14_13
  refine MV ?_
  refine MR 0 ?_ (hz := by rw [lf_size]; kernel_rfl) (hs := by first | rw [lf_size, lf_size] | rw [lf_size] | kernel_rfl) (h1 := lf_one)
  refine MW ?_ (v := .bool true)
  refine MZ fun W hS => ?_
  go_upto_region 7 with fail
  refine RL hS ?_
  clear hS
  refine MV ?_
  refine MF (v := .int .i64 (ss.length : Int)) (fun W hS => run_lenRm (hS.row (i := 1) rfl) (List.length_map _) rfl rfl Tryd.underlying61) ?_
  refine MV ?_
  refine MZ fun W hS => ?_
  go_upto_region 9 with fail
  refine RL hS ?_
  clear hS
  refine MV ?_
  refine MW ?_ (v := .int .i64 ((ss.length + 1 : Nat) : Int)) (hv := by intro W; go_simp; (try simp only [IntKind.wrap_i64]); omega)
  refine MV ?_
  refine MZ fun W hS => ?_
  go_upto_region 10 with fail
  refine RL hS ?_
  clear hS
  refine MC (v := .bool true) (fun W hS => trees_c hr W (GT_ext hG hS.ext)) ?_
  refine MW ?_ (v := .bool false)
  refine MW ?_ (v := .bool false)
  refine MV ?_
  refine MF (v := .int .i64 (ss.length : Int)) (fun W hS => run_lenRm (hS.row (i := 3) rfl) (List.length_map _) rfl rfl Tryd.underlying58) ?_
  refine MV ?_
  refine MF (v := .int .i64 (ss.length : Int)) (fun W hS => run_lenRm (hS.row (i := 1) rfl) (List.length_map _) rfl rfl Tryd.underlying61) ?_
  refine MW ?_ (v := .bool false)
  refine MW ?_ (v := .bool false)
  refine MW ?_ (v := .bool false)
  refine MW ?_ (v := .bool true)
  refine MW ?_ (v := .bool true)
  refine MW ?_ (v := .bool false)
  refine MW ?_ (v := .bool false)
  refine MW ?_ (v := .bool false)
  refine MV ?_
  refine Ml 2 lf_k ?_
  refine MV ?_
  refine Ml 2 lf_v ?_
  refine MW ?_ (v := .agg (lf k x)) (hv := by intro W; first | rfl | kernel_rfl)
  refine ML 0 ?_ (hs := by rw [lf_size]; kernel_rfl)
  refine MW ?_ (v := .bool false) (hv := fun _ => run_neqA ((fun w => (eqRL (k, x) (k, x) ⟨hk, hx⟩ ⟨hk, hx⟩ w).trans (by rw [decide_eq_true rfl])) _) (by kernel_rfl) rfl rfl rfl)
  refine MW ?_ (v := .bool false)
  refine MW ?_ (v := .bool false)
  refine MV ?_
  refine MV ?_
  refine MW ?_ (v := .bool false)
  refine MW ?_ (v := .bool false)
  refine MW ?_ (v := .bool false)
  refine MW ?_ (v := .bool true)
  refine MW ?_ (v := .bool true)
  refine MW ?_ (v := .bool true)
  refine MV ?_
  refine Ml 0 lf_k ?_
  refine ML 9 ?_
  refine MW ?_ (v := .bool true) (hv := fun _ => run_eqlA ((fun w => eqS32 rfl w) _) (by kernel_rfl) rfl rfl rfl)
  refine MW ?_ (v := .bool true)
  refine MW ?_ (v := .bool false)
  refine MW ?_ (v := .bool false)
  refine MW ?_ (v := .bool false)
  refine MW ?_ (v := .bool true)
  refine MW ?_ (v := .bool true)
  refine ML 4 ?_
  refine MV ?_
  refine Ml 0 lf_v ?_
  refine MW ?_ (v := .bool false) (hv := fun _ => run_neqA ((fun w => eqS32 rfl w) _) (by kernel_rfl) rfl rfl rfl)
  refine MW ?_ (v := .bool false)
  refine MW ?_ (v := .bool false)
  refine MW ?_ (v := .bool false)
  refine MW ?_ (v := .bool true)
  refine MW ?_ (v := .bool false)
  refine MW ?_ (v := .bool false)
  refine MS ?_
  refine MS ?_
  refine MS ?_
  refine MW ?_ (v := .bool false)
  refine MW ?_ (v := .bool false)
  refine MZ fun W hS => ?_
  go_wp2_with fail
  go_loopw [17] (fun ii wr => ∃ (i : Nat), (i ≤ ss.length) ∧ (ii = .int .i64 (i : Int)) ∧ SH [] w wr [.r 22 32 so (List.map b32l ss), .r 9 1 xo (List.map strl ss)])
   (fun ii _ => ss.length - (intOf ii).toNat)
  case atStart => exact ⟨0, Nat.zero_le _, rfl, (hS.pick [3, 1])⟩
  clear hS
  case round =>
   obtain ⟨i, hi, rfl, hS⟩ := hrel
   by_cases hlt : i < ss.length
   ·
    have _f := hlt
    obtain ⟨y, yh⟩ : ∃ y, ss[i]? = some y := ⟨_, List.getElem?_eq_getElem hlt⟩
    go_upto_region 13 with fail
    refine RL hS ?_
    clear hS
    refine MV ?_
    refine MV ?_
    refine MF (v := .int .i64 (ss.length : Int)) (fun W hS => run_lenRm (hS.row (i := 1) rfl) (List.length_map _) rfl rfl Tryd.underlying61) ?_
    refine MW ?_ (v := .bool true)
    refine MZ fun W hS => ?_
    go_upto_region 15 with fail
    refine RS hS ?_
    clear hS
    refine MV ?_
    refine MV ?_
    refine MI 0 i (e := (b32l y)) (by rw [List.getElem?_map, yh]; rfl) ?_
    intro gb116_14 _ hv116_14
    refine MW ?_ (v := .slice (some ⟨gb116_14, i * 32, none⟩) 32 32)
    refine MF (v := str (lb 32 y)) (fun W hS => run_cvs (sl_c32 (fun i_ v_ h_ => row_cell (hS.row (i := 0) rfl) hv116_14.out (by rw [List.getElem?_map, yh]; rfl) i_ v_ h_)) rfl rfl) ?_
    refine MV ?_
    refine MV ?_
    refine MI 1 i (e := (strl y)) (by rw [List.getElem?_map, yh]; rfl) ?_
    intro gb121_15 _ hv121_15
    refine MF (v := str (lb 32 y)) (fun W hS => run_at rfl rfl (row_cell (hS.row (i := 1) rfl) hv121_15.out (by rw [List.getElem?_map, yh]; rfl) 0 _ (rfl)) (by kernel_rfl)) ?_
    refine MW ?_ (v := .bool false) (hv := fun _ => run_strneB (l := (lb 32 y)) (m := (lb 32 y)) (b := true) (decide_eq_true rfl) rfl rfl rfl)
    refine MZx fun W hS => ?_
    go_wp2
    go_roundw
    case rel => exact ⟨i + 1, by omega, by go_num, hS⟩
    case measure => simp [intOf]; omega
   ·
    have _f := hlt
    go_upto_region 13 with fail
    refine RL hS ?_
    clear hS
    refine MV ?_
    refine MV ?_
    refine MF (v := .int .i64 (ss.length : Int)) (fun W hS => run_lenRm (hS.row (i := 1) rfl) (List.length_map _) rfl rfl Tryd.underlying61) ?_
    refine MW ?_ (v := .bool false)
    refine MZ fun W hS => ?_
    go_wp2
    exact bodyPost_ret (v := .bool true) (by simp only [results, Tryd.results7]; go_simp) rfl ⟨rfl, hS.ext⟩
 ·
  have _f := True.intro
  go_upto_region 4 with fail
  refine RL hS ?_
  clear hS
  refine MV ?_
  refine ML 4 ?_
  refine MC (v := .tuple #[.agg (arrK .u8 32 (byt 0)), .bool false, .int .i64 ((ss.length + 1 : Nat) : Int)]) (fun W hS => (by have h_ := get_c (k := k) hk (of_tsz1 hLm) W (hS.tt (i := 1) rfl); rw [he, hN, show getR (.leaf a x) ss.length k = (0, false, ss.length + 1) from if_neg hak] at h_; exact h_)) ?_
  refine MV ?_
  refine MV ?_
  refine MW ?_ (v := .bool false)
  refine MV ?_
  refine MN (z := arrK .u8 32 (byt 0)) (t := 22) ?_
  intro p7_16
  refine MR 0 ?_ 
  refine MW ?_ (v := .bool false)
  refine MV ?_
  refine MZ fun W hS => ?_
  go_upto_region 5 with fail
  refine RL hS ?_
  clear hS
  refine MV ?_
  refine ML 5 ?_
  refine ME (V := fun v => .tuple #[v, .agg (lf a x), .bool true]) (fun W hS => ncall hS (by have h_ := beside_c (k := k) (of_tsz1 hLm) W (GT_ext hG hS.ext) (hS.tt (i := 2) rfl); rw [he, hss] at h_; exact h_) (fun _ => ⟨rfl, rfl⟩)) ?_
  intro so
  refine MV ?_
  refine MV ?_
  refine MV ?_
  refine MW ?_ (v := .bool true)
  refine MN (z := lf 0 0) (t := 30) ?_
  intro p11_17
  refine MV ?_
  refine MR 0 ?_ (hz := by rw [lf_size]; kernel_rfl) (hs := by first | rw [lf_size, lf_size] | rw [lf_size] | kernel_rfl) (h1 := lf_one)
  refine MW ?_ (v := .bool true)
  refine MZ fun W hS => ?_
  go_upto_region 6 with fail
  refine RL hS ?_
  clear hS
  refine MV ?_
  refine ML 7 ?_
  refine ME (V := fun v => .tuple #[v, .agg (lf a x), .bool true]) (fun W hS => ncall hS (by have h_ := rBeside_c hr (k := k) (rlist_spec hL).2 (Nat.le_trans (rlist_len L) hLm) W (GT_ext hG hS.ext) (hS.row (i := 3) rfl).rr; rw [← ofT_can hL, he, hss] at h_; exact h_) (fun _ => ⟨rfl, rfl⟩)) ?_
  intro xo
  refine MV ?_
  refine MV ?_
  refine MV ?_
  refine MW ?_ (v := .bool true)
  refine MN (z := lf 0 0) (t := 24) ?_
  intro p14_18
  refine MV ?_
  refine MR 0 ?_ (hz := by rw [lf_size]; kernel_rfl) (hs := by first | rw [lf_size, lf_size] | rw [lf_size] | kernel_rfl) (h1 := lf_one)
  refine MW ?_ (v := .bool true)
  refine MZ fun W hS => ?_
  go_upto_region 7 with fail
  refine RL hS ?_
  clear hS
  refine MV ?_
  refine MF (v := .int .i64 (ss.length : Int)) (fun W hS => run_lenRm (hS.row (i := 1) rfl) (List.length_map _) rfl rfl Tryd.underlying61) ?_
  refine MV ?_
  refine MZ fun W hS => ?_
  go_upto_region 9 with fail
  refine RL hS ?_
  clear hS
  refine MV ?_
  refine MW ?_ (v := .int .i64 ((ss.length + 1 : Nat) : Int)) (hv := by intro W; go_simp; (try simp only [IntKind.wrap_i64]); omega)
  refine MV ?_
  refine MZ fun W hS => ?_
  go_upto_region 10 with fail
  refine RL hS ?_
  clear hS
  refine MC (v := .bool true) (fun W hS => trees_c hr W (GT_ext hG hS.ext)) ?_
  refine MW ?_ (v := .bool false)
  refine MW ?_ (v := .bool false)
  refine MV ?_
  refine MF (v := .int .i64 (ss.length : Int)) (fun W hS => run_lenRm (hS.row (i := 3) rfl) (List.length_map _) rfl rfl Tryd.underlying58) ?_
  refine MV ?_
  refine MF (v := .int .i64 (ss.length : Int)) (fun W hS => run_lenRm (hS.row (i := 1) rfl) (List.length_map _) rfl rfl Tryd.underlying61) ?_
  refine MW ?_ (v := .bool false)
  refine MW ?_ (v := .bool false)
  refine MW ?_ (v := .bool false)
  refine MW ?_ (v := .bool true)
  refine MW ?_ (v := .bool true)
  refine MW ?_ (v := .bool false)
  refine MW ?_ (v := .bool false)
  refine MW ?_ (v := .bool false)
  refine MV ?_
  refine Ml 2 lf_k ?_
  refine MV ?_
  refine Ml 2 lf_v ?_
  refine MW ?_ (v := .agg (lf a x)) (hv := by intro W; first | rfl | kernel_rfl)
  refine ML 0 ?_ (hs := by rw [lf_size]; kernel_rfl)
  refine MW ?_ (v := .bool false) (hv := fun _ => run_neqA ((fun w => (eqRL (a, x) (a, x) ⟨ha, hx⟩ ⟨ha, hx⟩ w).trans (by rw [decide_eq_true rfl])) _) (by kernel_rfl) rfl rfl rfl)
  refine MW ?_ (v := .bool false)
  refine MW ?_ (v := .bool false)
  refine MV ?_
  refine MV ?_
  refine MW ?_ (v := .bool false)
  refine MW ?_ (v := .bool false)
  refine MW ?_ (v := .bool false)
  refine MW ?_ (v := .bool false)
  refine MW ?_ (v := .bool true)
  refine MW ?_ (v := .bool true)
  refine MV ?_
  refine Ml 0 lf_k ?_
  refine ML 9 ?_
  refine MW ?_ (v := .bool false) (hv := fun _ => run_eqlA ((fun w => (eqV32 a k ha hk w).trans (by rw [decide_eq_false hak])) _) (by kernel_rfl) rfl rfl rfl)
  refine MW ?_ (v := .bool false)
  refine MW ?_ (v := .bool false)
  refine MW ?_ (v := .bool false)
  refine MW ?_ (v := .bool false)
  refine MW ?_ (v := .bool false)
  refine MW ?_ (v := .bool false)
  refine MS ?_
  refine MS ?_
  refine MS ?_
  refine MS ?_
  refine MW ?_ (v := .bool false)
  refine MW ?_ (v := .bool false)
  refine MW ?_ (v := .bool false)
  refine MW ?_ (v := .bool false)
  refine MW ?_ (v := .bool true)
  refine MW ?_ (v := .bool true)
  refine ML 4 ?_
  refine MW ?_ (v := .agg (arrK .u8 32 (byt 0))) (hv := by intro W; kernel_rfl)
  refine MW ?_ (v := .bool false) (hv := fun _ => run_neqA ((fun w => eqS32 rfl w) _) (by kernel_rfl) rfl rfl rfl)
  refine MW ?_ (v := .bool false)
  refine MW ?_ (v := .bool false)
  refine MZ fun W hS => ?_
  go_wp2_with fail
  go_loopw [17] (fun ii wr => ∃ (i : Nat), (i ≤ ss.length) ∧ (ii = .int .i64 (i : Int)) ∧ SH [] w wr [.r 22 32 so (List.map b32l ss), .r 9 1 xo (List.map strl ss)])
   (fun ii _ => ss.length - (intOf ii).toNat)
  case atStart => exact ⟨0, Nat.zero_le _, rfl, (hS.pick [3, 1])⟩
  clear hS
  case round =>
   obtain ⟨i, hi, rfl, hS⟩ := hrel
   by_cases hlt : i < ss.length
   ·
    have _f := hlt
    obtain ⟨y, yh⟩ : ∃ y, ss[i]? = some y := ⟨_, List.getElem?_eq_getElem hlt⟩
    go_upto_region 13 with fail
    refine RL hS ?_
    clear hS
    refine MV ?_
    refine MV ?_
    refine MF (v := .int .i64 (ss.length : Int)) (fun W hS => run_lenRm (hS.row (i := 1) rfl) (List.length_map _) rfl rfl Tryd.underlying61) ?_
    refine MW ?_ (v := .bool true)
    refine MZ fun W hS => ?_
    go_upto_region 15 with fail
    refine RS hS ?_
    clear hS
    refine MV ?_
    refine MV ?_
    refine MI 0 i (e := (b32l y)) (by rw [List.getElem?_map, yh]; rfl) ?_
    intro gb116_19 _ hv116_19
    refine MW ?_ (v := .slice (some ⟨gb116_19, i * 32, none⟩) 32 32)
    refine MF (v := str (lb 32 y)) (fun W hS => run_cvs (sl_c32 (fun i_ v_ h_ => row_cell (hS.row (i := 0) rfl) hv116_19.out (by rw [List.getElem?_map, yh]; rfl) i_ v_ h_)) rfl rfl) ?_
    refine MV ?_
    refine MV ?_
    refine MI 1 i (e := (strl y)) (by rw [List.getElem?_map, yh]; rfl) ?_
    intro gb121_20 _ hv121_20
    refine MF (v := str (lb 32 y)) (fun W hS => run_at rfl rfl (row_cell (hS.row (i := 1) rfl) hv121_20.out (by rw [List.getElem?_map, yh]; rfl) 0 _ (rfl)) (by kernel_rfl)) ?_
    refine MW ?_ (v := .bool false) (hv := fun _ => run_strneB (l := (lb 32 y)) (m := (lb 32 y)) (b := true) (decide_eq_true rfl) rfl rfl rfl)
    refine MZx fun W hS => ?_
    go_wp2
    go_roundw
    case rel => exact ⟨i + 1, by omega, by go_num, hS⟩
    case measure => simp [intOf]; omega
   ·
    have _f := hlt
    go_upto_region 13 with fail
    refine RL hS ?_
    clear hS
    refine MV ?_
    refine MV ?_
    refine MF (v := .int .i64 (ss.length : Int)) (fun W hS => run_lenRm (hS.row (i := 1) rfl) (List.length_map _) rfl rfl Tryd.underlying61) ?_
    refine MW ?_ (v := .bool false)
    refine MZ fun W hS => ?_
    go_wp2
    exact bodyPost_ret (v := .bool true) (by simp only [results, Tryd.results7]; go_simp) rfl ⟨rfl, hS.ext⟩
end Go.Proofs.YtndnlbinnhdmbaaDoor

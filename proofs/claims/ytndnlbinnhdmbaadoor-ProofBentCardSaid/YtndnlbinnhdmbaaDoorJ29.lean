/- Proofs: the document's Same, Clash; the law's proofs. Conditions: the tables hold their numbers; keys and values have 256 bits. A text copied over an array; a cell stored in an element of a row. No conditions. ProofBack. Conditions: the tables hold their numbers; keys and values have 256 bits. ProofChecks. Conditions: the tables hold their numbers; keys and values have 256 bits. -/
import Derived.Test.YtndnlbinnhdmbaaDoorJ28
import Derived.Test.YtndnlbinnhdmbaaDoorJ7
import Derived.Laws.CopyRow
set_option linter.unusedSimpArgs false
set_option linter.unusedVariables false
namespace Go.Proofs.YtndnlbinnhdmbaaDoor
set_option maxHeartbeats 3000000
set_option maxRecDepth 100000
open Go.RowKit
attribute [local irreducible] wpList wpTr wpX
set_option linter.unusedSimpArgs false
attribute [local irreducible] hs4 sE sL sN lb
theorem chk_e {U : Nat} (h : U = sE) : chk U 5 [] false 0 0 = (0, false, 0) := by
 subst h
 unfold chk
 rw [if_neg (by simp), if_pos (show hs4 (tT 5 [] 0 (tE false 0 0)) = sE by unfold sE; rfl), if_neg (by simp)]
theorem chk_z : chk 0 5 [] false 0 0 = (0, false, 17) := by
 unfold chk
 rw [if_neg (by simp), if_neg (show ¬ hs4 (tT 5 [] 0 (tE false 0 0)) = 0 from two_ne)]

theorem proofs_c {q : Prop} (w : World) (hG : GT q w) :
  Calls Tryd.prog 44 #[] w fun e w' => Ret (.bool true) w w' e := by
 have hS := SH.nil [] w
 go_enter Tryd.func44, Tryd.ntmps44
 go_upto_region 2 with fail
 refine RL hS ?_
 clear hS
 refine MV ?_
 refine MW ?_ (v := .agg (arrK .u8 32 (byt 5))) (hv := by intro W; kernel_rfl)
 refine ME (V := fun v => .agg (pfc v false 0 0)) (fun W hS => pcall (ss := []) hS (prove_c (T := .nil) (k := 5) (Nat.zero_le _) W (GT_ext hG hS.ext) rfl) rfl) ?_
 intro pv_1
 refine MFact (fun W hS => Row.form (ls := []) (f := b32l) (hS.row (i := 0) rfl)) ?_
 rintro ⟨A_2, c_2, rfl⟩
 refine MN (z := pfc (.slice none 0 0) false 0 0) (t := 69) ?_
 intro p2_3
 refine MR 0 ?_ (hz := by rw [pf_size]; kernel_rfl) (hs := by first | rw [pf_size, pf_size] | rw [pf_size] | kernel_rfl) (h1 := (pf_one rfl))
 refine MZ fun W hS => ?_
 go_upto_region 3 with fail
 refine RTh (.q 1 (.q 2 (.b 0 (.b 3 (.q 4 (.q 5 (.q 6 (.q 7 (.e 8 (.e 9 (.q 10 (.q 11 .z)))))))) 8 (.e 3 (.q 4 (.q 5 (.q 6 (.q 7 (.e 9 (.q 10 (.q 11 .z))))))))) 8 (.e 0 (.e 3 (.q 4 (.q 5 (.q 6 (.q 7 (.e 9 (.q 10 (.q 11 .z)))))))))))) hS ?_
 clear hS
 refine TW ?_ (v := .agg (arrK .u8 32 (byt 5))) (hv := by intro W; kernel_rfl)
 refine TL 0 ?_ (hs := by rw [pf_size]; kernel_rfl)
 refine TB (fun _ h => h) ?_ ?_
 ·
  skip
  obtain ⟨U1, hU1⟩ := exn (sE)
  have HU1 := Lib.hid hU1
  clear hU1
  refine MC (v := .agg (arrK .u8 32 (byt U1))) (fun W hS => (by rw [HU1.out]; exact empty_c W (GT_ext hG hS.ext))) ?_
  refine TNh (fun W hS => hS) ?_
  refine TB (fun _ h => h) ?_ ?_
  ·
   skip
   refine MC (v := .tuple #[.agg (arrK .u8 32 (byt 0)), .bool false, .int .i64 0]) (fun W hS => (by have h_ := check_c (R := U1) (k := 5) (a := 0) (x := 0) (th := false) (ss := []) (by rw [HU1.out]; unfold sE; exact hs_lt4 _) (by decide) (by decide) (Nat.zero_le _) W (GT_ext hG hS.ext) (hS.row (i := 1) rfl).rr; rw [chk_e HU1.out] at h_; exact h_)) ?_
   refine TNh (fun W hS => hS) ?_
   refine TV ?_
   refine TV ?_
   refine TW ?_ (v := .bool false)
   refine TW ?_ (v := .int .i64 0)
   refine TE (fun _ h => h) ?_
   refine MN (z := arrK .u8 32 (byt 0)) (t := 22) ?_
   intro p3_4
   refine TNp [1, 2] [0, 1] ?_
   refine TE (fun _ h => h.pick [1, 2]) ?_
   refine MR 0 ?_ 
   refine TNp [1, 2] [0, 1] ?_
   refine TW ?_ (v := .bool false)
   refine TW ?_ (v := .int .i64 0)
   refine TZ (fun _ h => h.pick [1, 2]) fun W hS => ?_
   go_upto_region 4 with fail
   refine RL hS ?_
   clear hS
   refine MW ?_ (v := .agg (arrK .u8 32 (byt 0))) (hv := by intro W; kernel_rfl)
   refine MW ?_ (v := .agg (arrK .u8 32 (byt 5))) (hv := by intro W; kernel_rfl)
   refine ML 1 ?_ (hs := by rw [pf_size]; kernel_rfl)
   refine MC (v := .tuple #[.agg (arrK .u8 32 (byt 0)), .bool false, .int .i64 17]) (fun W hS => (by have h_ := check_c (R := 0) (k := 5) (a := 0) (x := 0) (th := false) (ss := []) (by decide) (by decide) (by decide) (Nat.zero_le _) W (GT_ext hG hS.ext) (hS.row (i := 2) rfl).rr; rw [chk_z] at h_; exact h_)) ?_
   refine MV ?_
   refine MV ?_
   refine MW ?_ (v := .bool false)
   refine MW ?_ (v := .int .i64 17)
   refine MN (z := arrK .u8 32 (byt 0)) (t := 22) ?_
   intro p6_5
   refine MR 0 ?_ 
   refine MW ?_ (v := .bool false)
   refine MW ?_ (v := .int .i64 17)
   refine MZ fun W hS => ?_
   go_wp2
   exact bodyPost_ret (v := .bool true) (by simp only [results, Tryd.results44]; go_simp) rfl ⟨rfl, hS.ext⟩
  ·
   skip
   refine MN (z := arrK .u8 32 (byt 0)) (t := 22) ?_
   intro p3_6
   refine TNp [1, 2] [0, 1] ?_
   refine TE (fun _ h => h.pick [1, 2]) ?_
   refine MC (v := .tuple #[.agg (arrK .u8 32 (byt 0)), .bool false, .int .i64 0]) (fun W hS => (by have h_ := check_c (R := U1) (k := 5) (a := 0) (x := 0) (th := false) (ss := []) (by rw [HU1.out]; unfold sE; exact hs_lt4 _) (by decide) (by decide) (Nat.zero_le _) W (GT_ext hG hS.ext) (hS.row (i := 2) rfl).rr; rw [chk_e HU1.out] at h_; exact h_)) ?_
   refine TNp [1, 2] [0, 1] ?_
   refine TV ?_
   refine TV ?_
   refine TW ?_ (v := .bool false)
   refine TW ?_ (v := .int .i64 0)
   refine TE (fun _ h => h.pick [1, 2]) ?_
   refine MR 0 ?_ 
   refine TNp [1, 2] [0, 1] ?_
   refine TW ?_ (v := .bool false)
   refine TW ?_ (v := .int .i64 0)
   refine TZ (fun _ h => h.pick [1, 2]) fun W hS => ?_
   go_upto_region 4 with fail
   refine RL hS ?_
   clear hS
   refine MW ?_ (v := .agg (arrK .u8 32 (byt 0))) (hv := by intro W; kernel_rfl)
   refine MW ?_ (v := .agg (arrK .u8 32 (byt 5))) (hv := by intro W; kernel_rfl)
   refine ML 1 ?_ (hs := by rw [pf_size]; kernel_rfl)
   refine MC (v := .tuple #[.agg (arrK .u8 32 (byt 0)), .bool false, .int .i64 17]) (fun W hS => (by have h_ := check_c (R := 0) (k := 5) (a := 0) (x := 0) (th := false) (ss := []) (by decide) (by decide) (by decide) (Nat.zero_le _) W (GT_ext hG hS.ext) (hS.row (i := 2) rfl).rr; rw [chk_z] at h_; exact h_)) ?_
   refine MV ?_
   refine MV ?_
   refine MW ?_ (v := .bool false)
   refine MW ?_ (v := .int .i64 17)
   refine MN (z := arrK .u8 32 (byt 0)) (t := 22) ?_
   intro p6_7
   refine MR 0 ?_ 
   refine MW ?_ (v := .bool false)
   refine MW ?_ (v := .int .i64 17)
   refine MZ fun W hS => ?_
   go_wp2
   exact bodyPost_ret (v := .bool true) (by simp only [results, Tryd.results44]; go_simp) rfl ⟨rfl, hS.ext⟩
 ·
  skip
  refine MN (z := arrK .u8 32 (byt 0)) (t := 22) ?_
  intro p3_8
  refine TNp [1, 2] [0, 1] ?_
  refine TE (fun _ h => h.pick [1, 2]) ?_
  obtain ⟨U1, hU1⟩ := exn (sE)
  have HU1 := Lib.hid hU1
  clear hU1
  refine MC (v := .agg (arrK .u8 32 (byt U1))) (fun W hS => (by rw [HU1.out]; exact empty_c W (GT_ext hG hS.ext))) ?_
  refine TNp [1, 2] [0, 1] ?_
  refine TE (fun _ h => h.pick [1, 2]) ?_
  refine MC (v := .tuple #[.agg (arrK .u8 32 (byt 0)), .bool false, .int .i64 0]) (fun W hS => (by have h_ := check_c (R := U1) (k := 5) (a := 0) (x := 0) (th := false) (ss := []) (by rw [HU1.out]; unfold sE; exact hs_lt4 _) (by decide) (by decide) (Nat.zero_le _) W (GT_ext hG hS.ext) (hS.row (i := 2) rfl).rr; rw [chk_e HU1.out] at h_; exact h_)) ?_
  refine TNp [1, 2] [0, 1] ?_
  refine TV ?_
  refine TV ?_
  refine TW ?_ (v := .bool false)
  refine TW ?_ (v := .int .i64 0)
  refine TE (fun _ h => h.pick [1, 2]) ?_
  refine MR 0 ?_ 
  refine TNp [1, 2] [0, 1] ?_
  refine TW ?_ (v := .bool false)
  refine TW ?_ (v := .int .i64 0)
  refine TZ (fun _ h => h.pick [1, 2]) fun W hS => ?_
  go_upto_region 4 with fail
  refine RL hS ?_
  clear hS
  refine MW ?_ (v := .agg (arrK .u8 32 (byt 0))) (hv := by intro W; kernel_rfl)
  refine MW ?_ (v := .agg (arrK .u8 32 (byt 5))) (hv := by intro W; kernel_rfl)
  refine ML 1 ?_ (hs := by rw [pf_size]; kernel_rfl)
  refine MC (v := .tuple #[.agg (arrK .u8 32 (byt 0)), .bool false, .int .i64 17]) (fun W hS => (by have h_ := check_c (R := 0) (k := 5) (a := 0) (x := 0) (th := false) (ss := []) (by decide) (by decide) (by decide) (Nat.zero_le _) W (GT_ext hG hS.ext) (hS.row (i := 2) rfl).rr; rw [chk_z] at h_; exact h_)) ?_
  refine MV ?_
  refine MV ?_
  refine MW ?_ (v := .bool false)
  refine MW ?_ (v := .int .i64 17)
  refine MN (z := arrK .u8 32 (byt 0)) (t := 22) ?_
  intro p6_9
  refine MR 0 ?_ 
  refine MW ?_ (v := .bool false)
  refine MW ?_ (v := .int .i64 17)
  refine MZ fun W hS => ?_
  go_wp2
  exact bodyPost_ret (v := .bool true) (by simp only [results, Tryd.results44]; go_simp) rfl ⟨rfl, hS.ext⟩
end Go.Proofs.YtndnlbinnhdmbaaDoor

set_option linter.unusedSimpArgs false
set_option linter.unusedVariables false
namespace Go.Proofs.YtndnlbinnhdmbaaDoor
open Go.RowKit
attribute [local irreducible] wpList wpTr wpX
/-- the ways through a region meet again behind it -/
theorem RJ {P : Program} {ops : Array Oper} {id : Nat} {a : Act} {w : World} {Q : Exit → Act → World → Prop} {R : Act → World → Prop} (h : (Code.region id ops true).wp P (Nml R) a w) (hk : ∀ a' w', R a' w' → Q .normal a' w') : (Code.region id ops true).wp P Q a w :=
  Code.wp_mono (fun e a' w' h' => by cases e <;> first | exact hk _ _ h' | exact (h' : False).elim) h
section
variable {ops : Array Oper} {Q : Exit → Act → World → Prop} {F : List Nat} {w : World} {H H' : List As} {r : List Oper} {o : Oper} {a a' : Act}
theorem flat_set {k q : Nat} {u : Value} : ∀ {es : List (List Value)} {j : Nat} {e : List Value}, (∀ e ∈ es, e.length = k) → es[j]? = some e → q < k → es.flatten.set (j * k + q) u = (es.set j (e.set q u)).flatten
  | [], j, e, _, h, _ => by simp at h
  | f :: es, 0, e, hk, h, hq => by
    obtain rfl : f = e := by simpa using h
    rw [List.flatten_cons, Nat.zero_mul, Nat.zero_add, List.set_append_left _ _ (by rw [hk f (by simp)]; exact hq), List.set_cons_zero, List.flatten_cons]
  | f :: es, j + 1, e, hk, h, hq => by
    have hf := hk f (by simp)
    have h' : es[j]? = some e := by simpa using h
    rw [List.flatten_cons, List.set_append_right _ _ (by rw [hf, Nat.add_mul, Nat.one_mul]; omega), hf, show (j + 1) * k + q - k = j * k + q by rw [Nat.add_mul, Nat.one_mul]; omega, flat_set (fun e he => hk e (by simp [he])) h' hq, List.set_cons_succ, List.flatten_cons]
theorem wpL_putR {ty t : TypeId} {x y : Operand} {g j q k n c : Nat} {v u : Value} {es : List (List Value)} {e : List Value} (hu : u.cells = #[u] ∧ u.oneCell' = true) (hR : Row t k w v es) (hv : v = .slice (some ⟨g, 0, none⟩) n c) (hj : es[j]? = some e) (hq : q < k) (hw : Region.wanted o (yielded ops a.tmps) = true)
    (ho : o.op = .store ty x y) (hx : a.eval x = .pointer (some ⟨g, j * k + q, none⟩)) (hy : a.eval y = u) (hi : (Tryd.prog.info? ty).map (·.size) = some 1)
    (h : ∀ W, Row t k W v (es.set j (e.set q u)) → Off v.ownBlock.toList w W → wpList Tryd.prog ops Q r (a.put o.dst undef) W) : wpList Tryd.prog ops Q (o :: r) a w := by
  have hlt := (List.getElem?_eq_some_iff.1 hj).1
  have hek := hR.2 e (List.mem_of_getElem? hj)
  have hlen : j * k + q < es.length * k := by
    have : (j + 1) * k ≤ es.length * k := Nat.mul_le_mul_right k hlt
    rw [Nat.add_mul] at this; omega
  rcases hR.1.2 with ⟨h1, hn⟩ | ⟨g', cap, cur, h1, hb, hh, hc, hm, hs, ht⟩
  · omega
  · have e1 := h1.symm.trans hv
    injection e1 with e1
    injection e1 with e1
    injection e1 with e1
    subst e1
    have hcap : es.length * k ≤ cur.size := by rw [hs]; exact Nat.mul_le_mul_right k hc
    refine wpL_put1 hu hw ho hx hy (show Blk w g' cur t from hh) (by omega) hi fun W hO hB => h W ⟨⟨?_, .inr ⟨g', cap, cur.setIfInBounds (j * k + q) u, by rw [h1, List.length_set], hb, hB, by rw [List.length_set]; exact hc, hm, by rw [Array.size_setIfInBounds]; exact hs, ?_⟩⟩, fun f hf => ?_⟩ (by rw [h1]; exact hO)
    · rw [← flat_set hR.2 hj hq, List.length_set, List.length_set]; exact hR.1.1
    · rw [Array.toList_setIfInBounds, List.length_set, List.take_set, ht, flat_set hR.2 hj hq]
    · rcases List.mem_or_eq_of_mem_set hf with hf | rfl
      · exact hR.2 f hf
      · rw [List.length_set]; exact hek
/-- a store of one cell in element j of row i -/
theorem MPe (i : Nat) {ty t : TypeId} {x y : Operand} {g j q k n c : Nat} {v u : Value} {es : List (List Value)} {e : List Value} (hj : es[j]? = some e) (hv : v = .slice (some ⟨g, 0, none⟩) n c) (hq : q < k) (h : wpM Tryd.prog ops (.L Q) F w H' r a') (hi : H[i]? = some (.r t k v es) := by exact rfl) (hu : u.cells = #[u] ∧ u.oneCell' = true := by exact ⟨rfl, rfl⟩) (hw : Region.wanted o (yielded ops a.tmps) = true := by exact rfl)
    (ho : o.op = .store ty x y := by exact rfl) (hx : a.eval x = .pointer (some ⟨g, j * k + q, none⟩) := by exact rfl) (hy : a.eval y = u := by exact rfl) (hz : (Tryd.prog.info? ty).map (·.size) = some 1 := by kernel_rfl)
    (hH : H.set i (.r t k v (es.set j (e.set q u))) = H' := by dsimp only [sB, sC]; first | done | exact rfl) (hp : a.put o.dst undef = a' := by first | exact pl (by dsimp only [mB, mC]; first | done | exact rfl) | exact pn | exact rfl) : wpM Tryd.prog ops (.L Q) F w H (o :: r) a := by
  subst hp hH
  intro W hS
  exact wpL_putR hu (hS.row hi) hv hj hq hw ho hx hy hz fun W' h1 h2 => h W' (hS.setr hi h2 h1 (fun z hz _ => by rw [hz]; simp))
end
end Go.Proofs.YtndnlbinnhdmbaaDoor

set_option linter.unusedSimpArgs false
set_option linter.unusedVariables false
namespace Go.Proofs.YtndnlbinnhdmbaaDoor
set_option maxHeartbeats 3000000
set_option maxRecDepth 100000
open Go.RowKit
attribute [local irreducible] wpList wpTr wpX
set_option linter.unusedSimpArgs false
theorem end_bd {L : List Lf} {k : Nat} (h : ok256 L) : (endR (wayE (ofT L) k 0)).1 < 2 ^ 256 ∧ (endR (wayE (ofT L) k 0)).2.1 < 2 ^ 256 := by
 rcases wayE_or (ofT L) k 0 with e | ⟨a, x, e⟩
 ·
  rw [e]; exact ⟨by decide, by decide⟩
 ·
  have e2 := e
  rw [ofT_can h] at e2
  obtain ⟨h1, h2⟩ := rlist_spec h
  rw [e]
  exact h1 _ (under_can 256 0 rfl h2 (pre_0 _) e2).1
theorem rs_lt (T : TR) : rs T < 2 ^ 256 := by
 cases T with
 | nil => exact hs_lt4 _
 | leaf a x => exact hs_lt4 _
 | node e l r => exact hs_lt4 _
attribute [local irreducible] hs4 sE sL sN lb

end Go.Proofs.YtndnlbinnhdmbaaDoor

set_option linter.unusedSimpArgs false
set_option linter.unusedVariables false
namespace Go.Proofs.YtndnlbinnhdmbaaDoor
set_option maxHeartbeats 3000000
set_option maxRecDepth 100000
open Go.RowKit
attribute [local irreducible] wpList wpTr wpX
set_option linter.unusedSimpArgs false
attribute [local irreducible] hs4 sE sL sN lb tA

end Go.Proofs.YtndnlbinnhdmbaaDoor

/- wire: the document's bytes of a request; the law's tame and to. Conditions: memory holds what is written. -/
import Derived.Test.YtlbgelbhhibikaaWb
import Derived.Test.YtlbgelbhhibikaaMi
set_option linter.unusedSimpArgs false
set_option linter.unusedVariables false
namespace Go.Proofs.Ytlbgelbhhibikaa.Ww
set_option maxHeartbeats 1500000
set_option maxRecDepth 100000
open Go.RowKit
attribute [local irreducible] wpList wpTr wpX
set_option linter.unusedSimpArgs false
/-- a text of at most so many bytes, by the document -/
def dtx (most : Int) (t : List UInt8) : List UInt8 := if most < (t.length : Int) then [] else tB t
def dok (most : Int) (t : List UInt8) : Bool := !decide (most < (t.length : Int))
theorem dtx_le {most : Int} {m : Nat} {t : List UInt8} (h : most = (m : Int)) : (dtx most t).length ≤ 2 + m := by
 subst h
 unfold dtx
 split
 ·
  exact Nat.zero_le _
 ·
  rw [tB_len]; omega
theorem eight_i (n : Int) (w : World) : Calls Try.prog 33 #[.int .i64 n] w fun e w' => Ret (str (eI n)) w w' e :=
 eight_c n _ (by rw [Int.toNat_of_nonneg (Int.emod_nonneg _ (by decide))]) w
theorem one_i (n : Int) (hn : 0 ≤ n) (w : World) : Calls Try.prog 31 #[.int .i64 n] w fun e w' => Ret (str [u8 n.toNat]) w w' e := by
 have h := one_c n.toNat w
 rw [Int.toNat_of_nonneg hn] at h
 exact h
theorem tx_i (m : List UInt8) (hm : m.length ≤ 140737488350000) (w : World) : Calls Try.prog 43 #[str m] w fun e w' => Ret (str (tB m)) w w' e := by
 have h := rtext_c m (by omega) w
 rw [show [u8 (m.length / 256)] ++ [u8 m.length] ++ m = tB m from by unfold tB; rfl] at h
 exact h
/-- the document's request -/
abbrev rrF (q : Rq) (vr bi : List UInt8) : Array Value := agF [.c (.int .i64 q.k), .c (str q.id), .c (str vr), .c (str bi), .c (.int .i64 q.l0), .c (.int .i64 q.l1), .c (.int .i64 q.l2), .c (.int .i64 q.per), .c (str q.lab), .c (str q.val), .c (.int .i64 q.fr), .c (.int .i64 q.ti), .c (str q.bun)]
def daskL (q : Rq) : List UInt8 :=
 if q.k = 1 then [u8 q.k.toNat] ++ dtx 16 q.id ++ lb 32 q.vrf ++ lb 32 q.bind ++ eI q.l0 ++ eI q.l1 ++ eI q.l2 ++ eI q.per
 else if q.k = 5 then [u8 q.k.toNat] ++ dtx 16 q.id ++ dtx 32 q.lab ++ dtx 64 q.val
 else if q.k = 6 then [u8 q.k.toNat] ++ dtx 16 q.id ++ dtx 32 q.lab ++ eI q.fr
 else if q.k = 7 then [u8 q.k.toNat] ++ dtx 16 q.id ++ dtx 32 q.lab
 else if q.k = 8 then [u8 q.k.toNat] ++ dtx 16 q.id ++ eI q.fr ++ eI q.ti
 else if q.k = 10 then [u8 q.k.toNat] ++ dtx 65535 q.bun
 else if q.k = 12 then [u8 q.k.toNat] ++ eI q.fr ++ eI q.ti
 else [u8 q.k.toNat] ++ dtx 16 q.id
def daskB (q : Rq) : Bool :=
 if q.k = 5 then (dok 16 q.id && dok 32 q.lab) && dok 64 q.val
 else if q.k = 6 ∨ q.k = 7 then dok 16 q.id && dok 32 q.lab
 else if q.k = 10 then dok 65535 q.bun
 else if q.k = 12 then true
 else dok 16 q.id
theorem dok_tx (most : Int) (t : List UInt8) (b : Bool) (l : List UInt8) : (dok most t = !(txB most t false)) ∧ (dok most t = true → txL most t l = l ++ dtx most t ∧ txB most t b = b) ∧ (txB most t b = (!dok most t || b)) := by
 unfold dok txB txL dtx
 by_cases h : most < (t.length : Int)
 ·
  simp [h]
 ·
  simp [h]
/-- the document and the program write the same -/
theorem dask_eq (q : Rq) : daskB q = !askB q ∧ (askB q = false → daskL q = askL q) := by
 have hB : ∀ m t, txB m t false = !dok m t := fun m t => by rw [(dok_tx m t false []).2.2, Bool.or_false]
 have hB2 : ∀ m t b, txB m t b = (!dok m t || b) := fun m t b => (dok_tx m t b []).2.2
 have hL : ∀ m t l, dok m t = true → txL m t l = l ++ dtx m t := fun m t l h => ((dok_tx m t false l).2.1 h).1
 unfold daskB askB daskL askL tnL
 by_cases h1 : q.k = 1
 ·
  rw [h1]
  simp only [hB]
  refine ⟨by simp, fun h => ?_⟩
  have h' : dok 16 q.id = true := by simpa using h
  simp [hL _ _ _ h']
 by_cases h5 : q.k = 5
 ·
  simp only [if_pos h5, if_neg h1, hB2]
  refine ⟨by cases dok 16 q.id <;> cases dok 32 q.lab <;> cases dok 64 q.val <;> rfl, fun h => ?_⟩
  have h' : dok 16 q.id = true ∧ dok 32 q.lab = true ∧ dok 64 q.val = true := by revert h; cases dok 16 q.id <;> cases dok 32 q.lab <;> cases dok 64 q.val <;> simp
  rw [hL _ _ _ h'.1, hL _ _ _ h'.2.1, hL _ _ _ h'.2.2]
 by_cases h6 : q.k = 6
 ·
  simp only [if_neg h5, if_neg h1, if_pos h6, if_pos (Or.inl h6 : q.k = 6 ∨ q.k = 7), hB2]
  refine ⟨by cases dok 16 q.id <;> cases dok 32 q.lab <;> rfl, fun h => ?_⟩
  have h' : dok 16 q.id = true ∧ dok 32 q.lab = true := by revert h; cases dok 16 q.id <;> cases dok 32 q.lab <;> simp
  rw [hL _ _ _ h'.1, hL _ _ _ h'.2]
 by_cases h7 : q.k = 7
 ·
  simp only [if_neg h5, if_neg h1, if_neg h6, if_pos h7, if_pos (Or.inr h7 : q.k = 6 ∨ q.k = 7), hB2]
  refine ⟨by cases dok 16 q.id <;> cases dok 32 q.lab <;> rfl, fun h => ?_⟩
  have h' : dok 16 q.id = true ∧ dok 32 q.lab = true := by revert h; cases dok 16 q.id <;> cases dok 32 q.lab <;> simp
  rw [hL _ _ _ h'.1, hL _ _ _ h'.2]
 have h67 : ¬ (q.k = 6 ∨ q.k = 7) := fun h => h.elim h6 h7
 by_cases h8 : q.k = 8
 ·
  simp only [if_neg h5, if_neg h1, if_neg h6, if_neg h7, if_neg h67, if_pos h8, hB2, show ¬ (q.k = 10) by omega, show ¬ (q.k = 12) by omega, if_false]
  refine ⟨by cases dok 16 q.id <;> rfl, fun h => ?_⟩
  have h' : dok 16 q.id = true := by revert h; cases dok 16 q.id <;> simp
  rw [hL _ _ _ h']
 by_cases h10 : q.k = 10
 ·
  simp only [if_neg h5, if_neg h1, if_neg h6, if_neg h7, if_neg h67, if_neg h8, if_pos h10, hB2]
  refine ⟨by cases dok 65535 q.bun <;> rfl, fun h => ?_⟩
  have h' : dok 65535 q.bun = true := by revert h; cases dok 65535 q.bun <;> simp
  rw [hL _ _ _ h']
 by_cases h12 : q.k = 12
 ·
  simp only [if_neg h5, if_neg h1, if_neg h6, if_neg h7, if_neg h67, if_neg h8, if_neg h10, if_pos h12]
  simp
 simp only [if_neg h5, if_neg h1, if_neg h6, if_neg h7, if_neg h67, if_neg h8, if_neg h10, if_neg h12, hB2]
 refine ⟨by cases dok 16 q.id <;> rfl, fun h => ?_⟩
 have h' : dok 16 q.id = true := by revert h; cases dok 16 q.id <;> simp
 rw [hL _ _ _ h']
theorem b2 (a b : Bool) : a = false ∨ (a = true ∧ b = false) ∨ (a = true ∧ b = true) := by cases a <;> cases b <;> simp
attribute [local irreducible] lb be8 eI tB txL txB dtx dok

theorem rtx_c {m : List UInt8} (most : Int) (hm : m.length ≤ 140737488350000) (w : World) :
  Calls Try.prog 32 #[str m, .int .i64 most] w fun e w' => Ret (.tuple #[str (dtx most m), .bool (dok most m)]) w w' e := by
 have hS := SH.nil [] w
 go_enter Try.func32, Try.ntmps32
 by_cases hlt : most < (m.length : Int)
 ·
  have _f := hlt
  go_upto_region 1 with fail
  refine RL hS ?_
  clear hS
  refine MV ?_
  refine MW ?_ (v := .int .i64 (m.length : Int)) (hv := fun _ => run_slen (l := m) rfl rfl)
  refine MV ?_
  refine MW ?_ (v := .bool true) (hv := by intro W; go_simp; first | done | omega)
  refine MZ fun W hS => ?_
  go_wp2
  exact bodyPost_ret (v := .tuple #[str [], .bool false]) (by simp only [results, Try.results32]; first | (go_simp; done) | (go_simp; rfl)) rfl ⟨by unfold dtx dok; rw [if_pos hlt, decide_eq_true hlt]; rfl, hS.ext⟩
 ·
  have _f := hlt
  go_upto_region 1 with fail
  refine RL hS ?_
  clear hS
  refine MV ?_
  refine MW ?_ (v := .int .i64 (m.length : Int)) (hv := fun _ => run_slen (l := m) rfl rfl)
  refine MV ?_
  refine MW ?_ (v := .bool false) (hv := by intro W; go_simp; first | done | omega)
  refine MZ fun W hS => ?_
  go_upto_region 3 with fail
  refine RL hS ?_
  clear hS
  refine MV ?_
  refine MC (v := str (tB m)) (fun W hS => tx_i m (by omega) W) ?_
  refine MV ?_
  refine MW ?_ (v := .bool true)
  refine MZ fun W hS => ?_
  go_wp2
  exact bodyPost_ret (v := .tuple #[str (tB m), .bool true]) (by simp only [results, Try.results32]; first | (go_simp; done) | (go_simp; rfl)) rfl ⟨by unfold dtx dok; rw [if_neg (Int.not_lt.2 hlt), decide_eq_false (Int.not_lt.2 hlt)]; rfl, hS.ext⟩
theorem daskL_1 {q : Rq} (hk : q.k = 1) : daskL q = [u8 (1 : Int).toNat] ++ dtx 16 q.id ++ lb 32 q.vrf ++ lb 32 q.bind ++ eI q.l0 ++ eI q.l1 ++ eI q.l2 ++ eI q.per := by unfold daskL; rw [hk]; rfl
theorem daskB_1 {q : Rq} (hk : q.k = 1) : daskB q = (dok 16 q.id) := by unfold daskB; rw [hk]; rfl
theorem daskL_5 {q : Rq} (hk : q.k = 5) : daskL q = [u8 (5 : Int).toNat] ++ dtx 16 q.id ++ dtx 32 q.lab ++ dtx 64 q.val := by unfold daskL; rw [hk]; rfl
theorem daskB_5 {q : Rq} (hk : q.k = 5) : daskB q = ((dok 16 q.id && dok 32 q.lab) && dok 64 q.val) := by unfold daskB; rw [hk]; rfl
theorem daskL_6 {q : Rq} (hk : q.k = 6) : daskL q = [u8 (6 : Int).toNat] ++ dtx 16 q.id ++ dtx 32 q.lab ++ eI q.fr := by unfold daskL; rw [hk]; rfl
theorem daskB_6 {q : Rq} (hk : q.k = 6) : daskB q = (dok 16 q.id && dok 32 q.lab) := by unfold daskB; rw [hk]; rfl
theorem daskL_7 {q : Rq} (hk : q.k = 7) : daskL q = [u8 (7 : Int).toNat] ++ dtx 16 q.id ++ dtx 32 q.lab := by unfold daskL; rw [hk]; rfl
theorem daskB_7 {q : Rq} (hk : q.k = 7) : daskB q = (dok 16 q.id && dok 32 q.lab) := by unfold daskB; rw [hk]; rfl
theorem daskL_8 {q : Rq} (hk : q.k = 8) : daskL q = [u8 (8 : Int).toNat] ++ dtx 16 q.id ++ eI q.fr ++ eI q.ti := by unfold daskL; rw [hk]; rfl
theorem daskB_8 {q : Rq} (hk : q.k = 8) : daskB q = (dok 16 q.id) := by unfold daskB; rw [hk]; rfl
theorem daskL_10 {q : Rq} (hk : q.k = 10) : daskL q = [u8 (10 : Int).toNat] ++ dtx 65535 q.bun := by unfold daskL; rw [hk]; rfl
theorem daskB_10 {q : Rq} (hk : q.k = 10) : daskB q = (dok 65535 q.bun) := by unfold daskB; rw [hk]; rfl
theorem daskL_12 {q : Rq} (hk : q.k = 12) : daskL q = [u8 (12 : Int).toNat] ++ eI q.fr ++ eI q.ti := by unfold daskL; rw [hk]; rfl
theorem daskB_12 {q : Rq} (hk : q.k = 12) : daskB q = (true) := by unfold daskB; rw [hk]; rfl
theorem daskL_o {q : Rq} (hk : q.k ≠ 1 ∧ q.k ≠ 5 ∧ q.k ≠ 6 ∧ q.k ≠ 7 ∧ q.k ≠ 8 ∧ q.k ≠ 10 ∧ q.k ≠ 12) : daskL q = [u8 q.k.toNat] ++ dtx 16 q.id := by unfold daskL; simp only [hk.1, hk.2.1, hk.2.2.1, hk.2.2.2.1, hk.2.2.2.2.1, hk.2.2.2.2.2.1, hk.2.2.2.2.2.2, if_false, false_or, or_false, or_self]
theorem daskB_o {q : Rq} (hk : q.k ≠ 1 ∧ q.k ≠ 5 ∧ q.k ≠ 6 ∧ q.k ≠ 7 ∧ q.k ≠ 8 ∧ q.k ≠ 10 ∧ q.k ≠ 12) : daskB q = (dok 16 q.id) := by unfold daskB; simp only [hk.1, hk.2.1, hk.2.2.1, hk.2.2.2.1, hk.2.2.2.2.1, hk.2.2.2.2.2.1, hk.2.2.2.2.2.2, if_false, false_or, or_false, or_self]
theorem dask_1 {q : Rq} (hk : q.k = 1) (hq : q.id.length ≤ 1000000 ∧ q.lab.length ≤ 1000000 ∧ q.val.length ≤ 1000000 ∧ q.bun.length ≤ 1000000) (w : World) :
  Calls Try.prog 11 #[.agg (rrF q (lb 32 q.vrf) (lb 32 q.bind))] w fun e w' => Ret (.tuple #[str (daskL q), .bool (daskB q)]) w w' e := by
 have hd1 := dtx_le (most := 16) (m := 16) (t := q.id) rfl
 have hd2 := dtx_le (most := 32) (m := 32) (t := q.lab) rfl
 have hd3 := dtx_le (most := 64) (m := 64) (t := q.val) rfl
 have hd4 := dtx_le (most := 65535) (m := 65535) (t := q.bun) rfl
 have Hk := Lib.hid hk
 have hk1 : q.k ≤ 1 := by omega
 have hk2 : 1 ≤ q.k := by omega
 clear hk
 have hS := SH.nil [] w
 go_enter Try.func11, Try.ntmps11
 go_upto_region 0 with fail
 refine RL hS ?_
 clear hS
 refine MN (z := agF [.c (.int .i64 q.k), .c (str q.id), .c (str (lb 32 q.vrf)), .c (str (lb 32 q.bind)), .c (.int .i64 q.l0), .c (.int .i64 q.l1), .c (.int .i64 q.l2), .c (.int .i64 q.per), .c (str q.lab), .c (str q.val), .c (.int .i64 q.fr), .c (.int .i64 q.ti), .c (str q.bun)]) (t := 24) ?_
 intro p1_1
 refine MV ?_
 refine MW ?_ (v := .bool false)
 refine MZ fun W hS => ?_
 go_upto_region 1 with fail
 refine RL hS ?_
 clear hS
 refine MV ?_
 refine MG 0 ?_ (v := .int .i64 q.k) (hj := (agF_cel 0))
 refine MW ?_ (v := .bool false) (hv := by intro W; go_simp; first | done | omega)
 refine MW ?_ (v := .bool false)
 refine MV ?_
 refine MG 0 ?_ (v := .int .i64 q.k) (hj := (agF_cel 0))
 refine MW ?_ (v := .bool false) (hv := by intro W; go_simp; first | done | omega)
 refine MW ?_ (v := .bool false)
 refine MZ fun W hS => ?_
 go_upto_region 3 with fail
 refine RL hS ?_
 clear hS
 refine MV ?_
 refine MG 0 ?_ (v := .int .i64 q.k) (hj := (agF_cel 0))
 refine MC (v := str [u8 q.k.toNat]) (fun W hS => one_i q.k (by omega) W) ?_
 refine MV ?_
 refine MZ fun W hS => ?_
 go_upto_region 4 with fail
 refine RL hS ?_
 clear hS
 refine MV ?_
 refine MG 0 ?_ (v := str q.id) (hj := (agF_cel 1))
 refine MC (v := .tuple #[str (dtx 16 q.id), .bool (dok 16 q.id)]) (fun W hS => rtx_c 16 (by omega) W) ?_
 refine MV ?_
 refine MV ?_
 refine MW ?_ (v := .bool (dok 16 q.id))
 refine MV ?_
 refine MW ?_ (v := .bool (dok 16 q.id))
 refine MZ fun W hS => ?_
 go_upto_region 5 with fail
 refine RL hS ?_
 clear hS
 refine MV ?_
 refine MG 0 ?_ (v := str q.lab) (hj := (agF_cel 8))
 refine MC (v := .tuple #[str (dtx 32 q.lab), .bool (dok 32 q.lab)]) (fun W hS => rtx_c 32 (by omega) W) ?_
 refine MV ?_
 refine MV ?_
 refine MW ?_ (v := .bool (dok 32 q.lab))
 refine MV ?_
 refine MW ?_ (v := .bool (dok 32 q.lab))
 refine MZ fun W hS => ?_
 go_upto_region 6 with fail
 refine RL hS ?_
 clear hS
 refine MV ?_
 refine MG 0 ?_ (v := str q.val) (hj := (agF_cel 9))
 refine MC (v := .tuple #[str (dtx 64 q.val), .bool (dok 64 q.val)]) (fun W hS => rtx_c 64 (by omega) W) ?_
 refine MV ?_
 refine MV ?_
 refine MW ?_ (v := .bool (dok 64 q.val))
 refine MV ?_
 refine MW ?_ (v := .bool (dok 64 q.val))
 refine MZ fun W hS => ?_
 go_upto_region 7 with fail
 refine RL hS ?_
 clear hS
 refine MV ?_
 refine MG 0 ?_ (v := str q.bun) (hj := (agF_cel 12))
 refine MC (v := .tuple #[str (dtx 65535 q.bun), .bool (dok 65535 q.bun)]) (fun W hS => rtx_c 65535 (by omega) W) ?_
 refine MV ?_
 refine MV ?_
 refine MW ?_ (v := .bool (dok 65535 q.bun))
 refine MV ?_
 refine MW ?_ (v := .bool (dok 65535 q.bun))
 refine MZ fun W hS => ?_
 go_upto_region 8 with fail
 refine RL hS ?_
 clear hS
 refine MV ?_
 refine MG 0 ?_ (v := .int .i64 q.k) (hj := (agF_cel 0))
 refine MZ fun W hS => ?_
 go_upto_region 9 with fail
 refine RL hS ?_
 clear hS
 refine MW ?_ (v := .bool true) (hv := by intro W; go_simp; first | done | omega | decide)
 refine MW ?_ (v := .bool true)
 refine MZ fun W hS => ?_
 go_upto_region 10 with fail
 refine RTh (.q 0 (.q 1 (.q 2 (.q 3 (.q 4 (.q 5 (.q 6 (.q 7 (.q 8 (.q 9 (.q 10 (.q 11 (.q 14 (.q 15 (.q 16 (.q 19 (.q 20 (.q 21 (.q 24 (.q 25 (.e 12 (.q 13 (.e 17 (.q 18 (.e 22 (.q 23 (.e 26 (.q 27 (.q 28 .z))))))))))))))))))))))))))))) hS ?_
 clear hS
 refine TV ?_
 refine TV ?_
 refine TW ?_ (v := str ([u8 q.k.toNat] ++ (dtx 16 q.id))) (hv := fun _ => run_cat (l := [u8 q.k.toNat]) (m := (dtx 16 q.id)) rfl rfl rfl (by first | omega | decide | (simp only [List.length_append, List.length_cons, List.length_nil, List.length_take, lb_length, eI_len]; omega)))
 refine TV ?_
 refine TG 0 ?_ (v := str (lb 32 q.vrf)) (hj := (agF_cel 2))
 refine TW ?_ (v := str (([u8 q.k.toNat] ++ (dtx 16 q.id)) ++ (lb 32 q.vrf))) (hv := fun _ => run_cat (l := ([u8 q.k.toNat] ++ (dtx 16 q.id))) (m := (lb 32 q.vrf)) rfl rfl rfl (by first | omega | decide | (simp only [List.length_append, List.length_cons, List.length_nil, List.length_take, lb_length, eI_len]; omega)))
 refine TV ?_
 refine TG 0 ?_ (v := str (lb 32 q.bind)) (hj := (agF_cel 3))
 refine TW ?_ (v := str ((([u8 q.k.toNat] ++ (dtx 16 q.id)) ++ (lb 32 q.vrf)) ++ (lb 32 q.bind))) (hv := fun _ => run_cat (l := (([u8 q.k.toNat] ++ (dtx 16 q.id)) ++ (lb 32 q.vrf))) (m := (lb 32 q.bind)) rfl rfl rfl (by first | omega | decide | (simp only [List.length_append, List.length_cons, List.length_nil, List.length_take, lb_length, eI_len]; omega)))
 refine TV ?_
 refine TW ?_ (v := .pointer (some ⟨p1_1, 4, none⟩)) (hv := fun _ => run_ixarrn (m := 3) (k := 1) (j := 0) (off := 4) (by decide) Try.underlying22 (by kernel_rfl) rfl rfl rfl)
 refine TG 0 ?_ (v := .int .i64 q.l0) (hj := (agF_cel 4))
 refine TV ?_
 refine TW ?_ (v := .pointer (some ⟨p1_1, 5, none⟩)) (hv := fun _ => run_ixarrn (m := 3) (k := 1) (j := 1) (off := 4) (by decide) Try.underlying22 (by kernel_rfl) rfl rfl rfl)
 refine TG 0 ?_ (v := .int .i64 q.l1) (hj := (agF_cel 5))
 refine TV ?_
 refine TW ?_ (v := .pointer (some ⟨p1_1, 6, none⟩)) (hv := fun _ => run_ixarrn (m := 3) (k := 1) (j := 2) (off := 4) (by decide) Try.underlying22 (by kernel_rfl) rfl rfl rfl)
 refine TG 0 ?_ (v := .int .i64 q.l2) (hj := (agF_cel 6))
 refine TV ?_
 refine TG 0 ?_ (v := .int .i64 q.per) (hj := (agF_cel 7))
 refine TE (fun _ h => h) ?_
 refine MC (v := str (eI q.l0)) (fun W hS => eight_i q.l0 W) ?_
 refine TNh (fun W hS => hS) ?_
 refine TW ?_ (v := str (((([u8 q.k.toNat] ++ (dtx 16 q.id)) ++ (lb 32 q.vrf)) ++ (lb 32 q.bind)) ++ (eI q.l0))) (hv := fun _ => run_cat (l := ((([u8 q.k.toNat] ++ (dtx 16 q.id)) ++ (lb 32 q.vrf)) ++ (lb 32 q.bind))) (m := (eI q.l0)) rfl rfl rfl (by first | omega | decide | (simp only [List.length_append, List.length_cons, List.length_nil, List.length_take, lb_length, eI_len]; omega)))
 refine TE (fun _ h => h) ?_
 refine MC (v := str (eI q.l1)) (fun W hS => eight_i q.l1 W) ?_
 refine TNh (fun W hS => hS) ?_
 refine TW ?_ (v := str ((((([u8 q.k.toNat] ++ (dtx 16 q.id)) ++ (lb 32 q.vrf)) ++ (lb 32 q.bind)) ++ (eI q.l0)) ++ (eI q.l1))) (hv := fun _ => run_cat (l := (((([u8 q.k.toNat] ++ (dtx 16 q.id)) ++ (lb 32 q.vrf)) ++ (lb 32 q.bind)) ++ (eI q.l0))) (m := (eI q.l1)) rfl rfl rfl (by first | omega | decide | (simp only [List.length_append, List.length_cons, List.length_nil, List.length_take, lb_length, eI_len]; omega)))
 refine TE (fun _ h => h) ?_
 refine MC (v := str (eI q.l2)) (fun W hS => eight_i q.l2 W) ?_
 refine TNh (fun W hS => hS) ?_
 refine TW ?_ (v := str (((((([u8 q.k.toNat] ++ (dtx 16 q.id)) ++ (lb 32 q.vrf)) ++ (lb 32 q.bind)) ++ (eI q.l0)) ++ (eI q.l1)) ++ (eI q.l2))) (hv := fun _ => run_cat (l := ((((([u8 q.k.toNat] ++ (dtx 16 q.id)) ++ (lb 32 q.vrf)) ++ (lb 32 q.bind)) ++ (eI q.l0)) ++ (eI q.l1))) (m := (eI q.l2)) rfl rfl rfl (by first | omega | decide | (simp only [List.length_append, List.length_cons, List.length_nil, List.length_take, lb_length, eI_len]; omega)))
 refine TE (fun _ h => h) ?_
 refine MC (v := str (eI q.per)) (fun W hS => eight_i q.per W) ?_
 refine TNh (fun W hS => hS) ?_
 refine TW ?_ (v := str ((((((([u8 q.k.toNat] ++ (dtx 16 q.id)) ++ (lb 32 q.vrf)) ++ (lb 32 q.bind)) ++ (eI q.l0)) ++ (eI q.l1)) ++ (eI q.l2)) ++ (eI q.per))) (hv := fun _ => run_cat (l := (((((([u8 q.k.toNat] ++ (dtx 16 q.id)) ++ (lb 32 q.vrf)) ++ (lb 32 q.bind)) ++ (eI q.l0)) ++ (eI q.l1)) ++ (eI q.l2))) (m := (eI q.per)) rfl rfl rfl (by first | omega | decide | (simp only [List.length_append, List.length_cons, List.length_nil, List.length_take, lb_length, eI_len]; omega)))
 refine TV ?_
 refine TZ (fun _ h => h) fun W hS => ?_
 have hk := Hk.out
 go_wp2
 exact bodyPost_ret (v := .tuple #[str ([u8 q.k.toNat] ++ dtx 16 q.id ++ lb 32 q.vrf ++ lb 32 q.bind ++ eI q.l0 ++ eI q.l1 ++ eI q.l2 ++ eI q.per), .bool (dok 16 q.id)]) (by simp only [results, Try.results11]; clear hk; go_simp) rfl ⟨by rw [daskL_1 hk, daskB_1 hk]; rw [hk], hS.ext⟩
theorem dask_5 {q : Rq} (hk : q.k = 5) (hq : q.id.length ≤ 1000000 ∧ q.lab.length ≤ 1000000 ∧ q.val.length ≤ 1000000 ∧ q.bun.length ≤ 1000000) (w : World) :
  Calls Try.prog 11 #[.agg (rrF q (lb 32 q.vrf) (lb 32 q.bind))] w fun e w' => Ret (.tuple #[str (daskL q), .bool (daskB q)]) w w' e := by
 have hd1 := dtx_le (most := 16) (m := 16) (t := q.id) rfl
 have hd2 := dtx_le (most := 32) (m := 32) (t := q.lab) rfl
 have hd3 := dtx_le (most := 64) (m := 64) (t := q.val) rfl
 have hd4 := dtx_le (most := 65535) (m := 65535) (t := q.bun) rfl
 have Hk := Lib.hid hk
 have hk1 : q.k ≤ 5 := by omega
 have hk2 : 5 ≤ q.k := by omega
 clear hk
 have hS := SH.nil [] w
 go_enter Try.func11, Try.ntmps11
 go_upto_region 0 with fail
 refine RL hS ?_
 clear hS
 refine MN (z := agF [.c (.int .i64 q.k), .c (str q.id), .c (str (lb 32 q.vrf)), .c (str (lb 32 q.bind)), .c (.int .i64 q.l0), .c (.int .i64 q.l1), .c (.int .i64 q.l2), .c (.int .i64 q.per), .c (str q.lab), .c (str q.val), .c (.int .i64 q.fr), .c (.int .i64 q.ti), .c (str q.bun)]) (t := 24) ?_
 intro p1_1
 refine MV ?_
 refine MW ?_ (v := .bool false)
 refine MZ fun W hS => ?_
 go_upto_region 1 with fail
 refine RL hS ?_
 clear hS
 refine MV ?_
 refine MG 0 ?_ (v := .int .i64 q.k) (hj := (agF_cel 0))
 refine MW ?_ (v := .bool false) (hv := by intro W; go_simp; first | done | omega)
 refine MW ?_ (v := .bool false)
 refine MV ?_
 refine MG 0 ?_ (v := .int .i64 q.k) (hj := (agF_cel 0))
 refine MW ?_ (v := .bool false) (hv := by intro W; go_simp; first | done | omega)
 refine MW ?_ (v := .bool false)
 refine MZ fun W hS => ?_
 go_upto_region 3 with fail
 refine RL hS ?_
 clear hS
 refine MV ?_
 refine MG 0 ?_ (v := .int .i64 q.k) (hj := (agF_cel 0))
 refine MC (v := str [u8 q.k.toNat]) (fun W hS => one_i q.k (by omega) W) ?_
 refine MV ?_
 refine MZ fun W hS => ?_
 go_upto_region 4 with fail
 refine RL hS ?_
 clear hS
 refine MV ?_
 refine MG 0 ?_ (v := str q.id) (hj := (agF_cel 1))
 refine MC (v := .tuple #[str (dtx 16 q.id), .bool (dok 16 q.id)]) (fun W hS => rtx_c 16 (by omega) W) ?_
 refine MV ?_
 refine MV ?_
 refine MW ?_ (v := .bool (dok 16 q.id))
 refine MV ?_
 refine MW ?_ (v := .bool (dok 16 q.id))
 refine MZ fun W hS => ?_
 go_upto_region 5 with fail
 refine RL hS ?_
 clear hS
 refine MV ?_
 refine MG 0 ?_ (v := str q.lab) (hj := (agF_cel 8))
 refine MC (v := .tuple #[str (dtx 32 q.lab), .bool (dok 32 q.lab)]) (fun W hS => rtx_c 32 (by omega) W) ?_
 refine MV ?_
 refine MV ?_
 refine MW ?_ (v := .bool (dok 32 q.lab))
 refine MV ?_
 refine MW ?_ (v := .bool (dok 32 q.lab))
 refine MZ fun W hS => ?_
 go_upto_region 6 with fail
 refine RL hS ?_
 clear hS
 refine MV ?_
 refine MG 0 ?_ (v := str q.val) (hj := (agF_cel 9))
 refine MC (v := .tuple #[str (dtx 64 q.val), .bool (dok 64 q.val)]) (fun W hS => rtx_c 64 (by omega) W) ?_
 refine MV ?_
 refine MV ?_
 refine MW ?_ (v := .bool (dok 64 q.val))
 refine MV ?_
 refine MW ?_ (v := .bool (dok 64 q.val))
 refine MZ fun W hS => ?_
 go_upto_region 7 with fail
 refine RL hS ?_
 clear hS
 refine MV ?_
 refine MG 0 ?_ (v := str q.bun) (hj := (agF_cel 12))
 refine MC (v := .tuple #[str (dtx 65535 q.bun), .bool (dok 65535 q.bun)]) (fun W hS => rtx_c 65535 (by omega) W) ?_
 refine MV ?_
 refine MV ?_
 refine MW ?_ (v := .bool (dok 65535 q.bun))
 refine MV ?_
 refine MW ?_ (v := .bool (dok 65535 q.bun))
 refine MZ fun W hS => ?_
 go_upto_region 8 with fail
 refine RL hS ?_
 clear hS
 refine MV ?_
 refine MG 0 ?_ (v := .int .i64 q.k) (hj := (agF_cel 0))
 refine MZ fun W hS => ?_
 go_upto_region 9 with fail
 refine RL hS ?_
 clear hS
 refine MW ?_ (v := .bool false) (hv := by intro W; go_simp; first | done | omega | decide)
 refine MW ?_ (v := .bool false)
 refine MZ fun W hS => ?_
 go_upto_region 12 with fail
 refine RL hS ?_
 clear hS
 refine MW ?_ (v := .bool true) (hv := by intro W; go_simp; first | done | omega | decide)
 refine MW ?_ (v := .bool true)
 refine MZ fun W hS => ?_
 rcases b2 (dok 16 q.id) (dok 32 q.lab) with ha | ⟨ha, hb⟩ | ⟨ha, hb⟩
 ·
  have _f := True.intro
  go_upto_region 13 with fail
  refine RL hS ?_
  clear hS
  refine MV ?_
  refine MV ?_
  refine MW ?_ (v := str ([u8 q.k.toNat] ++ (dtx 16 q.id))) (hv := fun _ => run_cat (l := [u8 q.k.toNat]) (m := (dtx 16 q.id)) rfl rfl rfl (by first | omega | decide | (simp only [List.length_append, List.length_cons, List.length_nil, List.length_take, lb_length, eI_len]; omega)))
  refine MV ?_
  refine MW ?_ (v := str (([u8 q.k.toNat] ++ (dtx 16 q.id)) ++ (dtx 32 q.lab))) (hv := fun _ => run_cat (l := ([u8 q.k.toNat] ++ (dtx 16 q.id))) (m := (dtx 32 q.lab)) rfl rfl rfl (by first | omega | decide | (simp only [List.length_append, List.length_cons, List.length_nil, List.length_take, lb_length, eI_len]; omega)))
  refine MV ?_
  refine MW ?_ (v := str ((([u8 q.k.toNat] ++ (dtx 16 q.id)) ++ (dtx 32 q.lab)) ++ (dtx 64 q.val))) (hv := fun _ => run_cat (l := (([u8 q.k.toNat] ++ (dtx 16 q.id)) ++ (dtx 32 q.lab))) (m := (dtx 64 q.val)) rfl rfl rfl (by first | omega | decide | (simp only [List.length_append, List.length_cons, List.length_nil, List.length_take, lb_length, eI_len]; omega)))
  refine MW ?_ (v := .bool (dok 16 q.id))
  refine MW ?_ (v := .bool false) (hv := by intro W; go_simp; first | done | assumption)
  refine MS ?_
  refine MW ?_ (v := .bool false)
  refine MW ?_ (v := .bool false)
  refine MS ?_
  refine MW ?_ (v := .bool false)
  refine MV ?_
  refine MW ?_ (v := .bool false)
  refine MZ fun W hS => ?_
  have hk := Hk.out
  go_wp2
  exact bodyPost_ret (v := .tuple #[str ([u8 q.k.toNat] ++ dtx 16 q.id ++ dtx 32 q.lab ++ dtx 64 q.val), .bool false]) (by simp only [results, Try.results11]; clear hk; go_simp) rfl ⟨by rw [daskL_5 hk, daskB_5 hk, ha, Bool.false_and, Bool.false_and]; rw [hk], hS.ext⟩
 ·
  have _f := True.intro
  go_upto_region 13 with fail
  refine RL hS ?_
  clear hS
  refine MV ?_
  refine MV ?_
  refine MW ?_ (v := str ([u8 q.k.toNat] ++ (dtx 16 q.id))) (hv := fun _ => run_cat (l := [u8 q.k.toNat]) (m := (dtx 16 q.id)) rfl rfl rfl (by first | omega | decide | (simp only [List.length_append, List.length_cons, List.length_nil, List.length_take, lb_length, eI_len]; omega)))
  refine MV ?_
  refine MW ?_ (v := str (([u8 q.k.toNat] ++ (dtx 16 q.id)) ++ (dtx 32 q.lab))) (hv := fun _ => run_cat (l := ([u8 q.k.toNat] ++ (dtx 16 q.id))) (m := (dtx 32 q.lab)) rfl rfl rfl (by first | omega | decide | (simp only [List.length_append, List.length_cons, List.length_nil, List.length_take, lb_length, eI_len]; omega)))
  refine MV ?_
  refine MW ?_ (v := str ((([u8 q.k.toNat] ++ (dtx 16 q.id)) ++ (dtx 32 q.lab)) ++ (dtx 64 q.val))) (hv := fun _ => run_cat (l := (([u8 q.k.toNat] ++ (dtx 16 q.id)) ++ (dtx 32 q.lab))) (m := (dtx 64 q.val)) rfl rfl rfl (by first | omega | decide | (simp only [List.length_append, List.length_cons, List.length_nil, List.length_take, lb_length, eI_len]; omega)))
  refine MW ?_ (v := .bool (dok 16 q.id))
  refine MW ?_ (v := .bool true) (hv := by intro W; go_simp; first | done | assumption)
  refine MW ?_ (v := .bool (dok 32 q.lab))
  refine MW ?_ (v := .bool false) (hv := by intro W; go_simp; first | done | assumption)
  refine MW ?_ (v := .bool false)
  refine MS ?_
  refine MW ?_ (v := .bool false)
  refine MV ?_
  refine MW ?_ (v := .bool false)
  refine MZ fun W hS => ?_
  have hk := Hk.out
  go_wp2
  exact bodyPost_ret (v := .tuple #[str ([u8 q.k.toNat] ++ dtx 16 q.id ++ dtx 32 q.lab ++ dtx 64 q.val), .bool false]) (by simp only [results, Try.results11]; clear hk; go_simp) rfl ⟨by rw [daskL_5 hk, daskB_5 hk, ha, hb, Bool.and_false, Bool.false_and]; rw [hk], hS.ext⟩
 ·
  have _f := True.intro
  go_upto_region 13 with fail
  refine RL hS ?_
  clear hS
  refine MV ?_
  refine MV ?_
  refine MW ?_ (v := str ([u8 q.k.toNat] ++ (dtx 16 q.id))) (hv := fun _ => run_cat (l := [u8 q.k.toNat]) (m := (dtx 16 q.id)) rfl rfl rfl (by first | omega | decide | (simp only [List.length_append, List.length_cons, List.length_nil, List.length_take, lb_length, eI_len]; omega)))
  refine MV ?_
  refine MW ?_ (v := str (([u8 q.k.toNat] ++ (dtx 16 q.id)) ++ (dtx 32 q.lab))) (hv := fun _ => run_cat (l := ([u8 q.k.toNat] ++ (dtx 16 q.id))) (m := (dtx 32 q.lab)) rfl rfl rfl (by first | omega | decide | (simp only [List.length_append, List.length_cons, List.length_nil, List.length_take, lb_length, eI_len]; omega)))
  refine MV ?_
  refine MW ?_ (v := str ((([u8 q.k.toNat] ++ (dtx 16 q.id)) ++ (dtx 32 q.lab)) ++ (dtx 64 q.val))) (hv := fun _ => run_cat (l := (([u8 q.k.toNat] ++ (dtx 16 q.id)) ++ (dtx 32 q.lab))) (m := (dtx 64 q.val)) rfl rfl rfl (by first | omega | decide | (simp only [List.length_append, List.length_cons, List.length_nil, List.length_take, lb_length, eI_len]; omega)))
  refine MW ?_ (v := .bool (dok 16 q.id))
  refine MW ?_ (v := .bool true) (hv := by intro W; go_simp; first | done | assumption)
  refine MW ?_ (v := .bool (dok 32 q.lab))
  refine MW ?_ (v := .bool true) (hv := by intro W; go_simp; first | done | assumption)
  refine MW ?_ (v := .bool true)
  refine MW ?_ (v := .bool (dok 64 q.val))
  refine MW ?_ (v := .bool (dok 64 q.val))
  refine MV ?_
  refine MW ?_ (v := .bool (dok 64 q.val))
  refine MZ fun W hS => ?_
  have hk := Hk.out
  go_wp2
  exact bodyPost_ret (v := .tuple #[str ([u8 q.k.toNat] ++ dtx 16 q.id ++ dtx 32 q.lab ++ dtx 64 q.val), .bool (dok 64 q.val)]) (by simp only [results, Try.results11]; clear hk; go_simp) rfl ⟨by rw [daskL_5 hk, daskB_5 hk, ha, hb, Bool.and_true, Bool.true_and]; rw [hk], hS.ext⟩
theorem dask_6 {q : Rq} (hk : q.k = 6) (hq : q.id.length ≤ 1000000 ∧ q.lab.length ≤ 1000000 ∧ q.val.length ≤ 1000000 ∧ q.bun.length ≤ 1000000) (w : World) :
  Calls Try.prog 11 #[.agg (rrF q (lb 32 q.vrf) (lb 32 q.bind))] w fun e w' => Ret (.tuple #[str (daskL q), .bool (daskB q)]) w w' e := by
 have hd1 := dtx_le (most := 16) (m := 16) (t := q.id) rfl
 have hd2 := dtx_le (most := 32) (m := 32) (t := q.lab) rfl
 have hd3 := dtx_le (most := 64) (m := 64) (t := q.val) rfl
 have hd4 := dtx_le (most := 65535) (m := 65535) (t := q.bun) rfl
 have Hk := Lib.hid hk
 have hk1 : q.k ≤ 6 := by omega
 have hk2 : 6 ≤ q.k := by omega
 clear hk
 have hS := SH.nil [] w
 go_enter Try.func11, Try.ntmps11
 go_upto_region 0 with fail
 refine RL hS ?_
 clear hS
 refine MN (z := agF [.c (.int .i64 q.k), .c (str q.id), .c (str (lb 32 q.vrf)), .c (str (lb 32 q.bind)), .c (.int .i64 q.l0), .c (.int .i64 q.l1), .c (.int .i64 q.l2), .c (.int .i64 q.per), .c (str q.lab), .c (str q.val), .c (.int .i64 q.fr), .c (.int .i64 q.ti), .c (str q.bun)]) (t := 24) ?_
 intro p1_1
 refine MV ?_
 refine MW ?_ (v := .bool false)
 refine MZ fun W hS => ?_
 go_upto_region 1 with fail
 refine RL hS ?_
 clear hS
 refine MV ?_
 refine MG 0 ?_ (v := .int .i64 q.k) (hj := (agF_cel 0))
 refine MW ?_ (v := .bool false) (hv := by intro W; go_simp; first | done | omega)
 refine MW ?_ (v := .bool false)
 refine MV ?_
 refine MG 0 ?_ (v := .int .i64 q.k) (hj := (agF_cel 0))
 refine MW ?_ (v := .bool false) (hv := by intro W; go_simp; first | done | omega)
 refine MW ?_ (v := .bool false)
 refine MZ fun W hS => ?_
 go_upto_region 3 with fail
 refine RL hS ?_
 clear hS
 refine MV ?_
 refine MG 0 ?_ (v := .int .i64 q.k) (hj := (agF_cel 0))
 refine MC (v := str [u8 q.k.toNat]) (fun W hS => one_i q.k (by omega) W) ?_
 refine MV ?_
 refine MZ fun W hS => ?_
 go_upto_region 4 with fail
 refine RL hS ?_
 clear hS
 refine MV ?_
 refine MG 0 ?_ (v := str q.id) (hj := (agF_cel 1))
 refine MC (v := .tuple #[str (dtx 16 q.id), .bool (dok 16 q.id)]) (fun W hS => rtx_c 16 (by omega) W) ?_
 refine MV ?_
 refine MV ?_
 refine MW ?_ (v := .bool (dok 16 q.id))
 refine MV ?_
 refine MW ?_ (v := .bool (dok 16 q.id))
 refine MZ fun W hS => ?_
 go_upto_region 5 with fail
 refine RL hS ?_
 clear hS
 refine MV ?_
 refine MG 0 ?_ (v := str q.lab) (hj := (agF_cel 8))
 refine MC (v := .tuple #[str (dtx 32 q.lab), .bool (dok 32 q.lab)]) (fun W hS => rtx_c 32 (by omega) W) ?_
 refine MV ?_
 refine MV ?_
 refine MW ?_ (v := .bool (dok 32 q.lab))
 refine MV ?_
 refine MW ?_ (v := .bool (dok 32 q.lab))
 refine MZ fun W hS => ?_
 go_upto_region 6 with fail
 refine RL hS ?_
 clear hS
 refine MV ?_
 refine MG 0 ?_ (v := str q.val) (hj := (agF_cel 9))
 refine MC (v := .tuple #[str (dtx 64 q.val), .bool (dok 64 q.val)]) (fun W hS => rtx_c 64 (by omega) W) ?_
 refine MV ?_
 refine MV ?_
 refine MW ?_ (v := .bool (dok 64 q.val))
 refine MV ?_
 refine MW ?_ (v := .bool (dok 64 q.val))
 refine MZ fun W hS => ?_
 go_upto_region 7 with fail
 refine RL hS ?_
 clear hS
 refine MV ?_
 refine MG 0 ?_ (v := str q.bun) (hj := (agF_cel 12))
 refine MC (v := .tuple #[str (dtx 65535 q.bun), .bool (dok 65535 q.bun)]) (fun W hS => rtx_c 65535 (by omega) W) ?_
 refine MV ?_
 refine MV ?_
 refine MW ?_ (v := .bool (dok 65535 q.bun))
 refine MV ?_
 refine MW ?_ (v := .bool (dok 65535 q.bun))
 refine MZ fun W hS => ?_
 go_upto_region 8 with fail
 refine RL hS ?_
 clear hS
 refine MV ?_
 refine MG 0 ?_ (v := .int .i64 q.k) (hj := (agF_cel 0))
 refine MZ fun W hS => ?_
 go_upto_region 9 with fail
 refine RL hS ?_
 clear hS
 refine MW ?_ (v := .bool false) (hv := by intro W; go_simp; first | done | omega | decide)
 refine MW ?_ (v := .bool false)
 refine MZ fun W hS => ?_
 go_upto_region 12 with fail
 refine RL hS ?_
 clear hS
 refine MW ?_ (v := .bool false) (hv := by intro W; go_simp; first | done | omega | decide)
 refine MW ?_ (v := .bool false)
 refine MZ fun W hS => ?_
 go_upto_region 14 with fail
 refine RL hS ?_
 clear hS
 refine MW ?_ (v := .bool true) (hv := by intro W; go_simp; first | done | omega | decide)
 refine MW ?_ (v := .bool true)
 refine MZ fun W hS => ?_
 rcases bool_or (dok 16 q.id) with ha | ha
 ·
  have _f := True.intro
  go_upto_region 15 with fail
  refine RL hS ?_
  clear hS
  refine MV ?_
  refine MV ?_
  refine MW ?_ (v := str ([u8 q.k.toNat] ++ (dtx 16 q.id))) (hv := fun _ => run_cat (l := [u8 q.k.toNat]) (m := (dtx 16 q.id)) rfl rfl rfl (by first | omega | decide | (simp only [List.length_append, List.length_cons, List.length_nil, List.length_take, lb_length, eI_len]; omega)))
  refine MV ?_
  refine MW ?_ (v := str (([u8 q.k.toNat] ++ (dtx 16 q.id)) ++ (dtx 32 q.lab))) (hv := fun _ => run_cat (l := ([u8 q.k.toNat] ++ (dtx 16 q.id))) (m := (dtx 32 q.lab)) rfl rfl rfl (by first | omega | decide | (simp only [List.length_append, List.length_cons, List.length_nil, List.length_take, lb_length, eI_len]; omega)))
  refine MV ?_
  refine MG 0 ?_ (v := .int .i64 q.fr) (hj := (agF_cel 10))
  refine MC (v := str (eI q.fr)) (fun W hS => eight_i q.fr W) ?_
  refine MW ?_ (v := str ((([u8 q.k.toNat] ++ (dtx 16 q.id)) ++ (dtx 32 q.lab)) ++ (eI q.fr))) (hv := fun _ => run_cat (l := (([u8 q.k.toNat] ++ (dtx 16 q.id)) ++ (dtx 32 q.lab))) (m := (eI q.fr)) rfl rfl rfl (by first | omega | decide | (simp only [List.length_append, List.length_cons, List.length_nil, List.length_take, lb_length, eI_len]; omega)))
  refine MW ?_ (v := .bool (dok 16 q.id))
  refine MW ?_ (v := .bool true) (hv := by intro W; go_simp; first | done | assumption)
  refine MW ?_ (v := .bool (dok 32 q.lab))
  refine MW ?_ (v := .bool (dok 32 q.lab))
  refine MV ?_
  refine MW ?_ (v := .bool (dok 32 q.lab))
  refine MZ fun W hS => ?_
  have hk := Hk.out
  go_wp2
  exact bodyPost_ret (v := .tuple #[str ([u8 q.k.toNat] ++ dtx 16 q.id ++ dtx 32 q.lab ++ eI q.fr), .bool (dok 32 q.lab)]) (by simp only [results, Try.results11]; clear hk; go_simp) rfl ⟨by rw [daskL_6 hk, daskB_6 hk, ha, Bool.true_and]; rw [hk], hS.ext⟩
 ·
  have _f := True.intro
  go_upto_region 15 with fail
  refine RL hS ?_
  clear hS
  refine MV ?_
  refine MV ?_
  refine MW ?_ (v := str ([u8 q.k.toNat] ++ (dtx 16 q.id))) (hv := fun _ => run_cat (l := [u8 q.k.toNat]) (m := (dtx 16 q.id)) rfl rfl rfl (by first | omega | decide | (simp only [List.length_append, List.length_cons, List.length_nil, List.length_take, lb_length, eI_len]; omega)))
  refine MV ?_
  refine MW ?_ (v := str (([u8 q.k.toNat] ++ (dtx 16 q.id)) ++ (dtx 32 q.lab))) (hv := fun _ => run_cat (l := ([u8 q.k.toNat] ++ (dtx 16 q.id))) (m := (dtx 32 q.lab)) rfl rfl rfl (by first | omega | decide | (simp only [List.length_append, List.length_cons, List.length_nil, List.length_take, lb_length, eI_len]; omega)))
  refine MV ?_
  refine MG 0 ?_ (v := .int .i64 q.fr) (hj := (agF_cel 10))
  refine MC (v := str (eI q.fr)) (fun W hS => eight_i q.fr W) ?_
  refine MW ?_ (v := str ((([u8 q.k.toNat] ++ (dtx 16 q.id)) ++ (dtx 32 q.lab)) ++ (eI q.fr))) (hv := fun _ => run_cat (l := (([u8 q.k.toNat] ++ (dtx 16 q.id)) ++ (dtx 32 q.lab))) (m := (eI q.fr)) rfl rfl rfl (by first | omega | decide | (simp only [List.length_append, List.length_cons, List.length_nil, List.length_take, lb_length, eI_len]; omega)))
  refine MW ?_ (v := .bool (dok 16 q.id))
  refine MW ?_ (v := .bool false) (hv := by intro W; go_simp; first | done | assumption)
  refine MS ?_
  refine MW ?_ (v := .bool false)
  refine MV ?_
  refine MW ?_ (v := .bool false)
  refine MZ fun W hS => ?_
  have hk := Hk.out
  go_wp2
  exact bodyPost_ret (v := .tuple #[str ([u8 q.k.toNat] ++ dtx 16 q.id ++ dtx 32 q.lab ++ eI q.fr), .bool false]) (by simp only [results, Try.results11]; clear hk; go_simp) rfl ⟨by rw [daskL_6 hk, daskB_6 hk, ha, Bool.false_and]; rw [hk], hS.ext⟩
theorem dask_7 {q : Rq} (hk : q.k = 7) (hq : q.id.length ≤ 1000000 ∧ q.lab.length ≤ 1000000 ∧ q.val.length ≤ 1000000 ∧ q.bun.length ≤ 1000000) (w : World) :
  Calls Try.prog 11 #[.agg (rrF q (lb 32 q.vrf) (lb 32 q.bind))] w fun e w' => Ret (.tuple #[str (daskL q), .bool (daskB q)]) w w' e := by
 have hd1 := dtx_le (most := 16) (m := 16) (t := q.id) rfl
 have hd2 := dtx_le (most := 32) (m := 32) (t := q.lab) rfl
 have hd3 := dtx_le (most := 64) (m := 64) (t := q.val) rfl
 have hd4 := dtx_le (most := 65535) (m := 65535) (t := q.bun) rfl
 have Hk := Lib.hid hk
 have hk1 : q.k ≤ 7 := by omega
 have hk2 : 7 ≤ q.k := by omega
 clear hk
 have hS := SH.nil [] w
 go_enter Try.func11, Try.ntmps11
 go_upto_region 0 with fail
 refine RL hS ?_
 clear hS
 refine MN (z := agF [.c (.int .i64 q.k), .c (str q.id), .c (str (lb 32 q.vrf)), .c (str (lb 32 q.bind)), .c (.int .i64 q.l0), .c (.int .i64 q.l1), .c (.int .i64 q.l2), .c (.int .i64 q.per), .c (str q.lab), .c (str q.val), .c (.int .i64 q.fr), .c (.int .i64 q.ti), .c (str q.bun)]) (t := 24) ?_
 intro p1_1
 refine MV ?_
 refine MW ?_ (v := .bool false)
 refine MZ fun W hS => ?_
 go_upto_region 1 with fail
 refine RL hS ?_
 clear hS
 refine MV ?_
 refine MG 0 ?_ (v := .int .i64 q.k) (hj := (agF_cel 0))
 refine MW ?_ (v := .bool false) (hv := by intro W; go_simp; first | done | omega)
 refine MW ?_ (v := .bool false)
 refine MV ?_
 refine MG 0 ?_ (v := .int .i64 q.k) (hj := (agF_cel 0))
 refine MW ?_ (v := .bool false) (hv := by intro W; go_simp; first | done | omega)
 refine MW ?_ (v := .bool false)
 refine MZ fun W hS => ?_
 go_upto_region 3 with fail
 refine RL hS ?_
 clear hS
 refine MV ?_
 refine MG 0 ?_ (v := .int .i64 q.k) (hj := (agF_cel 0))
 refine MC (v := str [u8 q.k.toNat]) (fun W hS => one_i q.k (by omega) W) ?_
 refine MV ?_
 refine MZ fun W hS => ?_
 go_upto_region 4 with fail
 refine RL hS ?_
 clear hS
 refine MV ?_
 refine MG 0 ?_ (v := str q.id) (hj := (agF_cel 1))
 refine MC (v := .tuple #[str (dtx 16 q.id), .bool (dok 16 q.id)]) (fun W hS => rtx_c 16 (by omega) W) ?_
 refine MV ?_
 refine MV ?_
 refine MW ?_ (v := .bool (dok 16 q.id))
 refine MV ?_
 refine MW ?_ (v := .bool (dok 16 q.id))
 refine MZ fun W hS => ?_
 go_upto_region 5 with fail
 refine RL hS ?_
 clear hS
 refine MV ?_
 refine MG 0 ?_ (v := str q.lab) (hj := (agF_cel 8))
 refine MC (v := .tuple #[str (dtx 32 q.lab), .bool (dok 32 q.lab)]) (fun W hS => rtx_c 32 (by omega) W) ?_
 refine MV ?_
 refine MV ?_
 refine MW ?_ (v := .bool (dok 32 q.lab))
 refine MV ?_
 refine MW ?_ (v := .bool (dok 32 q.lab))
 refine MZ fun W hS => ?_
 go_upto_region 6 with fail
 refine RL hS ?_
 clear hS
 refine MV ?_
 refine MG 0 ?_ (v := str q.val) (hj := (agF_cel 9))
 refine MC (v := .tuple #[str (dtx 64 q.val), .bool (dok 64 q.val)]) (fun W hS => rtx_c 64 (by omega) W) ?_
 refine MV ?_
 refine MV ?_
 refine MW ?_ (v := .bool (dok 64 q.val))
 refine MV ?_
 refine MW ?_ (v := .bool (dok 64 q.val))
 refine MZ fun W hS => ?_
 go_upto_region 7 with fail
 refine RL hS ?_
 clear hS
 refine MV ?_
 refine MG 0 ?_ (v := str q.bun) (hj := (agF_cel 12))
 refine MC (v := .tuple #[str (dtx 65535 q.bun), .bool (dok 65535 q.bun)]) (fun W hS => rtx_c 65535 (by omega) W) ?_
 refine MV ?_
 refine MV ?_
 refine MW ?_ (v := .bool (dok 65535 q.bun))
 refine MV ?_
 refine MW ?_ (v := .bool (dok 65535 q.bun))
 refine MZ fun W hS => ?_
 go_upto_region 8 with fail
 refine RL hS ?_
 clear hS
 refine MV ?_
 refine MG 0 ?_ (v := .int .i64 q.k) (hj := (agF_cel 0))
 refine MZ fun W hS => ?_
 go_upto_region 9 with fail
 refine RL hS ?_
 clear hS
 refine MW ?_ (v := .bool false) (hv := by intro W; go_simp; first | done | omega | decide)
 refine MW ?_ (v := .bool false)
 refine MZ fun W hS => ?_
 go_upto_region 12 with fail
 refine RL hS ?_
 clear hS
 refine MW ?_ (v := .bool false) (hv := by intro W; go_simp; first | done | omega | decide)
 refine MW ?_ (v := .bool false)
 refine MZ fun W hS => ?_
 go_upto_region 14 with fail
 refine RL hS ?_
 clear hS
 refine MW ?_ (v := .bool false) (hv := by intro W; go_simp; first | done | omega | decide)
 refine MW ?_ (v := .bool false)
 refine MZ fun W hS => ?_
 go_upto_region 16 with fail
 refine RL hS ?_
 clear hS
 refine MW ?_ (v := .bool true) (hv := by intro W; go_simp; first | done | omega | decide)
 refine MW ?_ (v := .bool true)
 refine MZ fun W hS => ?_
 rcases bool_or (dok 16 q.id) with ha | ha
 ·
  have _f := True.intro
  go_upto_region 17 with fail
  refine RL hS ?_
  clear hS
  refine MV ?_
  refine MV ?_
  refine MW ?_ (v := str ([u8 q.k.toNat] ++ (dtx 16 q.id))) (hv := fun _ => run_cat (l := [u8 q.k.toNat]) (m := (dtx 16 q.id)) rfl rfl rfl (by first | omega | decide | (simp only [List.length_append, List.length_cons, List.length_nil, List.length_take, lb_length, eI_len]; omega)))
  refine MV ?_
  refine MW ?_ (v := str (([u8 q.k.toNat] ++ (dtx 16 q.id)) ++ (dtx 32 q.lab))) (hv := fun _ => run_cat (l := ([u8 q.k.toNat] ++ (dtx 16 q.id))) (m := (dtx 32 q.lab)) rfl rfl rfl (by first | omega | decide | (simp only [List.length_append, List.length_cons, List.length_nil, List.length_take, lb_length, eI_len]; omega)))
  refine MW ?_ (v := .bool (dok 16 q.id))
  refine MW ?_ (v := .bool true) (hv := by intro W; go_simp; first | done | assumption)
  refine MW ?_ (v := .bool (dok 32 q.lab))
  refine MW ?_ (v := .bool (dok 32 q.lab))
  refine MV ?_
  refine MW ?_ (v := .bool (dok 32 q.lab))
  refine MZ fun W hS => ?_
  have hk := Hk.out
  go_wp2
  exact bodyPost_ret (v := .tuple #[str ([u8 q.k.toNat] ++ dtx 16 q.id ++ dtx 32 q.lab), .bool (dok 32 q.lab)]) (by simp only [results, Try.results11]; clear hk; go_simp) rfl ⟨by rw [daskL_7 hk, daskB_7 hk, ha, Bool.true_and]; rw [hk], hS.ext⟩
 ·
  have _f := True.intro
  go_upto_region 17 with fail
  refine RL hS ?_
  clear hS
  refine MV ?_
  refine MV ?_
  refine MW ?_ (v := str ([u8 q.k.toNat] ++ (dtx 16 q.id))) (hv := fun _ => run_cat (l := [u8 q.k.toNat]) (m := (dtx 16 q.id)) rfl rfl rfl (by first | omega | decide | (simp only [List.length_append, List.length_cons, List.length_nil, List.length_take, lb_length, eI_len]; omega)))
  refine MV ?_
  refine MW ?_ (v := str (([u8 q.k.toNat] ++ (dtx 16 q.id)) ++ (dtx 32 q.lab))) (hv := fun _ => run_cat (l := ([u8 q.k.toNat] ++ (dtx 16 q.id))) (m := (dtx 32 q.lab)) rfl rfl rfl (by first | omega | decide | (simp only [List.length_append, List.length_cons, List.length_nil, List.length_take, lb_length, eI_len]; omega)))
  refine MW ?_ (v := .bool (dok 16 q.id))
  refine MW ?_ (v := .bool false) (hv := by intro W; go_simp; first | done | assumption)
  refine MS ?_
  refine MW ?_ (v := .bool false)
  refine MV ?_
  refine MW ?_ (v := .bool false)
  refine MZ fun W hS => ?_
  have hk := Hk.out
  go_wp2
  exact bodyPost_ret (v := .tuple #[str ([u8 q.k.toNat] ++ dtx 16 q.id ++ dtx 32 q.lab), .bool false]) (by simp only [results, Try.results11]; clear hk; go_simp) rfl ⟨by rw [daskL_7 hk, daskB_7 hk, ha, Bool.false_and]; rw [hk], hS.ext⟩
theorem dask_8 {q : Rq} (hk : q.k = 8) (hq : q.id.length ≤ 1000000 ∧ q.lab.length ≤ 1000000 ∧ q.val.length ≤ 1000000 ∧ q.bun.length ≤ 1000000) (w : World) :
  Calls Try.prog 11 #[.agg (rrF q (lb 32 q.vrf) (lb 32 q.bind))] w fun e w' => Ret (.tuple #[str (daskL q), .bool (daskB q)]) w w' e := by
 have hd1 := dtx_le (most := 16) (m := 16) (t := q.id) rfl
 have hd2 := dtx_le (most := 32) (m := 32) (t := q.lab) rfl
 have hd3 := dtx_le (most := 64) (m := 64) (t := q.val) rfl
 have hd4 := dtx_le (most := 65535) (m := 65535) (t := q.bun) rfl
 have Hk := Lib.hid hk
 have hk1 : q.k ≤ 8 := by omega
 have hk2 : 8 ≤ q.k := by omega
 clear hk
 have hS := SH.nil [] w
 go_enter Try.func11, Try.ntmps11
 go_upto_region 0 with fail
 refine RL hS ?_
 clear hS
 refine MN (z := agF [.c (.int .i64 q.k), .c (str q.id), .c (str (lb 32 q.vrf)), .c (str (lb 32 q.bind)), .c (.int .i64 q.l0), .c (.int .i64 q.l1), .c (.int .i64 q.l2), .c (.int .i64 q.per), .c (str q.lab), .c (str q.val), .c (.int .i64 q.fr), .c (.int .i64 q.ti), .c (str q.bun)]) (t := 24) ?_
 intro p1_1
 refine MV ?_
 refine MW ?_ (v := .bool false)
 refine MZ fun W hS => ?_
 go_upto_region 1 with fail
 refine RL hS ?_
 clear hS
 refine MV ?_
 refine MG 0 ?_ (v := .int .i64 q.k) (hj := (agF_cel 0))
 refine MW ?_ (v := .bool false) (hv := by intro W; go_simp; first | done | omega)
 refine MW ?_ (v := .bool false)
 refine MV ?_
 refine MG 0 ?_ (v := .int .i64 q.k) (hj := (agF_cel 0))
 refine MW ?_ (v := .bool false) (hv := by intro W; go_simp; first | done | omega)
 refine MW ?_ (v := .bool false)
 refine MZ fun W hS => ?_
 go_upto_region 3 with fail
 refine RL hS ?_
 clear hS
 refine MV ?_
 refine MG 0 ?_ (v := .int .i64 q.k) (hj := (agF_cel 0))
 refine MC (v := str [u8 q.k.toNat]) (fun W hS => one_i q.k (by omega) W) ?_
 refine MV ?_
 refine MZ fun W hS => ?_
 go_upto_region 4 with fail
 refine RL hS ?_
 clear hS
 refine MV ?_
 refine MG 0 ?_ (v := str q.id) (hj := (agF_cel 1))
 refine MC (v := .tuple #[str (dtx 16 q.id), .bool (dok 16 q.id)]) (fun W hS => rtx_c 16 (by omega) W) ?_
 refine MV ?_
 refine MV ?_
 refine MW ?_ (v := .bool (dok 16 q.id))
 refine MV ?_
 refine MW ?_ (v := .bool (dok 16 q.id))
 refine MZ fun W hS => ?_
 go_upto_region 5 with fail
 refine RL hS ?_
 clear hS
 refine MV ?_
 refine MG 0 ?_ (v := str q.lab) (hj := (agF_cel 8))
 refine MC (v := .tuple #[str (dtx 32 q.lab), .bool (dok 32 q.lab)]) (fun W hS => rtx_c 32 (by omega) W) ?_
 refine MV ?_
 refine MV ?_
 refine MW ?_ (v := .bool (dok 32 q.lab))
 refine MV ?_
 refine MW ?_ (v := .bool (dok 32 q.lab))
 refine MZ fun W hS => ?_
 go_upto_region 6 with fail
 refine RL hS ?_
 clear hS
 refine MV ?_
 refine MG 0 ?_ (v := str q.val) (hj := (agF_cel 9))
 refine MC (v := .tuple #[str (dtx 64 q.val), .bool (dok 64 q.val)]) (fun W hS => rtx_c 64 (by omega) W) ?_
 refine MV ?_
 refine MV ?_
 refine MW ?_ (v := .bool (dok 64 q.val))
 refine MV ?_
 refine MW ?_ (v := .bool (dok 64 q.val))
 refine MZ fun W hS => ?_
 go_upto_region 7 with fail
 refine RL hS ?_
 clear hS
 refine MV ?_
 refine MG 0 ?_ (v := str q.bun) (hj := (agF_cel 12))
 refine MC (v := .tuple #[str (dtx 65535 q.bun), .bool (dok 65535 q.bun)]) (fun W hS => rtx_c 65535 (by omega) W) ?_
 refine MV ?_
 refine MV ?_
 refine MW ?_ (v := .bool (dok 65535 q.bun))
 refine MV ?_
 refine MW ?_ (v := .bool (dok 65535 q.bun))
 refine MZ fun W hS => ?_
 go_upto_region 8 with fail
 refine RL hS ?_
 clear hS
 refine MV ?_
 refine MG 0 ?_ (v := .int .i64 q.k) (hj := (agF_cel 0))
 refine MZ fun W hS => ?_
 go_upto_region 9 with fail
 refine RL hS ?_
 clear hS
 refine MW ?_ (v := .bool false) (hv := by intro W; go_simp; first | done | omega | decide)
 refine MW ?_ (v := .bool false)
 refine MZ fun W hS => ?_
 go_upto_region 12 with fail
 refine RL hS ?_
 clear hS
 refine MW ?_ (v := .bool false) (hv := by intro W; go_simp; first | done | omega | decide)
 refine MW ?_ (v := .bool false)
 refine MZ fun W hS => ?_
 go_upto_region 14 with fail
 refine RL hS ?_
 clear hS
 refine MW ?_ (v := .bool false) (hv := by intro W; go_simp; first | done | omega | decide)
 refine MW ?_ (v := .bool false)
 refine MZ fun W hS => ?_
 go_upto_region 16 with fail
 refine RL hS ?_
 clear hS
 refine MW ?_ (v := .bool false) (hv := by intro W; go_simp; first | done | omega | decide)
 refine MW ?_ (v := .bool false)
 refine MZ fun W hS => ?_
 go_upto_region 18 with fail
 refine RL hS ?_
 clear hS
 refine MW ?_ (v := .bool true) (hv := by intro W; go_simp; first | done | omega | decide)
 refine MW ?_ (v := .bool true)
 refine MZ fun W hS => ?_
 go_upto_region 19 with fail
 refine RTh (.q 0 (.q 1 (.q 2 (.q 3 (.q 4 (.q 7 (.q 8 (.q 11 (.e 5 (.q 6 (.e 9 (.q 10 (.q 12 (.q 13 .z)))))))))))))) hS ?_
 clear hS
 refine TV ?_
 refine TV ?_
 refine TW ?_ (v := str ([u8 q.k.toNat] ++ (dtx 16 q.id))) (hv := fun _ => run_cat (l := [u8 q.k.toNat]) (m := (dtx 16 q.id)) rfl rfl rfl (by first | omega | decide | (simp only [List.length_append, List.length_cons, List.length_nil, List.length_take, lb_length, eI_len]; omega)))
 refine TV ?_
 refine TG 0 ?_ (v := .int .i64 q.fr) (hj := (agF_cel 10))
 refine TV ?_
 refine TG 0 ?_ (v := .int .i64 q.ti) (hj := (agF_cel 11))
 refine TW ?_ (v := .bool (dok 16 q.id))
 refine TE (fun _ h => h) ?_
 refine MC (v := str (eI q.fr)) (fun W hS => eight_i q.fr W) ?_
 refine TNh (fun W hS => hS) ?_
 refine TW ?_ (v := str (([u8 q.k.toNat] ++ (dtx 16 q.id)) ++ (eI q.fr))) (hv := fun _ => run_cat (l := ([u8 q.k.toNat] ++ (dtx 16 q.id))) (m := (eI q.fr)) rfl rfl rfl (by first | omega | decide | (simp only [List.length_append, List.length_cons, List.length_nil, List.length_take, lb_length, eI_len]; omega)))
 refine TE (fun _ h => h) ?_
 refine MC (v := str (eI q.ti)) (fun W hS => eight_i q.ti W) ?_
 refine TNh (fun W hS => hS) ?_
 refine TW ?_ (v := str ((([u8 q.k.toNat] ++ (dtx 16 q.id)) ++ (eI q.fr)) ++ (eI q.ti))) (hv := fun _ => run_cat (l := (([u8 q.k.toNat] ++ (dtx 16 q.id)) ++ (eI q.fr))) (m := (eI q.ti)) rfl rfl rfl (by first | omega | decide | (simp only [List.length_append, List.length_cons, List.length_nil, List.length_take, lb_length, eI_len]; omega)))
 refine TV ?_
 refine TW ?_ (v := .bool (dok 16 q.id))
 refine TZ (fun _ h => h) fun W hS => ?_
 have hk := Hk.out
 go_wp2
 exact bodyPost_ret (v := .tuple #[str ([u8 q.k.toNat] ++ dtx 16 q.id ++ eI q.fr ++ eI q.ti), .bool (dok 16 q.id)]) (by simp only [results, Try.results11]; clear hk; go_simp) rfl ⟨by rw [daskL_8 hk, daskB_8 hk]; rw [hk], hS.ext⟩
theorem dask_10 {q : Rq} (hk : q.k = 10) (hq : q.id.length ≤ 1000000 ∧ q.lab.length ≤ 1000000 ∧ q.val.length ≤ 1000000 ∧ q.bun.length ≤ 1000000) (w : World) :
  Calls Try.prog 11 #[.agg (rrF q (lb 32 q.vrf) (lb 32 q.bind))] w fun e w' => Ret (.tuple #[str (daskL q), .bool (daskB q)]) w w' e := by
 have hd1 := dtx_le (most := 16) (m := 16) (t := q.id) rfl
 have hd2 := dtx_le (most := 32) (m := 32) (t := q.lab) rfl
 have hd3 := dtx_le (most := 64) (m := 64) (t := q.val) rfl
 have hd4 := dtx_le (most := 65535) (m := 65535) (t := q.bun) rfl
 have Hk := Lib.hid hk
 have hk1 : q.k ≤ 10 := by omega
 have hk2 : 10 ≤ q.k := by omega
 clear hk
 have hS := SH.nil [] w
 go_enter Try.func11, Try.ntmps11
 go_upto_region 0 with fail
 refine RL hS ?_
 clear hS
 refine MN (z := agF [.c (.int .i64 q.k), .c (str q.id), .c (str (lb 32 q.vrf)), .c (str (lb 32 q.bind)), .c (.int .i64 q.l0), .c (.int .i64 q.l1), .c (.int .i64 q.l2), .c (.int .i64 q.per), .c (str q.lab), .c (str q.val), .c (.int .i64 q.fr), .c (.int .i64 q.ti), .c (str q.bun)]) (t := 24) ?_
 intro p1_1
 refine MV ?_
 refine MW ?_ (v := .bool false)
 refine MZ fun W hS => ?_
 go_upto_region 1 with fail
 refine RL hS ?_
 clear hS
 refine MV ?_
 refine MG 0 ?_ (v := .int .i64 q.k) (hj := (agF_cel 0))
 refine MW ?_ (v := .bool false) (hv := by intro W; go_simp; first | done | omega)
 refine MW ?_ (v := .bool false)
 refine MV ?_
 refine MG 0 ?_ (v := .int .i64 q.k) (hj := (agF_cel 0))
 refine MW ?_ (v := .bool false) (hv := by intro W; go_simp; first | done | omega)
 refine MW ?_ (v := .bool false)
 refine MZ fun W hS => ?_
 go_upto_region 3 with fail
 refine RL hS ?_
 clear hS
 refine MV ?_
 refine MG 0 ?_ (v := .int .i64 q.k) (hj := (agF_cel 0))
 refine MC (v := str [u8 q.k.toNat]) (fun W hS => one_i q.k (by omega) W) ?_
 refine MV ?_
 refine MZ fun W hS => ?_
 go_upto_region 4 with fail
 refine RL hS ?_
 clear hS
 refine MV ?_
 refine MG 0 ?_ (v := str q.id) (hj := (agF_cel 1))
 refine MC (v := .tuple #[str (dtx 16 q.id), .bool (dok 16 q.id)]) (fun W hS => rtx_c 16 (by omega) W) ?_
 refine MV ?_
 refine MV ?_
 refine MW ?_ (v := .bool (dok 16 q.id))
 refine MV ?_
 refine MW ?_ (v := .bool (dok 16 q.id))
 refine MZ fun W hS => ?_
 go_upto_region 5 with fail
 refine RL hS ?_
 clear hS
 refine MV ?_
 refine MG 0 ?_ (v := str q.lab) (hj := (agF_cel 8))
 refine MC (v := .tuple #[str (dtx 32 q.lab), .bool (dok 32 q.lab)]) (fun W hS => rtx_c 32 (by omega) W) ?_
 refine MV ?_
 refine MV ?_
 refine MW ?_ (v := .bool (dok 32 q.lab))
 refine MV ?_
 refine MW ?_ (v := .bool (dok 32 q.lab))
 refine MZ fun W hS => ?_
 go_upto_region 6 with fail
 refine RL hS ?_
 clear hS
 refine MV ?_
 refine MG 0 ?_ (v := str q.val) (hj := (agF_cel 9))
 refine MC (v := .tuple #[str (dtx 64 q.val), .bool (dok 64 q.val)]) (fun W hS => rtx_c 64 (by omega) W) ?_
 refine MV ?_
 refine MV ?_
 refine MW ?_ (v := .bool (dok 64 q.val))
 refine MV ?_
 refine MW ?_ (v := .bool (dok 64 q.val))
 refine MZ fun W hS => ?_
 go_upto_region 7 with fail
 refine RL hS ?_
 clear hS
 refine MV ?_
 refine MG 0 ?_ (v := str q.bun) (hj := (agF_cel 12))
 refine MC (v := .tuple #[str (dtx 65535 q.bun), .bool (dok 65535 q.bun)]) (fun W hS => rtx_c 65535 (by omega) W) ?_
 refine MV ?_
 refine MV ?_
 refine MW ?_ (v := .bool (dok 65535 q.bun))
 refine MV ?_
 refine MW ?_ (v := .bool (dok 65535 q.bun))
 refine MZ fun W hS => ?_
 go_upto_region 8 with fail
 refine RL hS ?_
 clear hS
 refine MV ?_
 refine MG 0 ?_ (v := .int .i64 q.k) (hj := (agF_cel 0))
 refine MZ fun W hS => ?_
 go_upto_region 9 with fail
 refine RL hS ?_
 clear hS
 refine MW ?_ (v := .bool false) (hv := by intro W; go_simp; first | done | omega | decide)
 refine MW ?_ (v := .bool false)
 refine MZ fun W hS => ?_
 go_upto_region 12 with fail
 refine RL hS ?_
 clear hS
 refine MW ?_ (v := .bool false) (hv := by intro W; go_simp; first | done | omega | decide)
 refine MW ?_ (v := .bool false)
 refine MZ fun W hS => ?_
 go_upto_region 14 with fail
 refine RL hS ?_
 clear hS
 refine MW ?_ (v := .bool false) (hv := by intro W; go_simp; first | done | omega | decide)
 refine MW ?_ (v := .bool false)
 refine MZ fun W hS => ?_
 go_upto_region 16 with fail
 refine RL hS ?_
 clear hS
 refine MW ?_ (v := .bool false) (hv := by intro W; go_simp; first | done | omega | decide)
 refine MW ?_ (v := .bool false)
 refine MZ fun W hS => ?_
 go_upto_region 18 with fail
 refine RL hS ?_
 clear hS
 refine MW ?_ (v := .bool false) (hv := by intro W; go_simp; first | done | omega | decide)
 refine MW ?_ (v := .bool false)
 refine MZ fun W hS => ?_
 go_upto_region 20 with fail
 refine RL hS ?_
 clear hS
 refine MW ?_ (v := .bool true) (hv := by intro W; go_simp; first | done | omega | decide)
 refine MW ?_ (v := .bool true)
 refine MZ fun W hS => ?_
 go_upto_region 21 with fail
 refine RL hS ?_
 clear hS
 refine MV ?_
 refine MV ?_
 refine MW ?_ (v := str ([u8 q.k.toNat] ++ (dtx 65535 q.bun))) (hv := fun _ => run_cat (l := [u8 q.k.toNat]) (m := (dtx 65535 q.bun)) rfl rfl rfl (by first | omega | decide | (simp only [List.length_append, List.length_cons, List.length_nil, List.length_take, lb_length, eI_len]; omega)))
 refine MW ?_ (v := .bool (dok 65535 q.bun))
 refine MV ?_
 refine MW ?_ (v := .bool (dok 65535 q.bun))
 refine MZ fun W hS => ?_
 have hk := Hk.out
 go_wp2
 exact bodyPost_ret (v := .tuple #[str ([u8 q.k.toNat] ++ dtx 65535 q.bun), .bool (dok 65535 q.bun)]) (by simp only [results, Try.results11]; clear hk; go_simp) rfl ⟨by rw [daskL_10 hk, daskB_10 hk]; rw [hk], hS.ext⟩
theorem dask_12 {q : Rq} (hk : q.k = 12) (hq : q.id.length ≤ 1000000 ∧ q.lab.length ≤ 1000000 ∧ q.val.length ≤ 1000000 ∧ q.bun.length ≤ 1000000) (w : World) :
  Calls Try.prog 11 #[.agg (rrF q (lb 32 q.vrf) (lb 32 q.bind))] w fun e w' => Ret (.tuple #[str (daskL q), .bool (daskB q)]) w w' e := by
 have hd1 := dtx_le (most := 16) (m := 16) (t := q.id) rfl
 have hd2 := dtx_le (most := 32) (m := 32) (t := q.lab) rfl
 have hd3 := dtx_le (most := 64) (m := 64) (t := q.val) rfl
 have hd4 := dtx_le (most := 65535) (m := 65535) (t := q.bun) rfl
 have Hk := Lib.hid hk
 have hk1 : q.k ≤ 12 := by omega
 have hk2 : 12 ≤ q.k := by omega
 clear hk
 have hS := SH.nil [] w
 go_enter Try.func11, Try.ntmps11
 go_upto_region 0 with fail
 refine RL hS ?_
 clear hS
 refine MN (z := agF [.c (.int .i64 q.k), .c (str q.id), .c (str (lb 32 q.vrf)), .c (str (lb 32 q.bind)), .c (.int .i64 q.l0), .c (.int .i64 q.l1), .c (.int .i64 q.l2), .c (.int .i64 q.per), .c (str q.lab), .c (str q.val), .c (.int .i64 q.fr), .c (.int .i64 q.ti), .c (str q.bun)]) (t := 24) ?_
 intro p1_1
 refine MV ?_
 refine MW ?_ (v := .bool false)
 refine MZ fun W hS => ?_
 go_upto_region 1 with fail
 refine RL hS ?_
 clear hS
 refine MV ?_
 refine MG 0 ?_ (v := .int .i64 q.k) (hj := (agF_cel 0))
 refine MW ?_ (v := .bool false) (hv := by intro W; go_simp; first | done | omega)
 refine MW ?_ (v := .bool false)
 refine MV ?_
 refine MG 0 ?_ (v := .int .i64 q.k) (hj := (agF_cel 0))
 refine MW ?_ (v := .bool false) (hv := by intro W; go_simp; first | done | omega)
 refine MW ?_ (v := .bool false)
 refine MZ fun W hS => ?_
 go_upto_region 3 with fail
 refine RL hS ?_
 clear hS
 refine MV ?_
 refine MG 0 ?_ (v := .int .i64 q.k) (hj := (agF_cel 0))
 refine MC (v := str [u8 q.k.toNat]) (fun W hS => one_i q.k (by omega) W) ?_
 refine MV ?_
 refine MZ fun W hS => ?_
 go_upto_region 4 with fail
 refine RL hS ?_
 clear hS
 refine MV ?_
 refine MG 0 ?_ (v := str q.id) (hj := (agF_cel 1))
 refine MC (v := .tuple #[str (dtx 16 q.id), .bool (dok 16 q.id)]) (fun W hS => rtx_c 16 (by omega) W) ?_
 refine MV ?_
 refine MV ?_
 refine MW ?_ (v := .bool (dok 16 q.id))
 refine MV ?_
 refine MW ?_ (v := .bool (dok 16 q.id))
 refine MZ fun W hS => ?_
 go_upto_region 5 with fail
 refine RL hS ?_
 clear hS
 refine MV ?_
 refine MG 0 ?_ (v := str q.lab) (hj := (agF_cel 8))
 refine MC (v := .tuple #[str (dtx 32 q.lab), .bool (dok 32 q.lab)]) (fun W hS => rtx_c 32 (by omega) W) ?_
 refine MV ?_
 refine MV ?_
 refine MW ?_ (v := .bool (dok 32 q.lab))
 refine MV ?_
 refine MW ?_ (v := .bool (dok 32 q.lab))
 refine MZ fun W hS => ?_
 go_upto_region 6 with fail
 refine RL hS ?_
 clear hS
 refine MV ?_
 refine MG 0 ?_ (v := str q.val) (hj := (agF_cel 9))
 refine MC (v := .tuple #[str (dtx 64 q.val), .bool (dok 64 q.val)]) (fun W hS => rtx_c 64 (by omega) W) ?_
 refine MV ?_
 refine MV ?_
 refine MW ?_ (v := .bool (dok 64 q.val))
 refine MV ?_
 refine MW ?_ (v := .bool (dok 64 q.val))
 refine MZ fun W hS => ?_
 go_upto_region 7 with fail
 refine RL hS ?_
 clear hS
 refine MV ?_
 refine MG 0 ?_ (v := str q.bun) (hj := (agF_cel 12))
 refine MC (v := .tuple #[str (dtx 65535 q.bun), .bool (dok 65535 q.bun)]) (fun W hS => rtx_c 65535 (by omega) W) ?_
 refine MV ?_
 refine MV ?_
 refine MW ?_ (v := .bool (dok 65535 q.bun))
 refine MV ?_
 refine MW ?_ (v := .bool (dok 65535 q.bun))
 refine MZ fun W hS => ?_
 go_upto_region 8 with fail
 refine RL hS ?_
 clear hS
 refine MV ?_
 refine MG 0 ?_ (v := .int .i64 q.k) (hj := (agF_cel 0))
 refine MZ fun W hS => ?_
 go_upto_region 9 with fail
 refine RL hS ?_
 clear hS
 refine MW ?_ (v := .bool false) (hv := by intro W; go_simp; first | done | omega | decide)
 refine MW ?_ (v := .bool false)
 refine MZ fun W hS => ?_
 go_upto_region 12 with fail
 refine RL hS ?_
 clear hS
 refine MW ?_ (v := .bool false) (hv := by intro W; go_simp; first | done | omega | decide)
 refine MW ?_ (v := .bool false)
 refine MZ fun W hS => ?_
 go_upto_region 14 with fail
 refine RL hS ?_
 clear hS
 refine MW ?_ (v := .bool false) (hv := by intro W; go_simp; first | done | omega | decide)
 refine MW ?_ (v := .bool false)
 refine MZ fun W hS => ?_
 go_upto_region 16 with fail
 refine RL hS ?_
 clear hS
 refine MW ?_ (v := .bool false) (hv := by intro W; go_simp; first | done | omega | decide)
 refine MW ?_ (v := .bool false)
 refine MZ fun W hS => ?_
 go_upto_region 18 with fail
 refine RL hS ?_
 clear hS
 refine MW ?_ (v := .bool false) (hv := by intro W; go_simp; first | done | omega | decide)
 refine MW ?_ (v := .bool false)
 refine MZ fun W hS => ?_
 go_upto_region 20 with fail
 refine RL hS ?_
 clear hS
 refine MW ?_ (v := .bool false) (hv := by intro W; go_simp; first | done | omega | decide)
 refine MW ?_ (v := .bool false)
 refine MZ fun W hS => ?_
 go_upto_region 22 with fail
 refine RL hS ?_
 clear hS
 refine MW ?_ (v := .bool true) (hv := by intro W; go_simp; first | done | omega | decide)
 refine MW ?_ (v := .bool true)
 refine MZ fun W hS => ?_
 go_upto_region 23 with fail
 refine RTh (.q 0 (.q 1 (.q 2 (.q 5 (.q 6 (.e 3 (.q 4 (.e 7 (.q 8 (.q 9 (.q 10 .z))))))))))) hS ?_
 clear hS
 refine TV ?_
 refine TV ?_
 refine TG 0 ?_ (v := .int .i64 q.fr) (hj := (agF_cel 10))
 refine TV ?_
 refine TG 0 ?_ (v := .int .i64 q.ti) (hj := (agF_cel 11))
 refine TE (fun _ h => h) ?_
 refine MC (v := str (eI q.fr)) (fun W hS => eight_i q.fr W) ?_
 refine TNh (fun W hS => hS) ?_
 refine TW ?_ (v := str ([u8 q.k.toNat] ++ (eI q.fr))) (hv := fun _ => run_cat (l := [u8 q.k.toNat]) (m := (eI q.fr)) rfl rfl rfl (by first | omega | decide | (simp only [List.length_append, List.length_cons, List.length_nil, List.length_take, lb_length, eI_len]; omega)))
 refine TE (fun _ h => h) ?_
 refine MC (v := str (eI q.ti)) (fun W hS => eight_i q.ti W) ?_
 refine TNh (fun W hS => hS) ?_
 refine TW ?_ (v := str (([u8 q.k.toNat] ++ (eI q.fr)) ++ (eI q.ti))) (hv := fun _ => run_cat (l := ([u8 q.k.toNat] ++ (eI q.fr))) (m := (eI q.ti)) rfl rfl rfl (by first | omega | decide | (simp only [List.length_append, List.length_cons, List.length_nil, List.length_take, lb_length, eI_len]; omega)))
 refine TV ?_
 refine TW ?_ (v := .bool true)
 refine TZ (fun _ h => h) fun W hS => ?_
 have hk := Hk.out
 go_wp2
 exact bodyPost_ret (v := .tuple #[str ([u8 q.k.toNat] ++ eI q.fr ++ eI q.ti), .bool true]) (by simp only [results, Try.results11]; clear hk; go_simp) rfl ⟨by rw [daskL_12 hk, daskB_12 hk]; rw [hk], hS.ext⟩
theorem dask_o {q : Rq} (h1 : 1 ≤ q.k) (h2 : q.k ≤ 12) (hk : q.k ≠ 1 ∧ q.k ≠ 5 ∧ q.k ≠ 6 ∧ q.k ≠ 7 ∧ q.k ≠ 8 ∧ q.k ≠ 10 ∧ q.k ≠ 12) (hq : q.id.length ≤ 1000000 ∧ q.lab.length ≤ 1000000 ∧ q.val.length ≤ 1000000 ∧ q.bun.length ≤ 1000000) (w : World) :
  Calls Try.prog 11 #[.agg (rrF q (lb 32 q.vrf) (lb 32 q.bind))] w fun e w' => Ret (.tuple #[str (daskL q), .bool (daskB q)]) w w' e := by
 have hd1 := dtx_le (most := 16) (m := 16) (t := q.id) rfl
 have hd2 := dtx_le (most := 32) (m := 32) (t := q.lab) rfl
 have hd3 := dtx_le (most := 64) (m := 64) (t := q.val) rfl
 have hd4 := dtx_le (most := 65535) (m := 65535) (t := q.bun) rfl
 have hS := SH.nil [] w
 go_enter Try.func11, Try.ntmps11
 go_upto_region 0 with fail
 refine RL hS ?_
 clear hS
 refine MN (z := agF [.c (.int .i64 q.k), .c (str q.id), .c (str (lb 32 q.vrf)), .c (str (lb 32 q.bind)), .c (.int .i64 q.l0), .c (.int .i64 q.l1), .c (.int .i64 q.l2), .c (.int .i64 q.per), .c (str q.lab), .c (str q.val), .c (.int .i64 q.fr), .c (.int .i64 q.ti), .c (str q.bun)]) (t := 24) ?_
 intro p1_1
 refine MV ?_
 refine MW ?_ (v := .bool false)
 refine MZ fun W hS => ?_
 go_upto_region 1 with fail
 refine RL hS ?_
 clear hS
 refine MV ?_
 refine MG 0 ?_ (v := .int .i64 q.k) (hj := (agF_cel 0))
 refine MW ?_ (v := .bool false) (hv := by intro W; go_simp; first | done | omega)
 refine MW ?_ (v := .bool false)
 refine MV ?_
 refine MG 0 ?_ (v := .int .i64 q.k) (hj := (agF_cel 0))
 refine MW ?_ (v := .bool false) (hv := by intro W; go_simp; first | done | omega)
 refine MW ?_ (v := .bool false)
 refine MZ fun W hS => ?_
 go_upto_region 3 with fail
 refine RL hS ?_
 clear hS
 refine MV ?_
 refine MG 0 ?_ (v := .int .i64 q.k) (hj := (agF_cel 0))
 refine MC (v := str [u8 q.k.toNat]) (fun W hS => one_i q.k (by omega) W) ?_
 refine MV ?_
 refine MZ fun W hS => ?_
 go_upto_region 4 with fail
 refine RL hS ?_
 clear hS
 refine MV ?_
 refine MG 0 ?_ (v := str q.id) (hj := (agF_cel 1))
 refine MC (v := .tuple #[str (dtx 16 q.id), .bool (dok 16 q.id)]) (fun W hS => rtx_c 16 (by omega) W) ?_
 refine MV ?_
 refine MV ?_
 refine MW ?_ (v := .bool (dok 16 q.id))
 refine MV ?_
 refine MW ?_ (v := .bool (dok 16 q.id))
 refine MZ fun W hS => ?_
 go_upto_region 5 with fail
 refine RL hS ?_
 clear hS
 refine MV ?_
 refine MG 0 ?_ (v := str q.lab) (hj := (agF_cel 8))
 refine MC (v := .tuple #[str (dtx 32 q.lab), .bool (dok 32 q.lab)]) (fun W hS => rtx_c 32 (by omega) W) ?_
 refine MV ?_
 refine MV ?_
 refine MW ?_ (v := .bool (dok 32 q.lab))
 refine MV ?_
 refine MW ?_ (v := .bool (dok 32 q.lab))
 refine MZ fun W hS => ?_
 go_upto_region 6 with fail
 refine RL hS ?_
 clear hS
 refine MV ?_
 refine MG 0 ?_ (v := str q.val) (hj := (agF_cel 9))
 refine MC (v := .tuple #[str (dtx 64 q.val), .bool (dok 64 q.val)]) (fun W hS => rtx_c 64 (by omega) W) ?_
 refine MV ?_
 refine MV ?_
 refine MW ?_ (v := .bool (dok 64 q.val))
 refine MV ?_
 refine MW ?_ (v := .bool (dok 64 q.val))
 refine MZ fun W hS => ?_
 go_upto_region 7 with fail
 refine RL hS ?_
 clear hS
 refine MV ?_
 refine MG 0 ?_ (v := str q.bun) (hj := (agF_cel 12))
 refine MC (v := .tuple #[str (dtx 65535 q.bun), .bool (dok 65535 q.bun)]) (fun W hS => rtx_c 65535 (by omega) W) ?_
 refine MV ?_
 refine MV ?_
 refine MW ?_ (v := .bool (dok 65535 q.bun))
 refine MV ?_
 refine MW ?_ (v := .bool (dok 65535 q.bun))
 refine MZ fun W hS => ?_
 go_upto_region 8 with fail
 refine RL hS ?_
 clear hS
 refine MV ?_
 refine MG 0 ?_ (v := .int .i64 q.k) (hj := (agF_cel 0))
 refine MZ fun W hS => ?_
 go_upto_region 9 with fail
 refine RL hS ?_
 clear hS
 refine MW ?_ (v := .bool false) (hv := by intro W; go_simp; first | done | omega | decide)
 refine MW ?_ (v := .bool false)
 refine MZ fun W hS => ?_
 go_upto_region 12 with fail
 refine RL hS ?_
 clear hS
 refine MW ?_ (v := .bool false) (hv := by intro W; go_simp; first | done | omega | decide)
 refine MW ?_ (v := .bool false)
 refine MZ fun W hS => ?_
 go_upto_region 14 with fail
 refine RL hS ?_
 clear hS
 refine MW ?_ (v := .bool false) (hv := by intro W; go_simp; first | done | omega | decide)
 refine MW ?_ (v := .bool false)
 refine MZ fun W hS => ?_
 go_upto_region 16 with fail
 refine RL hS ?_
 clear hS
 refine MW ?_ (v := .bool false) (hv := by intro W; go_simp; first | done | omega | decide)
 refine MW ?_ (v := .bool false)
 refine MZ fun W hS => ?_
 go_upto_region 18 with fail
 refine RL hS ?_
 clear hS
 refine MW ?_ (v := .bool false) (hv := by intro W; go_simp; first | done | omega | decide)
 refine MW ?_ (v := .bool false)
 refine MZ fun W hS => ?_
 go_upto_region 20 with fail
 refine RL hS ?_
 clear hS
 refine MW ?_ (v := .bool false) (hv := by intro W; go_simp; first | done | omega | decide)
 refine MW ?_ (v := .bool false)
 refine MZ fun W hS => ?_
 go_upto_region 22 with fail
 refine RL hS ?_
 clear hS
 refine MW ?_ (v := .bool false) (hv := by intro W; go_simp; first | done | omega | decide)
 refine MW ?_ (v := .bool false)
 refine MZ fun W hS => ?_
 go_upto_region 24 with fail
 refine RL hS ?_
 clear hS
 refine MV ?_
 refine MV ?_
 refine MW ?_ (v := str ([u8 q.k.toNat] ++ (dtx 16 q.id))) (hv := fun _ => run_cat (l := [u8 q.k.toNat]) (m := (dtx 16 q.id)) rfl rfl rfl (by first | omega | decide | (simp only [List.length_append, List.length_cons, List.length_nil, List.length_take, lb_length, eI_len]; omega)))
 refine MW ?_ (v := .bool (dok 16 q.id))
 refine MV ?_
 refine MW ?_ (v := .bool (dok 16 q.id))
 refine MZ fun W hS => ?_
 go_wp2
 exact bodyPost_ret (v := .tuple #[str ([u8 q.k.toNat] ++ dtx 16 q.id), .bool (dok 16 q.id)]) (by simp only [results, Try.results11]; clear hk; go_simp) rfl ⟨by rw [daskL_o hk, daskB_o hk], hS.ext⟩
theorem dask_none {q : Rq} (hk : q.k < 1 ∨ 12 < q.k) (w : World) :
  Calls Try.prog 11 #[.agg (rrF q (lb 32 q.vrf) (lb 32 q.bind))] w fun e w' => Ret (.tuple #[str [], .bool false]) w w' e := by
 have hS := SH.nil [] w
 go_enter Try.func11, Try.ntmps11
 go_upto_region 0 with fail
 refine RL hS ?_
 clear hS
 refine MN (z := agF [.c (.int .i64 q.k), .c (str q.id), .c (str (lb 32 q.vrf)), .c (str (lb 32 q.bind)), .c (.int .i64 q.l0), .c (.int .i64 q.l1), .c (.int .i64 q.l2), .c (.int .i64 q.per), .c (str q.lab), .c (str q.val), .c (.int .i64 q.fr), .c (.int .i64 q.ti), .c (str q.bun)]) (t := 24) ?_
 intro p1_1
 refine MV ?_
 refine MW ?_ (v := .bool false)
 refine MZ fun W hS => ?_
 by_cases hlt : q.k < 1
 ·
  have _f := hlt
  go_upto_region 1 with fail
  refine RL hS ?_
  clear hS
  refine MV ?_
  refine MG 0 ?_ (v := .int .i64 q.k) (hj := (agF_cel 0))
  refine MW ?_ (v := .bool true) (hv := by intro W; go_simp; first | done | omega)
  refine MW ?_ (v := .bool true)
  refine MS ?_
  refine MS ?_
  refine MS ?_
  refine MW ?_ (v := .bool true)
  refine MZ fun W hS => ?_
  go_wp2
  exact bodyPost_ret (v := .tuple #[str [], .bool false]) (by simp only [results, Try.results11]; first | (go_simp; done) | (go_simp; rfl)) rfl ⟨rfl, hS.ext⟩
 ·
  have _f := hlt
  go_upto_region 1 with fail
  refine RL hS ?_
  clear hS
  refine MV ?_
  refine MG 0 ?_ (v := .int .i64 q.k) (hj := (agF_cel 0))
  refine MW ?_ (v := .bool false) (hv := by intro W; go_simp; first | done | omega)
  refine MW ?_ (v := .bool false)
  refine MV ?_
  refine MG 0 ?_ (v := .int .i64 q.k) (hj := (agF_cel 0))
  refine MW ?_ (v := .bool true) (hv := by intro W; go_simp; first | done | omega)
  refine MW ?_ (v := .bool true)
  refine MZ fun W hS => ?_
  go_wp2
  exact bodyPost_ret (v := .tuple #[str [], .bool false]) (by simp only [results, Try.results11]; first | (go_simp; done) | (go_simp; rfl)) rfl ⟨rfl, hS.ext⟩
theorem dask_c {q : Rq} (hq : q.id.length ≤ 1000000 ∧ q.lab.length ≤ 1000000 ∧ q.val.length ≤ 1000000 ∧ q.bun.length ≤ 1000000) (w : World) :
 Calls Try.prog 11 #[.agg (rrF q (lb 32 q.vrf) (lb 32 q.bind))] w fun e w' => Ret (.tuple #[str (if isK q.k then daskL q else []), .bool (decide (isK q.k) && daskB q)]) w w' e := by
 by_cases hK : isK q.k
 ·
  rw [if_pos hK, decide_eq_true hK, Bool.true_and]
  by_cases h1 : q.k = 1
  ·
   exact dask_1 h1 hq w
  by_cases h5 : q.k = 5
  ·
   exact dask_5 h5 hq w
  by_cases h6 : q.k = 6
  ·
   exact dask_6 h6 hq w
  by_cases h7 : q.k = 7
  ·
   exact dask_7 h7 hq w
  by_cases h8 : q.k = 8
  ·
   exact dask_8 h8 hq w
  by_cases h10 : q.k = 10
  ·
   exact dask_10 h10 hq w
  by_cases h12 : q.k = 12
  ·
   exact dask_12 h12 hq w
  exact dask_o hK.1 hK.2 ⟨h1, h5, h6, h7, h8, h10, h12⟩ hq w
 ·
  rw [if_neg hK, decide_eq_false hK, Bool.false_and]
  exact dask_none (by unfold isK at hK; omega) w
end Go.Proofs.Ytlbgelbhhibikaa.Ww

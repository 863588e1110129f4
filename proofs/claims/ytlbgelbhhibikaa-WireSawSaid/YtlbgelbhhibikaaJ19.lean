/- A leaf's and a proof's cells. No conditions. A proof's bytes; the document's Bytes. Conditions: the sums are not too many. -/
import Derived.Test.YtlbgelbhhibikaaMh
import Derived.Test.YtlbgelbhhibikaaKa
set_option linter.unusedSimpArgs false
set_option linter.unusedVariables false
namespace Go.Proofs.Ytlbgelbhhibikaa
set_option maxRecDepth 100000
open Go.RowKit
attribute [local irreducible] wpList wpTr wpX
set_option linter.unusedSimpArgs false
/-- a leaf's cells -/
def lf (k v : Nat) : Array Value := arrK .u8 32 (byt k) ++ arrK .u8 32 (byt v)
section
variable {k v : Nat}
theorem lf_size : (lf k v).size = 64 := by unfold lf; rw [Array.size_append, arrK_size, arrK_size]
theorem lf_one : (lf k v).all (·.oneCell') = true := by unfold lf; rw [Array.all_append, arrK_one, arrK_one]; rfl
theorem lf_k : ∀ i u, (arrK .u8 32 (byt k))[i]? = some u → (lf k v)[0 + i]? = some u := fun i u h => by rw [Nat.zero_add]; exact app_l h
theorem lf_v : ∀ i u, (arrK .u8 32 (byt v))[i]? = some u → (lf k v)[32 + i]? = some u := fun i u h => app_r (arrK_size _ _ _) h
end
/-- a proof's cells -/
def pfc (s : Value) (th : Bool) (a x : Nat) : Array Value := #[s, .bool th] ++ lf a x
section
variable {s : Value} {th : Bool} {a x : Nat}
theorem pf_size : (pfc s th a x).size = 66 := by unfold pfc; rw [Array.size_append, lf_size]; rfl
theorem pf_one (h : s.oneCell' = true) : (pfc s th a x).all (·.oneCell') = true := by unfold pfc; rw [Array.all_append, lf_one]; simp [h]; rfl
theorem pf_s : (pfc s th a x)[0]? = some s := by unfold pfc; rw [Array.getElem?_append_left (by simp)]; rfl
theorem pf_t : (pfc s th a x)[1]? = some (.bool th) := by unfold pfc; rw [Array.getElem?_append_left (by simp)]; rfl
theorem pf_e : ∀ i v, (lf a x)[i]? = some v → (pfc s th a x)[2 + i]? = some v := fun i v h => by unfold pfc; exact app_r rfl h
theorem pf_k : ∀ i v, (arrK .u8 32 (byt a))[i]? = some v → (pfc s th a x)[2 + i]? = some v := fun i v h => pf_e i v (by have h_ := lf_k (v := x) i v h; rwa [Nat.zero_add] at h_)
theorem pf_v : ∀ i v, (arrK .u8 32 (byt x))[i]? = some v → (pfc s th a x)[34 + i]? = some v := fun i v h => by
 have h_ := pf_e (s := s) (th := th) (32 + i) v (lf_v (k := a) i v h)
 rwa [show 2 + (32 + i) = 34 + i by omega] at h_
end
section
variable {s : Value} {th : Bool} {a x k y : Nat} {v : Value}
theorem pfl (s : Value) (th : Bool) (a x : Nat) : (pfc s th a x).toList = s :: .bool th :: (lf a x).toList := by unfold pfc; simp
theorem pf_puts : (pfc s th a x).setIfInBounds 0 v = pfc v th a x := by
 apply Array.toList_inj.1; rw [Array.toList_setIfInBounds, pfl, pfl]; rfl
theorem pf_putb {b : Bool} : (pfc s th a x).setIfInBounds 1 (.bool b) = pfc s b a x := by
 apply Array.toList_inj.1; rw [Array.toList_setIfInBounds, pfl, pfl]; rfl
theorem spl_all : ∀ (vs old pre : List Value), old.length = vs.length → spl (pre ++ old).toArray pre.length vs = (pre ++ vs).toArray
 | [], old, pre, h => by rw [List.eq_nil_of_length_eq_zero h]; rfl
 | u :: r, o :: old, pre, h => by
  show spl ((pre ++ o :: old).toArray.setIfInBounds pre.length u) (pre.length + 1) r = _
  have e : (pre ++ o :: old).toArray.setIfInBounds pre.length u = ((pre ++ [u]) ++ old).toArray := by
   apply Array.toList_inj.1
   rw [Array.toList_setIfInBounds]
   show (pre ++ o :: old).set pre.length u = _
   rw [List.set_append_right _ _ (Nat.le_refl _), Nat.sub_self]; simp
  rw [e, show pre.length + 1 = (pre ++ [u]).length by simp, spl_all r old (pre ++ [u]) (by simpa using h)]
  simp
theorem pf_pute : spl (pfc s th a x) 2 (lf k y).toList = pfc s th k y := by
 have h := spl_all (lf k y).toList (lf a x).toList [s, .bool th] (by rw [Array.length_toList, Array.length_toList, lf_size, lf_size])
 have e1 : ([s, .bool th] ++ (lf a x).toList).toArray = pfc s th a x := by apply Array.toList_inj.1; rw [pfl]; rfl
 have e2 : ([s, .bool th] ++ (lf k y).toList).toArray = pfc s th k y := by apply Array.toList_inj.1; rw [pfl]; rfl
 rw [e1, e2] at h
 exact h
end
/-- 32 bytes that lie as an element of a row -/
theorem sl_c32 {W : World} {g o s : Nat} (h : ∀ i v, (b32l s)[i]? = some v → W.cell? ⟨g, o + i, none⟩ = some v) : Sl W (.slice (some ⟨g, o, none⟩) 32 32) (lb 32 s) := by
 refine ⟨some ⟨g, o, none⟩, 32, by rw [lb_length], by rw [lb_length]; decide, by decide, fun h => (by cases h), fun j x hj => ⟨_, rfl, ?_⟩⟩
 have hj2 : j < 32 := by have := (List.getElem?_eq_some_iff.1 hj).1; rwa [lb_length] at this
 rw [lb_get hj2] at hj
 have := Option.some.inj hj
 subst this
 rw [lb_byt, Addr.add_mid]
 exact h j _ (by unfold b32l; rw [Array.getElem?_toList]; exact arrK_get _ _ _ _ hj2)
abbrev Lf := Nat × Nat
theorem eqS32 {A B : Nat} (h : A = B) (w : World) : (Op.equalIn 10000 27 (.agg (arrK .u8 32 (byt A))) (.agg (arrK .u8 32 (byt B)))).run Try.prog w = .ok true w := by
 subst h
 rw [run_equalIn_arr (P := Try.prog) w 9998 27 5 32 .u8 (arrK .u8 32 (byt A)) (arrK .u8 32 (byt A)) (byt A) (byt A) Try.underlying27 Try.underlying5 (by kernel_rfl) (fun i hi => arrK_get _ _ _ _ hi) (fun i hi => arrK_get _ _ _ _ hi)]
 rw [(eqArr_true _ _ _).2 fun _ _ => rfl]
theorem fields_step {P : Program} {d : Nat} {xs ys : Array Value} {w : World} {f : Field} {fs : List Field} {a b : Value} {r : Bool} (hn : f.name ≠ "_") (h1 : (part f.type xs f.offset).run P w = .ok a w) (h2 : (part f.type ys f.offset).run P w = .ok b w) (h3 : (Op.equalIn d f.type a b).run P w = .ok r w) :
  (Op.eqFields d xs ys (f :: fs)).run P w = if r = true then (Op.eqFields d xs ys fs).run P w else .ok false w := by
 rw [Op.eqFields, if_pos hn]
 cases r with
 | true => rw [if_pos rfl]; simp only [Sem.run_bind, h1, h2, h3, Result.andThen_ok, Bool.not_true, Bool.false_eq_true, if_false]
 | false => rw [if_neg (by decide)]; simp only [Sem.run_bind, h1, h2, h3, Result.andThen_ok, Bool.not_false, if_true, Sem.run_pure]
theorem part_arr {P : Program} (w : World) (t n e : Nat) (xs : Array Value) (off : Nat) (ht : P.underlying t = some (.array n e)) (hs : (P.info? t).map (·.size) = some n) (ho : off + n ≤ xs.size) : (part t xs off).run P w = .ok (.agg (xs.extract off (off + n))) w := by
 have h1 : (isAgg t).run P w = .ok true w := by
  unfold isAgg; rw [Sem.run_bind, run_underlying ht w]; rfl
 cases hq : P.info? t with
 | none => simp [hq] at hs
 | some i =>
  have hsz : i.size = n := by simpa [hq] using hs
  simp [part, Sem.run_bind, h1, sizeOf, typeInfo, hq, hsz, ho]
theorem eqB (d : Nat) (A B : Nat) (hA : A < 2 ^ 256) (hB : B < 2 ^ 256) (xs ys : Array Value) (hx : ∀ i, i < 32 → xs[i]? = some (.int .u8 (byt A i))) (hy : ∀ i, i < 32 → ys[i]? = some (.int .u8 (byt B i))) (w : World) : (Op.equalIn (d + 2) 27 (.agg xs) (.agg ys)).run Try.prog w = .ok (decide (A = B)) w := by
 rw [run_equalIn_arr (P := Try.prog) w d 27 5 32 .u8 xs ys (byt A) (byt B) Try.underlying27 Try.underlying5 (by kernel_rfl) hx hy]
 congr 1
 rw [Bool.eq_iff_iff, eqArr_true, decide_eq_true_iff]
 exact ⟨byt_inj hA hB, fun h => by subst h; intro _ _; rfl⟩
theorem ext_k {k v : Nat} : ∀ i, i < 32 → ((lf k v).extract 0 (0 + 32))[i]? = some (.int .u8 (byt k i)) := fun i hi => by
 rw [Array.getElem?_extract]; simp only [lf_size]
 rw [if_pos (by omega)]; exact lf_k i _ (arrK_get _ _ _ _ hi)
theorem ext_v {k v : Nat} : ∀ i, i < 32 → ((lf k v).extract 32 (32 + 32))[i]? = some (.int .u8 (byt v i)) := fun i hi => by
 rw [Array.getElem?_extract]; simp only [lf_size]
 rw [if_pos (by omega)]; exact lf_v i _ (arrK_get _ _ _ _ hi)
theorem eqRL (x y : Lf) (hx : x.1 < 2 ^ 256 ∧ x.2 < 2 ^ 256) (hy : y.1 < 2 ^ 256 ∧ y.2 < 2 ^ 256) (w : World) : (Op.equalIn 10000 50 (.agg (lf x.1 x.2)) (.agg (lf y.1 y.2))).run Try.prog w = .ok (decide (x = y)) w := by
 have hu := Try.underlying50
 have hf : Try.prog.fieldsOf 50 = (match Try.prog.underlying 50 with | some (.struct fs) => fs | _ => #[]) := rfl
 rw [hu] at hf
 rw [run_equalIn_struct w 9999 50 _ _ (by rw [hf]; exact hu) (by kernel_rfl), hf]
 have p1 := fun k v => part_arr (P := Try.prog) w 27 32 5 (lf k v) 0 Try.underlying27 (by kernel_rfl) (by rw [lf_size]; decide)
 have p2 := fun k v => part_arr (P := Try.prog) w 27 32 5 (lf k v) 32 Try.underlying27 (by kernel_rfl) (by rw [lf_size]; decide)
 refine (fields_step (by decide) (p1 _ _) (p1 _ _) (eqB 9997 x.1 y.1 hx.1 hy.1 _ _ ext_k ext_k w)).trans ?_
 by_cases h : x.1 = y.1
 ·
  rw [if_pos (decide_eq_true h)]
  refine (fields_step (by decide) (p2 _ _) (p2 _ _) (eqB 9997 x.2 y.2 hx.2 hy.2 _ _ ext_v ext_v w)).trans ?_
  by_cases h2 : x.2 = y.2
  ·
   rw [if_pos (decide_eq_true h2), decide_eq_true (Prod.ext h h2)]; simp [Op.eqFields]
  ·
   rw [if_neg (by simp [h2]), decide_eq_false fun e => h2 (by rw [e])]
 ·
  rw [if_neg (by simp [h]), decide_eq_false fun e => h (by rw [e])]
end Go.Proofs.Ytlbgelbhhibikaa

set_option linter.unusedSimpArgs false
set_option linter.unusedVariables false
namespace Go.Proofs.Ytlbgelbhhibikaa
set_option maxHeartbeats 3000000
set_option maxRecDepth 100000
open Go.RowKit
attribute [local irreducible] wpList wpTr wpX
set_option linter.unusedSimpArgs false
/-- a proof's bytes -/
def pB (ss : List Nat) (th : Bool) (a x : Nat) : List UInt8 := be8 ss.length ++ (ss.map (lb 32)).flatten ++ (if th then [1] ++ lb 32 a ++ lb 32 x else [0])
theorem flat32 (ss : List Nat) : (ss.map (lb 32)).flatten.length = 32 * ss.length := by
 induction ss with
 | nil => rfl
 | cons s r ih => rw [List.map_cons, List.flatten_cons, List.length_append, ih, lb_length, List.length_cons]; omega
theorem flatt (ss : List Nat) (i : Nat) : ((ss.map (lb 32)).take i).flatten.length = 32 * min i ss.length := by rw [← List.map_take, flat32, List.length_take]
theorem flat_snoc {ss : List Nat} {i y : Nat} (h : ss[i]? = some y) : ((ss.map (lb 32)).take (i + 1)).flatten = ((ss.map (lb 32)).take i).flatten ++ lb 32 y := by
 rw [List.take_add_one, List.getElem?_map, h, List.flatten_append]; simp
theorem take_all (ss : List Nat) : (ss.map (lb 32)).take ss.length = ss.map (lb 32) := List.take_of_length_le (by simp)
theorem be8_len (n : Nat) : (be8 n).length = 8 := rfl
attribute [local irreducible] lb be8
theorem rpbytes_c {ss : List Nat} {sv : Value} {th : Bool} {a x : Nat} (hn : ss.length ≤ 1000000) (w : World) (hp : RR 32 w sv (ss.map b32l)) :
  Calls Try.prog 44 #[.agg (pfc sv th a x)] w fun e w' => Ret (str (pB ss th a x)) w w' e := by
 obtain ⟨Ap, cp, rfl, hlcp, HRp⟩ := RR.opf hp
 have hS := SH.nil [] w
 go_enter Try.func44, Try.ntmps44
 go_upto_region 0 with fail
 refine RL hS ?_
 clear hS
 refine MN (z := pfc (.slice Ap ss.length cp) th a x) (t := 52) ?_
 intro p1_1
 refine MV ?_
 refine MZ fun W hS => ?_
 go_upto_region 1 with fail
 refine RL hS ?_
 clear hS
 refine MV ?_
 refine MG 0 ?_ (v := .slice Ap ss.length cp) (hj := pf_s)
 refine MV ?_
 refine MC (v := str (be8 ss.length)) (fun W hS => eight_c (ss.length : Int) ss.length (by omega) W) ?_
 refine MV ?_
 refine MZ fun W hS => ?_
 go_wp2_with fail
 go_loopw [3, 4] (fun tt ii wr => ∃ (i : Nat), (i ≤ ss.length) ∧ (tt = str (be8 ss.length ++ ((ss.map (lb 32)).take i).flatten)) ∧ (ii = .int .i64 (i : Int)) ∧ SH [] w wr [.b p1_1 (pfc (.slice Ap ss.length cp) th a x) 52])
  (fun tt ii _ => ss.length - (intOf ii).toNat)
 case atStart => exact ⟨0, Nat.zero_le _, by rw [List.take_zero, List.flatten_nil, List.append_nil], rfl, hS⟩
 clear hS
 case round =>
  obtain ⟨i, hi, rfl, rfl, hS⟩ := hrel
  by_cases hlt : i < ss.length
  ·
   have _f := hlt
   obtain ⟨y, yh⟩ : ∃ x, ss[i]? = some x := ⟨_, List.getElem?_eq_getElem hlt⟩
   obtain ⟨gp, op, A0p, c0p⟩ := HRp.out i y yh
   have HAp := Lib.hid A0p
   clear A0p
   go_upto_region 3 with fail
   refine RL hS ?_
   clear hS
   refine MV ?_
   refine MV ?_
   refine MG 0 ?_ (v := .slice Ap ss.length cp) (hj := pf_s)
   refine MV ?_
   refine MW ?_ (v := .bool true)
   refine MZ fun W hS => ?_
   go_upto_region 5 with fail
   refine RL hS ?_
   clear hS
   refine MV ?_
   refine MV ?_
   refine MG 0 ?_ (v := .slice Ap ss.length cp) (hj := pf_s)
   refine MV ?_
   refine MW ?_ (v := .pointer (some ⟨gp, op + i * 32, none⟩)) (hv := fun _ => run_ixRA HAp.out hlt rfl rfl rfl Try.underlying48 (by kernel_rfl))
   refine MW ?_ (v := .slice (some ⟨gp, op + i * 32, none⟩) 32 32)
   refine MF (v := str (lb 32 y)) (fun W hS => run_cvs (sl_c32 (fun i_ v_ h_ => cell_ext (c0p i_ v_ h_) hS.ext)) rfl rfl) ?_
   refine MW ?_ (v := str ((be8 ss.length ++ ((ss.map (lb 32)).take i).flatten) ++ (lb 32 y))) (hv := fun _ => run_cat (l := (be8 ss.length ++ ((ss.map (lb 32)).take i).flatten)) (m := (lb 32 y)) rfl rfl rfl (by first | omega | (simp only [List.length_append, List.length_cons, List.length_nil, lb_length, be8_len, flat32, flatt]; omega)))
   refine MV ?_
   refine MZ fun W hS => ?_
   go_wp2
   go_roundw
   case rel => exact ⟨i + 1, by omega, by rw [flat_snoc yh, ← List.append_assoc], by go_num, hS⟩
   case measure => simp [intOf]; omega
  ·
   have _f := hlt
   obtain rfl : i = ss.length := by omega
   rw [take_all]
   go_upto_region 3 with fail
   refine RL hS ?_
   clear hS
   refine MV ?_
   refine MV ?_
   refine MG 0 ?_ (v := .slice Ap ss.length cp) (hj := pf_s)
   refine MV ?_
   refine MW ?_ (v := .bool false)
   refine MZ fun W hS => ?_
   rcases th with _ | _
   ·
    have _f := True.intro
    go_upto_region 6 with fail
    refine RL hS ?_
    clear hS
    refine MV ?_
    refine MG 0 ?_ (v := .bool false) (hj := pf_t)
    refine MW ?_ (v := .bool true)
    refine MZ fun W hS => ?_
    go_upto_region 7 with fail
    refine RL hS ?_
    clear hS
    refine MV ?_
    refine MW ?_ (v := str ((be8 ss.length ++ (ss.map (lb 32)).flatten) ++ [0])) (hv := fun _ => run_cat (l := (be8 ss.length ++ (ss.map (lb 32)).flatten)) (m := [0]) rfl rfl rfl (by first | omega | (simp only [List.length_append, List.length_cons, List.length_nil, lb_length, be8_len, flat32, flatt]; omega)))
    refine MV ?_
    refine MZ fun W hS => ?_
    go_wp2
    exact bodyPost_ret (v := str ((be8 ss.length ++ (ss.map (lb 32)).flatten) ++ [0])) (by simp only [results, Try.results44]; go_simp) rfl ⟨by rw [show (be8 ss.length ++ (ss.map (lb 32)).flatten) ++ [0] = pB ss false a x from by unfold pB; simp only [List.append_assoc]; rfl], hS.ext⟩
   ·
    have _f := True.intro
    go_upto_region 6 with fail
    refine RL hS ?_
    clear hS
    refine MV ?_
    refine MG 0 ?_ (v := .bool true) (hj := pf_t)
    refine MW ?_ (v := .bool false)
    refine MZ fun W hS => ?_
    go_upto_region 8 with fail
    refine RTh (.q 0 (.q 1 (.q 2 (.q 3 (.q 4 (.q 5 (.q 6 (.q 7 (.q 8 (.q 9 (.q 10 (.q 11 (.q 12 .z))))))))))))) hS ?_
    clear hS
    refine TV ?_
    refine TW ?_ (v := str ((be8 ss.length ++ (ss.map (lb 32)).flatten) ++ [1])) (hv := fun _ => run_cat (l := (be8 ss.length ++ (ss.map (lb 32)).flatten)) (m := [1]) rfl rfl rfl (by first | omega | (simp only [List.length_append, List.length_cons, List.length_nil, lb_length, be8_len, flat32, flatt]; omega)))
    refine TV ?_
    refine TV ?_
    refine TW ?_ (v := .slice (some ⟨p1_1, 2, none⟩) 32 32)
    refine TF (v := str (lb 32 a)) rfl (fun W hS => run_cvs (sl_part (V := a) (n := 32) (off := 2) (c := 32) (hS.blk (i := 0) rfl) pf_k (by decide) (by decide)) rfl rfl) ?_
    refine TW ?_ (v := str (((be8 ss.length ++ (ss.map (lb 32)).flatten) ++ [1]) ++ (lb 32 a))) (hv := fun _ => run_cat (l := ((be8 ss.length ++ (ss.map (lb 32)).flatten) ++ [1])) (m := (lb 32 a)) rfl rfl rfl (by first | omega | (simp only [List.length_append, List.length_cons, List.length_nil, lb_length, be8_len, flat32, flatt]; omega)))
    refine TV ?_
    refine TV ?_
    refine TW ?_ (v := .slice (some ⟨p1_1, 34, none⟩) 32 32)
    refine TF (v := str (lb 32 x)) rfl (fun W hS => run_cvs (sl_part (V := x) (n := 32) (off := 34) (c := 32) (hS.blk (i := 0) rfl) pf_v (by decide) (by decide)) rfl rfl) ?_
    refine TW ?_ (v := str ((((be8 ss.length ++ (ss.map (lb 32)).flatten) ++ [1]) ++ (lb 32 a)) ++ (lb 32 x))) (hv := fun _ => run_cat (l := (((be8 ss.length ++ (ss.map (lb 32)).flatten) ++ [1]) ++ (lb 32 a))) (m := (lb 32 x)) rfl rfl rfl (by first | omega | (simp only [List.length_append, List.length_cons, List.length_nil, lb_length, be8_len, flat32, flatt]; omega)))
    refine TV ?_
    refine TZ (fun _ h => h) fun W hS => ?_
    go_wp2
    exact bodyPost_ret (v := str ((((be8 ss.length ++ (ss.map (lb 32)).flatten) ++ [1]) ++ (lb 32 a)) ++ (lb 32 x))) (by simp only [results, Try.results44]; go_simp) rfl ⟨by rw [show (((be8 ss.length ++ (ss.map (lb 32)).flatten) ++ [1]) ++ (lb 32 a)) ++ (lb 32 x) = pB ss true a x from by unfold pB; simp only [List.append_assoc]; rfl], hS.ext⟩
end Go.Proofs.Ytlbgelbhhibikaa

/- Proofs as bytes, the plain law: what is put is taken; what ends too soon is told; what is taken has just these bytes. No conditions. Proofs as bytes, the plain law: what is taken has just these bytes. No conditions. ProofShort. Conditions: the tables hold their numbers; keys and values have 256 bits. -/
import Derived.Test.YtndnlbinnhdmbaaDoorPrK
import Derived.Test.YtndnlbinnhdmbaaDoorJ22
set_option linter.unusedSimpArgs false
set_option linter.unusedVariables false
namespace Go.Proofs.YtndnlbinnhdmbaaDoor
open Go.RowKit
attribute [local irreducible] be8 lb le beN
theorem tkS_ok {n : Nat} {l : List UInt8} (h : n ≤ l.length) : tkS n (l, 0) = (l.drop n, 0) := by unfold tkS; rw [if_pos ⟨rfl, h⟩]
theorem tkS_app {n : Nat} {a r : List UInt8} (h : a.length = n) : tkS n (a ++ r, 0) = (r, 0) := by
  rw [tkS_ok (by rw [List.length_append]; omega), List.drop_append, List.drop_eq_nil_of_le (by omega), h]; simp
theorem tkS_no {n : Nat} {s : RSt} (h : ¬ okS n s) : tkS n s = (s.1, noE s.2) := by unfold tkS; rw [if_neg h]
theorem tkS_3 {n : Nat} {s : RSt} (h : s.2 = 3) : (tkS n s).2 = 3 := by
  rw [tkS_no (fun h1 => by have h2 := h1.1; rw [h] at h2; omega), h]; rfl
theorem tkS_short {n : Nat} {l : List UInt8} (h : l.length < n) : (tkS n (l, 0)).2 = 3 := by
  rw [tkS_no (fun h1 => by have h2 : n ≤ l.length := h1.2; omega)]; rfl
theorem byV_3 {s : RSt} (h : s.2 = 3) : byV s = 0 := by unfold byV; rw [if_neg (fun h1 => by have h2 := h1.1; rw [h] at h2; omega)]
theorem byV_nil : byV ([], 0) = 0 := by unfold byV; rw [if_neg (fun h1 => by have h2 : 1 ≤ ([] : List UInt8).length := h1.2; simp at h2)]
theorem byV_cons (c : UInt8) (r : List UInt8) : byV (c :: r, 0) = c.toNat := by unfold byV; rw [if_pos ⟨rfl, by simp⟩]; rfl
theorem flS_3 {s : RSt} (h : s.2 = 3) : flV s = false ∧ (flS s).2 = 3 := by
  refine ⟨by unfold flV; rw [byV_3 h]; rfl, ?_⟩
  unfold flS; rw [byV_3 h, if_neg (by omega)]; exact tkS_3 h
theorem enV_3 {s : RSt} (h : s.2 = 3) : enV s = 3 := by unfold enV; rw [if_neg (fun h1 => by have h2 := h1.1; rw [h] at h2; omega), h]
theorem takeE_3 {ss : List Nat} {th : Bool} {a x : Nat} {s : RSt} (h : s.2 = 3) : (takeE ss th a x s).1 = ([], false, 0, 0, 3) := by unfold takeE; rw [enV_3 h, if_pos (by omega)]
theorem takeB_3 {ss : List Nat} {s : RSt} (h : s.2 = 3) : (takeB ss s).1 = ([], false, 0, 0, 3) := by
  obtain ⟨h1, h2⟩ := flS_3 h
  unfold takeB; rw [if_neg (by rw [h1]; decide)]; exact takeE_3 h2
theorem sumsS_ok : ∀ (n : Nat) (l : List UInt8), 32 * n ≤ l.length → sumsS n (l, 0) = (l.drop (32 * n), 0)
  | 0, l, _ => rfl
  | n + 1, l, h => by
    show tkS 32 (sumsS n (l, 0)) = _
    rw [sumsS_ok n l (by omega), tkS_ok (by rw [List.length_drop]; omega), List.drop_drop]; rfl
theorem sumsS_short : ∀ (n : Nat) (l : List UInt8), l.length < 32 * n → (sumsS n (l, 0)).2 = 3
  | 0, l, h => by omega
  | n + 1, l, h => by
    show (tkS 32 (sumsS n (l, 0))).2 = 3
    rcases Nat.lt_or_ge l.length (32 * n) with h1 | h1
    · exact tkS_3 (sumsS_short n l h1)
    · rw [sumsS_ok n l h1]; exact tkS_short (by rw [List.length_drop]; omega)
theorem nuV_app {n : Nat} {r : List UInt8} (h : n < 9223372036854775808) : nuV (be8 n ++ r, 0) = n := by
  have hl : (be8 n).length = 8 := be8_len n
  unfold nuV
  rw [if_pos ⟨rfl, by show 8 ≤ (be8 n ++ r).length; rw [List.length_append, hl]; omega⟩]
  show IntKind.wrap .i64 (beN ((be8 n ++ r).take 8) : Int) = n
  rw [List.take_append_of_le_length (by rw [hl]; exact Nat.le_refl _), List.take_of_length_le (by rw [hl]; exact Nat.le_refl _), beN_be8 (by omega), IntKind.wrap_i64]
  omega
theorem pB_len {ss : List Nat} {th : Bool} {a x : Nat} : (pB ss th a x).length = 8 + 32 * ss.length + (if th = true then 65 else 1) := by
  unfold pB
  rw [List.length_append, List.length_append, be8_len, flat32]
  cases th
  · rfl
  · show _ + ([1] ++ lb 32 a ++ lb 32 x).length = _
    rw [List.length_append, List.length_append, lb_length, lb_length]; rfl
/-- what ends too soon -/
theorem take_short {ss : List Nat} {th : Bool} {a x k : Nat} (hn : ss.length ≤ 256) (hk : k < (pB ss th a x).length) : (takeM ((pB ss th a x).take k, 0)).1 = ([], false, 0, 0, 3) := by
  rw [pB_len] at hk
  unfold takeM
  rcases Nat.lt_or_ge k 8 with h8 | h8
  · have hl : ((pB ss th a x).take k).length < 8 := by rw [List.length_take]; omega
    have e : nuV ((pB ss th a x).take k, 0) = 0 := by unfold nuV; rw [if_neg (fun h1 => by have h2 : 8 ≤ ((pB ss th a x).take k).length := h1.2; omega)]
    rw [e, if_neg (by omega)]
    exact takeB_3 (tkS_short hl)
  · have e0 : (pB ss th a x).take k = be8 ss.length ++ (((ss.map (lb 32)).flatten ++ (if th = true then [1] ++ lb 32 a ++ lb 32 x else [0])).take (k - 8)) := by
      unfold pB
      rw [List.append_assoc, List.take_append, be8_len, List.take_of_length_le (by rw [be8_len]; exact h8)]
    rw [e0, nuV_app (by omega), if_neg (by omega), Int.toNat_natCast, tkS_app (be8_len _)]
    generalize hm : k - 8 = m
    have hfl := flat32 ss
    rcases Nat.lt_or_ge m (32 * ss.length) with h1 | h1
    · exact takeB_3 (sumsS_short _ _ (by rw [List.length_take]; omega))
    · have hl : 32 * ss.length ≤ (((ss.map (lb 32)).flatten ++ (if th = true then [1] ++ lb 32 a ++ lb 32 x else [0])).take m).length := by
        rw [List.length_take, List.length_append, hfl]; omega
      rw [sumsS_ok _ _ hl]
      have e1 : (((ss.map (lb 32)).flatten ++ (if th = true then [1] ++ lb 32 a ++ lb 32 x else [0])).take m).drop (32 * ss.length) = (if th = true then [1] ++ lb 32 a ++ lb 32 x else [0]).take (m - 32 * ss.length) := by
        rw [List.take_append, hfl, List.take_of_length_le (by omega), List.drop_append, List.drop_eq_nil_of_le (by omega), hfl]; simp
      rw [e1]
      generalize hq : m - 32 * ss.length = q
      unfold takeB
      cases th
      · obtain rfl : q = 0 := by simp at hk; omega
        show (if flV ([], 0) = true then _ else takeE _ false 0 0 (flS ([], 0))).1 = _
        rw [if_neg (by unfold flV; rw [byV_nil]; decide)]
        exact takeE_3 (by unfold flS; rw [byV_nil, if_neg (by decide)]; exact tkS_short (by simp))
      · simp only [if_true] at hk ⊢
        match q with
        | 0 =>
          show (if flV ([], 0) = true then _ else takeE _ false 0 0 (flS ([], 0))).1 = _
          rw [if_neg (by unfold flV; rw [byV_nil]; decide)]
          exact takeE_3 (by unfold flS; rw [byV_nil, if_neg (by decide)]; exact tkS_short (by simp))
        | q + 1 =>
          have e2 : ([1] ++ lb 32 a ++ lb 32 x).take (q + 1) = 1 :: (lb 32 a ++ lb 32 x).take q := by rw [List.append_assoc]; rfl
          rw [e2, if_pos (by unfold flV; rw [byV_cons]; decide)]
          have e : flS (1 :: (lb 32 a ++ lb 32 x).take q, 0) = ((lb 32 a ++ lb 32 x).take q, 0) := by unfold flS; rw [byV_cons, if_neg (by decide)]; exact tkS_app (a := [1]) rfl
          rw [e]
          refine takeE_3 ?_
          have hll : (lb 32 a ++ lb 32 x).length = 64 := by rw [List.length_append, lb_length, lb_length]
          rcases Nat.lt_or_ge q 32 with h2 | h2
          · exact tkS_3 (tkS_short (by rw [List.length_take]; omega))
          · rw [tkS_ok (by rw [List.length_take]; omega)]
            exact tkS_short (by rw [List.length_drop, List.length_take]; omega)
end Go.Proofs.YtndnlbinnhdmbaaDoor

set_option linter.unusedSimpArgs false
set_option linter.unusedVariables false
namespace Go.Proofs.YtndnlbinnhdmbaaDoor
open Go.RowKit
attribute [local irreducible] be8 lb le beN
end Go.Proofs.YtndnlbinnhdmbaaDoor

set_option linter.unusedSimpArgs false
set_option linter.unusedVariables false
namespace Go.Proofs.YtndnlbinnhdmbaaDoor
set_option maxHeartbeats 3000000
set_option maxRecDepth 100000
open Go.RowKit
attribute [local irreducible] wpList wpTr wpX
set_option linter.unusedSimpArgs false
/-- Take, of a reader that is known -/
theorem tkcall {args : Array Value} {f : FuncId} {F : List Nat} {w W : World} {R : List As} {j p : Nat} {v : Value} {l : List UInt8} {e : Int} {r : (List Nat × Bool × Nat × Nat × Int) × RSt} (hS : SH F w W (.b p #[v, .int .i64 e] 123 :: R)) (hj : R[j]? = some (.s v l)) (ht : R.all (SH.tyOk (.r 22 32 undef [])) = true) (ht2 : R.all (SH.tyOk (.b 0 #[] 123)) = true)
  (hc : Rdr W p v l e → Calls Tryd.prog f args W fun en W' => TKR p v l r W W' en) :
  Calls Tryd.prog f args W fun en W' => ∃ x : { y : Value × Value // Sub y.2 r.2.1 (sb v l) }, en = .returned (.tuple #[.agg (pfc x.1.1 r.1.2.1 r.1.2.2.1 r.1.2.2.2.1), .int .i64 r.1.2.2.2.2]) ∧ SH F w W' (.s x.1.2 r.2.1 :: .b p #[x.1.2, .int .i64 r.2.2] 123 :: .r 22 32 x.1.1 (r.1.1.map b32l) :: R) := by
 refine (hc (rdr_at (i := 0) (j := j + 1) hS rfl (by simpa using hj))).mono fun en W' ⟨u, h1, v', h2, h3⟩ => ⟨⟨(u, v'), h3⟩, h1, ?_⟩
 have h4 : SH (SH.feet [.b p #[v, .int .i64 e] 123]) W W' [.b p #[v', .int .i64 r.2.2] 123, .r 22 32 u (r.1.1.map b32l)] := h2.pick [0, 2]
 have h5 := SH.frame (L := [.b p #[v, .int .i64 e] 123]) (R := R) hS h4 ⟨.inr ⟨rfl, ht2⟩, .inr ⟨rfl, ht⟩, trivial⟩
 exact h5.sub (i := j + 2) (by simpa using hj) (h2.sl (i := 1) rfl) h3
attribute [local irreducible] hs4 sE sL sN lb be8 takeM

theorem proofShort_L {q : Prop} {ps ss : List Nat} {sv : Value} {th : Bool} {a x : Nat} (cut : Int) (hE6 : ps.take 260 = ss) (ha : a < 2 ^ 256) (hx : x < 2 ^ 256) (w : World) (hG : GT q w) (hp : RR 32 w sv (ps.map b32l)) :
  Calls Tryd.prog 12 #[.agg (pfc sv th a x), .int .i64 cut] w fun e w' => Ret (.bool true) w w' e := by
 have hsl : ss.length ≤ 260 := by rw [← hE6, List.length_take]; omega
 have hL0 : 0 < (pB ss th a x).length ∧ (pB ss th a x).length ≤ 100000 := by rw [pB_len]; split <;> omega
 have hpne : ¬ pB ss th a x = [] := fun h_ => by have h2_ := hL0.1; rw [h_] at h2_; exact absurd h2_ (by decide)
 have HL0 := Lib.hid hL0
 clear hL0
 obtain ⟨n, hn⟩ : ∃ n : Nat, (n : Int) = cut % 18446744073709551616 % ((pB ss th a x).length : Int) := ⟨(cut % 18446744073709551616 % ((pB ss th a x).length : Int)).toNat, Int.toNat_of_nonneg (Int.emod_nonneg _ (by have h_ := HL0.out; omega))⟩
 have hnk : n < (pB ss th a x).length := by have h_ := Int.emod_lt_of_pos (cut % 18446744073709551616) (show (0 : Int) < ((pB ss th a x).length : Int) by have h_ := HL0.out; omega); omega
 have Hn := Lib.hid hn
 clear hn
 obtain ⟨Ap, cp, rfl, hlcp, HRp⟩ := RR.opf hp
 have hS := SH.nil [] w
 go_enter Tryd.func12, Tryd.ntmps12
 go_upto_region 0 with fail
 refine RL hS ?_
 clear hS
 refine MN (z := pfc (.slice Ap ps.length cp) th a x) (t := 66) ?_
 intro p2_1
 refine MW ?_ (v := .bool false)
 refine MZ fun W hS => ?_
 go_upto_region 1 with fail
 refine RL hS ?_
 clear hS
 refine ML 0 ?_ (hs := by rw [pf_size]; kernel_rfl)
 refine ME (V := fun v => .agg (pfc v th a x)) (fun W hS => pcall (ss := ss) hS ((by rw [← hE6]; exact tame_c W (hp.ext hS.ext))) rfl) ?_
 intro tm_3
 refine MFact (fun W hS => Row.form (ls := ss) (f := b32l) (hS.row (i := 0) rfl)) ?_
 rintro ⟨A_4, c_4, rfl⟩
 refine MR 1 ?_ (hz := by rw [pf_size]; kernel_rfl) (hs := by first | rw [pf_size, pf_size] | rw [pf_size] | kernel_rfl) (h1 := (pf_one rfl))
 refine MZ fun W hS => ?_
 by_cases hb : ss.length ≤ 256
 ·
  have _f := hb
  have hlt2_ : (List.take n (pB ss th a x)).length ≤ 100000 := by rw [List.length_take, pB_len]; split <;> omega
  go_upto_region 2 with fail
  refine RL hS ?_
  clear hS
  refine MC (v := .bool true) (fun W hS => proofs_c W (GT_ext hG hS.ext)) ?_
  refine MW ?_ (v := .bool false)
  refine MW ?_ (v := .bool false)
  refine MV ?_
  refine MG 1 ?_ (v := (.slice A_4 ss.length c_4)) (hj := pf_s)
  refine MF (v := .int .i64 ((List.map b32l ss).length : Int)) (fun W hS => run_lenR (hS.row (i := 0) rfl) rfl rfl Tryd.underlying58) ?_
  refine MW ?_ (v := .bool false) (hv := by intro W; go_simp; (try omega))
  refine MW ?_ (v := .bool false)
  refine MZ fun W hS => ?_
  go_upto_region 4 with fail
  refine RL hS ?_
  clear hS
  refine ML 1 ?_ (hs := by rw [pf_size]; kernel_rfl)
  refine MC (v := str (pB ss th a x)) (fun W hS => rpbytes_c (by omega) W (hS.row (i := 0) rfl).rr) ?_
  refine MV ?_
  refine MZ fun W hS => ?_
  go_upto_region 5 with fail
  refine RL hS ?_
  clear hS
  refine MV ?_
  refine MW ?_ (v := .int .u64 (cut % 18446744073709551616)) (hv := by intro W; have h0_ : (0 : Int) ≤ cut % 18446744073709551616 := (by omega); have hp_ := HL0.out; go_simp; (try simp only [IntKind.wrap_u64, IntKind.wrap_i64]); (try rw [Int.tmod_eq_emod_of_nonneg (by omega)]); (try rw [if_neg (by omega)]); (try rw [if_neg hpne]); (try omega))
  refine MV ?_
  refine MW ?_ (v := .int .i64 ((pB ss th a x).length : Int)) (hv := fun _ => run_slen (l := (pB ss th a x)) rfl rfl)
  refine MW ?_ (v := .int .u64 ((pB ss th a x).length : Int)) (hv := by intro W; have h0_ : (0 : Int) ≤ cut % 18446744073709551616 := (by omega); have hp_ := HL0.out; go_simp; (try simp only [IntKind.wrap_u64, IntKind.wrap_i64]); (try rw [Int.tmod_eq_emod_of_nonneg (by omega)]); (try rw [if_neg (by omega)]); (try rw [if_neg hpne]); (try omega))
  refine MW ?_ (v := .int .u64 (n : Int)) (hv := by intro W; have h0_ : (0 : Int) ≤ cut % 18446744073709551616 := (by omega); have hp_ := HL0.out; go_simp; (try simp only [IntKind.wrap_u64, IntKind.wrap_i64]); (try rw [Int.tmod_eq_emod_of_nonneg (by omega)]); (try rw [if_neg (by omega)]); (try rw [if_neg hpne]); (try rw [← Hn.out]))
  refine MW ?_ (v := .int .i64 (n : Int)) (hv := by intro W; have hp_ := HL0.out; have h0_ : (0 : Int) ≤ cut % 18446744073709551616 := (by omega); have hp_ := HL0.out; go_simp; (try simp only [IntKind.wrap_u64, IntKind.wrap_i64]); (try rw [Int.tmod_eq_emod_of_nonneg (by omega)]); (try rw [if_neg (by omega)]); (try rw [if_neg hpne]); (try omega))
  refine MV ?_
  refine MZ fun W hS => ?_
  go_upto_region 6 with fail
  refine RL hS ?_
  clear hS
  refine MV ?_
  refine MV ?_
  refine MW ?_ (v := str (List.take n (pB ss th a x))) (hv := fun _ => run_shead (l := (pB ss th a x)) (n := n) (Nat.le_of_lt hnk) rfl Tryd.underlying9 rfl rfl)
  refine MY (m := (List.take n (pB ss th a x))) (by first | omega | (simp only [List.length_append, List.length_map, List.length_take, List.length_drop, List.length_reverse, List.length_cons, List.length_nil, lb_length, dbl]; omega)) ?_
  intro v33_5
  refine ME (V := fun x : Nat × Value => .pointer (some ⟨x.1, 0, none⟩)) (fun W hS => ncallL hS (read_n (hS.ozl (i := 0) rfl) (by first | omega | (simp only [List.length_append, List.length_map, List.length_take, List.length_drop, List.length_reverse, List.length_cons, List.length_nil, lb_length, dbl]; omega))) (fun _ => rfl)) ?_
  rintro ⟨p_rd34, v_rd34⟩
  dsimp only
  obtain ⟨s2, hs2⟩ : ∃ s2 : RSt, takeM (List.take n (pB ss th a x), 0) = (([], false, 0, 0, 3), s2) := ⟨_, Prod.ext (take_short (by omega) hnk) rfl⟩
  obtain ⟨l2, e2⟩ := s2
  refine ME (V := fun x : { y : Value × Value // Sub y.2 l2 (sb v_rd34 (List.take n (pB ss th a x))) } => .tuple #[.agg (pfc x.1.1 false 0 0), .int .i64 3]) (fun W hS => tkcall (r := (([], false, 0, 0, 3), (l2, e2))) (hS.pick [0, 1, 2, 3, 4]) (j := 0) rfl rfl rfl (fun hr => by have h_ := ptake_c p_rd34 v_rd34 (List.take n (pB ss th a x), 0) (show List.length (List.take n (pB ss th a x)) < _ by first | omega | (simp only [List.length_append, List.length_map, List.length_take, List.length_drop, List.length_reverse, List.length_cons, List.length_nil, lb_length, dbl]; omega)) W hr; rw [hs2] at h_; exact h_)) ?_
  rintro ⟨⟨u_6, v_6⟩, hs_6⟩
  dsimp only
  refine MFact (fun W hS => Row.form (ls := []) (f := b32l) (hS.row (i := 2) rfl)) ?_
  rintro ⟨A_7, c_7, rfl⟩
  refine MV ?_
  refine MV ?_
  refine MW ?_ (v := .int .i64 3)
  refine MN (z := pfc (.slice none 0 0) false 0 0) (t := 69) ?_
  intro p7_8
  refine MR 0 ?_ (hz := by rw [pf_size]; kernel_rfl) (hs := by first | rw [pf_size, pf_size] | rw [pf_size] | kernel_rfl) (h1 := (pf_one rfl))
  refine MW ?_ (v := .int .i64 3)
  refine MZ fun W hS => ?_
  go_wp2
  exact bodyPost_ret (v := .bool true) (by simp only [results, Tryd.results12]; go_simp) rfl ⟨rfl, hS.ext⟩
 ·
  have _f := hb
  go_upto_region 2 with fail
  refine RL hS ?_
  clear hS
  refine MC (v := .bool true) (fun W hS => proofs_c W (GT_ext hG hS.ext)) ?_
  refine MW ?_ (v := .bool false)
  refine MW ?_ (v := .bool false)
  refine MV ?_
  refine MG 1 ?_ (v := (.slice A_4 ss.length c_4)) (hj := pf_s)
  refine MF (v := .int .i64 ((List.map b32l ss).length : Int)) (fun W hS => run_lenR (hS.row (i := 0) rfl) rfl rfl Tryd.underlying58) ?_
  refine MW ?_ (v := .bool true) (hv := by intro W; go_simp; (try omega))
  refine MW ?_ (v := .bool true)
  refine MZ fun W hS => ?_
  go_upto_region 3 with fail
  refine RL hS ?_
  clear hS
  refine MC (v := .bool true) (fun W hS => proofs_c W (GT_ext hG hS.ext)) ?_
  refine MW ?_ (v := .bool true)
  refine MZ fun W hS => ?_
  go_wp2
  exact bodyPost_ret (v := .bool true) (by simp only [results, Tryd.results12]; go_simp) rfl ⟨rfl, hS.ext⟩
end Go.Proofs.YtndnlbinnhdmbaaDoor

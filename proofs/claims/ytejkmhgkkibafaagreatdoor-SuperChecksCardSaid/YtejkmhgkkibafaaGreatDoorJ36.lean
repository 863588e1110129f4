/- A log: half, node, the sum of all by peaks, Root. Conditions: the tables hold their numbers. A row turned about, step by step. No conditions. -/
import Derived.Test.YtejkmhgkkibafaaGreatDoorUc
import Derived.Test.YtejkmhgkkibafaaGreatDoorJ35
open Go.RowKit
set_option linter.unusedSimpArgs false
set_option linter.unusedVariables false
namespace Go.Proofs.YtejkmhgkkibafaaGreatDoor
section
set_option maxHeartbeats 3000000
set_option maxRecDepth 100000
attribute [local irreducible] wpList U0 wpX
open S8 (Kn GA kP sig vfy)
def pkC (c : List Nat) : List Value := fcs [.a 32 (mth c), .c (.int .i64 (c.length : Int))]
theorem Q8c {W : World} {A : Option Addr} {n cp i g o : Nat} {cs : List (List Nat)} {d : List Nat} (h : RR 33 W (.slice A n cp) (cs.map pkC)) (dh : cs[i]? = some d) (hA : A = some ⟨g, o, none⟩) : ∀ (j : Nat) (v : Value), (agF [.a 32 (mth d), .c (.int .i64 (d.length : Int))])[j]? = some v → W.cell? ⟨g, o + i * 33 + j, none⟩ = some v := fun j v hv =>
 RR.cellat h (by rw [List.getElem?_map, dh]; rfl) hA j v (by unfold pkC; rw [← Q27, Array.getElem?_toList]; exact hv)
theorem Z9b (cs : List (List Nat)) (c : List Nat) : ¬ 0 < cs.length ∨ (∃ d, cs[cs.length - 1]? = some d ∧ 0 < cs.length ∧ d.length = c.length) ∨ (∃ d, cs[cs.length - 1]? = some d ∧ 0 < cs.length ∧ d.length ≠ c.length) := by
 rcases Nat.eq_zero_or_pos cs.length with h | h
 ·
  exact .inl (by omega)
 obtain ⟨d, hd⟩ : ∃ d, cs[cs.length - 1]? = some d := ⟨_, List.getElem?_eq_getElem (by omega)⟩
 rcases Classical.em (d.length = c.length) with e | e
 ·
  exact .inr (.inl ⟨d, hd, h, e⟩)
 exact .inr (.inr ⟨d, hd, h, e⟩)
theorem Y2v {cs : List (List Nat)} {c : List Nat} (h : ¬ 0 < cs.length) : ∀ d, cs[cs.length - 1]? = some d → d.length ≠ c.length := fun d hd => absurd (List.getElem?_eq_some_iff.1 hd).1 (by omega)
theorem Y8x {cs : List (List Nat)} {ls : List Nat} (h : ¬ 0 < cs.length) (hf : cs.flatten = ls.take ls.length) : ls = [] := by
 rw [List.take_length, List.length_eq_zero_iff.1 (show cs.length = 0 by omega)] at hf; exact hf.symm
theorem Y2w : Dec [] := ⟨fun c hc => (by cases hc), .nil⟩
theorem Q4c (cs : List (List Nat)) (c : List Nat) : (cs ++ [c]).flatten = cs.flatten ++ c := by rw [List.flatten_append, List.flatten_cons, List.flatten_nil, List.append_nil]
theorem Z00 {l : List Nat} {i x : Nat} (h : l[i]? = some x) : l.take (i + 1) = l.take i ++ [x] := by rw [List.take_add_one, h]; rfl
theorem Y8y {q : Prop} (w : World) (hG : GT q w) : Calls Tryz.prog 45 #[.slice none 0 0] w fun e w' => K7 (.agg (J0 .u8 32 (Q3 (hs4 [])))) w w' e :=
 J5a rfl [] none 0 rfl (by simp) (by simp) w (fun i l h => by simp at h) hG.1
theorem J62 {α β : Type} (f : α → β) (l : List α) (x : α) : List.map f l ++ [f x] = List.map f (l ++ [x]) := by rw [List.map_append]; rfl
attribute [local irreducible] eI be8 hs4 lb kTx vTx sTx eS rs ofT sE sL sN pkf S8.sig S8.vfy S8.kP S8.kN S8.kD

theorem J2w : zer Tryz.prog 229 = some (some (agF [.a 32 0, .c (.int .i64 0)])) := by kernel_rfl
theorem J2x : plc Tryz.prog 229 = some [(0, 32), (32, 1)] := by kernel_rfl
theorem Y8z {n : Nat} (h1 : 1 ≤ n) (hn : n ≤ 4611686018427387904) (w : World) :
  Calls Tryz.prog 123 #[.int .i64 (n : Int)] w fun e w' => K7 (.int .i64 (hfn n : Int)) w w' e := by
 have hS := SH.nil [] w
 go_enter Tryz.func123, Tryz.ntmps123
 go_wp2_with fail
 go_loopw [3] (fun kk wr => ∃ (f : Nat) (k : Nat), (0 < k) ∧ (k ≤ n) ∧ (n ≤ k + f) ∧ (RowKit.Hid (hlf n f k = hfn n)) ∧ (kk = .int .i64 (k : Int)) ∧ SH [] w wr [])
  (fun kk _ => (n : Int).toNat - (intOf kk).toNat)
 case atStart => exact ⟨n, 1, Nat.one_pos, h1, Nat.le_add_left n 1, Lib.hid rfl, rfl, hS⟩
 clear hS
 case round =>
  obtain ⟨f, k, J, N, M, D, rfl, hS⟩ := hrel
  by_cases G : k < n - k
  ·
   go_upto_region 2 with fail
   refine RL hS ?_
   clear hS
   refine MV ?_
   refine MV ?_
   refine MV ?_
   refine MW ?_ (v := .int .i64 ((n : Int) - (k : Int))) (hv := by intro W; go_simp; (try simp only [IntKind.wrap_i64]); omega)
   refine MW ?_ (v := .bool true) (hv := by intro W; go_simp; first | done | omega)
   refine MZ fun W hS => ?_
   go_upto_region 3 with fail
   refine RL hS ?_
   clear hS
   refine MV ?_
   refine MW ?_ (v := .int .i64 ((k * 2 : Nat) : Int)) (hv := by intro W; go_simp; (try simp only [IntKind.wrap_i64]); omega)
   refine MV ?_
   refine MZ fun W hS => ?_
   go_wp2
   go_roundw
   case rel => exact ⟨(f - 1), (k * 2), by omega, by omega, by omega, Lib.hid (by rw [← D.out, ← Z96 (show k < n - k by omega)]; congr 1; omega), by go_num, hS⟩
   case measure => simp [intOf]; omega
  go_upto_region 2 with fail
  refine RL hS ?_
  clear hS
  refine MV ?_
  refine MV ?_
  refine MV ?_
  refine MW ?_ (v := .int .i64 ((n : Int) - (k : Int))) (hv := by intro W; go_simp; (try simp only [IntKind.wrap_i64]); omega)
  refine MW ?_ (v := .bool false) (hv := by intro W; go_simp; first | done | omega)
  refine MZ fun W hS => ?_
  go_wp2
  exact bodyPost_ret (v := .int .i64 (k : Int)) (by simp only [results, Tryz.results123]; go_simp) rfl ⟨by rw [← D.out, Z97 _ (by omega)], hS.ext⟩
theorem J63 {q : Prop} (a b : Nat) (w : World) (hG : GT q w) :
  Calls Tryz.prog 75 #[.agg (J0 .u8 32 (Q3 a)), .agg (J0 .u8 32 (Q3 b))] w fun e w' => K7 (.agg (J0 .u8 32 (Q3 (nN a b)))) w w' e := by
 have hS := SH.nil [] w
 go_enter Tryz.func75, Tryz.ntmps75
 go_upto_region 0 with fail
 refine RL hS ?_
 clear hS
 refine MN (z := J0 .u8 32 (Q3 a)) (t := 23) ?_
 intro X5
 refine MN (z := J0 .u8 32 (Q3 b)) (t := 23) ?_
 intro D
 refine MN (z := J0 .u8 32 (Q3 0)) (t := 23) ?_
 intro R
 refine MZ fun W hS => ?_
 go_upto_region 1 with fail
 refine RTp [1, 2] (.q 1 (.q 2 (.e 0 (.e 3 (.e 4 (.e 5 .z)))))) hS ?_
 clear hS
 refine TW ?_ (v := .slice (some ⟨X5, 0, none⟩) 32 32)
 refine TW ?_ (v := .slice (some ⟨D, 0, none⟩) 32 32)
 refine TE (fun _ h => h.pick [1, 2]) ?_
 refine MO (m := [1]) (n := 1) (z := #[.int .u8 1]) ?_
 intro G
 refine TNp [0, 2, 3] [1, 2] ?_
 refine TE (fun _ h => h.pick [0, 2, 3]) ?_
 refine MB (z := #[G, .slice (some ⟨X5, 0, none⟩) 32 32, .slice (some ⟨D, 0, none⟩) 32 32]) (t := 22) (n := 3) (c := 3) ?_ (hr := fun W hS => J2k [G, .slice (some ⟨X5, 0, none⟩) 32 32, .slice (some ⟨D, 0, none⟩) 32 32] rfl rfl (vsc (K6 (hS.osl (i := 0) rfl)).1 (vsc (K6 (K0 (V := a) (n := 32) (off := 0) (c := 32) (hS.blk (i := 3) rfl) ap0 (by decide) (by decide))).1 (vsc (K6 (K0 (V := b) (n := 32) (off := 0) (c := 32) (hS.blk (i := 2) rfl) ap0 (by decide) (by decide))).1 vs0))) Tryz.underlying113 (by kernel_rfl) (by kernel_rfl) rfl (by decide) (by decide))
 intro N
 refine TNp [0, 1, 3, 4] [1, 2, 3] ?_
 refine TE (fun _ h => h.pick [0, 1, 3, 4]) ?_
 obtain ⟨U1, M⟩ := V3 (hs4 ([1] ++ (lb 32 a) ++ (lb 32 b)))
 have J := Lib.hid M
 clear M
 refine MC (v := .agg (J0 .u8 32 (Q3 U1))) (fun W hS => J5a J.out [[1], lb 32 a, lb 32 b] (some ⟨N, 0, none⟩) 3 (by simp only [List.flatten_cons, List.flatten_nil, List.append_nil, List.nil_append, List.append_assoc, List.cons_append]) (by first | omega | (simp only [lA, lM, lT, lD, lC, lN, J8, K8, V9, V5]; omega)) (by simp) W (J1z (hS.blk (i := 0) rfl) (pvc (hS.osl (i := 1) rfl) (pvc (K0 (V := a) (n := 32) (off := 0) (c := 32) (hS.blk (i := 4) rfl) ap0 (by decide) (by decide)) (pvc (K0 (V := b) (n := 32) (off := 0) (c := 32) (hS.blk (i := 3) rfl) ap0 (by decide) (by decide)) pv0)))) (J2b hG.1 hS.ext)) ?_
 refine TNp [0, 1, 3, 4] [0, 1, 2, 3] ?_
 refine TE (fun _ h => h.pick [0, 1, 3, 4]) ?_
 refine MR 2 ?_ 
 refine TNp [0, 1, 3, 4] [0, 1, 2, 3] ?_
 refine TZ (fun _ h => h.pick [0, 1, 3, 4]) fun W hS => ?_
 have e_ := J.out
 subst e_
 go_wp2
 exact bodyPost_ret (Z6 rfl rfl (hS.blk (i := 2) rfl) (by kernel_rfl) (by rw [J1]; kernel_rfl)) rfl ⟨rfl, hS.ext⟩
attribute [local irreducible] nN
theorem Y90 (cs : List (List Nat)) : ¬ 0 < cs.length ∨ ∃ d, cs[cs.length - 1]? = some d ∧ 0 < cs.length := by
 rcases Nat.eq_zero_or_pos cs.length with h | h
 ·
  exact .inl (by omega)
 exact .inr ⟨_, List.getElem?_eq_getElem (by omega), h⟩
theorem Q67 {q : Prop} {ls : List Nat} {v : Value} (hn : ls.length ≤ 1000000) (w : World) (hG : GT q w) (hp : RR 32 w v (ls.map J0f)) :
  Calls Tryz.prog 122 #[v] w fun e w' => K7 (.agg (J0 .u8 32 (Q3 (mth ls)))) w w' e := by
 obtain ⟨Ap, cp, rfl, Ω, χ⟩ := RR.opf hp
 have hS := SH.nil [] w
 go_enter Tryz.func122, Tryz.ntmps122
 go_upto_region 0 with fail
 refine RL hS ?_
 clear hS
 refine MN (z := J0 .u8 32 (Q3 0)) (t := 23) ?_
 intro X5
 refine MZ fun W hS => ?_
 go_upto_region 2 with fail
 refine RL hS ?_
 clear hS
 refine MV ?_
 refine MV ?_
 refine MW ?_ (v := .int .i64 0)
 refine MZ fun W hS => ?_
 have hS := hS.rnil 229 33 rfl
 go_wp2_with fail
 go_loopw [3, 12] (fun uv ii wr => ∃ (i : Nat) (cs : List (List Nat)) (A : Option Addr) (M : Nat), (i ≤ ls.length) ∧ (Dec cs) ∧ (RowKit.Hid (cs.flatten = ls.take i)) ∧ (cs.length ≤ i) ∧ (uv = .slice A cs.length M) ∧ (ii = .int .i64 (i : Int)) ∧ SH [] w wr [.r 229 33 (.slice A cs.length M) (List.map pkC cs), .b X5 (J0 .u8 32 (Q3 0)) 23])
  (fun uv ii _ => ls.length - (intOf ii).toNat)
 case atStart => exact ⟨0, [], none, 0, Nat.zero_le _, Y2w, Lib.hid rfl, Nat.le_refl _, rfl, rfl, hS⟩
 clear hS
 case round =>
  obtain ⟨i, cs, A, M, hi, δ, γ, θ, rfl, rfl, hS⟩ := hrel
  by_cases α : i < ls.length
  ·
   obtain ⟨x, xh⟩ : ∃ x, ls[i]? = some x := ⟨_, List.getElem?_eq_getElem α⟩
   obtain ⟨gp, op, ν, ω⟩ := χ.out i x xh
   have Ξ := Lib.hid ν
   clear ν
   go_upto_region 3 with fail
   refine RL hS ?_
   clear hS
   refine MW ?_ (v := .bool true) (hv := by intro W; go_simp; first | done | omega)
   refine MZ fun W hS => ?_
   go_upto_region 4 with fail
   refine RL hS ?_
   clear hS
   refine MW ?_ (v := .pointer (some ⟨gp, op + i * 32, none⟩)) (hv := fun _ => J17 Ξ.out α rfl rfl rfl Tryz.underlying49 (by kernel_rfl))
   refine MF (v := .agg (J0 .u8 32 (Q3 x))) (fun W hS => J1j rfl rfl (fun i_ v hv => J24 (ω i_ v (by simpa using hv)) hS.ext) (by kernel_rfl) (by rw [J1]; kernel_rfl)) ?_
   refine MN (z := J0 .u8 32 (Q3 0)) (t := 23) ?_
   intro D0
   refine MR 0 ?_ (hz := by rw [J1]; kernel_rfl) (hs := by first | rw [J1, J1] | rw [J1])
   refine MZ fun W hS => ?_
   go_upto_region 5 with fail
   refine RL hS ?_
   clear hS
   refine ML 0 ?_
   refine MF (v := .agg (agF [.a 32 x, .c (.int .i64 1)])) (fun W hS => J2m rfl rfl J2w J2x (J11 (J11 J3q (l' := [.a 32 x, .c (.int .i64 1)]) (m := [.c (.int .i64 1)]) (hv := rfl) (hs := X9 (off := 32) 1 1) (hp := rfl) (hn := rfl) (hb := by show 32 + 1 ≤ 33; decide)) (l' := [.a 32 x, .c (.int .i64 0)]) (m := [.a 32 x]) (hv := (J94 _ _).symm) (hs := X9 (off := 0) 0 1) (hp := rfl) (hn := rfl) (hb := by show 0 + 32 ≤ 33; decide))) ?_
   refine MN (z := agF [.a 32 0, .c (.int .i64 0)]) (t := 229) ?_
   intro Θ
   refine MR 0 ?_ (hz := by rw [J4]; kernel_rfl) (hs := by first | (rw [J4, J4]; simp only [J38, J37, J36]; done) | (rw [J4, J4]; rfl) | rfl) (h1 := by exact (J0a ⟨rfl, trivial⟩))
   refine MZ fun W hS => ?_
   have φ : cs.flatten ++ [x] = ls.take (i + 1) := by rw [γ.out, Z00 xh]
   have ψ := Z2a x
   go_wp2_with fail
   go_loopw [3] (fun uv wr => ∃ (cs : List (List Nat)) (c : List Nat) (A : Option Addr) (M : Nat), (Fit cs c) ∧ (RowKit.Hid (cs.flatten ++ c = ls.take (i + 1))) ∧ (cs.length ≤ i) ∧ (uv = .slice A cs.length M) ∧ SH [] w wr [.r 229 33 (.slice A cs.length M) (List.map pkC cs), .b Θ (agF [.a 32 (mth c), .c (.int .i64 ((c).length : Int))]) 229, .b X5 (J0 .u8 32 (Q3 0)) 23])
    (fun uv _ => J8c uv)
   case atStart => exact ⟨cs, [x], A, M, Y2u δ x, Lib.hid φ, θ, rfl, (by rw [ψ]; exact (hS.pick [2, 0, 3]))⟩
   clear hS
   case round =>
    obtain ⟨cs, c, A, M, R, Y, θ, rfl, hS⟩ := hrel
    have D2 : c.length ≤ ls.length := by have h_ := congrArg List.length Y.out; rw [List.length_append, List.length_take] at h_; omega
    rcases Z9b cs c with β | ⟨d, Z, N, X⟩ | ⟨d, Z, N, X⟩
    ·
     have η := Lib.hid (Y2v (c := c) β)
     go_upto_region 6 with fail
     refine RTh (.q 0 (.q 1 (.q 2 (.q 3 (.q 4 (.q 5 (.q 6 (.q 7 (.q 8 (.q 9 (.q 10 (.q 11 (.q 12 (.q 13 (.q 14 .z))))))))))))))) hS ?_
     clear hS
     refine TV ?_
     refine TF (v := .int .i64 ((List.map pkC cs).length : Int)) rfl (fun W hS => J16 (hS.row (i := 0) rfl) rfl rfl Tryz.underlying227) ?_
     refine TW ?_ (v := .bool false) (hv := by intro W; go_simp; first | done | omega | exact List.length_eq_zero_iff.1 (by omega) | exact fun h_ => (by rw [h_] at N; exact absurd N (by decide)))
     refine TW ?_ (v := .bool false)
     refine TS ?_
     refine TS ?_
     refine TS ?_
     refine TS ?_
     refine TS ?_
     refine TS ?_
     refine TS ?_
     refine TS ?_
     refine TS ?_
     refine TS ?_
     refine TW ?_ (v := .bool false)
     refine TZ (fun _ h => h) fun W hS => ?_
     go_upto_region 10 with fail
     refine RL hS ?_
     clear hS
     refine MV ?_
     refine ML 1 ?_ (hs := by rw [J4]; kernel_rfl)
     refine MB (z := (agF [.a 32 (mth c), .c (.int .i64 ((c).length : Int))])) (t := 229) (n := 1) (c := 1) ?_ (hr := fun W _ => J2u rfl rfl rfl Tryz.underlying227 (by rw [J4]; kernel_rfl) (by rw [J4]; kernel_rfl) (by rw [J4]; exact Nat.le_of_ble_eq_true (by kernel_rfl)) (by rw [J4]; exact Nat.le_of_ble_eq_true (by kernel_rfl)))
     intro D4
     refine MAr 1 0 (tS := 227) (bytes := 40) (es := (List.map pkC cs)) (by first | omega | (simp only [lA, lM, lT, lD, lC, lN, J8, K8, V9, V5]; omega)) (e := pkC c) (hk := by rw [J4]; kernel_rfl) (h1 := by exact (J0a ⟨rfl, trivial⟩)) (cs := (agF [.a 32 (mth c), .c (.int .i64 ((c).length : Int))])) ?_
     intro D3
     refine MV ?_
     refine MZ fun W hS => ?_
     obtain ⟨Ψ, Δ, ρ⟩ := Row.form (ls := cs ++ [c]) (f := pkC) (by have h_ := hS.row (i := 1) rfl; rw [J62] at h_; exact h_)
     go_wp2
     go_roundw
     case rel => exact ⟨i + 1, cs ++ [c], Ψ, Δ, by omega, Z2g R η.out, Lib.hid (by rw [Q4c]; exact Y.out), by rw [List.length_append]; simp only [List.length_cons, List.length_nil]; omega, ρ, by go_num, (by have h_ := (hS.pick [1, 3]); rw [J62, ρ] at h_; exact h_)⟩
     case measure => simp [intOf]; omega
    ·
     have D := Lib.hid X
     clear X
     have hd := Z
     obtain ⟨Aq, cq, V, _, S⟩ := RR.opf (hS.row (i := 0) rfl).rr
     obtain ⟨gk, ok, G, _⟩ := S.out (cs.length - 1) d hd
     injection V with eA e2_ e3_
     clear e2_ e3_
     rw [← eA] at G
     have J := Lib.hid G
     clear G S eA
     go_upto_region 6 with fail
     refine RTh (.q 0 (.q 1 (.q 2 (.q 3 (.q 4 (.q 5 (.q 6 (.q 7 (.q 8 (.q 9 (.q 10 (.q 11 (.q 12 (.q 13 (.q 14 .z))))))))))))))) hS ?_
     clear hS
     refine TV ?_
     refine TF (v := .int .i64 ((List.map pkC cs).length : Int)) rfl (fun W hS => J16 (hS.row (i := 0) rfl) rfl rfl Tryz.underlying227) ?_
     refine TW ?_ (v := .bool true) (hv := by intro W; go_simp; first | done | omega | exact List.length_eq_zero_iff.1 (by omega) | exact fun h_ => (by rw [h_] at N; exact absurd N (by decide)))
     refine TW ?_ (v := .bool true)
     refine TV ?_
     refine TV ?_
     refine TF (v := .int .i64 ((List.map pkC cs).length : Int)) rfl (fun W hS => J16 (hS.row (i := 0) rfl) rfl rfl Tryz.underlying227) ?_
     refine TW ?_ (v := .int .i64 ((cs.length - 1 : Nat) : Int)) (hv := by intro W; go_simp; (try simp only [IntKind.wrap_i64]); omega)
     refine TW ?_ (v := .pointer (some ⟨gk, ok + (cs.length - 1) * 33, none⟩)) (hv := fun _ => J17 J.out (show cs.length - 1 < cs.length by omega) rfl rfl rfl Tryz.underlying227 (by kernel_rfl))
     refine TW ?_ (v := .pointer (some ⟨gk, ok + (cs.length - 1) * 33 + 32, none⟩))
     refine TF (v := .int .i64 ((d).length : Int)) rfl (fun W hS => X8 rfl rfl ((Q8c (hS.row (i := 0) rfl).rr hd J.out) 32 (.int .i64 ((d).length : Int)) (show (agF [.a 32 (mth d), .c (.int .i64 ((d).length : Int))])[32]? = some (.int .i64 ((d).length : Int)) from (Y3 (off := 32) 1))) (by kernel_rfl)) ?_
     refine TV ?_
     refine TG 1 ?_ (v := .int .i64 ((c).length : Int)) (hj := (Y3 (off := 32) 1))
     refine TW ?_ (v := .bool true) (hv := by intro W; go_simp; have h_ := D.out; omega)
     refine TW ?_ (v := .bool true)
     refine TZ (fun _ h => h) fun W hS => ?_
     go_upto_region 7 with fail
     refine RL hS ?_
     clear hS
     refine MV ?_
     refine MV ?_
     refine MF (v := .int .i64 ((List.map pkC cs).length : Int)) (fun W hS => J16 (hS.row (i := 0) rfl) rfl rfl Tryz.underlying227) ?_
     refine MW ?_ (v := .int .i64 ((cs.length - 1 : Nat) : Int)) (hv := by intro W; go_simp; (try simp only [IntKind.wrap_i64]); omega)
     refine MW ?_ (v := .pointer (some ⟨gk, ok + (cs.length - 1) * 33, none⟩)) (hv := fun _ => J17 J.out (show cs.length - 1 < cs.length by omega) rfl rfl rfl Tryz.underlying227 (by kernel_rfl))
     refine MF (v := .agg (agF [.a 32 (mth d), .c (.int .i64 ((d).length : Int))])) (fun W hS => J1j rfl rfl (fun i_ v hv => (Q8c (hS.row (i := 0) rfl).rr hd J.out) i_ v (by simpa using hv)) (by kernel_rfl) (by rw [J4]; kernel_rfl)) ?_
     refine MN (z := agF [.a 32 0, .c (.int .i64 0)]) (t := 229) ?_
     intro D1
     refine MR 0 ?_ (hz := by rw [J4]; kernel_rfl) (hs := by first | (rw [J4, J4]; simp only [J38, J37, J36]; done) | (rw [J4, J4]; rfl) | rfl) (h1 := by exact (J0a ⟨rfl, trivial⟩))
     refine MZ fun W hS => ?_
     go_upto_region 8 with fail
     refine RL hS ?_
     clear hS
     refine MV ?_
     refine MV ?_
     refine MF (v := .int .i64 ((List.map pkC cs).length : Int)) (fun W hS => J16 (hS.row (i := 1) rfl) rfl rfl Tryz.underlying227) ?_
     refine MW ?_ (v := .int .i64 ((cs.length - 1 : Nat) : Int)) (hv := by intro W; go_simp; (try simp only [IntKind.wrap_i64]); omega)
     refine MF (v := (.slice A (cs.length - 1) M)) (fun W hS => Q72 (m := cs.length - 1) (hS.row (i := 1) rfl) (by rw [List.length_map]; omega) rfl rfl rfl Tryz.underlying227 (by kernel_rfl)) ?_
     refine MT (fun W hS => hS.rhead (i := 1) (m := cs.length - 1) rfl (by rw [List.length_map]; omega)) ?_
     refine MV ?_
     refine MZ fun W hS => ?_
     go_upto_region 9 with fail
     refine RTp [0, 1, 3] (.q 0 (.q 1 (.q 2 (.q 5 (.b 3 (.b 4 (.e 6 (.q 7 (.q 8 (.e 9 .z)))) 6 (.q 7 (.e 4 (.q 8 (.e 9 .z))))) 6 (.q 7 (.e 3 (.e 4 (.q 8 (.e 9 .z)))))))))) hS ?_
     clear hS
     refine TV ?_
     refine Tk 0 ?_ (sub := J0 .u8 32 (Q3 (mth d))) (hs := (J1g (off := 0) 0))
     refine TV ?_
     refine TV ?_
     refine TB (fun _ h => h.pick [0, 1, 3]) ?_ ?_
     ·
      refine Mk 2 ?_ (sub := J0 .u8 32 (Q3 (mth c))) (hs := (J1g (off := 0) 0))
      refine TNp [0, 1, 3] [0, 1, 2] ?_
      refine TB (fun _ h => h.pick [0, 1, 3]) ?_ ?_
      ·
       obtain ⟨U1, U⟩ := V3 (nN (mth d) (mth c))
       have T := Lib.hid U
       clear U
       refine MC (v := .agg (J0 .u8 32 (Q3 U1))) (fun W hS => (by rw [T.out]; exact J63 (mth d) (mth c) W (J08 hG hS.ext))) ?_
       refine TNp [0, 1, 3] [0, 1, 2] ?_
       refine TE (fun _ h => h.pick [0, 1, 3]) ?_
       refine MG 2 ?_ (v := .int .i64 ((c).length : Int)) (hj := (Y3 (off := 32) 1))
       refine TNp [0, 1, 3] [0, 1, 2] ?_
       refine TW ?_ (v := .int .i64 (((d ++ c).length : Nat) : Int)) (hv := by intro W; rw [List.length_append]; have h_ := D.out; go_simp; (try simp only [IntKind.wrap_i64]); omega)
       refine TF (v := .agg (agF [.a 32 U1, .c (.int .i64 (((d ++ c).length : Nat) : Int))])) rfl (fun W hS => J2m rfl rfl J2w J2x (J11 (J11 J3q (l' := [.a 32 U1, .c (.int .i64 (((d ++ c).length : Nat) : Int))]) (m := [.c (.int .i64 (((d ++ c).length : Nat) : Int))]) (hv := rfl) (hs := X9 (off := 32) 1 1) (hp := rfl) (hn := rfl) (hb := by show 32 + 1 ≤ 33; decide)) (l' := [.a 32 U1, .c (.int .i64 0)]) (m := [.a 32 U1]) (hv := (J94 _ _).symm) (hs := X9 (off := 0) 0 1) (hp := rfl) (hn := rfl) (hb := by show 0 + 32 ≤ 33; decide))) ?_
       refine TE (fun _ h => h.pick [0, 1, 3]) ?_
       refine MR 2 ?_ (hz := by rw [J4]; kernel_rfl) (hs := by first | (rw [J4, J4]; simp only [J38, J37, J36]; done) | (rw [J4, J4]; rfl) | rfl) (h1 := by exact (J0a ⟨rfl, trivial⟩))
       refine TNp [0, 1, 3] [0, 1, 2] ?_
       refine TZ (fun _ h => h.pick [0, 1, 3]) fun W hS => ?_
       go_wp2
       go_roundw
       case rel => exact ⟨cs.take (cs.length - 1), d ++ c, A, M, (J3m R hd D.out).1, Lib.hid ((J3m R hd D.out).2.2.trans Y.out), by rw [List.length_take]; omega, by rw [List.length_take, Nat.min_eq_left (by omega)], (by have h_ := (hS.pick [1, 2, 3]); rw [T.out, ← List.map_take, ← (J3m R hd D.out).2.1] at h_; rw [List.length_take, Nat.min_eq_left (by omega)]; exact h_)⟩
       case measure => show (cs.length - 1 : Nat) < cs.length; omega
      refine MG 2 ?_ (v := .int .i64 ((c).length : Int)) (hj := (Y3 (off := 32) 1))
      refine TNp [0, 1, 3] [0, 1, 2] ?_
      refine TW ?_ (v := .int .i64 (((d ++ c).length : Nat) : Int)) (hv := by intro W; rw [List.length_append]; have h_ := D.out; go_simp; (try simp only [IntKind.wrap_i64]); omega)
      refine TE (fun _ h => h.pick [0, 1, 3]) ?_
      obtain ⟨U1, U⟩ := V3 (nN (mth d) (mth c))
      have T := Lib.hid U
      clear U
      refine MC (v := .agg (J0 .u8 32 (Q3 U1))) (fun W hS => (by rw [T.out]; exact J63 (mth d) (mth c) W (J08 hG hS.ext))) ?_
      refine TNp [0, 1, 3] [0, 1, 2] ?_
      refine TF (v := .agg (agF [.a 32 U1, .c (.int .i64 (((d ++ c).length : Nat) : Int))])) rfl (fun W hS => J2m rfl rfl J2w J2x (J11 (J11 J3q (l' := [.a 32 U1, .c (.int .i64 (((d ++ c).length : Nat) : Int))]) (m := [.c (.int .i64 (((d ++ c).length : Nat) : Int))]) (hv := rfl) (hs := X9 (off := 32) 1 1) (hp := rfl) (hn := rfl) (hb := by show 32 + 1 ≤ 33; decide)) (l' := [.a 32 U1, .c (.int .i64 0)]) (m := [.a 32 U1]) (hv := (J94 _ _).symm) (hs := X9 (off := 0) 0 1) (hp := rfl) (hn := rfl) (hb := by show 0 + 32 ≤ 33; decide))) ?_
      refine TE (fun _ h => h.pick [0, 1, 3]) ?_
      refine MR 2 ?_ (hz := by rw [J4]; kernel_rfl) (hs := by first | (rw [J4, J4]; simp only [J38, J37, J36]; done) | (rw [J4, J4]; rfl) | rfl) (h1 := by exact (J0a ⟨rfl, trivial⟩))
      refine TNp [0, 1, 3] [0, 1, 2] ?_
      refine TZ (fun _ h => h.pick [0, 1, 3]) fun W hS => ?_
      go_wp2
      go_roundw
      case rel => exact ⟨cs.take (cs.length - 1), d ++ c, A, M, (J3m R hd D.out).1, Lib.hid ((J3m R hd D.out).2.2.trans Y.out), by rw [List.length_take]; omega, by rw [List.length_take, Nat.min_eq_left (by omega)], (by have h_ := (hS.pick [1, 2, 3]); rw [T.out, ← List.map_take, ← (J3m R hd D.out).2.1] at h_; rw [List.length_take, Nat.min_eq_left (by omega)]; exact h_)⟩
      case measure => show (cs.length - 1 : Nat) < cs.length; omega
     refine MG 2 ?_ (v := .int .i64 ((c).length : Int)) (hj := (Y3 (off := 32) 1))
     refine TNp [0, 1, 3] [0, 1, 2] ?_
     refine TW ?_ (v := .int .i64 (((d ++ c).length : Nat) : Int)) (hv := by intro W; rw [List.length_append]; have h_ := D.out; go_simp; (try simp only [IntKind.wrap_i64]); omega)
     refine TE (fun _ h => h.pick [0, 1, 3]) ?_
     refine Mk 2 ?_ (sub := J0 .u8 32 (Q3 (mth c))) (hs := (J1g (off := 0) 0))
     refine TNp [0, 1, 3] [0, 1, 2] ?_
     refine TE (fun _ h => h.pick [0, 1, 3]) ?_
     obtain ⟨U1, U⟩ := V3 (nN (mth d) (mth c))
     have T := Lib.hid U
     clear U
     refine MC (v := .agg (J0 .u8 32 (Q3 U1))) (fun W hS => (by rw [T.out]; exact J63 (mth d) (mth c) W (J08 hG hS.ext))) ?_
     refine TNp [0, 1, 3] [0, 1, 2] ?_
     refine TF (v := .agg (agF [.a 32 U1, .c (.int .i64 (((d ++ c).length : Nat) : Int))])) rfl (fun W hS => J2m rfl rfl J2w J2x (J11 (J11 J3q (l' := [.a 32 U1, .c (.int .i64 (((d ++ c).length : Nat) : Int))]) (m := [.c (.int .i64 (((d ++ c).length : Nat) : Int))]) (hv := rfl) (hs := X9 (off := 32) 1 1) (hp := rfl) (hn := rfl) (hb := by show 32 + 1 ≤ 33; decide)) (l' := [.a 32 U1, .c (.int .i64 0)]) (m := [.a 32 U1]) (hv := (J94 _ _).symm) (hs := X9 (off := 0) 0 1) (hp := rfl) (hn := rfl) (hb := by show 0 + 32 ≤ 33; decide))) ?_
     refine TE (fun _ h => h.pick [0, 1, 3]) ?_
     refine MR 2 ?_ (hz := by rw [J4]; kernel_rfl) (hs := by first | (rw [J4, J4]; simp only [J38, J37, J36]; done) | (rw [J4, J4]; rfl) | rfl) (h1 := by exact (J0a ⟨rfl, trivial⟩))
     refine TNp [0, 1, 3] [0, 1, 2] ?_
     refine TZ (fun _ h => h.pick [0, 1, 3]) fun W hS => ?_
     go_wp2
     go_roundw
     case rel => exact ⟨cs.take (cs.length - 1), d ++ c, A, M, (J3m R hd D.out).1, Lib.hid ((J3m R hd D.out).2.2.trans Y.out), by rw [List.length_take]; omega, by rw [List.length_take, Nat.min_eq_left (by omega)], (by have h_ := (hS.pick [1, 2, 3]); rw [T.out, ← List.map_take, ← (J3m R hd D.out).2.1] at h_; rw [List.length_take, Nat.min_eq_left (by omega)]; exact h_)⟩
     case measure => show (cs.length - 1 : Nat) < cs.length; omega
    have D := Lib.hid X
    clear X
    have hd := Z
    have η := Lib.hid (show ∀ d, cs[cs.length - 1]? = some d → d.length ≠ c.length from fun d9 h => by obtain rfl := Option.some.inj (hd.symm.trans h); exact D.out)
    obtain ⟨Aq, cq, V, _, S⟩ := RR.opf (hS.row (i := 0) rfl).rr
    obtain ⟨gk, ok, G, _⟩ := S.out (cs.length - 1) d hd
    injection V with eA e2_ e3_
    clear e2_ e3_
    rw [← eA] at G
    have J := Lib.hid G
    clear G S eA
    go_upto_region 6 with fail
    refine RTh (.q 0 (.q 1 (.q 2 (.q 3 (.q 4 (.q 5 (.q 6 (.q 7 (.q 8 (.q 9 (.q 10 (.q 11 (.q 12 (.q 13 (.q 14 .z))))))))))))))) hS ?_
    clear hS
    refine TV ?_
    refine TF (v := .int .i64 ((List.map pkC cs).length : Int)) rfl (fun W hS => J16 (hS.row (i := 0) rfl) rfl rfl Tryz.underlying227) ?_
    refine TW ?_ (v := .bool true) (hv := by intro W; go_simp; first | done | omega | exact List.length_eq_zero_iff.1 (by omega) | exact fun h_ => (by rw [h_] at N; exact absurd N (by decide)))
    refine TW ?_ (v := .bool true)
    refine TV ?_
    refine TV ?_
    refine TF (v := .int .i64 ((List.map pkC cs).length : Int)) rfl (fun W hS => J16 (hS.row (i := 0) rfl) rfl rfl Tryz.underlying227) ?_
    refine TW ?_ (v := .int .i64 ((cs.length - 1 : Nat) : Int)) (hv := by intro W; go_simp; (try simp only [IntKind.wrap_i64]); omega)
    refine TW ?_ (v := .pointer (some ⟨gk, ok + (cs.length - 1) * 33, none⟩)) (hv := fun _ => J17 J.out (show cs.length - 1 < cs.length by omega) rfl rfl rfl Tryz.underlying227 (by kernel_rfl))
    refine TW ?_ (v := .pointer (some ⟨gk, ok + (cs.length - 1) * 33 + 32, none⟩))
    refine TF (v := .int .i64 ((d).length : Int)) rfl (fun W hS => X8 rfl rfl ((Q8c (hS.row (i := 0) rfl).rr hd J.out) 32 (.int .i64 ((d).length : Int)) (show (agF [.a 32 (mth d), .c (.int .i64 ((d).length : Int))])[32]? = some (.int .i64 ((d).length : Int)) from (Y3 (off := 32) 1))) (by kernel_rfl)) ?_
    refine TV ?_
    refine TG 1 ?_ (v := .int .i64 ((c).length : Int)) (hj := (Y3 (off := 32) 1))
    refine TW ?_ (v := .bool false) (hv := by intro W; go_simp; have h_ := D.out; omega)
    refine TW ?_ (v := .bool false)
    refine TZ (fun _ h => h) fun W hS => ?_
    go_upto_region 10 with fail
    refine RL hS ?_
    clear hS
    refine MV ?_
    refine ML 1 ?_ (hs := by rw [J4]; kernel_rfl)
    refine MB (z := (agF [.a 32 (mth c), .c (.int .i64 ((c).length : Int))])) (t := 229) (n := 1) (c := 1) ?_ (hr := fun W _ => J2u rfl rfl rfl Tryz.underlying227 (by rw [J4]; kernel_rfl) (by rw [J4]; kernel_rfl) (by rw [J4]; exact Nat.le_of_ble_eq_true (by kernel_rfl)) (by rw [J4]; exact Nat.le_of_ble_eq_true (by kernel_rfl)))
    intro D6
    refine MAr 1 0 (tS := 227) (bytes := 40) (es := (List.map pkC cs)) (by first | omega | (simp only [lA, lM, lT, lD, lC, lN, J8, K8, V9, V5]; omega)) (e := pkC c) (hk := by rw [J4]; kernel_rfl) (h1 := by exact (J0a ⟨rfl, trivial⟩)) (cs := (agF [.a 32 (mth c), .c (.int .i64 ((c).length : Int))])) ?_
    intro D5
    refine MV ?_
    refine MZ fun W hS => ?_
    obtain ⟨τ, σ, ζ⟩ := Row.form (ls := cs ++ [c]) (f := pkC) (by have h_ := hS.row (i := 1) rfl; rw [J62] at h_; exact h_)
    go_wp2
    go_roundw
    case rel => exact ⟨i + 1, cs ++ [c], τ, σ, by omega, Z2g R η.out, Lib.hid (by rw [Q4c]; exact Y.out), by rw [List.length_append]; simp only [List.length_cons, List.length_nil]; omega, ζ, by go_num, (by have h_ := (hS.pick [1, 3]); rw [J62, ζ] at h_; exact h_)⟩
    case measure => simp [intOf]; omega
  obtain rfl : i = ls.length := by omega
  go_upto_region 3 with fail
  refine RL hS ?_
  clear hS
  refine MW ?_ (v := .bool false) (hv := by intro W; go_simp; first | done | omega)
  refine MZ fun W hS => ?_
  rcases Y90 cs with β | ⟨d, Z, N⟩
  ·
   go_upto_region 12 with fail
   refine RL hS ?_
   clear hS
   refine MV ?_
   refine MF (v := .int .i64 ((List.map pkC cs).length : Int)) (fun W hS => J16 (hS.row (i := 0) rfl) rfl rfl Tryz.underlying227) ?_
   refine MW ?_ (v := .bool true) (hv := by intro W; go_simp; first | done | omega | exact List.length_eq_zero_iff.1 (by omega) | exact fun h_ => (by rw [h_] at N; exact absurd N (by decide)))
   refine MZ fun W hS => ?_
   go_upto_region 13 with fail
   refine RL hS ?_
   clear hS
   refine MC (v := .agg (J0 .u8 32 (Q3 (hs4 [])))) (fun W hS => Y8y W (J08 hG hS.ext)) ?_
   refine MR 1 ?_ (hz := by rw [J1]; kernel_rfl) (hs := by first | rw [J1, J1] | rw [J1])
   refine MZ fun W hS => ?_
   go_wp2
   exact bodyPost_ret (Z6 rfl rfl (hS.blk (i := 1) rfl) (by kernel_rfl) (by rw [J1]; kernel_rfl)) rfl ⟨by rw [← mth_nil, Y8x β γ.out], hS.ext⟩
  have hd := Z
  obtain ⟨Aq, cq, V, _, S⟩ := RR.opf (hS.row (i := 0) rfl).rr
  obtain ⟨gk, ok, G, _⟩ := S.out (cs.length - 1) d hd
  injection V with eA e2_ e3_
  clear e2_ e3_
  rw [← eA] at G
  have J := Lib.hid G
  clear G S eA
  go_upto_region 12 with fail
  refine RL hS ?_
  clear hS
  refine MV ?_
  refine MF (v := .int .i64 ((List.map pkC cs).length : Int)) (fun W hS => J16 (hS.row (i := 0) rfl) rfl rfl Tryz.underlying227) ?_
  refine MW ?_ (v := .bool false) (hv := by intro W; go_simp; first | done | omega | exact List.length_eq_zero_iff.1 (by omega) | exact fun h_ => (by rw [h_] at N; exact absurd N (by decide)))
  refine MZ fun W hS => ?_
  go_upto_region 14 with fail
  refine RL hS ?_
  clear hS
  refine MV ?_
  refine MV ?_
  refine MF (v := .int .i64 ((List.map pkC cs).length : Int)) (fun W hS => J16 (hS.row (i := 0) rfl) rfl rfl Tryz.underlying227) ?_
  refine MW ?_ (v := .int .i64 ((cs.length - 1 : Nat) : Int)) (hv := by intro W; go_simp; (try simp only [IntKind.wrap_i64]); omega)
  refine MW ?_ (v := .pointer (some ⟨gk, ok + (cs.length - 1) * 33, none⟩)) (hv := fun _ => J17 J.out (show cs.length - 1 < cs.length by omega) rfl rfl rfl Tryz.underlying227 (by kernel_rfl))
  refine MW ?_ (v := .pointer (some ⟨gk, ok + (cs.length - 1) * 33, none⟩))
  refine MF (v := .agg (J0 .u8 32 (Q3 (mth d)))) (fun W hS => J1j rfl rfl (fun i_ v hv => (Q8c (hS.row (i := 0) rfl).rr hd J.out) i_ v (by have h_ := (show ∀ (j_ : Nat) (v_ : Value), (J0 .u8 32 (Q3 (mth d)))[j_]? = some v_ → (agF [.a 32 (mth d), .c (.int .i64 ((d).length : Int))])[0 + j_]? = some v_ from (J1g (off := 0) 0)) i_ v hv; rw [Nat.zero_add] at h_; first | exact h_ | (rw [Array.getElem?_toList]; exact h_))) (by kernel_rfl) (by rw [J1]; kernel_rfl)) ?_
  refine MN (z := J0 .u8 32 (Q3 0)) (t := 23) ?_
  intro Γ
  refine MR 0 ?_ (hz := by rw [J1]; kernel_rfl) (hs := by first | rw [J1, J1] | rw [J1])
  refine MZ fun W hS => ?_
  go_upto_region 15 with fail
  refine RL hS ?_
  clear hS
  refine MV ?_
  refine MF (v := .int .i64 ((List.map pkC cs).length : Int)) (fun W hS => J16 (hS.row (i := 1) rfl) rfl rfl Tryz.underlying227) ?_
  refine MW ?_ (v := .int .i64 ((cs.length : Int) - 2)) (hv := by intro W; go_simp; (try simp only [IntKind.wrap_i64]); omega)
  refine MV ?_
  refine MZ fun W hS => ?_
  go_wp2_with fail
  go_loopw [9] (fun kk wr => ∃ (k : Nat), (k < cs.length) ∧ (kk = .int .i64 ((k : Int) - 1)) ∧ SH [] w wr [.r 229 33 (.slice A cs.length M) (List.map pkC cs), .b Γ (J0 .u8 32 (Q3 (pkf (List.drop k cs)))) 23, .b X5 (J0 .u8 32 (Q3 0)) 23])
   (fun kk _ => (intOf kk + 1).toNat)
  case atStart => exact ⟨(cs.length - 1), by omega, by rw [show ((cs.length - 1 : Nat) : Int) - 1 = (cs.length : Int) - 2 by omega], (by rw [Z99 hd]; exact (hS.pick [1, 0, 2]))⟩
  clear hS
  case round =>
   obtain ⟨k, hk, rfl, hS⟩ := hrel
   by_cases μ : 0 < k
   ·
    obtain ⟨d9, ε⟩ : ∃ d, cs[k - 1]? = some d := ⟨_, List.getElem?_eq_getElem (by omega)⟩
    obtain ⟨Aq, cq, V, _, S⟩ := RR.opf (hS.row (i := 0) rfl).rr
    obtain ⟨gk, ok, G, _⟩ := S.out (k - 1) d9 ε
    injection V with eA e2_ e3_
    clear e2_ e3_
    rw [← eA] at G
    have J := Lib.hid G
    clear G S eA
    go_upto_region 16 with fail
    refine RL hS ?_
    clear hS
    refine MV ?_
    refine MW ?_ (v := .bool true) (hv := by intro W; go_simp; first | done | omega)
    refine MZ fun W hS => ?_
    go_upto_region 18 with fail
    refine RTp [0, 2] (.q 0 (.q 1 (.q 2 (.q 3 (.q 4 (.e 5 (.e 6 (.e 7 .z)))))))) hS ?_
    clear hS
    refine TV ?_
    refine TW ?_ (v := .int .i64 ((k - 1 : Nat) : Int)) (hv := by intro W; go_simp; omega)
    refine TW ?_ (v := .pointer (some ⟨gk, ok + (k - 1) * 33, none⟩)) (hv := fun _ => J17 J.out (show k - 1 < cs.length by omega) rfl rfl rfl Tryz.underlying227 (by kernel_rfl))
    refine TW ?_ (v := .pointer (some ⟨gk, ok + (k - 1) * 33, none⟩))
    refine TF (v := .agg (J0 .u8 32 (Q3 (mth d9)))) rfl (fun W hS => J1j rfl rfl (fun i_ v hv => (Q8c (hS.row (i := 0) rfl).rr ε J.out) i_ v (by have h_ := (show ∀ (j_ : Nat) (v_ : Value), (J0 .u8 32 (Q3 (mth d9)))[j_]? = some v_ → (agF [.a 32 (mth d9), .c (.int .i64 ((d9).length : Int))])[0 + j_]? = some v_ from (J1g (off := 0) 0)) i_ v hv; rw [Nat.zero_add] at h_; first | exact h_ | (rw [Array.getElem?_toList]; exact h_))) (by kernel_rfl) (by rw [J1]; kernel_rfl)) ?_
    refine TE (fun _ h => h.pick [0, 2]) ?_
    refine ML 1 ?_
    refine TNp [0, 2] [0, 1] ?_
    refine TE (fun _ h => h.pick [0, 2]) ?_
    obtain ⟨U2, κ⟩ := V3 (nN (mth d9) (pkf (List.drop k cs)))
    have ξ := Lib.hid κ
    clear κ
    refine MC (v := .agg (J0 .u8 32 (Q3 U2))) (fun W hS => (by rw [ξ.out]; exact J63 (mth d9) (pkf (List.drop k cs)) W (J08 hG hS.ext))) ?_
    refine TNp [0, 2] [0, 1] ?_
    refine TE (fun _ h => h.pick [0, 2]) ?_
    refine MR 1 ?_ (hz := by rw [J1]; kernel_rfl) (hs := by first | rw [J1, J1] | rw [J1])
    refine TNp [0, 2] [0, 1] ?_
    refine TZ (fun _ h => h.pick [0, 2]) fun W hS => ?_
    go_wp2
    go_roundw
    case rel => exact ⟨(k - 1), by omega, by rw [show ((k - 1 : Nat) : Int) - 1 = (k : Int) - 1 - 1 by omega], (by have e_ := Z98 ε (by omega); rw [show k - 1 + 1 = k by omega] at e_; rw [e_, ← ξ.out]; exact hS)⟩
    case measure => simp [intOf]; omega
   go_upto_region 16 with fail
   refine RL hS ?_
   clear hS
   refine MV ?_
   refine MW ?_ (v := .bool false) (hv := by intro W; go_simp; first | done | omega)
   refine MZ fun W hS => ?_
   go_upto_region 19 with fail
   refine RL hS ?_
   clear hS
   refine ML 1 ?_
   refine MR 2 ?_ (hz := by rw [J1]; kernel_rfl) (hs := by first | rw [J1, J1] | rw [J1])
   refine MZ fun W hS => ?_
   go_wp2
   exact bodyPost_ret (Z6 rfl rfl (hS.blk (i := 2) rfl) (by kernel_rfl) (by rw [J1]; kernel_rfl)) rfl ⟨by rw [show k = 0 from by omega, List.drop_zero, Z2e δ, γ.out, List.take_length], hS.ext⟩
end

section
def Rv (ls es : List Nat) (k : Nat) : Prop := es.length = ls.length ∧ ∀ p, p < ls.length → es[p]? = if p < k ∨ ls.length ≤ p + k then ls[ls.length - 1 - p]? else ls[p]?
theorem V4i (ls : List Nat) : Rv ls ls 0 := ⟨rfl, fun p hp => by rw [if_neg (by omega)]⟩
theorem Z2h {ls es : List Nat} {k a b : Nat} (h : Rv ls es k) (hk : k + 1 + k < ls.length) (ha : es[k]? = some a) (hb : es[ls.length - 1 - k]? = some b) : Rv ls ((es.set k b).set (ls.length - 1 - k) a) (k + 1) := by
  refine ⟨by rw [List.length_set, List.length_set]; exact h.1, fun p hp => ?_⟩
  have h1 := h.2 k (by omega)
  rw [if_neg (by omega), ha] at h1
  have h2 := h.2 (ls.length - 1 - k) (by omega)
  rw [if_neg (by omega), hb] at h2
  rw [List.getElem?_set]
  by_cases e1 : ls.length - 1 - k = p
  · rw [if_pos e1, if_pos (by rw [List.length_set, h.1]; omega), if_pos (by omega), show ls.length - 1 - p = k by omega]; exact h1
  rw [if_neg e1, List.getElem?_set]
  by_cases e2 : k = p
  · subst e2
    rw [if_pos rfl, if_pos (by rw [h.1]; omega), if_pos (by omega)]; exact h2
  rw [if_neg e2, h.2 p hp]
  by_cases e3 : p < k ∨ ls.length ≤ p + k
  · rw [if_pos e3, if_pos (by omega)]
  rw [if_neg e3, if_neg (by omega)]
theorem Y91 {ls es : List Nat} {k : Nat} (h : Rv ls es k) (hk : ls.length ≤ 2 * k + 1) : es = ls.reverse := by
  apply List.ext_getElem?
  intro p
  rcases Nat.lt_or_ge p ls.length with hp | hp
  · rw [h.2 p hp, List.getElem?_reverse hp]
    by_cases e : p < k ∨ ls.length ≤ p + k
    · rw [if_pos e]
    rw [if_neg e, show ls.length - 1 - p = p by omega]
  rw [List.getElem?_eq_none (by rw [h.1]; exact hp), List.getElem?_eq_none (by rw [List.length_reverse]; exact hp)]
theorem Y2x {t : TypeId} {k : Nat} {w : World} {v : Value} {es : List (List Value)} (h : Row t k w v es) (hp : 0 < es.length) : ∃ g c, v = .slice (some ⟨g, 0, none⟩) es.length c := by
  rcases h.1.2 with ⟨_, hn⟩ | ⟨g, D, G, h1, _⟩
  · omega
  exact ⟨g, D, h1⟩
end
end Go.Proofs.YtejkmhgkkibafaaGreatDoor

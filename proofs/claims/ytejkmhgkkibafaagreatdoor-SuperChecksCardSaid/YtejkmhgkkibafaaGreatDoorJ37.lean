/- Contracts and plain laws that superChecks_holds rests on. Conditions: the variables' cells hold the numbers of the program's text. -/
import Derived.Test.YtejkmhgkkibafaaGreatDoorJ36
open Go.RowKit
set_option maxRecDepth 100000
set_option linter.unusedSimpArgs false
set_option linter.unusedVariables false
namespace Go.Proofs.YtejkmhgkkibafaaGreatDoor
section
set_option maxHeartbeats 3000000
attribute [local irreducible] wpList U0 wpX
attribute [local irreducible] eI be8 hs4 lb kTx vTx sTx eS rs ofT sE sL sN nN pkf

theorem Z4i {ls : List Nat} {v : Value} (hn : ls.length ≤ 1000000) (w : World) (h_ : SH (SH.feet [.r 23 32 v (ls.map J0f)]) w w [.r 23 32 v (ls.map J0f)]) :
  Calls Tryz.prog 124 #[v] w fun e w' => e = .returned (.tuple #[]) ∧ SH (SH.feet [.r 23 32 v (ls.map J0f)]) w w' [.r 23 32 v (ls.reverse.map J0f)] := by
 have hS := h_
 clear h_
 go_enter Tryz.func124, Tryz.ntmps124
 go_upto_region 0 with fail
 refine RL hS ?_
 clear hS
 refine MV ?_
 refine MF (v := .int .i64 ((List.map J0f ls).length : Int)) (fun W hS => J16 (hS.row (i := 0) rfl) rfl rfl Tryz.underlying49) ?_
 refine MW ?_ (v := .int .i64 ((ls.length : Int) - 1)) (hv := by intro W; rw [List.length_map]; go_simp; (try simp only [IntKind.wrap_i64]); omega)
 refine MW ?_ (v := .int .i64 0)
 refine MV ?_
 refine MZ fun W hS => ?_
 go_wp2_with fail
 go_loopw [2, 3] (fun ii jj wr => ∃ (k : Nat) (es : List Nat), (Rv ls es k) ∧ (2 * k ≤ ls.length) ∧ (ii = .int .i64 (k : Int)) ∧ (jj = .int .i64 ((ls.length : Int) - 1 - (k : Int))) ∧ SH (SH.feet [.r 23 32 v (ls.map J0f)]) w wr [.r 23 32 v (List.map J0f es)])
  (fun ii jj _ => (intOf jj - intOf ii + 1).toNat)
 case atStart => exact ⟨0, ls, V4i ls, by omega, rfl, by rw [show ((0 : Nat) : Int) = 0 from rfl, Int.sub_zero], hS⟩
 clear hS
 case round =>
  obtain ⟨k, es, D, R, rfl, rfl, hS⟩ := hrel
  by_cases M : k + 1 + k < ls.length
  ·
   have J : k < ls.length := by omega
   have G : ls.length - 1 - k < ls.length := by omega
   obtain ⟨a, ha⟩ : ∃ x, es[k]? = some x := ⟨_, List.getElem?_eq_getElem (by rw [D.1]; exact J)⟩
   obtain ⟨b, hb⟩ : ∃ x, es[ls.length - 1 - k]? = some x := ⟨_, List.getElem?_eq_getElem (by rw [D.1]; exact G)⟩
   obtain ⟨g0, c0, N⟩ := Y2x (hS.row (i := 0) rfl) (by rw [List.length_map, D.1]; omega)
   rw [List.length_map, D.1] at N
   subst N
   go_upto_region 1 with fail
   refine RL hS ?_
   clear hS
   refine MV ?_
   refine MV ?_
   refine MW ?_ (v := .bool true) (hv := by intro W; go_simp; first | done | omega)
   refine MZ fun W hS => ?_
   go_upto_region 3 with fail
   refine RTp [] (.q 0 (.q 1 (.q 2 (.q 3 (.q 4 (.q 5 (.q 6 (.q 8 (.q 9 (.q 10 (.b 7 (.e 11 (.q 12 (.e 13 (.q 14 (.e 15 .z))))) 11 (.e 7 (.q 12 (.e 13 (.q 14 (.e 15 .z)))))))))))))))) hS ?_
   clear hS
   refine TV ?_
   refine TV ?_
   refine TV ?_
   refine TW ?_ (v := .int .i64 ((ls.length - 1 - k : Nat) : Int)) (hv := by intro W; go_simp; omega)
   refine TV ?_
   refine TW ?_ (v := .int .i64 ((ls.length - 1 - k : Nat) : Int)) (hv := by intro W; go_simp; omega)
   refine TW ?_ (v := .pointer (some ⟨g0, 0 + (ls.length - 1 - k) * 32, none⟩)) (hv := fun _ => J17 (rfl : (some (⟨g0, 0, none⟩ : Addr)) = some ⟨g0, 0, none⟩) G rfl rfl rfl Tryz.underlying49 (by kernel_rfl))
   refine TV ?_
   refine TV ?_
   refine TW ?_ (v := .pointer (some ⟨g0, 0 + k * 32, none⟩)) (hv := fun _ => J17 (rfl : (some (⟨g0, 0, none⟩ : Addr)) = some ⟨g0, 0, none⟩) J rfl rfl rfl Tryz.underlying49 (by kernel_rfl))
   refine TB (fun _ h => h.pick []) ?_ ?_
   ·
    refine MF (v := .agg (J0 .u8 32 (Q3 b))) (fun W hS => J1j rfl rfl (fun i_ v hv => (RR.cellat (hS.row (i := 0) rfl).rr (by rw [List.getElem?_map, hb]; rfl) rfl) i_ v (by simpa using hv)) (by kernel_rfl) (by rw [J1]; kernel_rfl)) ?_
    refine TNp [] [] ?_
    refine TE (fun _ h => h.pick []) ?_
    refine MF (v := .agg (J0 .u8 32 (Q3 a))) (fun W hS => J1j rfl rfl (fun i_ v hv => (RR.cellat (hS.row (i := 0) rfl).rr (by rw [List.getElem?_map, ha]; rfl) rfl) i_ v (by simpa using hv)) (by kernel_rfl) (by rw [J1]; kernel_rfl)) ?_
    refine TNp [] [] ?_
    refine TW ?_ (v := .pointer (some ⟨g0, 0 + k * 32, none⟩)) (hv := fun _ => J17 (rfl : (some (⟨g0, 0, none⟩ : Addr)) = some ⟨g0, 0, none⟩) J rfl rfl rfl Tryz.underlying49 (by kernel_rfl))
    refine TE (fun _ h => h.pick []) ?_
    refine MPE 0 (j := k) (es := (List.map J0f es)) (e := (J0f a)) (by rw [List.getElem?_map, ha]; rfl) rfl (J1 _ _ _) (Z9 _ _ _) ?_
    refine TNp [] [] ?_
    refine TW ?_ (v := .pointer (some ⟨g0, 0 + (ls.length - 1 - k) * 32, none⟩)) (hv := fun _ => J17 (rfl : (some (⟨g0, 0, none⟩ : Addr)) = some ⟨g0, 0, none⟩) G rfl rfl rfl Tryz.underlying49 (by kernel_rfl))
    refine TE (fun _ h => h.pick []) ?_
    refine MPE 0 (j := (ls.length - 1 - k)) (es := (List.set (List.map J0f es) k (J0f b))) (e := (J0f b)) (by rw [List.getElem?_set_ne (show k ≠ ls.length - 1 - k by omega), List.getElem?_map, hb]; rfl) rfl (J1 _ _ _) (Z9 _ _ _) ?_
    refine TNp [] [] ?_
    refine TZ (fun _ h => h.pick []) fun W hS => ?_
    go_wp2
    go_roundw
    case rel => exact ⟨k + 1, (es.set k b).set (ls.length - 1 - k) a, Z2h D M ha hb, by omega, by go_num, by rw [show (ls.length : Int) - 1 - ((k + 1 : Nat) : Int) = (ls.length : Int) - 1 - (k : Int) - 1 by omega], (by have h_ := hS; rw [show List.set (List.set (List.map J0f es) k (J0f b)) (ls.length - 1 - k) (J0f a) = List.map J0f ((es.set k b).set (ls.length - 1 - k) a) from by rw [List.map_set, List.map_set]] at h_; exact h_)⟩
    case measure => simp [intOf]; omega
   refine MF (v := .agg (J0 .u8 32 (Q3 a))) (fun W hS => J1j rfl rfl (fun i_ v hv => (RR.cellat (hS.row (i := 0) rfl).rr (by rw [List.getElem?_map, ha]; rfl) rfl) i_ v (by simpa using hv)) (by kernel_rfl) (by rw [J1]; kernel_rfl)) ?_
   refine TNp [] [] ?_
   refine TE (fun _ h => h.pick []) ?_
   refine MF (v := .agg (J0 .u8 32 (Q3 b))) (fun W hS => J1j rfl rfl (fun i_ v hv => (RR.cellat (hS.row (i := 0) rfl).rr (by rw [List.getElem?_map, hb]; rfl) rfl) i_ v (by simpa using hv)) (by kernel_rfl) (by rw [J1]; kernel_rfl)) ?_
   refine TNp [] [] ?_
   refine TW ?_ (v := .pointer (some ⟨g0, 0 + k * 32, none⟩)) (hv := fun _ => J17 (rfl : (some (⟨g0, 0, none⟩ : Addr)) = some ⟨g0, 0, none⟩) J rfl rfl rfl Tryz.underlying49 (by kernel_rfl))
   refine TE (fun _ h => h.pick []) ?_
   refine MPE 0 (j := k) (es := (List.map J0f es)) (e := (J0f a)) (by rw [List.getElem?_map, ha]; rfl) rfl (J1 _ _ _) (Z9 _ _ _) ?_
   refine TNp [] [] ?_
   refine TW ?_ (v := .pointer (some ⟨g0, 0 + (ls.length - 1 - k) * 32, none⟩)) (hv := fun _ => J17 (rfl : (some (⟨g0, 0, none⟩ : Addr)) = some ⟨g0, 0, none⟩) G rfl rfl rfl Tryz.underlying49 (by kernel_rfl))
   refine TE (fun _ h => h.pick []) ?_
   refine MPE 0 (j := (ls.length - 1 - k)) (es := (List.set (List.map J0f es) k (J0f b))) (e := (J0f b)) (by rw [List.getElem?_set_ne (show k ≠ ls.length - 1 - k by omega), List.getElem?_map, hb]; rfl) rfl (J1 _ _ _) (Z9 _ _ _) ?_
   refine TNp [] [] ?_
   refine TZ (fun _ h => h.pick []) fun W hS => ?_
   go_wp2
   go_roundw
   case rel => exact ⟨k + 1, (es.set k b).set (ls.length - 1 - k) a, Z2h D M ha hb, by omega, by go_num, by rw [show (ls.length : Int) - 1 - ((k + 1 : Nat) : Int) = (ls.length : Int) - 1 - (k : Int) - 1 by omega], (by have h_ := hS; rw [show List.set (List.set (List.map J0f es) k (J0f b)) (ls.length - 1 - k) (J0f a) = List.map J0f ((es.set k b).set (ls.length - 1 - k) a) from by rw [List.map_set, List.map_set]] at h_; exact h_)⟩
   case measure => simp [intOf]; omega
  rw [Y91 D (by omega)] at hS
  go_upto_region 1 with fail
  refine RL hS ?_
  clear hS
  refine MV ?_
  refine MV ?_
  refine MW ?_ (v := .bool false) (hv := by intro W; go_simp; first | done | omega)
  refine MZ fun W hS => ?_
  go_wp2
  exact bodyPost_end (v := .tuple #[]) (by simp only [results, Tryz.results124]; go_simp) rfl ⟨rfl, hS⟩
end

section
set_option maxHeartbeats 3000000
attribute [local irreducible] wpList U0 wpX
attribute [local irreducible] eI be8 hs4 lb kTx vTx sTx eS rs ofT sE sL sN nN pkf

theorem Q8d {p S : Nat} {vt vl : Value} {A : Option Addr} {n c : Nat} (w : World) (hb : Blk w p (suF S vt vl (.slice A n c)) 107) :
  Calls Tryz.prog 121 #[.pointer (some ⟨p, 34, none⟩)] w fun e w' => K7 (.int .i64 (n : Int)) w w' e := by
 have hS := SH.nil [] w
 go_enter Tryz.func121, Tryz.ntmps121
 go_upto_region 3 with fail
 refine RL hS ?_
 clear hS
 refine MV ?_
 refine MV ?_
 refine MV ?_
 refine MF (v := (.slice A n c)) (fun W hS => X8 rfl rfl (by rw [J7 (J2 hb hS.ext)]; exact (Y3 (off := 34) 3)) (by kernel_rfl)) ?_
 refine MW ?_ (v := .int .i64 (n : Int)) (hv := by intro W; exact Q28 rfl rfl Tryz.underlying49)
 refine MV ?_
 refine MZ fun W hS => ?_
 go_wp2
 exact bodyPost_ret (v := .int .i64 (n : Int)) (by simp only [results, Tryz.results121]; go_simp) rfl ⟨rfl, hS.ext⟩
theorem Z4j {q : Prop} {p S n : Nat} {vt vl vs : Value} {us : List Nat} (hn : us.length ≤ 1000000) (h1 : 1 ≤ n) (h2 : n ≤ us.length) (w : World) (hG : GT q w) (hb : Blk w p (suF S vt vl vs) 107) (hu : RR 32 w vs (us.map J0f)) :
  Calls Tryz.prog 71 #[.pointer (some ⟨p, 34, none⟩), .int .i64 (n : Int)] w fun e w' => K7 (.tuple #[.agg (J0 .u8 32 (Q3 (mth (us.take n)))), .int .i64 0]) w w' e := by
 obtain ⟨Au, cu, rfl, N, R⟩ := RR.opf hu
 obtain ⟨u9, M, J⟩ := Q4x (m := n) hu (by rw [List.length_map]; omega) Tryz.underlying49 (by kernel_rfl)
 have hS := SH.nil [] w
 go_enter Tryz.func71, Tryz.ntmps71
 go_upto_region 0 with fail
 refine RL hS ?_
 clear hS
 refine MN (z := J0 .u8 32 (Q3 0)) (t := 23) ?_
 intro T
 refine MW ?_ (v := .int .i64 0)
 refine MZ fun W hS => ?_
 go_upto_region 1 with fail
 refine RL hS ?_
 clear hS
 refine MV ?_
 refine MW ?_ (v := .bool false) (hv := by intro W; go_simp; first | done | omega)
 refine MW ?_ (v := .bool false)
 refine MV ?_
 refine MV ?_
 refine MC (v := .int .i64 (us.length : Int)) (fun W hS => Q8d W (J2 hb hS.ext)) ?_
 refine MW ?_ (v := .bool false) (hv := by intro W; go_simp; first | done | omega)
 refine MW ?_ (v := .bool false)
 refine MZ fun W hS => ?_
 go_upto_region 3 with fail
 refine RL hS ?_
 clear hS
 refine MV ?_
 refine MW ?_ (v := .bool false) (hv := by intro W; go_simp; first | done | omega)
 refine MZ fun W hS => ?_
 go_upto_region 5 with fail
 refine RL hS ?_
 clear hS
 refine MV ?_
 refine MV ?_
 refine MV ?_
 refine MF (v := (.slice Au us.length cu)) (fun W hS => X8 rfl rfl (by rw [J7 (J2 hb hS.ext)]; exact (Y3 (off := 34) 3)) (by kernel_rfl)) ?_
 refine MV ?_
 refine MW ?_ (v := u9) (hv := fun _ => J7v M rfl rfl rfl)
 obtain ⟨U1, G⟩ := V3 (mth (us.take n))
 have D := Lib.hid G
 clear G
 refine MC (v := .agg (J0 .u8 32 (Q3 U1))) (fun W hS => (by rw [D.out]; exact Q67 (ls := us.take n) (by first | omega | (rw [List.length_take]; omega)) W (J08 hG hS.ext) (by rw [List.map_take]; exact J W (hu.ext hS.ext)))) ?_
 refine MR 0 ?_ 
 refine MW ?_ (v := .int .i64 0)
 refine MZ fun W hS => ?_
 go_wp2
 exact bodyPost_ret (Q8p rfl rfl rfl (hS.blk (i := 0) rfl) (by kernel_rfl) (by rw [J1]; kernel_rfl)) rfl ⟨by rw [← D.out]; rfl, hS.ext⟩
end

section
set_option maxHeartbeats 3000000
attribute [local irreducible] wpList U0 wpX
attribute [local irreducible] eI be8 hs4 lb kTx vTx sTx eS rs ofT sE sL sN nN pkf

theorem Z9c {q : Prop} {p S n i : Nat} {vt vl vs : Value} {us : List Nat} (hn : us.length ≤ 1000000) (h1 : i < n) (h2 : n ≤ us.length) (w : World) (hG : GT q w) (hb : Blk w p (suF S vt vl vs) 107) (hu : RR 32 w vs (us.map J0f)) :
  Calls Tryz.prog 72 #[.pointer (some ⟨p, 34, none⟩), .int .i64 (i : Int), .int .i64 (n : Int)] w fun e w' => ∃ u, e = .returned (.tuple #[u, .int .i64 0]) ∧ SH [] w w' [.r 23 32 u ((pth (us.take n) i).map J0f)] := by
 obtain ⟨Au, cu, rfl, Γ, Θ⟩ := RR.opf hu
 obtain ⟨u9, ψ, β⟩ := Q4x (m := n) hu (by rw [List.length_map]; omega) Tryz.underlying49 (by kernel_rfl)
 obtain ⟨l0, N⟩ := V3 (us.take n)
 have R := Lib.hid (show l0.length = n by rw [N, List.length_take]; omega)
 have V : RR 32 w u9 (l0.map J0f) := by rw [N, List.map_take]; exact β w hu
 obtain ⟨A9, c9, rfl, ω, τ⟩ := RR.opf V
 have κ := Lib.hid N
 clear N τ β
 have hS := SH.nil [] w
 go_enter Tryz.func72, Tryz.ntmps72
 go_upto_region 1 with fail
 refine RL hS ?_
 clear hS
 refine MV ?_
 refine MW ?_ (v := .bool false) (hv := by intro W; go_simp; first | done | omega)
 refine MW ?_ (v := .bool false)
 refine MV ?_
 refine MV ?_
 refine MC (v := .int .i64 (us.length : Int)) (fun W hS => Q8d W (J2 hb hS.ext)) ?_
 refine MW ?_ (v := .bool false) (hv := by intro W; go_simp; first | done | omega)
 refine MW ?_ (v := .bool false)
 refine MW ?_ (v := .bool false)
 refine MV ?_
 refine MW ?_ (v := .bool false) (hv := by intro W; go_simp; first | done | omega)
 refine MW ?_ (v := .bool false)
 refine MW ?_ (v := .bool false)
 refine MV ?_
 refine MV ?_
 refine MW ?_ (v := .bool false) (hv := by intro W; go_simp; first | done | omega)
 refine MW ?_ (v := .bool false)
 refine MZ fun W hS => ?_
 go_upto_region 4 with fail
 refine RL hS ?_
 clear hS
 refine MV ?_
 refine MV ?_
 refine MV ?_
 refine MF (v := (.slice Au us.length cu)) (fun W hS => X8 rfl rfl (by rw [J7 (J2 hb hS.ext)]; exact (Y3 (off := 34) 3)) (by kernel_rfl)) ?_
 refine MV ?_
 refine MW ?_ (v := (.slice A9 l0.length c9)) (hv := fun _ => J7v ψ rfl rfl rfl)
 refine MV ?_
 refine MZ fun W hS => ?_
 have hS := hS.rnil 23 32 rfl
 go_wp2_with fail
 go_loopw [1, 8, 9] (fun ii uv sv wr => ∃ (j : Nat) (s : List Nat) (A1 : Option Addr) (c1 : Nat) (os : List Nat) (ov : Value), (RR 32 w (.slice A1 s.length c1) (s.map J0f)) ∧ (j < s.length) ∧ (os.length + s.length ≤ n) ∧ (RowKit.Hid (pth l0 i = pth s j ++ os.reverse)) ∧ (ii = .int .i64 (j : Int)) ∧ (ov = uv) ∧ (sv = .slice A1 s.length c1) ∧ SH [] w wr [.r 23 32 ov (List.map J0f os)])
  (fun ii uv sv _ => J8c sv)
 case atStart => exact ⟨i, l0, A9, c9, [], _, V, by rw [R.out]; omega, by rw [R.out, List.length_nil]; omega, Lib.hid (by rw [List.reverse_nil, List.append_nil]), rfl, rfl, rfl, hS⟩
 clear hS
 case round =>
  obtain ⟨j, s, A1, c1, os, ov, hr, hj, Δ, hp, rfl, rfl, rfl, hS⟩ := hrel
  by_cases J : 2 ≤ s.length
  ·
   have hf := Z29 J
   obtain ⟨uT, X, Y⟩ := Y05 (m := hfn s.length) hr (by rw [List.length_map]; omega) Tryz.underlying49 (by kernel_rfl)
   obtain ⟨uH, ζ, α⟩ := Q4x (m := hfn s.length) hr (by rw [List.length_map]; omega) Tryz.underlying49 (by kernel_rfl)
   have T : RR 32 w uT ((List.drop (hfn s.length) s).map J0f) := by rw [List.map_drop]; exact Y w hr
   have U : RR 32 w uH ((List.take (hfn s.length) s).map J0f) := by rw [List.map_take]; exact α w hr
   clear Y α
   have G := Lib.hid (show (List.drop (hfn s.length) s).length = s.length - hfn s.length from List.length_drop ..)
   have D := Lib.hid (show (List.take (hfn s.length) s).length = hfn s.length by rw [List.length_take]; omega)
   obtain ⟨AT, cT, eT, η, ρ⟩ := RR.opf T
   obtain ⟨AH, cH, eH, θ, μ⟩ := RR.opf U
   clear ρ μ η θ
   rw [G.out] at eT
   rw [D.out] at eH
   subst eT eH
   go_upto_region 5 with fail
   refine RL hS ?_
   clear hS
   refine MV ?_
   refine MV ?_
   refine MW ?_ (v := .bool true) (hv := by intro W; go_simp; first | done | omega)
   refine MZ fun W hS => ?_
   go_upto_region 6 with fail
   refine RL hS ?_
   clear hS
   refine MV ?_
   refine MV ?_
   refine MC (v := .int .i64 (hfn s.length : Int)) (fun W hS => Y8z (n := s.length) (by omega) (by omega) W) ?_
   refine MV ?_
   refine MZ fun W hS => ?_
   by_cases M : j < hfn s.length
   ·
    go_upto_region 7 with fail
    refine RL hS ?_
    clear hS
    refine MV ?_
    refine MV ?_
    refine MW ?_ (v := .bool true) (hv := by intro W; go_simp; first | done | omega)
    refine MZ fun W hS => ?_
    go_upto_region 8 with fail
    refine RL hS ?_
    clear hS
    refine MV ?_
    refine MV ?_
    refine MV ?_
    refine MW ?_ (v := (.slice AT (s.length - hfn s.length) cT)) (hv := fun _ => Q3w X rfl rfl rfl)
    obtain ⟨U1, Z⟩ := V3 (mth (List.drop (hfn s.length) s))
    have δ := Lib.hid Z
    clear Z
    refine MC (v := .agg (J0 .u8 32 (Q3 U1))) (fun W hS => (by rw [δ.out]; exact Q67 (ls := (List.drop (hfn s.length) s)) (by have χ := G.out; have ξ := D.out; omega) W (J08 hG hS.ext) (T.ext hS.ext))) ?_
    refine MB (z := (J0 .u8 32 (Q3 U1))) (t := 23) (n := 1) (c := 1) ?_ (hr := fun W _ => J2u rfl rfl rfl Tryz.underlying49 (by rw [J1]; kernel_rfl) (by rw [J1]; kernel_rfl) (by rw [J1]; decide) (by rw [J1]; decide))
    intro Ξ
    refine MAr 1 0 (tS := 49) (bytes := 32) (es := (List.map J0f os)) (by first | omega | (simp only [lA, lM, lT, lD, lC, lN, J8, K8, V9, V5]; omega)) (e := J0f U1) (hk := J1 _ _ _) (h1 := by exact Z9 _ _ _) ?_
    intro φ
    refine MV ?_
    refine MZ fun W hS => ?_
    go_upto_region 9 with fail
    refine RL hS ?_
    clear hS
    refine MV ?_
    refine MV ?_
    refine MW ?_ (v := (.slice AH (hfn s.length) cH)) (hv := fun _ => J7v ζ rfl rfl rfl)
    refine MV ?_
    refine MZ fun W hS => ?_
    go_wp2
    go_roundw
    case rel => exact ⟨j, (List.take (hfn s.length) s), AH, cH, os ++ [U1], φ, (by rw [D.out]; exact U), by rw [D.out]; exact M, by rw [D.out, List.length_append]; simp only [List.length_cons, List.length_nil]; omega, Lib.hid (by rw [hp.out, Q9y J M, δ.out, List.reverse_append, List.append_assoc]; rfl), rfl, rfl, by rw [D.out], (by have h_ := (hS.pick [1]); rw [J62] at h_; exact h_)⟩
    case measure => first | (show hfn s.length < s.length; exact hf.2) | (show s.length - hfn s.length < s.length; omega)
   go_upto_region 7 with fail
   refine RL hS ?_
   clear hS
   refine MV ?_
   refine MV ?_
   refine MW ?_ (v := .bool false) (hv := by intro W; go_simp; first | done | omega)
   refine MZ fun W hS => ?_
   go_upto_region 10 with fail
   refine RL hS ?_
   clear hS
   refine MV ?_
   refine MV ?_
   refine MV ?_
   refine MW ?_ (v := (.slice AH (hfn s.length) cH)) (hv := fun _ => J7v ζ rfl rfl rfl)
   obtain ⟨U2, ε⟩ := V3 (mth (List.take (hfn s.length) s))
   have γ := Lib.hid ε
   clear ε
   refine MC (v := .agg (J0 .u8 32 (Q3 U2))) (fun W hS => (by rw [γ.out]; exact Q67 (ls := (List.take (hfn s.length) s)) (by have χ := G.out; have ξ := D.out; omega) W (J08 hG hS.ext) (U.ext hS.ext))) ?_
   refine MB (z := (J0 .u8 32 (Q3 U2))) (t := 23) (n := 1) (c := 1) ?_ (hr := fun W _ => J2u rfl rfl rfl Tryz.underlying49 (by rw [J1]; kernel_rfl) (by rw [J1]; kernel_rfl) (by rw [J1]; decide) (by rw [J1]; decide))
   intro Ψ
   refine MAr 1 0 (tS := 49) (bytes := 32) (es := (List.map J0f os)) (by first | omega | (simp only [lA, lM, lT, lD, lC, lN, J8, K8, V9, V5]; omega)) (e := J0f U2) (hk := J1 _ _ _) (h1 := by exact Z9 _ _ _) ?_
   intro σ
   refine MV ?_
   refine MZ fun W hS => ?_
   go_upto_region 11 with fail
   refine RL hS ?_
   clear hS
   refine MV ?_
   refine MV ?_
   refine MW ?_ (v := (.slice AT (s.length - hfn s.length) cT)) (hv := fun _ => Q3w X rfl rfl rfl)
   refine MV ?_
   refine MZ fun W hS => ?_
   go_upto_region 12 with fail
   refine RL hS ?_
   clear hS
   refine MV ?_
   refine MV ?_
   refine MW ?_ (v := .int .i64 ((j - hfn s.length : Nat) : Int)) (hv := by intro W; go_simp; (try simp only [IntKind.wrap_i64]); omega)
   refine MV ?_
   refine MZ fun W hS => ?_
   go_wp2
   go_roundw
   case rel => exact ⟨(j - hfn s.length), (List.drop (hfn s.length) s), AT, cT, os ++ [U2], σ, (by rw [G.out]; exact T), by rw [G.out]; omega, by rw [G.out, List.length_append]; simp only [List.length_cons, List.length_nil]; omega, Lib.hid (by rw [hp.out, Q9z J M, γ.out, List.reverse_append, List.append_assoc]; rfl), rfl, rfl, by rw [G.out], (by have h_ := (hS.pick [1]); rw [J62] at h_; exact h_)⟩
   case measure => first | (show hfn s.length < s.length; exact hf.2) | (show s.length - hfn s.length < s.length; omega)
  have ν := Lib.hid (show pth l0 i = os.reverse by rw [hp.out, Q66 J, List.nil_append])
  go_upto_region 5 with fail
  refine RL hS ?_
  clear hS
  refine MV ?_
  refine MV ?_
  refine MW ?_ (v := .bool false) (hv := by intro W; go_simp; first | done | omega)
  refine MZ fun W hS => ?_
  go_upto_region 13 with fail
  refine RL hS ?_
  clear hS
  refine MV ?_
  refine Me (v := .tuple #[]) (H' := [.r 23 32 ov (List.map J0f (List.reverse os))]) (fun W hS => Y9i [0] [] hS (fun hT => Z4i (ls := os) (by omega) W hT) ⟨.inr ⟨rfl, rfl⟩, trivial⟩) ?_
  refine MZ fun W hS => ?_
  go_wp2
  exact bodyPost_ret (v := .tuple #[ov, .int .i64 0]) (by simp only [results, Tryz.results72]; go_simp) rfl ⟨_, rfl, by rw [← κ.out, ν.out]; exact hS.pick [0]⟩
end

section
set_option maxHeartbeats 3000000
attribute [local irreducible] wpList U0 wpX
attribute [local irreducible] eI be8 hs4 lb kTx vTx sTx eS rs ofT sE sL sN nN pkf

end

section
set_option maxHeartbeats 3000000
attribute [local irreducible] wpList U0 wpX
attribute [local irreducible] eI be8 hs4 lb kTx vTx sTx eS rs ofT sE sL sN nN pkf

theorem Z01 {q : Prop} {p S n : Nat} {vt vl vs : Value} {us : List Nat} (hn : us.length ≤ 1000000) (h1 : 1 ≤ n) (h2 : n ≤ us.length) (w : World) (hG : GT q w) (hb : Blk w p (suF S vt vl vs) 107) (hu : RR 32 w vs (us.map J0f)) :
  Calls Tryz.prog 28 #[.pointer (some ⟨p, 0, none⟩), .int .i64 (n : Int)] w fun e w' => K7 (.tuple #[.agg (J0 .u8 32 (Q3 (mth (us.take n)))), .int .i64 0]) w w' e := by
 have hS := SH.nil [] w
 go_enter Tryz.func28, Tryz.ntmps28
 go_upto_region 0 with fail
 refine RL hS ?_
 clear hS
 refine MN (z := J0 .u8 32 (Q3 0)) (t := 23) ?_
 intro J
 refine MW ?_ (v := .int .i64 0)
 refine MZ fun W hS => ?_
 go_upto_region 3 with fail
 refine RL hS ?_
 clear hS
 refine MV ?_
 refine MV ?_
 refine MV ?_
 refine MV ?_
 obtain ⟨U1, G⟩ := V3 (mth (us.take n))
 have D := Lib.hid G
 clear G
 refine MC (v := .tuple #[.agg (J0 .u8 32 (Q3 U1)), .int .i64 0]) (fun W hS => (by rw [D.out]; exact Z4j hn h1 h2 W (J08 hG hS.ext) (J2 hb hS.ext) (hu.ext hS.ext))) ?_
 refine MV ?_
 refine MW ?_ (v := .int .i64 0)
 refine MR 0 ?_ 
 refine MW ?_ (v := .int .i64 0)
 refine MZ fun W hS => ?_
 go_wp2
 exact bodyPost_ret (Q8p rfl rfl rfl (hS.blk (i := 0) rfl) (by kernel_rfl) (by rw [J1]; kernel_rfl)) rfl ⟨by rw [← D.out]; rfl, hS.ext⟩
theorem Y92 {q : Prop} {p S n i : Nat} {vt vl vs : Value} {us : List Nat} (hn : us.length ≤ 1000000) (h1 : i < n) (h2 : n ≤ us.length) (w : World) (hG : GT q w) (hb : Blk w p (suF S vt vl vs) 107) (hu : RR 32 w vs (us.map J0f)) :
  Calls Tryz.prog 30 #[.pointer (some ⟨p, 0, none⟩), .int .i64 (i : Int), .int .i64 (n : Int)] w fun e w' => ∃ u, e = .returned (.tuple #[u, .int .i64 0]) ∧ SH [] w w' [.r 23 32 u ((pth (us.take n) i).map J0f)] := by
 have hS := SH.nil [] w
 go_enter Tryz.func30, Tryz.ntmps30
 go_upto_region 3 with fail
 refine RL hS ?_
 clear hS
 refine MV ?_
 refine MV ?_
 refine MV ?_
 refine MV ?_
 refine MV ?_
 refine ME (V := fun v => .tuple #[v, .int .i64 0]) (fun W hS => J58 hS (Z9c hn h1 h2 W (J08 hG hS.ext) (J2 hb hS.ext) (hu.ext hS.ext)) (fun _ => ⟨rfl, rfl⟩)) ?_
 intro D
 refine MV ?_
 refine MW ?_ (v := .int .i64 0)
 refine MV ?_
 refine MW ?_ (v := .int .i64 0)
 refine MZ fun W hS => ?_
 go_wp2
 exact bodyPost_ret (v := .tuple #[D, .int .i64 0]) (by simp only [results, Tryz.results30]; go_simp) rfl ⟨_, rfl, hS.pick [0]⟩
end

section
set_option maxHeartbeats 3000000
attribute [local irreducible] wpList U0 wpX
theorem V2l {W : World} {A : Option Addr} {n cp i g o : Nat} {xs : List Sg} {x : Sg} (h : RR 97 W (.slice A n cp) (xs.map sgC)) (xh : xs[i]? = some x) (hA : A = some ⟨g, o, none⟩) : ∀ (j : Nat) (v : Value), (sgF x)[j]? = some v → W.cell? ⟨g, o + i * 97 + j, none⟩ = some v := fun j v hv =>
 RR.cellat h (by rw [List.getElem?_map, xh]; rfl) hA j v (by unfold sgC; rw [← Q27, Array.getElem?_toList]; exact hv)
attribute [local irreducible] eI be8 hs4 lb kTx vTx sTx eS rs ofT sE sL sN nN pkf

theorem V2m {p S i : Nat} {vt vl vs : Value} {xs : List Sg} {x : Sg} (hn : xs.length ≤ 1000000) (xh : xs[i]? = some x) (w : World) (hb : Blk w p (suF S vt vl vs) 107) (hl : RR 97 w vl (xs.map sgC)) :
  Calls Tryz.prog 29 #[.pointer (some ⟨p, 0, none⟩), .int .i64 (i : Int)] w fun e w' => K7 (.tuple #[.agg (sgF x), .int .i64 0]) w w' e := by
 obtain ⟨Ap, cp, rfl, N, G⟩ := RR.opf hl
 have M : i < xs.length := (List.getElem?_eq_some_iff.1 xh).1
 obtain ⟨gp, op, J, _⟩ := G.out i x xh
 have D := Lib.hid J
 clear J G
 have hS := SH.nil [] w
 go_enter Tryz.func29, Tryz.ntmps29
 go_upto_region 0 with fail
 refine RL hS ?_
 clear hS
 refine MN (z := agF [.c (.int .i64 0), .a 32 0, .a 64 0]) (t := 47) ?_
 intro R
 refine MW ?_ (v := .int .i64 0)
 refine MZ fun W hS => ?_
 go_upto_region 3 with fail
 refine RL hS ?_
 clear hS
 refine MV ?_
 refine MW ?_ (v := .bool false) (hv := by intro W; go_simp; first | done | omega)
 refine MW ?_ (v := .bool false)
 refine MV ?_
 refine MV ?_
 refine MV ?_
 refine MV ?_
 refine MF (v := (.slice Ap xs.length cp)) (fun W hS => X8 rfl rfl (by rw [J7 (J2 hb hS.ext)]; exact (Y3 (off := 33) 2)) (by kernel_rfl)) ?_
 refine MV ?_
 refine MW ?_ (v := .bool false) (hv := by intro W; go_simp; first | done | omega)
 refine MW ?_ (v := .bool false)
 refine MW ?_ (v := .bool false)
 refine MZ fun W hS => ?_
 go_upto_region 5 with fail
 refine RL hS ?_
 clear hS
 refine MV ?_
 refine MV ?_
 refine MV ?_
 refine MF (v := (.slice Ap xs.length cp)) (fun W hS => X8 rfl rfl (by rw [J7 (J2 hb hS.ext)]; exact (Y3 (off := 33) 2)) (by kernel_rfl)) ?_
 refine MV ?_
 refine MW ?_ (v := .pointer (some ⟨gp, op + i * 97, none⟩)) (hv := fun _ => J17 D.out M rfl rfl rfl Tryz.underlying88 (by kernel_rfl))
 refine MF (v := .agg (agF [.c (.int .i64 x.ep), .a 32 x.ro, .a 64 x.sig])) (fun W hS => J1j rfl rfl (fun i_ v hv => (V2l (hl.ext hS.ext) xh D.out) i_ v (by simpa using hv)) (by kernel_rfl) (by rw [J4]; kernel_rfl)) ?_
 refine MR 0 ?_ (hz := by rw [J4]; kernel_rfl) (hs := by first | (rw [J4, J4]; simp only [J38, J37, J36]; done) | (rw [J4, J4]; rfl) | rfl) (h1 := by exact (J0a ⟨rfl, trivial⟩))
 refine MW ?_ (v := .int .i64 0)
 refine MZ fun W hS => ?_
 go_wp2
 exact bodyPost_ret (Q8p rfl rfl rfl (hS.blk (i := 0) rfl) (by kernel_rfl) (by kernel_rfl)) rfl ⟨rfl, hS.ext⟩
end

section
set_option maxHeartbeats 3000000
attribute [local irreducible] wpList U0 wpX
attribute [local irreducible] eI be8 hs4 lb kTx vTx sTx eS rs ofT sE sL sN nN pkf

theorem J1c : zer Tryz.prog 135 = some (some (agF [.c (.int .i64 0), .c (.int .i64 0)])) := by kernel_rfl
theorem J1d : plc Tryz.prog 135 = some [(0, 1), (1, 1)] := by kernel_rfl
abbrev clF (a b : Nat) : Array Value := agF [.c (.int .i64 (a : Int)), .c (.int .i64 (b : Int))]
end

section
set_option maxHeartbeats 3000000
attribute [local irreducible] wpList U0 wpX

theorem J8q (N : Int) : bits .and .i64 N 1 = N % 2 := by
 have h1 : (BitVec.ofInt 64 1).toNat = 2 ^ 1 - 1 := by decide
 have D : (BitVec.ofInt 64 N &&& BitVec.ofInt 64 1).toNat = (N % ((2 ^ 64 : Nat) : Int)).toNat % 2 ^ 1 := by
  rw [BitVec.toNat_and, BitVec.toNat_ofInt, h1, Nat.and_two_pow_sub_one_eq_mod]
 show IntKind.i64.wrap ((BitVec.ofInt 64 N &&& BitVec.ofInt 64 1).toNat : Nat) = N % 2
 rw [D, IntKind.wrap_i64]
 omega

theorem Y2y {a b : Nat} (ha : a ≤ 1000000) (h : a % 2 = 1 ∨ a = b) (w : World) :
  Calls Tryz.prog 74 #[.agg (clF a b)] w fun e w' => K7 (.bool true) w w' e := by
 have hS := SH.nil [] w
 go_enter Tryz.func74, Tryz.ntmps74
 go_upto_region 0 with fail
 refine RL hS ?_
 clear hS
 refine MN (z := agF [.c (.int .i64 (a : Int)), .c (.int .i64 (b : Int))]) (t := 135) ?_
 intro D
 refine MW ?_ (v := .bool false)
 refine MZ fun W hS => ?_
 by_cases hc : a % 2 = 1
 ·
  go_upto_region 1 with fail
  refine RL hS ?_
  clear hS
  refine MV ?_
  refine MG 0 ?_ (v := .int .i64 (a : Int)) (hj := (Y3 (off := 0) 0))
  refine MW ?_ (v := .int .i64 ((a % 2 : Nat) : Int)) (hv := by intro W; go_simp; (try rw [J8q]); (try omega))
  refine MW ?_ (v := .bool true) (hv := by intro W; go_simp; first | done | omega)
  refine MW ?_ (v := .bool true)
  refine MS ?_
  refine MS ?_
  refine MS ?_
  refine MS ?_
  refine MS ?_
  refine MW ?_ (v := .bool true)
  refine MW ?_ (v := .bool true)
  refine MZ fun W hS => ?_
  go_wp2
  exact bodyPost_ret (v := .bool true) (by simp only [results, Tryz.results74]; go_simp) rfl ⟨rfl, hS.ext⟩
 go_upto_region 1 with fail
 refine RL hS ?_
 clear hS
 refine MV ?_
 refine MG 0 ?_ (v := .int .i64 (a : Int)) (hj := (Y3 (off := 0) 0))
 refine MW ?_ (v := .int .i64 ((a % 2 : Nat) : Int)) (hv := by intro W; go_simp; (try rw [J8q]); (try omega))
 refine MW ?_ (v := .bool false) (hv := by intro W; go_simp; first | done | omega)
 refine MW ?_ (v := .bool false)
 refine MV ?_
 refine MG 0 ?_ (v := .int .i64 (a : Int)) (hj := (Y3 (off := 0) 0))
 refine MV ?_
 refine MG 0 ?_ (v := .int .i64 (b : Int)) (hj := (Y3 (off := 1) 1))
 refine MW ?_ (v := .bool true) (hv := by intro W; go_simp; first | done | omega)
 refine MW ?_ (v := .bool true)
 refine MW ?_ (v := .bool true)
 refine MZ fun W hS => ?_
 go_wp2
 exact bodyPost_ret (v := .bool true) (by simp only [results, Tryz.results74]; go_simp) rfl ⟨rfl, hS.ext⟩
theorem Y2z {a b : Nat} (ha : a ≤ 1000000) (h1 : a % 2 ≠ 1) (h2 : a ≠ b) (w : World) :
  Calls Tryz.prog 74 #[.agg (clF a b)] w fun e w' => K7 (.bool false) w w' e := by
 have hS := SH.nil [] w
 go_enter Tryz.func74, Tryz.ntmps74
 go_upto_region 0 with fail
 refine RL hS ?_
 clear hS
 refine MN (z := agF [.c (.int .i64 (a : Int)), .c (.int .i64 (b : Int))]) (t := 135) ?_
 intro D
 refine MW ?_ (v := .bool false)
 refine MZ fun W hS => ?_
 go_upto_region 1 with fail
 refine RL hS ?_
 clear hS
 refine MV ?_
 refine MG 0 ?_ (v := .int .i64 (a : Int)) (hj := (Y3 (off := 0) 0))
 refine MW ?_ (v := .int .i64 ((a % 2 : Nat) : Int)) (hv := by intro W; go_simp; (try rw [J8q]); (try omega))
 refine MW ?_ (v := .bool false) (hv := by intro W; go_simp; first | done | omega)
 refine MW ?_ (v := .bool false)
 refine MV ?_
 refine MG 0 ?_ (v := .int .i64 (a : Int)) (hj := (Y3 (off := 0) 0))
 refine MV ?_
 refine MG 0 ?_ (v := .int .i64 (b : Int)) (hj := (Y3 (off := 1) 1))
 refine MW ?_ (v := .bool false) (hv := by intro W; go_simp; first | done | omega)
 refine MW ?_ (v := .bool false)
 refine MW ?_ (v := .bool false)
 refine MZ fun W hS => ?_
 go_wp2
 exact bodyPost_ret (v := .bool false) (by simp only [results, Tryz.results74]; go_simp) rfl ⟨rfl, hS.ext⟩
def upl : Nat → Nat → Nat → Nat × Nat
 | 0, a, b => (a, b)
 | f + 1, a, b => if a ≠ 0 ∧ a % 2 = 0 then upl f (a / 2) (b / 2) else (a, b)
def upn (a b : Nat) : Nat × Nat := ((upl a a b).1 / 2, (upl a a b).2 / 2)
theorem Z9d {f a b : Nat} (h : a ≠ 0) (h2 : a % 2 = 0) : upl (f + 1) a b = upl f (a / 2) (b / 2) := by unfold upl; rw [if_pos ⟨h, h2⟩]; cases f <;> rfl
theorem Q33 {a b : Nat} (f : Nat) (h : ¬ (a ≠ 0 ∧ a % 2 = 0)) : upl f a b = (a, b) := by
 cases f with
 | zero => rfl
 | succ f => unfold upl; rw [if_neg h]
end

section
set_option maxHeartbeats 3000000
attribute [local irreducible] wpList U0 wpX
theorem up3 (x : Nat) : (x ≠ 0 ∧ x % 2 = 0) ∨ x = 0 ∨ (x ≠ 0 ∧ x % 2 ≠ 0) := by omega
def V2o : Option Value → Nat
 | some (.int _ n) => n.toNat
 | _ => 0
theorem Z02 {W : World} {p x y : Nat} (h : Blk W p (clF x y) 135) : V2o (W.cell? ⟨p, 0, none⟩) = x := by rw [J7 h 0]; rfl

theorem V4j {a b : Nat} (ha : a ≤ 1000000) (hb : b ≤ 1000000) (w : World) :
  Calls Tryz.prog 76 #[.agg (clF a b)] w fun e w' => K7 (.agg (clF (upn a b).1 (upn a b).2)) w w' e := by
 have hS := SH.nil [] w
 go_enter Tryz.func76, Tryz.ntmps76
 go_upto_region 0 with fail
 refine RL hS ?_
 clear hS
 refine MN (z := agF [.c (.int .i64 (a : Int)), .c (.int .i64 (b : Int))]) (t := 135) ?_
 intro J
 refine MN (z := agF [.c (.int .i64 0), .c (.int .i64 0)]) (t := 135) ?_
 intro R
 refine MZ fun W hS => ?_
 by_cases D : a % 2 = 0
 ·
  go_upto_region 1 with fail
  refine RL hS ?_
  clear hS
  refine MV ?_
  refine MG 1 ?_ (v := .int .i64 (a : Int)) (hj := (Y3 (off := 0) 0))
  refine MW ?_ (v := .int .i64 ((a % 2 : Nat) : Int)) (hv := by intro W; go_simp; (try rw [J8q]); (try omega))
  refine MW ?_ (v := .bool true) (hv := by intro W; go_simp; first | done | omega)
  refine MZ fun W hS => ?_
  go_wp2_with fail
  go_loopw [] (fun  wr => ∃ (f : Nat) (x : Nat) (y : Nat), (x ≤ a) ∧ (y ≤ b) ∧ (x ≤ f) ∧ (RowKit.Hid (upl f x y = upl a a b)) ∧ SH [] w wr [.b R (agF [.c (.int .i64 0), .c (.int .i64 0)]) 135, .b J (agF [.c (.int .i64 (x : Int)), .c (.int .i64 (y : Int))]) 135])
   (fun  wq => V2o (wq.cell? ⟨J, 0, none⟩))
  case atStart => exact ⟨a, a, b, Nat.le_refl _, Nat.le_refl _, Nat.le_refl _, Lib.hid rfl, hS⟩
  clear hS
  case round =>
   obtain ⟨f, x, y, hx, hy, hf, hu, hS⟩ := hrel
   have G := Lib.hid (Z02 (hS.blk (i := 1) rfl))
   rcases up3 x with hc | M | N
   ·
    go_upto_region 2 with fail
    refine RL hS ?_
    clear hS
    refine MV ?_
    refine MG 1 ?_ (v := .int .i64 (x : Int)) (hj := (Y3 (off := 0) 0))
    refine MW ?_ (v := .bool true) (hv := by intro W; go_simp; first | done | omega)
    refine MW ?_ (v := .bool true)
    refine MV ?_
    refine MG 1 ?_ (v := .int .i64 (x : Int)) (hj := (Y3 (off := 0) 0))
    refine MW ?_ (v := .int .i64 ((x % 2 : Nat) : Int)) (hv := by intro W; go_simp; (try rw [J8q]); (try omega))
    refine MW ?_ (v := .bool true) (hv := by intro W; go_simp; first | done | omega)
    refine MW ?_ (v := .bool true)
    refine MZ fun W hS => ?_
    go_upto_region 3 with fail
    refine RL hS ?_
    clear hS
    refine MV ?_
    refine MG 1 ?_ (v := .int .i64 (x : Int)) (hj := (Y3 (off := 0) 0))
    refine MW ?_ (v := .int .i64 ((x / 2 : Nat) : Int)) (hv := by intro W; go_simp; first | done | omega)
    refine MV ?_
    refine MG 1 ?_ (v := .int .i64 (y : Int)) (hj := (Y3 (off := 1) 1))
    refine MW ?_ (v := .int .i64 ((y / 2 : Nat) : Int)) (hv := by intro W; go_simp; first | done | omega)
    refine MV ?_
    refine MP 1 (v := .int .i64 ((x / 2 : Nat) : Int)) (cs' := agF [.c (.int .i64 ((x / 2 : Nat) : Int)), .c (.int .i64 (y : Int))]) ?_ (hs := by rw [J4]; exact Nat.le_of_ble_eq_true (by kernel_rfl)) (hc := J2q (off := 0) 0)
    refine MV ?_
    refine MP 1 (v := .int .i64 ((y / 2 : Nat) : Int)) (cs' := agF [.c (.int .i64 ((x / 2 : Nat) : Int)), .c (.int .i64 ((y / 2 : Nat) : Int))]) ?_ (hs := by rw [J4]; exact Nat.le_of_ble_eq_true (by kernel_rfl)) (hc := J2q (off := 1) 1)
    refine MZ fun W hS => ?_
    go_wp2
    go_roundw
    case rel => exact ⟨(f - 1), (x / 2), (y / 2), by omega, by omega, by omega, Lib.hid (by rw [← hu.out, ← Z9d hc.1 hc.2, show f - 1 + 1 = f by omega]), hS⟩
    case measure => first | (rw [G.out, Z02 (hS.blk (i := 0) rfl)]; omega) | (rw [G.out, Z02 (hS.blk (i := 1) rfl)]; omega)
   ·
    have hc : ¬ (x ≠ 0 ∧ x % 2 = 0) := fun h => h.1 M
    go_upto_region 2 with fail
    refine RL hS ?_
    clear hS
    refine MV ?_
    refine MG 1 ?_ (v := .int .i64 (x : Int)) (hj := (Y3 (off := 0) 0))
    refine MW ?_ (v := .bool false) (hv := by intro W; go_simp; first | done | omega)
    refine MW ?_ (v := .bool false)
    refine MS ?_
    refine MS ?_
    refine MS ?_
    refine MS ?_
    refine MW ?_ (v := .bool false)
    refine MZ fun W hS => ?_
    go_upto_region 4 with fail
    refine RL hS ?_
    clear hS
    refine MV ?_
    refine MG 1 ?_ (v := .int .i64 (x : Int)) (hj := (Y3 (off := 0) 0))
    refine MW ?_ (v := .int .i64 ((x / 2 : Nat) : Int)) (hv := by intro W; go_simp; first | done | omega)
    refine MV ?_
    refine MG 1 ?_ (v := .int .i64 (y : Int)) (hj := (Y3 (off := 1) 1))
    refine MW ?_ (v := .int .i64 ((y / 2 : Nat) : Int)) (hv := by intro W; go_simp; first | done | omega)
    refine MF (v := .agg (agF [.c (.int .i64 ((x / 2 : Nat) : Int)), .c (.int .i64 ((y / 2 : Nat) : Int))])) (fun W hS => J2m rfl rfl J1c J1d (J11 (J11 J3q (l' := [.c (.int .i64 ((x / 2 : Nat) : Int)), .c (.int .i64 ((y / 2 : Nat) : Int))]) (m := [.c (.int .i64 ((y / 2 : Nat) : Int))]) (hv := rfl) (hs := X9 (off := 1) 1 1) (hp := rfl) (hn := rfl) (hb := by show 1 + 1 ≤ 2; decide)) (l' := [.c (.int .i64 ((x / 2 : Nat) : Int)), .c (.int .i64 0)]) (m := [.c (.int .i64 ((x / 2 : Nat) : Int))]) (hv := rfl) (hs := X9 (off := 0) 0 1) (hp := rfl) (hn := rfl) (hb := by show 0 + 1 ≤ 2; decide))) ?_
    refine MR 0 ?_ (hz := by rw [J4]; kernel_rfl) (hs := by first | (rw [J4, J4]; simp only [J38, J37, J36]; done) | (rw [J4, J4]; rfl) | rfl) (h1 := by exact (J0a ⟨rfl, rfl, trivial⟩))
    refine MZ fun W hS => ?_
    have hq : upn a b = (x / 2, y / 2) := by unfold upn; rw [← hu.out, Q33 _ hc]
    go_wp2
    exact bodyPost_ret (Z6 rfl rfl (hS.blk (i := 0) rfl) (by kernel_rfl) (by kernel_rfl)) rfl ⟨by rw [hq], hS.ext⟩
   have hc : ¬ (x ≠ 0 ∧ x % 2 = 0) := fun h => N.2 h.2
   go_upto_region 2 with fail
   refine RL hS ?_
   clear hS
   refine MV ?_
   refine MG 1 ?_ (v := .int .i64 (x : Int)) (hj := (Y3 (off := 0) 0))
   refine MW ?_ (v := .bool true) (hv := by intro W; go_simp; first | done | omega)
   refine MW ?_ (v := .bool true)
   refine MV ?_
   refine MG 1 ?_ (v := .int .i64 (x : Int)) (hj := (Y3 (off := 0) 0))
   refine MW ?_ (v := .int .i64 ((x % 2 : Nat) : Int)) (hv := by intro W; go_simp; (try rw [J8q]); (try omega))
   refine MW ?_ (v := .bool false) (hv := by intro W; go_simp; first | done | omega)
   refine MW ?_ (v := .bool false)
   refine MZ fun W hS => ?_
   go_upto_region 4 with fail
   refine RL hS ?_
   clear hS
   refine MV ?_
   refine MG 1 ?_ (v := .int .i64 (x : Int)) (hj := (Y3 (off := 0) 0))
   refine MW ?_ (v := .int .i64 ((x / 2 : Nat) : Int)) (hv := by intro W; go_simp; first | done | omega)
   refine MV ?_
   refine MG 1 ?_ (v := .int .i64 (y : Int)) (hj := (Y3 (off := 1) 1))
   refine MW ?_ (v := .int .i64 ((y / 2 : Nat) : Int)) (hv := by intro W; go_simp; first | done | omega)
   refine MF (v := .agg (agF [.c (.int .i64 ((x / 2 : Nat) : Int)), .c (.int .i64 ((y / 2 : Nat) : Int))])) (fun W hS => J2m rfl rfl J1c J1d (J11 (J11 J3q (l' := [.c (.int .i64 ((x / 2 : Nat) : Int)), .c (.int .i64 ((y / 2 : Nat) : Int))]) (m := [.c (.int .i64 ((y / 2 : Nat) : Int))]) (hv := rfl) (hs := X9 (off := 1) 1 1) (hp := rfl) (hn := rfl) (hb := by show 1 + 1 ≤ 2; decide)) (l' := [.c (.int .i64 ((x / 2 : Nat) : Int)), .c (.int .i64 0)]) (m := [.c (.int .i64 ((x / 2 : Nat) : Int))]) (hv := rfl) (hs := X9 (off := 0) 0 1) (hp := rfl) (hn := rfl) (hb := by show 0 + 1 ≤ 2; decide))) ?_
   refine MR 0 ?_ (hz := by rw [J4]; kernel_rfl) (hs := by first | (rw [J4, J4]; simp only [J38, J37, J36]; done) | (rw [J4, J4]; rfl) | rfl) (h1 := by exact (J0a ⟨rfl, rfl, trivial⟩))
   refine MZ fun W hS => ?_
   have hq : upn a b = (x / 2, y / 2) := by unfold upn; rw [← hu.out, Q33 _ hc]
   go_wp2
   exact bodyPost_ret (Z6 rfl rfl (hS.blk (i := 0) rfl) (by kernel_rfl) (by kernel_rfl)) rfl ⟨by rw [hq], hS.ext⟩
 go_upto_region 1 with fail
 refine RL hS ?_
 clear hS
 refine MV ?_
 refine MG 1 ?_ (v := .int .i64 (a : Int)) (hj := (Y3 (off := 0) 0))
 refine MW ?_ (v := .int .i64 ((a % 2 : Nat) : Int)) (hv := by intro W; go_simp; (try rw [J8q]); (try omega))
 refine MW ?_ (v := .bool false) (hv := by intro W; go_simp; first | done | omega)
 refine MZ fun W hS => ?_
 go_upto_region 4 with fail
 refine RL hS ?_
 clear hS
 refine MV ?_
 refine MG 1 ?_ (v := .int .i64 (a : Int)) (hj := (Y3 (off := 0) 0))
 refine MW ?_ (v := .int .i64 ((a / 2 : Nat) : Int)) (hv := by intro W; go_simp; first | done | omega)
 refine MV ?_
 refine MG 1 ?_ (v := .int .i64 (b : Int)) (hj := (Y3 (off := 1) 1))
 refine MW ?_ (v := .int .i64 ((b / 2 : Nat) : Int)) (hv := by intro W; go_simp; first | done | omega)
 refine MF (v := .agg (agF [.c (.int .i64 ((a / 2 : Nat) : Int)), .c (.int .i64 ((b / 2 : Nat) : Int))])) (fun W hS => J2m rfl rfl J1c J1d (J11 (J11 J3q (l' := [.c (.int .i64 ((a / 2 : Nat) : Int)), .c (.int .i64 ((b / 2 : Nat) : Int))]) (m := [.c (.int .i64 ((b / 2 : Nat) : Int))]) (hv := rfl) (hs := X9 (off := 1) 1 1) (hp := rfl) (hn := rfl) (hb := by show 1 + 1 ≤ 2; decide)) (l' := [.c (.int .i64 ((a / 2 : Nat) : Int)), .c (.int .i64 0)]) (m := [.c (.int .i64 ((a / 2 : Nat) : Int))]) (hv := rfl) (hs := X9 (off := 0) 0 1) (hp := rfl) (hn := rfl) (hb := by show 0 + 1 ≤ 2; decide))) ?_
 refine MR 0 ?_ (hz := by rw [J4]; kernel_rfl) (hs := by first | (rw [J4, J4]; simp only [J38, J37, J36]; done) | (rw [J4, J4]; rfl) | rfl) (h1 := by exact (J0a ⟨rfl, rfl, trivial⟩))
 refine MZ fun W hS => ?_
 have hq : upn a b = (a / 2, b / 2) := by unfold upn; rw [Q33 _ (fun h => D h.2)]
 go_wp2
 exact bodyPost_ret (Z6 rfl rfl (hS.blk (i := 0) rfl) (by kernel_rfl) (by kernel_rfl)) rfl ⟨by rw [hq], hS.ext⟩
end
end Go.Proofs.YtejkmhgkkibafaaGreatDoor

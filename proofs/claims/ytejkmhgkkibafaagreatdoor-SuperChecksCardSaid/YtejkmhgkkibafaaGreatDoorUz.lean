/- The law SuperChecks. Conditions: the tables hold their numbers. -/
import Derived.Test.YtejkmhgkkibafaaGreatDoorJ38
import Derived.Test.YtejkmhgkkibafaaGreatDoorJ26
set_option linter.unusedSimpArgs false
set_option linter.unusedVariables false
namespace Go.Proofs.YtejkmhgkkibafaaGreatDoor
set_option maxHeartbeats 3000000
set_option maxRecDepth 100000
open Go.RowKit
attribute [local irreducible] wpList U0 wpX
open S8 (Kn GA kP sig vfy)
def enS (y : Sg) : Nat := eS (sTx y.ep y.ro)
theorem Y47 (S : Nat) (T : TR) (n : Nat) : enS (sgN S T n) = eS (sTx (n : Int) (rs T)) := rfl
theorem Z9i : ∀ (l : List Nat) (i : Nat), (pth l i).length ≤ l.length := by
 have h : ∀ (N : Nat) (l : List Nat), l.length ≤ N → ∀ i, (pth l i).length ≤ N := by
  intro N
  induction N with
  | zero => intro l h i; rw [Q66 (by omega)]; exact Nat.le_refl _
  | succ N ih =>
   intro l h i
   by_cases h2 : 2 ≤ l.length
   ·
    have hf := Z29 h2
    by_cases hi : i < hfn l.length
    ·
     rw [Q9y h2 hi, List.length_append]; exact Nat.succ_le_succ (ih _ (by rw [List.length_take]; omega) i)
    ·
     rw [Q9z h2 hi, List.length_append]; exact Nat.succ_le_succ (ih _ (by rw [List.length_drop]; omega) _)
   ·
    rw [Q66 h2]; exact Nat.zero_le _
 exact fun l i => h _ l (Nat.le_refl _) i
attribute [local irreducible] eI be8 hs4 lb kTx vTx sTx eS enS rs ofT sE sL sN nN S8.sig S8.vfy S8.kP S8.kN S8.kD clb
theorem Z9j {p S : Nat} {T Tn : TR} {xs : List Sg} {X : Sg} {us : List Nat} {U : Nat} {vt vl vs v : Value} {ms : List Mb} (hT : Tn = ovT ms) (hX : X = sgN S (ovT ms) xs.length) (hU : U = enS X) (hn : ms.length ≤ 1000) (hx : xs.length ≤ 1000000) (hu : us.length ≤ 1000000) (w : World) (h_ : SH (SH.feet (suL p S T xs us vt vl vs ++ [gx, mbT v ms])) w w (suL p S T xs us vt vl vs ++ [gx, mbT v ms])) :
  Calls Tryz.prog 20 #[.pointer (some ⟨p, 0, none⟩), v] w fun e w' => ∃ y : Value × Value × Value, e = .returned (.agg (sgF X)) ∧ SH (SH.feet (suL p S T xs us vt vl vs ++ [gx, mbT v ms])) w w' (suL p S Tn (xs ++ [X]) (us ++ [U]) y.1 y.2.1 y.2.2 ++ [gx, mbT v ms]) := by
 subst hU; subst hX; subst hT
 rw [Y47]
 exact Z27 (ms := ms) hn hx hu w h_
theorem SH.mem1 {F : List Nat} {w W : World} {R : List As} {m : Mb} {b : Nat} {t : TypeId} (hl : m.id.length ≤ 100000000) (h : SH F w W (.b b (mbF m) t :: .o m.u m.id :: R)) : SH F w W (mbT (.slice (some ⟨b, 0, none⟩) 1 1) [m] :: R) := by
 have hb := h.blk (i := 0) rfl
 have ho := h.own (i := 1) rfl
 refine SH.foldF (N := [.b b (mbF m) t, .o m.u m.id]) (by exact h) (Q4b ⟨Y2s hb, V4g ho.sl hl⟩) fun k hk => ?_
 rcases List.mem_append.1 hk with hk | hk
 ·
  have hr : Row t 35 W (.slice (some ⟨b, 0, none⟩) 1 1) ([m].map mbC) := Z0j (t := t) (es := [mbC m]) hb (by show fcs _ = fcs _ ++ []; rw [List.append_nil]) (fun e he => Q65 (ms := [m]) e he) (by show 1 ≤ maxLen; decide)
  exact ⟨.b b (mbF m) t, by simp, fun T K e => (by cases e), Y06 hr k hk⟩
 obtain ⟨y, hy, h1⟩ := List.mem_flatMap.1 hk
 rw [List.mem_singleton.1 hy] at h1
 exact ⟨.o m.u m.id, by simp, fun T K e => (by cases e), by show k ∈ m.u.ownBlock.toList; rw [J9v (As.mem_toList h1)]; simp⟩
theorem Z9k {i : Nat} (h : i < 256) : ((UInt8.ofNat i).toNat : Int) = (i : Int) := by rw [UInt8.toNat_ofNat']; omega

theorem Q3c {V : Nat} {x : Sg} {n : Int} (hV : V < 2 ^ 256) (hx : x.sig < 2 ^ (256 + 256)) (w : World) (hX : GX w) (hR : S8.GR w) :
  Calls Tryz.prog 5 #[.agg (J0 .u8 32 (Q3 V)), .agg (sgF x), .int .i64 n] w fun e w' => K7 (.bool true) w w' e := by
 obtain ⟨X, μ⟩ : ∃ X : Nat, n % 18446744073709551616 = (X : Int) := ⟨(n % 18446744073709551616).toNat, by omega⟩
 have γ : IntKind.wrap .u64 n = (X : Int) := by rw [IntKind.wrap_u64]; exact μ
 obtain ⟨N, hN⟩ := V3 (1 + X % 6)
 have Γ : 1 ≤ N := by omega
 have D4 : N ≤ 6 := by omega
 have HN := Lib.hid hN
 have D1 := Lib.hid γ
 clear hN γ μ
 have hS := SH.nil [] w
 have hS := hS.entp (Q8b hX)
 go_enter Tryz.func5, Tryz.ntmps5
 go_upto_region 0 with fail
 refine RL hS ?_
 clear hS
 refine MN (z := J0 .u8 32 (Q3 V)) (t := 23) ?_
 intro ψ
 refine MN (z := agF [.c (.int .i64 x.ep), .a 32 x.ro, .a 64 x.sig]) (t := 47) ?_
 intro κ
 refine MW ?_ (v := .bool false)
 refine MZ fun W hS => ?_
 go_upto_region 1 with fail
 refine RL hS ?_
 clear hS
 refine ML 1 ?_
 refine ML 0 ?_ (hs := by rw [J4]; kernel_rfl)
 obtain ⟨U1, ν⟩ := V3 (vfy V (sTx x.ep x.ro) x.sig)
 have S := Lib.hid ν
 clear ν
 refine MC (v := .int .i64 (U1 : Int)) (fun W hS => (by rw [S.out]; exact Q8a hV hx W (hS.pp (i := 2) rfl : GX W))) ?_
 refine MV ?_
 refine MZ fun W hS => ?_
 go_upto_region 2 with fail
 refine RTh (.q 0 (.q 1 (.q 2 (.q 3 (.q 4 (.q 5 (.q 6 (.q 8 (.q 9 (.q 10 (.e 7 (.e 11 (.q 12 .z))))))))))))) hS ?_
 clear hS
 refine TW ?_ (v := .slice (some ⟨ψ, 0, none⟩) 32 32)
 refine TF (v := str (lb 32 V)) rfl (fun W hS => J2j (K0 (V := V) (n := 32) (off := 0) (c := 32) (hS.blk (i := 1) rfl) ap0 (by decide) (by decide)) rfl rfl) ?_
 refine TV ?_
 refine TG 0 ?_ (v := .int .i64 x.ep) (hj := (Y3 (off := 0) 0))
 refine TV ?_
 refine TW ?_ (v := .slice (some ⟨κ, 1, none⟩) 32 32)
 refine TF (v := str (lb 32 x.ro)) rfl (fun W hS => J2j (K0 (V := x.ro) (n := 32) (off := 1) (c := 32) (hS.blk (i := 0) rfl) (J1g (off := 1) 1) (by decide) (by decide)) rfl rfl) ?_
 refine TV ?_
 refine TW ?_ (v := .slice (some ⟨κ, 33, none⟩) 64 64)
 refine TF (v := str (lb 64 x.sig)) rfl (fun W hS => J2j (K0 (V := x.sig) (n := 64) (off := 33) (c := 64) (hS.blk (i := 0) rfl) (J1g (off := 33) 2) (by decide) (by decide)) rfl rfl) ?_
 refine TE (fun _ h => h) ?_
 refine MC (v := str (sTx x.ep x.ro)) (fun W hS => Y2n x.ep x.ro W) ?_
 refine TNh (fun W hS => hS) ?_
 refine TE (fun _ h => h) ?_
 refine MC (v := .int .i64 (U1 : Int)) (fun W hS => S8.rverifyN_c S.out hV hx [] (by rw [V5]; decide) W (S8.GR_ext hR hS.ext)) ?_
 refine TNh (fun W hS => hS) ?_
 refine TV ?_
 refine TZ (fun _ h => h) fun W hS => ?_
 go_upto_region 3 with fail
 refine RL hS ?_
 clear hS
 refine MW ?_ (v := .agg (J0 .u8 32 (Q3 7))) (hv := by intro W; kernel_rfl)
 refine ME (V := fun p => .pointer (some ⟨p, 0, none⟩)) (fun W hS => J58 hS (Z26 7 W) (fun _ => ⟨rfl, rfl⟩)) ?_
 intro p3
 refine MT (fun W hS => ((hS.rnil 23 32 rfl).rnil 47 97 rfl).fact (TA.holds (show TA _ .nil nlp from rfl)) rfl) ?_
 refine MV ?_
 refine MZ fun W hS => ?_
 go_upto_region 4 with fail
 refine RL hS ?_
 clear hS
 refine MV ?_
 refine MW ?_ (v := .int .u64 (X : Int)) (hv := by intro W; go_simp; (try simp only [D1.out]))
 refine MW ?_ (v := .int .u64 ((X % 6 : Nat) : Int)) (hv := by intro W; go_simp; (try rw [Int.tmod_eq_emod_of_nonneg (by omega)]); (try omega))
 refine MW ?_ (v := .int .i64 ((X % 6 : Nat) : Int)) (hv := by intro W; go_simp; (try simp only [IntKind.wrap_i64]); omega)
 refine MW ?_ (v := .int .i64 (N : Int)) (hv := by intro W; have h_ := HN.out; go_simp; (try simp only [IntKind.wrap_i64]); omega)
 refine MV ?_
 refine MZ fun W hS => ?_
 go_wp2_with fail
 go_loopw [10] (fun ii wr => ∃ (i : Nat) (T : TR) (xs : List Sg) (us : List Nat) (vt : Value) (vs : Value) (A : Option Addr) (cx : Nat), (i ≤ N) ∧ (xs.length = i) ∧ (RowKit.Hid (us.length = i)) ∧ (RowKit.Hid (us = xs.map enS)) ∧ (ii = .int .i64 (i : Int)) ∧ SH [] w wr [.b p3 (agF [.a 32 7, .c vt, .c (.slice A xs.length cx), .c vs]) 107, .r 47 97 (.slice A xs.length cx) (List.map sgC xs), .r 23 32 vs (List.map J0f us), .t 151 (fun W => TA W T vt), gx])
  (fun ii _ => N - (intOf ii).toNat)
 case atStart => exact ⟨0, .nil, [], [], nlp, nSl, none, 0, Nat.zero_le _, rfl, Lib.hid rfl, Lib.hid rfl, rfl, (hS.pick [3, 1, 2, 0, 6])⟩
 clear hS
 case round =>
  obtain ⟨i, T, xs, us, vt, vs, A, cx, hi, η, D, θ, rfl, hS⟩ := hrel
  have J := Lib.hid η
  clear η
  have Ξ : xs.length ≤ 1000000 := by have h_ := J.out; omega
  have α : us.length ≤ 1000000 := by have h_ := D.out; omega
  by_cases ρ : i < N
  ·
   go_upto_region 6 with fail
   refine RL hS ?_
   clear hS
   refine MV ?_
   refine MV ?_
   refine MW ?_ (v := .bool true) (hv := by intro W; go_simp; first | done | omega)
   refine MZ fun W hS => ?_
   go_upto_region 8 with fail
   refine RL hS ?_
   clear hS
   refine MV ?_
   refine MV ?_
   refine MW ?_ (v := .int .u8 ((UInt8.ofNat i).toNat : Int)) (hv := by intro W; rw [Z9k (by omega)]; go_simp; (try simp only [IntKind.wrap_u8]); omega)
   refine MO (m := [UInt8.ofNat i]) (n := 1) (z := #[.int .u8 ((UInt8.ofNat i).toNat : Int)]) ?_ (hz := by rfl)
   intro G
   refine MV ?_
   refine J78 (fun W hS => (K6 (hS.osl (i := 0) rfl)).2) ?_
   intro σ
   refine MF (v := .agg (agF [.c G, .c (.bool false), .c (.int .i64 (i : Int)), .a 32 0])) (fun W hS => J2m rfl rfl Q08 Q09 (J11 (J11 J3q (l' := [.c G, .c (.bool false), .c (.int .i64 (i : Int)), .a 32 0]) (m := [.c (.int .i64 (i : Int))]) (hv := rfl) (hs := X9 (off := 2) 2 1) (hp := rfl) (hn := rfl) (hb := by show 2 + 1 ≤ 35; decide)) (l' := [.c G, .c (.bool false), .c (.int .i64 0), .a 32 0]) (m := [.c G]) (hv := (K6 (hS.osl (i := 0) rfl)).1) (hs := X9 (off := 0) 0 1) (hp := rfl) (hn := rfl) (hb := by show 0 + 1 ≤ 35; decide))) ?_
   refine MB (z := (agF [.c G, .c (.bool false), .c (.int .i64 (i : Int)), .a 32 0])) (t := 25) (n := 1) (c := 1) ?_ (hr := fun W _ => J2u rfl rfl rfl Tryz.underlying30 (by rw [J4]; kernel_rfl) (by rw [J4]; kernel_rfl) (by rw [J4]; exact Nat.le_of_ble_eq_true (by kernel_rfl)) (by rw [J4]; exact Nat.le_of_ble_eq_true (by kernel_rfl)))
   intro D5
   refine MT (fun W hS => SH.mem1 (m := (⟨G, [UInt8.ofNat i], false, (i : Int), 0⟩ : Mb)) (by show 1 ≤ 100000000; decide) (hS.pick [0, 1, 2, 3, 4, 5, 6])) ?_
   obtain ⟨U2, δ⟩ := V3 (ovT [(⟨G, [UInt8.ofNat i], false, (i : Int), 0⟩ : Mb)])
   have D0 := Lib.hid δ
   clear δ
   obtain ⟨X7, β⟩ := V3 (sgN 7 (ovT [(⟨G, [UInt8.ofNat i], false, (i : Int), 0⟩ : Mb)]) xs.length)
   have Δ := Lib.hid β
   clear β
   obtain ⟨Ψ, Z⟩ := V3 (enS X7)
   have U := Lib.hid Z
   clear Z
   refine ME (V := fun _ => .agg (sgF X7)) (fun W hS => Y5m [1, 2, 3, 4, 5, 0] [] hS (fun hT => Z9j (xs := xs) (us := us) (ms := [(⟨G, [UInt8.ofNat i], false, (i : Int), 0⟩ : Mb)]) D0.out Δ.out U.out (by simp) (by omega) (by have h_ := D.out; omega) W hT) (fun _ => ⟨.inr (.inl ⟨rfl, rfl⟩), .inr (.inl ⟨rfl, rfl⟩), .inr (.inl ⟨rfl, rfl⟩), .inr (.inr ⟨_, _, rfl, rfl⟩), .inl (by simp), .inl (by simp), trivial⟩)) ?_
   rintro ⟨Ω, D6, ω⟩
   dsimp only
   refine J78 (fun W hS => Row.form (ls := (xs ++ [X7])) (f := sgC) (hS.row (i := 1) rfl)) ?_
   rintro ⟨Θ, χ, rfl⟩
   refine MD 5 ?_
   refine MZ fun W hS => ?_
   go_wp2
   go_roundw
   case rel => exact ⟨(i + 1), U2, (xs ++ [X7]), (us ++ [Ψ]), Ω, ω, Θ, χ, by omega, by rw [List.length_append, J.out]; rfl, Lib.hid (by rw [List.length_append, D.out]; rfl), Lib.hid (by rw [List.map_append, ← θ.out, U.out]; rfl), by go_num, (hS.pick [0, 1, 2, 3, 4])⟩
   case measure => simp [intOf]; omega
  replace D := Lib.hid (show us.length = N by have h_ := D.out; omega)
  replace J := Lib.hid (show xs.length = N by have h_ := J.out; omega)
  go_upto_region 6 with fail
  refine RL hS ?_
  clear hS
  refine MV ?_
  refine MV ?_
  refine MW ?_ (v := .bool false) (hv := by intro W; go_simp; first | done | omega)
  refine MZ fun W hS => ?_
  go_upto_region 9 with fail
  refine RL hS ?_
  clear hS
  refine MV ?_
  refine MV ?_
  obtain ⟨U3, ξ⟩ := V3 (mth us)
  have Y := Lib.hid ξ
  clear ξ
  refine MC (v := .tuple #[.agg (J0 .u8 32 (Q3 U3)), .int .i64 0]) (fun W hS => (by have h_ := Z01 (us := us) (n := N) α Γ (by have h_ := D.out; omega) W (hS.pp (i := 4) rfl : GX W).gt (hS.blk (i := 0) rfl) (hS.row (i := 2) rfl).rr; rw [List.take_of_length_le (by have h_ := D.out; omega), ← Y.out] at h_; exact h_)) ?_
  refine MV ?_
  refine MV ?_
  refine MW ?_ (v := .int .i64 0)
  refine MN (z := J0 .u8 32 (Q3 0)) (t := 23) ?_
  intro φ
  refine MR 0 ?_ 
  refine MW ?_ (v := .int .i64 0)
  refine MZ fun W hS => ?_
  go_wp2_with fail
  go_loopw [13] (fun kk wr => ∃ (k : Nat), (k ≤ N) ∧ (kk = .int .i64 (k : Int)) ∧ SH [] w wr [.b φ (J0 .u8 32 (Q3 U3)) 23, .b p3 (agF [.a 32 7, .c vt, .c (.slice A xs.length cx), .c vs]) 107, .r 47 97 (.slice A xs.length cx) (List.map sgC xs), .r 23 32 vs (List.map J0f us), .t 151 (fun W => TA W T vt), gx])
   (fun kk _ => N - (intOf kk).toNat)
  case atStart => exact ⟨0, Nat.zero_le _, rfl, hS⟩
  clear hS
  case round =>
   obtain ⟨k, hk, rfl, hS⟩ := hrel
   by_cases ε : k < N
   ·
    obtain ⟨y, yh⟩ : ∃ x, xs[k]? = some x := ⟨_, List.getElem?_eq_getElem (by have h_ := J.out; omega)⟩
    have τ := Lib.hid (show clb (pth us k) k (N - 1) (eS (sTx y.ep y.ro)) = some (mth us) from by have h_ := Y46 us k (by have h_ := D.out; omega) (by have h_ := D.out; omega) (eS (sTx y.ep y.ro)) (by rw [θ.out, List.getElem?_map, yh]; unfold enS; rfl); rw [D.out] at h_; exact h_)
    go_upto_region 11 with fail
    refine RL hS ?_
    clear hS
    refine MV ?_
    refine MV ?_
    refine MW ?_ (v := .bool true) (hv := by intro W; go_simp; first | done | omega)
    refine MZ fun W hS => ?_
    go_upto_region 13 with fail
    refine RL hS ?_
    clear hS
    refine MV ?_
    refine MV ?_
    refine MC (v := .tuple #[.agg (agF [.c (.int .i64 y.ep), .a 32 y.ro, .a 64 y.sig]), .int .i64 0]) (fun W hS => V2m Ξ yh W (hS.blk (i := 1) rfl) (hS.row (i := 2) rfl).rr) ?_
    refine MV ?_
    refine MV ?_
    refine MW ?_ (v := .int .i64 0)
    refine MN (z := agF [.c (.int .i64 0), .a 32 0, .a 64 0]) (t := 47) ?_
    intro D3
    refine MR 0 ?_ (hz := by rw [J4]; kernel_rfl) (hs := by first | (rw [J4, J4]; simp only [J38, J37, J36]; done) | (rw [J4, J4]; rfl) | rfl) (h1 := by exact (J0a ⟨rfl, trivial⟩))
    refine MW ?_ (v := .int .i64 0)
    refine MZ fun W hS => ?_
    go_upto_region 14 with fail
    refine RL hS ?_
    clear hS
    refine MV ?_
    refine MV ?_
    refine MV ?_
    obtain ⟨U4, ζ⟩ := V3 (pth us k)
    have M := Lib.hid ζ
    clear ζ
    refine ME (V := fun u => .tuple #[u, .int .i64 0]) (fun W hS => J58 hS (by have h_ := Y92 (us := us) (n := N) (i := k) α (by omega) (by have h_ := D.out; omega) W (hS.pp (i := 6) rfl : GX W).gt (hS.blk (i := 2) rfl) (hS.row (i := 4) rfl).rr; rw [List.take_of_length_le (by have h_ := D.out; omega), ← M.out] at h_; exact h_) (fun _ => ⟨rfl, rfl⟩)) ?_
    intro D7
    refine MV ?_
    refine MV ?_
    refine MW ?_ (v := .int .i64 0)
    refine MV ?_
    refine MW ?_ (v := .int .i64 0)
    refine MZ fun W hS => ?_
    go_upto_region 15 with fail
    refine RTh (.q 0 (.q 1 (.q 2 (.q 3 (.q 4 (.q 5 (.q 6 (.q 7 (.q 8 (.q 9 (.q 10 (.q 12 (.q 13 (.q 14 (.q 15 (.e 11 (.e 16 (.q 17 (.q 18 .z))))))))))))))))))) hS ?_
    clear hS
    refine TW ?_ (v := .int .i64 0)
    refine TW ?_ (v := .bool false)
    refine TW ?_ (v := .bool false)
    refine TW ?_ (v := .int .i64 0)
    refine TW ?_ (v := .bool false)
    refine TW ?_ (v := .bool false)
    refine TW ?_ (v := .bool false)
    refine TV ?_
    refine TG 1 ?_ (v := .int .i64 y.ep) (hj := (Y3 (off := 0) 0))
    refine TV ?_
    refine Tk 1 ?_ (sub := J0 .u8 32 (Q3 y.ro)) (hs := (J1g (off := 1) 1))
    refine TV ?_
    refine TV ?_
    refine TV ?_
    refine TL 2 ?_
    refine TE (fun _ h => h) ?_
    refine ME (V := fun v => v) (fun W hS => J58 hS (Q1d y.ep y.ro W) (fun _ => ⟨rfl, rfl⟩)) ?_
    intro D2
    refine TNh (fun W hS => hS.pick [1, 2, 3, 4, 5, 6, 7, 8]) ?_
    refine TE (fun _ h => h) ?_
    refine MC (v := .int .i64 0) (fun W hS => Z03 (i := k) (n := N) (P := U4) (R := U3) (l := sTx y.ep y.ro) (by omega) (by omega) (by rw [M.out]; exact Nat.le_trans (Z9i us k) α) (by rw [V5]; decide) (by rw [M.out, Y.out]; exact τ.out) W (hS.pp (i := 8) rfl : GX W).gt (hS.osl (i := 0) rfl) (hS.row (i := 1) rfl).rr) ?_
    refine TNh (fun W hS => hS) ?_
    refine TW ?_ (v := .bool false)
    refine TW ?_ (v := .bool false)
    refine TZ (fun _ h => h) fun W hS => ?_
    go_wp2
    go_roundw
    case rel => exact ⟨(k + 1), by omega, by go_num, (hS.pick [3, 4, 5, 6, 7, 8])⟩
    case measure => simp [intOf]; omega
   go_upto_region 11 with fail
   refine RL hS ?_
   clear hS
   refine MV ?_
   refine MV ?_
   refine MW ?_ (v := .bool false) (hv := by intro W; go_simp; first | done | omega)
   refine MZ fun W hS => ?_
   go_upto_region 17 with fail
   refine RL hS ?_
   clear hS
   refine MC (v := .bool true) (fun W hS => Z93 W (hS.pp (i := 5) rfl : GX W)) ?_
   refine MW ?_ (v := .bool true)
   refine MV ?_
   refine MV ?_
   refine MW ?_ (v := .bool true) (hv := by intro W; go_simp; first | done | rfl)
   refine MW ?_ (v := .bool true)
   refine MW ?_ (v := .bool true)
   refine MW ?_ (v := .int .i64 0)
   refine MW ?_ (v := .bool true)
   refine MW ?_ (v := .bool true)
   refine MW ?_ (v := .bool true)
   refine MZ fun W hS => ?_
   go_wp2
   exact bodyPost_ret (v := .bool true) (by simp only [results, Tryz.results5]; go_simp) rfl ⟨(by (try rw [Y.out]); (try rw [S.out]); first | done | rfl), hS.ext⟩
end Go.Proofs.YtejkmhgkkibafaaGreatDoor

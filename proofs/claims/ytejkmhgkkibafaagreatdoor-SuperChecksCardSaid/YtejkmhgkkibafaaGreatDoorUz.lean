/- The law SuperChecks. Conditions: the tables hold their numbers. -/
import Derived.Test.YtejkmhgkkibafaaGreatDoorJ38
import Derived.Test.YtejkmhgkkibafaaGreatDoorJ26
set_option linter.unusedSimpArgs false
set_option linter.unusedVariables false
namespace Go.Proofs.YtejkmhgkkibafaaGreatDoor
set_option maxHeartbeats 3000000
set_option maxRecDepth 100000
open Go.RowKit
attribute [local irreducible] wpList J01 wpX
open S8 (Kn GA kP sig vfy)
def enS (y : Sg) : Nat := eS (sTx y.ep y.ro)
theorem Y4r (S : Nat) (T : TR) (n : Nat) : enS (sgN S T n) = eS (sTx (n : Int) (rs T)) := rfl
theorem Y00 : ∀ (l : List Nat) (i : Nat), (pth l i).length ≤ l.length := by
 have h : ∀ (N : Nat) (l : List Nat), l.length ≤ N → ∀ i, (pth l i).length ≤ N := by
  intro N
  induction N with
  | zero => intro l h i; rw [Q6i (by omega)]; exact Nat.le_refl _
  | succ N ih =>
   intro l h i
   by_cases h2 : 2 ≤ l.length
   ·
    have hf := Z2m h2
    by_cases hi : i < hfn l.length
    ·
     rw [Z09 h2 hi, List.length_append]; exact Nat.succ_le_succ (ih _ (by rw [List.length_take]; omega) i)
    ·
     rw [Z0a h2 hi, List.length_append]; exact Nat.succ_le_succ (ih _ (by rw [List.length_drop]; omega) _)
   ·
    rw [Q6i h2]; exact Nat.zero_le _
 exact fun l i => h _ l (Nat.le_refl _) i
attribute [local irreducible] eI be8 hs4 lb kTx vTx sTx eS enS rs ofT sE sL sN nN S8.sig S8.vfy S8.kP S8.kN S8.kD clb
theorem Y01 {p S : Nat} {T Tn : TR} {xs : List Sg} {X : Sg} {us : List Nat} {U : Nat} {vt vl vs v : Value} {ms : List Mb} (hT : Tn = ovT ms) (hX : X = sgN S (ovT ms) xs.length) (hU : U = enS X) (hn : ms.length ≤ 1000) (hx : xs.length ≤ 1000000) (hu : us.length ≤ 1000000) (w : World) (h_ : SH (SH.feet (suL p S T xs us vt vl vs ++ [gx, mbT v ms])) w w (suL p S T xs us vt vl vs ++ [gx, mbT v ms])) :
  Calls Tryz.prog 20 #[.pointer (some ⟨p, 0, none⟩), v] w fun e w' => ∃ y : Value × Value × Value, e = .returned (.agg (sgF X)) ∧ SH (SH.feet (suL p S T xs us vt vl vs ++ [gx, mbT v ms])) w w' (suL p S Tn (xs ++ [X]) (us ++ [U]) y.1 y.2.1 y.2.2 ++ [gx, mbT v ms]) := by
 subst hU; subst hX; subst hT
 rw [Y4r]
 exact Z2k (ms := ms) hn hx hu w h_
theorem SH.mem1 {F : List Nat} {w W : World} {R : List As} {m : Mb} {b : Nat} {t : TypeId} (hl : m.id.length ≤ 100000000) (h : SH F w W (.b b (mbF m) t :: .o m.u m.id :: R)) : SH F w W (mbT (.slice (some ⟨b, 0, none⟩) 1 1) [m] :: R) := by
 have hb := h.blk (i := 0) rfl
 have ho := h.own (i := 1) rfl
 refine SH.foldF (N := [.b b (mbF m) t, .o m.u m.id]) (by exact h) (Q4m ⟨Y3c hb, V51 ho.sl hl⟩) fun k hk => ?_
 rcases List.mem_append.1 hk with hk | hk
 ·
  have hr : Row t 35 W (.slice (some ⟨b, 0, none⟩) 1 1) ([m].map mbC) := Z0u (t := t) (es := [mbC m]) hb (by show fcs _ = fcs _ ++ []; rw [List.append_nil]) (fun e he => Q6h (ms := [m]) e he) (by show 1 ≤ maxLen; decide)
  exact ⟨.b b (mbF m) t, by simp, fun T K e => (by cases e), Y0o hr k hk⟩
 obtain ⟨y, hy, h1⟩ := List.mem_flatMap.1 hk
 rw [List.mem_singleton.1 hy] at h1
 exact ⟨.o m.u m.id, by simp, fun T K e => (by cases e), by show k ∈ m.u.ownBlock.toList; rw [Q06 (As.mem_toList h1)]; simp⟩
theorem Y02 {i : Nat} (h : i < 256) : ((UInt8.ofNat i).toNat : Int) = (i : Int) := by rw [UInt8.toNat_ofNat']; omega

theorem Q3n {V : Nat} {x : Sg} {n : Int} (hV : V < 2 ^ 256) (hx : x.sig < 2 ^ (256 + 256)) (w : World) (hX : GX w) (hR : S8.GR w) :
  Calls Tryz.prog 5 #[.agg (J0 .u8 32 (Q3 V)), .agg (sgF x), .int .i64 n] w fun e w' => K6 (.bool true) w w' e := by
 obtain ⟨X, κ⟩ : ∃ X : Nat, n % 18446744073709551616 = (X : Int) := ⟨(n % 18446744073709551616).toNat, by omega⟩
 have θ : IntKind.wrap .u64 n = (X : Int) := by rw [IntKind.wrap_u64]; exact κ
 obtain ⟨N, hN⟩ := V0 (1 + X % 6)
 have D0 : 1 ≤ N := by omega
 have D4 : N ≤ 6 := by omega
 have HN := Lib.hid hN
 have Γ := Lib.hid θ
 clear hN θ κ
 have hS := SH.nil [] w
 have hS := hS.entp (Q8n hX)
 go_enter Tryz.func5, Tryz.ntmps5
 go_upto_region 0 with fail
 refine RL hS ?_
 clear hS
 refine MN (z := J0 .u8 32 (Q3 V)) (t := 23) ?_
 intro Θ
 refine MN (z := agF [.c (.int .i64 x.ep), .a 32 x.ro, .a 64 x.sig]) (t := 47) ?_
 intro μ
 refine MW ?_ (v := .bool false)
 refine MZ fun W hS => ?_
 go_upto_region 1 with fail
 refine RL hS ?_
 clear hS
 refine ML 1 ?_
 refine ML 0 ?_ (hs := by rw [J5]; kernel_rfl)
 obtain ⟨U1, δ⟩ := V0 (vfy V (sTx x.ep x.ro) x.sig)
 have U := Lib.hid δ
 clear δ
 refine MC (v := .int .i64 (U1 : Int)) (fun W hS => (by rw [U.out]; exact Q8m hV hx W (hS.pp (i := 2) rfl : GX W))) ?_
 refine MV ?_
 refine MZ fun W hS => ?_
 go_upto_region 2 with fail
 refine RTh (.q 0 (.q 1 (.q 2 (.q 3 (.q 4 (.q 5 (.q 6 (.q 8 (.q 9 (.q 10 (.e 7 (.e 11 (.q 12 .z))))))))))))) hS ?_
 clear hS
 refine TW ?_ (v := .slice (some ⟨Θ, 0, none⟩) 32 32)
 refine TF (v := str (lb 32 V)) rfl (fun W hS => J2r (K1 (V := V) (n := 32) (off := 0) (c := 32) (hS.blk (i := 1) rfl) ap0 (by decide) (by decide)) rfl rfl) ?_
 refine TV ?_
 refine TG 0 ?_ (v := .int .i64 x.ep) (hj := (Y7 (off := 0) 0))
 refine TV ?_
 refine TW ?_ (v := .slice (some ⟨μ, 1, none⟩) 32 32)
 refine TF (v := str (lb 32 x.ro)) rfl (fun W hS => J2r (K1 (V := x.ro) (n := 32) (off := 1) (c := 32) (hS.blk (i := 0) rfl) (J1n (off := 1) 1) (by decide) (by decide)) rfl rfl) ?_
 refine TV ?_
 refine TW ?_ (v := .slice (some ⟨μ, 33, none⟩) 64 64)
 refine TF (v := str (lb 64 x.sig)) rfl (fun W hS => J2r (K1 (V := x.sig) (n := 64) (off := 33) (c := 64) (hS.blk (i := 0) rfl) (J1n (off := 33) 2) (by decide) (by decide)) rfl rfl) ?_
 refine TE (fun _ h => h) ?_
 refine MC (v := str (sTx x.ep x.ro)) (fun W hS => Y37 x.ep x.ro W) ?_
 refine TNh (fun W hS => hS) ?_
 refine TE (fun _ h => h) ?_
 refine MC (v := .int .i64 (U1 : Int)) (fun W hS => S8.rverifyN_c U.out hV hx [] (by rw [V7]; decide) W (S8.GR_ext hR hS.ext)) ?_
 refine TNh (fun W hS => hS) ?_
 refine TV ?_
 refine TZ (fun _ h => h) fun W hS => ?_
 go_upto_region 3 with fail
 refine RL hS ?_
 clear hS
 refine MW ?_ (v := .agg (J0 .u8 32 (Q3 7))) (hv := by intro W; kernel_rfl)
 refine ME (V := fun p => .pointer (some ⟨p, 0, none⟩)) (fun W hS => J5i hS (Z2j 7 W) (fun _ => ⟨rfl, rfl⟩)) ?_
 intro p3
 refine MT (fun W hS => ((hS.rnil 23 32 rfl).rnil 47 97 rfl).fact (TA.holds (show TA _ .nil nlp from rfl)) rfl) ?_
 refine MV ?_
 refine MZ fun W hS => ?_
 go_upto_region 4 with fail
 refine RL hS ?_
 clear hS
 refine MV ?_
 refine MW ?_ (v := .int .u64 (X : Int)) (hv := by intro W; go_simp; (try simp only [Γ.out]))
 refine MW ?_ (v := .int .u64 ((X % 6 : Nat) : Int)) (hv := by intro W; go_simp; (try rw [Int.tmod_eq_emod_of_nonneg (by omega)]); (try omega))
 refine MW ?_ (v := .int .i64 ((X % 6 : Nat) : Int)) (hv := by intro W; go_simp; (try simp only [IntKind.wrap_i64]); omega)
 refine MW ?_ (v := .int .i64 (N : Int)) (hv := by intro W; have h_ := HN.out; go_simp; (try simp only [IntKind.wrap_i64]); omega)
 refine MV ?_
 refine MZ fun W hS => ?_
 go_wp2_with fail
 go_loopw [10] (fun ii wr => ∃ (i : Nat) (T : TR) (xs : List Sg) (us : List Nat) (vt : Value) (vs : Value) (A : Option Addr) (cx : Nat), (i ≤ N) ∧ (xs.length = i) ∧ (RowKit.Hid (us.length = i)) ∧ (RowKit.Hid (us = xs.map enS)) ∧ (ii = .int .i64 (i : Int)) ∧ SH [] w wr [.b p3 (agF [.a 32 7, .c vt, .c (.slice A xs.length cx), .c vs]) 107, .r 47 97 (.slice A xs.length cx) (List.map sgC xs), .r 23 32 vs (List.map J0m us), .t 151 (fun W => TA W T vt), gx])
  (fun ii _ => N - (intOf ii).toNat)
 case atStart => exact ⟨0, .nil, [], [], nlp, nSl, none, 0, Nat.zero_le _, rfl, Lib.hid rfl, Lib.hid rfl, rfl, (hS.pick [3, 1, 2, 0, 6])⟩
 clear hS
 case round =>
  obtain ⟨i, T, xs, us, vt, vs, A, cx, hi, η, D, ν, rfl, hS⟩ := hrel
  have J := Lib.hid η
  clear η
  have Δ : xs.length ≤ 1000000 := by have h_ := J.out; omega
  have Y : us.length ≤ 1000000 := by have h_ := D.out; omega
  by_cases ε : i < N
  ·
   go_upto_region 6 with fail
   refine RL hS ?_
   clear hS
   refine MV ?_
   refine MV ?_
   refine MW ?_ (v := .bool true) (hv := by intro W; go_simp; first | done | omega)
   refine MZ fun W hS => ?_
   go_upto_region 8 with fail
   refine RL hS ?_
   clear hS
   refine MV ?_
   refine MV ?_
   refine MW ?_ (v := .int .u8 ((UInt8.ofNat i).toNat : Int)) (hv := by intro W; rw [Y02 (by omega)]; go_simp; (try simp only [IntKind.wrap_u8]); omega)
   refine MO (m := [UInt8.ofNat i]) (n := 1) (z := #[.int .u8 ((UInt8.ofNat i).toNat : Int)]) ?_ (hz := by rfl)
   intro G
   refine MV ?_
   refine J7f (fun W hS => (K9 (hS.osl (i := 0) rfl)).2) ?_
   intro σ
   refine MF (v := .agg (agF [.c G, .c (.bool false), .c (.int .i64 (i : Int)), .a 32 0])) (fun W hS => J2u rfl rfl Q0j Q0k (J17 (J17 J40 (l' := [.c G, .c (.bool false), .c (.int .i64 (i : Int)), .a 32 0]) (m := [.c (.int .i64 (i : Int))]) (hv := rfl) (hs := J05 (off := 2) 2 1) (hp := rfl) (hn := rfl) (hb := by show 2 + 1 ≤ 35; decide)) (l' := [.c G, .c (.bool false), .c (.int .i64 0), .a 32 0]) (m := [.c G]) (hv := (K9 (hS.osl (i := 0) rfl)).1) (hs := J05 (off := 0) 0 1) (hp := rfl) (hn := rfl) (hb := by show 0 + 1 ≤ 35; decide))) ?_
   refine MB (z := (agF [.c G, .c (.bool false), .c (.int .i64 (i : Int)), .a 32 0])) (t := 25) (n := 1) (c := 1) ?_ (hr := fun W _ => J34 rfl rfl rfl Tryz.underlying30 (by rw [J5]; kernel_rfl) (by rw [J5]; kernel_rfl) (by rw [J5]; exact Nat.le_of_ble_eq_true (by kernel_rfl)) (by rw [J5]; exact Nat.le_of_ble_eq_true (by kernel_rfl)))
   intro D2
   refine MT (fun W hS => SH.mem1 (m := (⟨G, [UInt8.ofNat i], false, (i : Int), 0⟩ : Mb)) (by show 1 ≤ 100000000; decide) (hS.pick [0, 1, 2, 3, 4, 5, 6])) ?_
   obtain ⟨U2, β⟩ := V0 (ovT [(⟨G, [UInt8.ofNat i], false, (i : Int), 0⟩ : Mb)])
   have D1 := Lib.hid β
   clear β
   obtain ⟨X7, ρ⟩ := V0 (sgN 7 (ovT [(⟨G, [UInt8.ofNat i], false, (i : Int), 0⟩ : Mb)]) xs.length)
   have Ξ := Lib.hid ρ
   clear ρ
   obtain ⟨Ω, α⟩ := V0 (enS X7)
   have S := Lib.hid α
   clear α
   refine ME (V := fun _ => .agg (sgF X7)) (fun W hS => Y66 [1, 2, 3, 4, 5, 0] [] hS (fun hT => Y01 (xs := xs) (us := us) (ms := [(⟨G, [UInt8.ofNat i], false, (i : Int), 0⟩ : Mb)]) D1.out Ξ.out S.out (by simp) (by omega) (by have h_ := D.out; omega) W hT) (fun _ => ⟨.inr (.inl ⟨rfl, rfl⟩), .inr (.inl ⟨rfl, rfl⟩), .inr (.inl ⟨rfl, rfl⟩), .inr (.inr ⟨_, _, rfl, rfl⟩), .inl (by simp), .inl (by simp), trivial⟩)) ?_
   rintro ⟨τ, D7, Ψ⟩
   dsimp only
   refine J7f (fun W hS => Row.form (ls := (xs ++ [X7])) (f := sgC) (hS.row (i := 1) rfl)) ?_
   rintro ⟨χ, ψ, rfl⟩
   refine MD 5 ?_
   refine MZ fun W hS => ?_
   go_wp2
   go_roundw
   case rel => exact ⟨(i + 1), U2, (xs ++ [X7]), (us ++ [Ω]), τ, Ψ, χ, ψ, by omega, by rw [List.length_append, J.out]; rfl, Lib.hid (by rw [List.length_append, D.out]; rfl), Lib.hid (by rw [List.map_append, ← ν.out, S.out]; rfl), by go_num, (hS.pick [0, 1, 2, 3, 4])⟩
   case measure => simp [intOf]; omega
  replace D := Lib.hid (show us.length = N by have h_ := D.out; omega)
  replace J := Lib.hid (show xs.length = N by have h_ := J.out; omega)
  go_upto_region 6 with fail
  refine RL hS ?_
  clear hS
  refine MV ?_
  refine MV ?_
  refine MW ?_ (v := .bool false) (hv := by intro W; go_simp; first | done | omega)
  refine MZ fun W hS => ?_
  go_upto_region 9 with fail
  refine RL hS ?_
  clear hS
  refine MV ?_
  refine MV ?_
  obtain ⟨U3, ξ⟩ := V0 (mth us)
  have Z := Lib.hid ξ
  clear ξ
  refine MC (v := .tuple #[.agg (J0 .u8 32 (Q3 U3)), .int .i64 0]) (fun W hS => (by have h_ := Z0c (us := us) (n := N) Y D0 (by have h_ := D.out; omega) W (hS.pp (i := 4) rfl : GX W).gt (hS.blk (i := 0) rfl) (hS.row (i := 2) rfl).rr; rw [List.take_of_length_le (by have h_ := D.out; omega), ← Z.out] at h_; exact h_)) ?_
  refine MV ?_
  refine MV ?_
  refine MW ?_ (v := .int .i64 0)
  refine MN (z := J0 .u8 32 (Q3 0)) (t := 23) ?_
  intro φ
  refine MR 0 ?_ 
  refine MW ?_ (v := .int .i64 0)
  refine MZ fun W hS => ?_
  go_wp2_with fail
  go_loopw [13] (fun kk wr => ∃ (k : Nat), (k ≤ N) ∧ (kk = .int .i64 (k : Int)) ∧ SH [] w wr [.b φ (J0 .u8 32 (Q3 U3)) 23, .b p3 (agF [.a 32 7, .c vt, .c (.slice A xs.length cx), .c vs]) 107, .r 47 97 (.slice A xs.length cx) (List.map sgC xs), .r 23 32 vs (List.map J0m us), .t 151 (fun W => TA W T vt), gx])
   (fun kk _ => N - (intOf kk).toNat)
  case atStart => exact ⟨0, Nat.zero_le _, rfl, hS⟩
  clear hS
  case round =>
   obtain ⟨k, hk, rfl, hS⟩ := hrel
   by_cases γ : k < N
   ·
    obtain ⟨y, yh⟩ : ∃ x, xs[k]? = some x := ⟨_, List.getElem?_eq_getElem (by have h_ := J.out; omega)⟩
    have ω := Lib.hid (show clb (pth us k) k (N - 1) (eS (sTx y.ep y.ro)) = some (mth us) from by have h_ := Y4q us k (by have h_ := D.out; omega) (by have h_ := D.out; omega) (eS (sTx y.ep y.ro)) (by rw [ν.out, List.getElem?_map, yh]; unfold enS; rfl); rw [D.out] at h_; exact h_)
    go_upto_region 11 with fail
    refine RL hS ?_
    clear hS
    refine MV ?_
    refine MV ?_
    refine MW ?_ (v := .bool true) (hv := by intro W; go_simp; first | done | omega)
    refine MZ fun W hS => ?_
    go_upto_region 13 with fail
    refine RL hS ?_
    clear hS
    refine MV ?_
    refine MV ?_
    refine MC (v := .tuple #[.agg (agF [.c (.int .i64 y.ep), .a 32 y.ro, .a 64 y.sig]), .int .i64 0]) (fun W hS => V36 Δ yh W (hS.blk (i := 1) rfl) (hS.row (i := 2) rfl).rr) ?_
    refine MV ?_
    refine MV ?_
    refine MW ?_ (v := .int .i64 0)
    refine MN (z := agF [.c (.int .i64 0), .a 32 0, .a 64 0]) (t := 47) ?_
    intro D6
    refine MR 0 ?_ (hz := by rw [J5]; kernel_rfl) (hs := by first | (rw [J5, J5]; simp only [J3j, J3i, J3h]; done) | (rw [J5, J5]; rfl) | rfl) (h1 := by exact (J0h ⟨rfl, trivial⟩))
    refine MW ?_ (v := .int .i64 0)
    refine MZ fun W hS => ?_
    go_upto_region 14 with fail
    refine RL hS ?_
    clear hS
    refine MV ?_
    refine MV ?_
    refine MV ?_
    obtain ⟨U4, ζ⟩ := V0 (pth us k)
    have M := Lib.hid ζ
    clear ζ
    refine ME (V := fun u => .tuple #[u, .int .i64 0]) (fun W hS => J5i hS (by have h_ := Y9o (us := us) (n := N) (i := k) Y (by omega) (by have h_ := D.out; omega) W (hS.pp (i := 6) rfl : GX W).gt (hS.blk (i := 2) rfl) (hS.row (i := 4) rfl).rr; rw [List.take_of_length_le (by have h_ := D.out; omega), ← M.out] at h_; exact h_) (fun _ => ⟨rfl, rfl⟩)) ?_
    intro D5
    refine MV ?_
    refine MV ?_
    refine MW ?_ (v := .int .i64 0)
    refine MV ?_
    refine MW ?_ (v := .int .i64 0)
    refine MZ fun W hS => ?_
    go_upto_region 15 with fail
    refine RTh (.q 0 (.q 1 (.q 2 (.q 3 (.q 4 (.q 5 (.q 6 (.q 7 (.q 8 (.q 9 (.q 10 (.q 12 (.q 13 (.q 14 (.q 15 (.e 11 (.e 16 (.q 17 (.q 18 .z))))))))))))))))))) hS ?_
    clear hS
    refine TW ?_ (v := .int .i64 0)
    refine TW ?_ (v := .bool false)
    refine TW ?_ (v := .bool false)
    refine TW ?_ (v := .int .i64 0)
    refine TW ?_ (v := .bool false)
    refine TW ?_ (v := .bool false)
    refine TW ?_ (v := .bool false)
    refine TV ?_
    refine TG 1 ?_ (v := .int .i64 y.ep) (hj := (Y7 (off := 0) 0))
    refine TV ?_
    refine Tk 1 ?_ (sub := J0 .u8 32 (Q3 y.ro)) (hs := (J1n (off := 1) 1))
    refine TV ?_
    refine TV ?_
    refine TV ?_
    refine TL 2 ?_
    refine TE (fun _ h => h) ?_
    refine ME (V := fun v => v) (fun W hS => J5i hS (Q1n y.ep y.ro W) (fun _ => ⟨rfl, rfl⟩)) ?_
    intro D3
    refine TNh (fun W hS => hS.pick [1, 2, 3, 4, 5, 6, 7, 8]) ?_
    refine TE (fun _ h => h) ?_
    refine MC (v := .int .i64 0) (fun W hS => Z0e (i := k) (n := N) (P := U4) (R := U3) (l := sTx y.ep y.ro) (by omega) (by omega) (by rw [M.out]; exact Nat.le_trans (Y00 us k) Y) (by rw [V7]; decide) (by rw [M.out, Z.out]; exact ω.out) W (hS.pp (i := 8) rfl : GX W).gt (hS.osl (i := 0) rfl) (hS.row (i := 1) rfl).rr) ?_
    refine TNh (fun W hS => hS) ?_
    refine TW ?_ (v := .bool false)
    refine TW ?_ (v := .bool false)
    refine TZ (fun _ h => h) fun W hS => ?_
    go_wp2
    go_roundw
    case rel => exact ⟨(k + 1), by omega, by go_num, (hS.pick [3, 4, 5, 6, 7, 8])⟩
    case measure => simp [intOf]; omega
   go_upto_region 11 with fail
   refine RL hS ?_
   clear hS
   refine MV ?_
   refine MV ?_
   refine MW ?_ (v := .bool false) (hv := by intro W; go_simp; first | done | omega)
   refine MZ fun W hS => ?_
   go_upto_region 17 with fail
   refine RL hS ?_
   clear hS
   refine MC (v := .bool true) (fun W hS => Z9l W (hS.pp (i := 5) rfl : GX W)) ?_
   refine MW ?_ (v := .bool true)
   refine MV ?_
   refine MV ?_
   refine MW ?_ (v := .bool true) (hv := by intro W; go_simp; first | done | rfl)
   refine MW ?_ (v := .bool true)
   refine MW ?_ (v := .bool true)
   refine MW ?_ (v := .int .i64 0)
   refine MW ?_ (v := .bool true)
   refine MW ?_ (v := .bool true)
   refine MW ?_ (v := .bool true)
   refine MZ fun W hS => ?_
   go_wp2
   exact bodyPost_ret (v := .bool true) (by simp only [results, Tryz.results5]; go_simp) rfl ⟨(by (try rw [Z.out]); (try rw [U.out]); first | done | rfl), hS.ext⟩
end Go.Proofs.YtejkmhgkkibafaaGreatDoor

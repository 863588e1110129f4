/- The law SuperProves. Conditions: the tables hold their numbers. -/
import Derived.Test.YtejkmhgkkibafaaGreatDoorJ38
import Derived.Test.YtejkmhgkkibafaaGreatDoorJ35
set_option linter.unusedSimpArgs false
set_option linter.unusedVariables false
namespace Go.Proofs.YtejkmhgkkibafaaGreatDoor
set_option maxHeartbeats 3000000
set_option maxRecDepth 100000
open Go.RowKit
attribute [local irreducible] wpList J0k wpX
open S8 (Kn GA kP sig vfy)
theorem Y4r {R k a x v : Nat} {ss : List Nat} {th b : Bool} (h : chk R k ss th a x = (v, b, 0)) : b = (th && decide (a = k)) ∧ (b = true → v = x) := by
 unfold chk at h
 split at h
 ·
  cases h
 split at h
 ·
  split at h
  ·
   rename_i h1
   injection h with h2 h3
   injection h3 with h3 _
   subst h2 h3
   exact ⟨by rw [h1.1, h1.2]; simp, fun _ => rfl⟩
  rename_i h1
  injection h with h2 h3
  injection h3 with h3 _
  subst h2 h3
  refine ⟨?_, fun h => by cases h⟩
  cases th
  ·
   rfl
  rw [decide_eq_false fun e => h1 ⟨rfl, e⟩]; rfl
 cases h
theorem RR.form {α : Type} {f : α → List Value} {k : Nat} {w : World} {u : Value} {ls : List α} (h : RR k w u (ls.map f)) : ∃ A c, u = .slice A ls.length c := by
 obtain ⟨A, c, h1, _⟩ := RR.opf h
 exact ⟨A, c, h1⟩
theorem Y1b {p S R G : Nat} {vt vl vs v : Value} {ms : List Mb} (hR : R = rs (ovT ms)) (hG : G = sig S (sTx 0 R)) (hn : ms.length ≤ 1000) (w : World) (h_ : SH (SH.feet (suL p S .nil [] [] vt vl vs ++ [gx, mbT v ms])) w w (suL p S .nil [] [] vt vl vs ++ [gx, mbT v ms])) :
  Calls Tryz.prog 20 #[.pointer (some ⟨p, 0, none⟩), v] w fun e w' => ∃ y : Value × Value × Value, e = .returned (.agg (sgF ⟨0, R, G⟩)) ∧ SH (SH.feet (suL p S .nil [] [] vt vl vs ++ [gx, mbT v ms])) w w' (suL p S (ovT ms) [⟨0, R, G⟩] [eS (sTx 0 R)] y.1 y.2.1 y.2.2 ++ [gx, mbT v ms]) := by
 subst hR; subst hG
 exact Z4h (ms := ms) hn (by simp) (by simp) w h_
theorem V0z {ms : List Mb} (h : ms.length ≤ 1000) : tsz (ovT ms) ≤ 1099511627775 := Y4j (by rw [List.length_map]; exact h)
theorem Y4s {q : Prop} (hr : q) {ms : List Mb} {u : Value} {k a x : Nat} {t : Bool} {ss : List Nat} (hn : ms.length ≤ 1000) (hE : J2i (J0g (ovT ms) k 0) = (a, x, t)) (hss : bsd (ovT ms) k 0 = ss) (w : World) (hG : GT q w) (hl : RR 64 w u ((J2j (ms.map mkL)).map lfl)) :
  Calls Tryz.prog 23 #[u, .agg (J0 .u8 32 (Q5 k))] w fun e w' => ∃ v, e = .returned (.tuple #[v, .agg (lf a x), .bool t]) ∧ SH [] w w' [.r 9 1 v (ss.map Q59)] := by
 have hl2 : (ms.map mkL).length ≤ 1000 := by rw [List.length_map]; exact hn
 have h_ := Z6b hr (k := k) (J6d (Q6n ms)).2 (Nat.le_trans (Q6l (ms.map mkL)) hl2) w hG hl
 rw [← Q3b (Q6n ms), show J2i (J0g (ofT (ms.map mkL)) k 0) = (a, x, t) from hE, show bsd (ofT (ms.map mkL)) k 0 = ss from hss] at h_
 exact h_
attribute [local irreducible] eI be8 hs4 lb kTx vTx sTx eS rs ofT sE sL sN S8.sig S8.vfy S8.kP S8.kN S8.kD

theorem tm2 {n r : Nat} (h : n % 2 = r) : (n : Int).tmod 2 = (r : Int) := by rw [Int.tmod_eq_emod_of_nonneg (by omega)]; omega
theorem Z4i (n U : Nat) : (bs8 (lb n U)).toArray = J0 .u8 n (Q5 U) := by rw [Q3o, ← J4u]
theorem Y1c (n j : Nat) : (0 < n ∧ j % 2 = 0) ∨ ¬ 0 < n ∨ (0 < n ∧ ¬ j % 2 = 0) := by omega
theorem Y1d (t : Bool) (p : Prop) : t = false ∨ (t = true ∧ p) ∨ (t = true ∧ ¬ p) := by cases t <;> simp [Classical.em]
theorem Q5l {q : Prop} (hr : q) {S : Nat} {v u2 : Value} {mi : List Mb} {idl J : List UInt8} (hJ : List.take (min idl.length 20) idl = J) (hJl : J.length ≤ 20) (w : World) (hG : GT q w) (hX : GX w) (hp : RR 35 w v (mi.map mbC)) (hk : ∀ y ∈ mi, Sl w y.u y.id) (hid : Sl w u2 idl) :
  Calls Tryz.prog 4 #[.agg (J0 .u8 32 (Q5 S)), v, u2] w fun e w' => Ret (.bool true) w w' e := by
 have hS := SH.nil [] w
 have hS := hS.entp (Z0m hX)
 go_enter Tryz.func4, Tryz.ntmps4
 go_upto_region 0 with fail
 refine RL hS ?_
 clear hS
 refine MN (z := J0 .u8 32 (Q5 S)) (t := 23) ?_
 intro J0c
 refine MW ?_ (v := .bool false)
 refine MZ fun W hS => ?_
 go_upto_region 1 with fail
 refine RL hS ?_
 clear hS
 refine MV ?_
 refine ME (V := fun x : TM => x.1.1) (fun W hS => Z0z hS (Y4q W (hp.ext hS.ext) (fun y hy => Q22 (hk y hy) hS.ext)) (fun _ => rfl)) ?_
 rintro ⟨⟨tv, ms⟩, hm6, hmi⟩
 dsimp only
 refine J3r (fun W hS => RR.form (ls := ms) (f := mbC) (hS.pp (i := 0) rfl : MbR _ ms W).1) ?_
 rintro ⟨At, ct, rfl⟩
 have hn3 : ms.length ≤ 1000 := by have h_ : ms.length ≤ 6 := hm6; omega
 refine MV ?_
 refine MZ fun W hS => ?_
 go_upto_region 2 with fail
 refine RL hS ?_
 clear hS
 refine MV ?_
 refine MV ?_
 refine MF (v := .int .i64 (idl.length : Int)) (fun W hS => J12 (Q22 hid hS.ext) rfl rfl) ?_
 refine MW ?_ (v := .int .i64 ((min idl.length 20 : Nat) : Int))
 refine MT (fun W hS => hS.ent hid) ?_
 refine MH 0 (min idl.length 20) (m := idl) (m' := J) (by exact Nat.min_le_left _ _) ?_ (hm := hJ)
 intro Q6r
 refine MV ?_
 refine MZ fun W hS => ?_
 go_upto_region 3 with fail
 rename_i K1 hK1 K2 hK2
 have hrest : ∀ a_ w_, (∃ (u : Value) (L : List UInt8) (k30 k31 k32 k33 k34 k35 k36 k37 k38 k39 k40 : Value), L.length ≤ 20 ∧ a_ = { tmps := #[.agg (J0 .u8 32 (Q5 S)), (.slice At ms.length ct), u, .pointer (some ⟨J0c, 0, none⟩), undef, undef, .bool false, undef, undef, undef, undef, undef, undef, undef, undef, undef, undef, undef, undef, undef, undef, v, (.slice At ms.length ct), u2, u2, .int .i64 (idl.length : Int), .int .i64 ((min idl.length 20 : Nat) : Int), Q6r, (.slice At ms.length ct), .int .i64 (ms.length : Int), k30, k31, k32, k33, k34, k35, k36, k37, k38, k39, k40, undef, undef, undef, undef, undef, undef, undef, undef, undef, undef, undef, undef, undef, undef, undef, undef, undef, undef, undef, undef, undef, undef, undef, undef, undef, undef, undef, undef, undef, undef, undef, undef, undef, undef, undef, undef, undef, undef, undef, undef, undef, undef, undef, undef, undef, undef, undef, undef, undef, undef, undef, undef, undef, undef, undef, undef, undef, undef, undef, undef, undef, undef, undef, undef, undef, undef, undef, undef, undef, undef, undef, undef, undef, undef, undef, undef, undef, undef, undef, undef, undef, undef, undef, undef, undef, undef, undef, undef, undef, undef, undef, undef, undef, undef, undef, undef], defers := [] } ∧ SH [] w w_ [.s u L, mbT (.slice At ms.length ct) ms, .s u2 idl, .b J0c (J0 .u8 32 (Q5 S)) 23, gx]) → K1 a_ w_ := by
  rintro _ W ⟨u, L, k30, k31, k32, k33, k34, k35, k36, k37, k38, k39, k40, hL20, rfl, hS⟩
  apply hK1
  go_upto_region 5 with fail
  refine RL hS ?_
  clear hS
  refine ML 3 ?_
  refine ME (V := fun p => .pointer (some ⟨p, 0, none⟩)) (fun W hS => J33 hS (Z4g S W) (fun _ => ⟨rfl, rfl⟩)) ?_
  intro p3
  refine MT (fun W hS => ((hS.rnil 23 32 rfl).rnil 47 97 rfl).fact (TA.holds (show TA _ .nil nlp from rfl)) rfl) ?_
  refine MV ?_
  refine MZ fun W hS => ?_
  go_upto_region 6 with fail
  refine RL hS ?_
  clear hS
  refine MV ?_
  refine MV ?_
  obtain ⟨U1, hU1⟩ := exn (rs (ovT ms))
  have HU1 := Lib.hid hU1
  clear hU1
  obtain ⟨U2, hU2⟩ := exn (sig S (sTx 0 U1))
  have HU2 := Lib.hid hU2
  clear hU2
  refine ME (V := fun _ => .agg (sgF (⟨0, U1, U2⟩ : Sg))) (fun W hS => Y6s [3, 1, 2, 0, 8, 5] [4, 6, 7] hS (fun hT => Y1b HU1.out HU2.out hn3 W hT) (fun _ => ⟨.inr (.inl ⟨rfl, rfl⟩), .inr (.inl ⟨rfl, rfl⟩), .inr (.inl ⟨rfl, rfl⟩), .inr (.inr ⟨_, _, rfl, rfl⟩), .inl (by simp), .inl (by simp), trivial⟩)) ?_
  rintro ⟨vt4, vl4, vs4⟩
  dsimp only
  refine J3r (fun W hS => Row.form (ls := [(⟨0, U1, U2⟩ : Sg)]) (f := sgC) (hS.row (i := 1) rfl)) ?_
  rintro ⟨A_5, c_5, rfl⟩
  refine MN (z := agF [.c (.int .i64 0), .a 32 0, .a 64 0]) (t := 47) ?_
  intro Q5r
  refine MR 0 ?_ (hz := by rw [Q3]; kernel_rfl) (hs := by first | (rw [Q3, Q3]; simp only [fsz_a, fsz_c, fsz_n]; done) | (rw [Q3, Q3]; rfl) | rfl) (h1 := by exact (J27 ⟨rfl, trivial⟩))
  refine MZ fun W hS => ?_
  go_upto_region 7 with fail
  refine RL hS ?_
  clear hS
  refine MV ?_
  refine MV ?_
  obtain ⟨ss, hss⟩ : ∃ ss, bsd (ovT ms) (hs4 (kTx L)) 0 = ss := ⟨_, rfl⟩
  have hsl : ss.length ≤ 256 := by rw [← hss]; exact Z21 (Q6n ms)
  obtain ⟨ea, ex, et, hE⟩ : ∃ a x t, J2i (J0g (ovT ms) (hs4 (kTx L)) 0) = (a, x, t) := ⟨_, _, _, rfl⟩
  obtain ⟨hea, hex⟩ : ea < 2 ^ 256 ∧ ex < 2 ^ 256 := by have h_ := Y7u (k := hs4 (kTx L)) (Q6n ms); rw [show J2i (J0g (ofT (ms.map mkL)) (hs4 (kTx L)) 0) = (ea, ex, et) from hE] at h_; exact h_
  obtain ⟨gv, gb, hchk⟩ : ∃ v b, chk (rs (ovT ms)) (hs4 (kTx L)) ss et ea ex = (v, b, 0) := by have h_ := Z7p (k := hs4 (kTx L)) (Q6n ms); rw [show J2i (J0g (ofT (ms.map mkL)) (hs4 (kTx L)) 0) = (ea, ex, et) from hE, show bsd (ofT (ms.map mkL)) (hs4 (kTx L)) 0 = ss from hss] at h_; exact ⟨_, _, h_⟩
  have hgb := Y4r hchk
  have Hss := Lib.hid hss
  have HE := Lib.hid hE
  have Hchk := Lib.hid hchk
  have Hgb := Lib.hid hgb
  clear hss hE hchk hgb
  refine ME (V := fun v => .agg (pfc v et ea ex)) (fun W hS => Y57 (ss := ss) hS ((by have h_ := Y1a (V0z hn3) (by first | omega | (simp only [List.length_append, List.length_map, List.length_take, List.length_drop, List.length_cons, List.length_nil, Q2, V4, Y4, Y5]; omega)) W (hS.pp (i := 5) rfl : GX W) (hS.blk (i := 1) rfl) (hS.tt (i := 4) rfl) (hS.sl (i := 7) rfl); rw [HE.out, Hss.out] at h_; exact h_)) rfl) ?_
  intro pv_7
  refine J3r (fun W hS => Row.form (ls := ss) (f := J1e) (hS.row (i := 0) rfl)) ?_
  rintro ⟨A_8, c_8, rfl⟩
  refine MN (z := pfc (.slice none 0 0) false 0 0) (t := 53) ?_
  intro Z26
  refine MR 0 ?_ (hz := by rw [J01]; kernel_rfl) (hs := by first | rw [J01, J01] | rw [J01] | kernel_rfl) (h1 := (Q48 rfl))
  refine MZ fun W hS => ?_
  go_upto_region 8 with fail
  refine RJ (R := fun a_ w_ => ∃ (j8_0 : Nat), a_ = { tmps := List.toArray ((.agg (J0 .u8 32 (Q5 S))) :: (.slice At ms.length ct) :: u :: (.pointer (some ⟨J0c, 0, none⟩)) :: undef :: undef :: (.bool false) :: (.pointer (some ⟨p3, 0, none⟩)) :: (.pointer (some ⟨Q5r, 0, none⟩)) :: (.pointer (some ⟨Z26, 0, none⟩)) :: (.pointer (some ⟨j8_0, 0, none⟩)) :: (.bool gb) :: (.int .i64 0) :: undef :: undef :: undef :: undef :: undef :: undef :: undef :: undef :: v :: (.slice At ms.length ct) :: u2 :: u2 :: (.int .i64 (idl.length : Int)) :: (.int .i64 ((min idl.length 20 : Nat) : Int)) :: Q6r :: (.slice At ms.length ct) :: (.int .i64 (ms.length : Int)) :: k30 :: k31 :: k32 :: k33 :: k34 :: k35 :: k36 :: k37 :: k38 :: k39 :: k40 :: (.agg (J0 .u8 32 (Q5 S))) :: (.pointer (some ⟨p3, 0, none⟩)) :: (.pointer (some ⟨p3, 0, none⟩)) :: (.slice At ms.length ct) :: (.agg (agF [.c (.int .i64 0), .a 32 U1, .a 64 U2])) :: (.pointer (some ⟨p3, 0, none⟩)) :: u :: (.agg (pfc (.slice A_8 ss.length c_8) et ea ex)) :: (.tuple #[.agg (J0 .u8 32 (Q5 gv)), .bool gb, .int .i64 0]) :: (.pointer (some ⟨Q5r, 1, none⟩)) :: (.agg (J0 .u8 32 (Q5 U1))) :: u :: (.agg (J0 .u8 32 (Q5 (hs4 (kTx L))))) :: (.agg (pfc (.slice A_8 ss.length c_8) et ea ex)) :: (.tuple #[.agg (J0 .u8 32 (Q5 gv)), .bool gb, .int .i64 0]) :: (.agg (J0 .u8 32 (Q5 gv))) :: (.bool gb) :: (.int .i64 0) :: undef :: undef :: undef :: undef :: undef :: undef :: undef :: undef :: undef :: undef :: undef :: undef :: undef :: undef :: undef :: undef :: undef :: undef :: undef :: undef :: undef :: undef :: undef :: undef :: undef :: undef :: undef :: undef :: undef :: undef :: undef :: undef :: undef :: undef :: undef :: undef :: undef :: undef :: undef :: undef :: undef :: undef :: undef :: undef :: undef :: undef :: undef :: undef :: undef :: undef :: undef :: undef :: undef :: undef :: undef :: undef :: undef :: undef :: undef :: undef :: undef :: undef :: undef :: undef :: undef :: undef :: undef :: undef :: undef :: undef :: undef :: undef :: undef :: undef :: undef :: undef :: undef :: undef :: []), defers := [] } ∧ SH [] w w_ [.b j8_0 (J0 .u8 32 (Q5 gv)) 23, gx, .s u2 idl, .s u L, mbT (.slice At ms.length ct) ms, .r 23 32 (.slice A_8 ss.length c_8) (List.map J1e ss), .b p3 (agF [.a 32 S, .c vt4, .c (.slice A_5 [(⟨0, U1, U2⟩ : Sg)].length c_5), .c vs4]) 107, .b J0c (J0 .u8 32 (Q5 S)) 23, .b Q5r (agF [.c (.int .i64 0), .a 32 U1, .a 64 U2]) 47, .b Z26 (pfc (.slice A_8 ss.length c_8) et ea ex) 53, .t 151 (fun W => TA W (ovT ms) vt4), .r 23 32 vs4 (List.map J1e [eS (sTx 0 U1)]), .r 47 97 (.slice A_5 [(⟨0, U1, U2⟩ : Sg)].length c_5) (List.map sgC [(⟨0, U1, U2⟩ : Sg)])]) ?_ ?_
  ·
   skip
   refine RTh (.q 0 (.q 1 (.q 2 (.q 4 (.b 3 (.b 5 (.q 6 (.q 7 (.q 8 (.q 9 (.e 10 (.e 11 (.q 12 (.q 13 .z)))))))) 10 (.e 5 (.q 6 (.q 7 (.q 8 (.q 9 (.e 11 (.q 12 (.q 13 .z))))))))) 10 (.e 3 (.e 5 (.q 6 (.q 7 (.q 8 (.q 9 (.e 11 (.q 12 (.q 13 .z)))))))))))))) hS ?_
   clear hS
   refine TV ?_
   refine Tk 2 ?_ (sub := J0 .u8 32 (Q5 U1)) (hs := (J3x (off := 1) 1))
   refine TV ?_
   refine TL 0 ?_ (hs := by rw [J01]; kernel_rfl)
   refine TB (fun _ h => h) ?_ ?_
   ·
    skip
    refine MC (v := .agg (J0 .u8 32 (Q5 (hs4 (kTx L))))) (fun W hS => Q8m W (V6 hG hS.ext) (hS.sl (i := 9) rfl) (by first | omega | (simp only [List.length_append, List.length_map, List.length_take, List.length_drop, List.length_cons, List.length_nil, Q2, V4, Y4, Y5]; omega))) ?_
    refine TNh (fun W hS => hS) ?_
    refine TB (fun _ h => h) ?_ ?_
    ·
     skip
     refine MC (v := .tuple #[.agg (J0 .u8 32 (Q5 gv)), .bool gb, .int .i64 0]) (fun W hS => (by have h_ := Q7f (R := U1) (k := hs4 (kTx L)) (th := et) (x := ex) (by rw [HU1.out]; exact Z7u _) (J3n _) hea (by omega) W (V6 hG hS.ext) (hS.row (i := 1) rfl).rr; rw [show chk U1 (hs4 (kTx L)) ss et ea ex = (gv, gb, 0) from by rw [HU1.out]; exact Hchk.out] at h_; exact h_)) ?_
     refine TNh (fun W hS => hS) ?_
     refine TV ?_
     refine TV ?_
     refine TW ?_ (v := .bool gb)
     refine TW ?_ (v := .int .i64 0)
     refine TE (fun _ h => h) ?_
     refine MN (z := J0 .u8 32 (Q5 0)) (t := 23) ?_
     intro V10
     refine TNp [1, 2, 3, 4, 5, 6, 7, 8, 9, 10, 11, 12] [0, 1, 2, 3, 4, 5, 6, 7, 8, 9, 10, 11] ?_
     refine TE (fun _ h => h.pick [1, 2, 3, 4, 5, 6, 7, 8, 9, 10, 11, 12]) ?_
     refine MR 0 ?_ 
     refine TNp [1, 2, 3, 4, 5, 6, 7, 8, 9, 10, 11, 12] [0, 1, 2, 3, 4, 5, 6, 7, 8, 9, 10, 11] ?_
     refine TW ?_ (v := .bool gb)
     refine TW ?_ (v := .int .i64 0)
     refine TZ (fun _ h => h.pick [1, 2, 3, 4, 5, 6, 7, 8, 9, 10, 11, 12]) fun W hS => ?_
     exact ⟨V10, rfl, hS.pick [0, 8, 11, 10, 9, 2, 4, 12, 3, 1, 7, 6, 5]⟩
    skip
    refine MN (z := J0 .u8 32 (Q5 0)) (t := 23) ?_
    intro V11
    refine TNp [1, 2, 3, 4, 5, 6, 7, 8, 9, 10, 11, 12] [0, 1, 2, 3, 4, 5, 6, 7, 8, 9, 10, 11] ?_
    refine TE (fun _ h => h.pick [1, 2, 3, 4, 5, 6, 7, 8, 9, 10, 11, 12]) ?_
    refine MC (v := .tuple #[.agg (J0 .u8 32 (Q5 gv)), .bool gb, .int .i64 0]) (fun W hS => (by have h_ := Q7f (R := U1) (k := hs4 (kTx L)) (th := et) (x := ex) (by rw [HU1.out]; exact Z7u _) (J3n _) hea (by omega) W (V6 hG hS.ext) (hS.row (i := 2) rfl).rr; rw [show chk U1 (hs4 (kTx L)) ss et ea ex = (gv, gb, 0) from by rw [HU1.out]; exact Hchk.out] at h_; exact h_)) ?_
    refine TNp [1, 2, 3, 4, 5, 6, 7, 8, 9, 10, 11, 12] [0, 1, 2, 3, 4, 5, 6, 7, 8, 9, 10, 11] ?_
    refine TV ?_
    refine TV ?_
    refine TW ?_ (v := .bool gb)
    refine TW ?_ (v := .int .i64 0)
    refine TE (fun _ h => h.pick [1, 2, 3, 4, 5, 6, 7, 8, 9, 10, 11, 12]) ?_
    refine MR 0 ?_ 
    refine TNp [1, 2, 3, 4, 5, 6, 7, 8, 9, 10, 11, 12] [0, 1, 2, 3, 4, 5, 6, 7, 8, 9, 10, 11] ?_
    refine TW ?_ (v := .bool gb)
    refine TW ?_ (v := .int .i64 0)
    refine TZ (fun _ h => h.pick [1, 2, 3, 4, 5, 6, 7, 8, 9, 10, 11, 12]) fun W hS => ?_
    exact ⟨V11, rfl, hS.pick [0, 8, 11, 10, 9, 2, 4, 12, 3, 1, 7, 6, 5]⟩
   skip
   refine MN (z := J0 .u8 32 (Q5 0)) (t := 23) ?_
   intro V12
   refine TNp [1, 2, 3, 4, 5, 6, 7, 8, 9, 10, 11, 12] [0, 1, 2, 3, 4, 5, 6, 7, 8, 9, 10, 11] ?_
   refine TE (fun _ h => h.pick [1, 2, 3, 4, 5, 6, 7, 8, 9, 10, 11, 12]) ?_
   refine MC (v := .agg (J0 .u8 32 (Q5 (hs4 (kTx L))))) (fun W hS => Q8m W (V6 hG hS.ext) (hS.sl (i := 10) rfl) (by first | omega | (simp only [List.length_append, List.length_map, List.length_take, List.length_drop, List.length_cons, List.length_nil, Q2, V4, Y4, Y5]; omega))) ?_
   refine TNp [1, 2, 3, 4, 5, 6, 7, 8, 9, 10, 11, 12] [0, 1, 2, 3, 4, 5, 6, 7, 8, 9, 10, 11] ?_
   refine TE (fun _ h => h.pick [1, 2, 3, 4, 5, 6, 7, 8, 9, 10, 11, 12]) ?_
   refine MC (v := .tuple #[.agg (J0 .u8 32 (Q5 gv)), .bool gb, .int .i64 0]) (fun W hS => (by have h_ := Q7f (R := U1) (k := hs4 (kTx L)) (th := et) (x := ex) (by rw [HU1.out]; exact Z7u _) (J3n _) hea (by omega) W (V6 hG hS.ext) (hS.row (i := 2) rfl).rr; rw [show chk U1 (hs4 (kTx L)) ss et ea ex = (gv, gb, 0) from by rw [HU1.out]; exact Hchk.out] at h_; exact h_)) ?_
   refine TNp [1, 2, 3, 4, 5, 6, 7, 8, 9, 10, 11, 12] [0, 1, 2, 3, 4, 5, 6, 7, 8, 9, 10, 11] ?_
   refine TV ?_
   refine TV ?_
   refine TW ?_ (v := .bool gb)
   refine TW ?_ (v := .int .i64 0)
   refine TE (fun _ h => h.pick [1, 2, 3, 4, 5, 6, 7, 8, 9, 10, 11, 12]) ?_
   refine MR 0 ?_ 
   refine TNp [1, 2, 3, 4, 5, 6, 7, 8, 9, 10, 11, 12] [0, 1, 2, 3, 4, 5, 6, 7, 8, 9, 10, 11] ?_
   refine TW ?_ (v := .bool gb)
   refine TW ?_ (v := .int .i64 0)
   refine TZ (fun _ h => h.pick [1, 2, 3, 4, 5, 6, 7, 8, 9, 10, 11, 12]) fun W hS => ?_
   exact ⟨V12, rfl, hS.pick [0, 8, 11, 10, 9, 2, 4, 12, 3, 1, 7, 6, 5]⟩
  rintro _ W ⟨j8_0, rfl, hS⟩
  go_upto_region 9 with fail
  refine RL hS ?_
  clear hS
  refine MN (z := J0 .u8 32 (Q5 0)) (t := 23) ?_
  intro J9n
  refine MZ fun W hS => ?_
  go_upto_region 10 with fail
  refine RJ (R := fun a_ w_ => a_ = { tmps := List.toArray ((.agg (J0 .u8 32 (Q5 S))) :: (.slice At ms.length ct) :: u :: (.pointer (some ⟨J0c, 0, none⟩)) :: undef :: undef :: (.bool false) :: (.pointer (some ⟨p3, 0, none⟩)) :: (.pointer (some ⟨Q5r, 0, none⟩)) :: (.pointer (some ⟨Z26, 0, none⟩)) :: (.pointer (some ⟨j8_0, 0, none⟩)) :: (.bool gb) :: (.int .i64 0) :: (.pointer (some ⟨J9n, 0, none⟩)) :: undef :: undef :: undef :: undef :: undef :: undef :: undef :: v :: (.slice At ms.length ct) :: u2 :: u2 :: (.int .i64 (idl.length : Int)) :: (.int .i64 ((min idl.length 20 : Nat) : Int)) :: Q6r :: (.slice At ms.length ct) :: (.int .i64 (ms.length : Int)) :: k30 :: k31 :: k32 :: k33 :: k34 :: k35 :: k36 :: k37 :: k38 :: k39 :: k40 :: (.agg (J0 .u8 32 (Q5 S))) :: (.pointer (some ⟨p3, 0, none⟩)) :: (.pointer (some ⟨p3, 0, none⟩)) :: (.slice At ms.length ct) :: (.agg (agF [.c (.int .i64 0), .a 32 U1, .a 64 U2])) :: (.pointer (some ⟨p3, 0, none⟩)) :: u :: (.agg (pfc (.slice A_8 ss.length c_8) et ea ex)) :: (.tuple #[.agg (J0 .u8 32 (Q5 gv)), .bool gb, .int .i64 0]) :: (.pointer (some ⟨Q5r, 1, none⟩)) :: (.agg (J0 .u8 32 (Q5 U1))) :: u :: (.agg (J0 .u8 32 (Q5 (hs4 (kTx L))))) :: (.agg (pfc (.slice A_8 ss.length c_8) et ea ex)) :: (.tuple #[.agg (J0 .u8 32 (Q5 gv)), .bool gb, .int .i64 0]) :: (.agg (J0 .u8 32 (Q5 gv))) :: (.bool gb) :: (.int .i64 0) :: (.slice (some ⟨J9n, 0, none⟩) 32 32) :: u :: (str L) :: (str (lb 32 (hs4 (kTx L)))) :: (.int .i64 32) :: undef :: undef :: undef :: undef :: undef :: undef :: undef :: undef :: undef :: undef :: undef :: undef :: undef :: undef :: undef :: undef :: undef :: undef :: undef :: undef :: undef :: undef :: undef :: undef :: undef :: undef :: undef :: undef :: undef :: undef :: undef :: undef :: undef :: undef :: undef :: undef :: undef :: undef :: undef :: undef :: undef :: undef :: undef :: undef :: undef :: undef :: undef :: undef :: undef :: undef :: undef :: undef :: undef :: undef :: undef :: undef :: undef :: undef :: undef :: undef :: undef :: undef :: undef :: undef :: undef :: undef :: undef :: undef :: undef :: undef :: undef :: undef :: undef :: []), defers := [] } ∧ SH [] w w_ [gx, .s u2 idl, .s u L, mbT (.slice At ms.length ct) ms, .r 23 32 (.slice A_8 ss.length c_8) (List.map J1e ss), .b p3 (agF [.a 32 S, .c vt4, .c (.slice A_5 [(⟨0, U1, U2⟩ : Sg)].length c_5), .c vs4]) 107, .b j8_0 (J0 .u8 32 (Q5 gv)) 23, .b J9n (J0 .u8 32 (Q5 (hs4 (kTx L)))) 23, .b J0c (J0 .u8 32 (Q5 S)) 23, .b Q5r (agF [.c (.int .i64 0), .a 32 U1, .a 64 U2]) 47, .b Z26 (pfc (.slice A_8 ss.length c_8) et ea ex) 53, .t 151 (fun W => TA W (ovT ms) vt4), .r 23 32 vs4 (List.map J1e [eS (sTx 0 U1)]), .r 47 97 (.slice A_5 [(⟨0, U1, U2⟩ : Sg)].length c_5) (List.map sgC [(⟨0, U1, U2⟩ : Sg)])]) ?_ ?_
  ·
   skip
   refine RTp [1, 2, 3, 4, 5, 6, 7, 8, 9, 10, 11, 12, 13] (.q 0 (.q 1 (.q 2 (.e 3 (.e 4 .z))))) hS ?_
   clear hS
   refine TW ?_ (v := .slice (some ⟨J9n, 0, none⟩) 32 32)
   refine TV ?_
   refine TF (v := str L) rfl (fun W hS => J6u (hS.sl (i := 3) rfl) rfl rfl) ?_
   refine TE (fun _ h => h.pick [1, 2, 3, 4, 5, 6, 7, 8, 9, 10, 11, 12, 13]) ?_
   refine MC (v := str (lb 32 (hs4 (kTx L)))) (fun W hS => Y10 hr (by first | omega | (simp only [List.length_append, List.length_map, List.length_take, List.length_drop, List.length_cons, List.length_nil, Q2, V4, Y4, Y5]; omega)) W (V6 hG hS.ext)) ?_
   refine TNp [1, 2, 3, 4, 5, 6, 7, 8, 9, 10, 11, 12, 13] [0, 1, 2, 3, 4, 5, 6, 7, 8, 9, 10, 11, 12] ?_
   refine TE (fun _ h => h.pick [1, 2, 3, 4, 5, 6, 7, 8, 9, 10, 11, 12, 13]) ?_
   refine MCp 0 (l := (lb 32 (hs4 (kTx L)))) (n := 32) (cs := J0 .u8 32 (Q5 0)) (new := J0 .u8 32 (Q5 (hs4 (kTx L)))) (Q2 _ _) (by first | exact J2 _ _ _ | decide) (Z4i _ _) ?_
   refine TNp [1, 2, 3, 4, 5, 6, 7, 8, 9, 10, 11, 12, 13] [0, 1, 2, 3, 4, 5, 6, 7, 8, 9, 10, 11, 12] ?_
   refine TZ (fun _ h => h.pick [1, 2, 3, 4, 5, 6, 7, 8, 9, 10, 11, 12, 13]) fun W hS => ?_
   exact ⟨rfl, hS.pick [2, 3, 4, 5, 6, 7, 1, 0, 8, 9, 10, 11, 12, 13]⟩
  rintro _ W ⟨rfl, hS⟩
  go_upto_region 11 with fail
  refine RJ (R := fun a_ w_ => ∃ (j11_0 : Option Addr), ∃ (j11_1 : Nat), ∃ (j11_2 : Nat), ∃ (j11_3 : Value), ∃ (j11_4 : Value), a_ = { tmps := List.toArray ((.agg (J0 .u8 32 (Q5 S))) :: (.slice At ms.length ct) :: u :: (.pointer (some ⟨J0c, 0, none⟩)) :: undef :: undef :: (.bool false) :: (.pointer (some ⟨p3, 0, none⟩)) :: (.pointer (some ⟨Q5r, 0, none⟩)) :: (.pointer (some ⟨Z26, 0, none⟩)) :: (.pointer (some ⟨j8_0, 0, none⟩)) :: (.bool gb) :: (.int .i64 0) :: (.pointer (some ⟨J9n, 0, none⟩)) :: (.slice j11_0 ss.length j11_1) :: (.pointer (some ⟨j11_2, 0, none⟩)) :: (.bool et) :: undef :: undef :: undef :: undef :: v :: (.slice At ms.length ct) :: u2 :: u2 :: (.int .i64 (idl.length : Int)) :: (.int .i64 ((min idl.length 20 : Nat) : Int)) :: Q6r :: (.slice At ms.length ct) :: (.int .i64 (ms.length : Int)) :: k30 :: k31 :: k32 :: k33 :: k34 :: k35 :: k36 :: k37 :: k38 :: k39 :: k40 :: (.agg (J0 .u8 32 (Q5 S))) :: (.pointer (some ⟨p3, 0, none⟩)) :: (.pointer (some ⟨p3, 0, none⟩)) :: (.slice At ms.length ct) :: (.agg (agF [.c (.int .i64 0), .a 32 U1, .a 64 U2])) :: (.pointer (some ⟨p3, 0, none⟩)) :: u :: (.agg (pfc (.slice A_8 ss.length c_8) et ea ex)) :: (.tuple #[.agg (J0 .u8 32 (Q5 gv)), .bool gb, .int .i64 0]) :: (.pointer (some ⟨Q5r, 1, none⟩)) :: (.agg (J0 .u8 32 (Q5 U1))) :: u :: (.agg (J0 .u8 32 (Q5 (hs4 (kTx L))))) :: (.agg (pfc (.slice A_8 ss.length c_8) et ea ex)) :: (.tuple #[.agg (J0 .u8 32 (Q5 gv)), .bool gb, .int .i64 0]) :: (.agg (J0 .u8 32 (Q5 gv))) :: (.bool gb) :: (.int .i64 0) :: (.slice (some ⟨J9n, 0, none⟩) 32 32) :: u :: (str L) :: (str (lb 32 (hs4 (kTx L)))) :: (.int .i64 32) :: (.tuple #[(.slice j11_0 ss.length j11_1), .agg (lf ea ex), .bool et]) :: (.slice At ms.length ct) :: j11_3 :: j11_4 :: (.agg (J0 .u8 32 (Q5 (hs4 (kTx L))))) :: (.tuple #[(.slice j11_0 ss.length j11_1), .agg (lf ea ex), .bool et]) :: (.slice j11_0 ss.length j11_1) :: (.agg (lf ea ex)) :: (.bool et) :: undef :: undef :: undef :: undef :: undef :: undef :: undef :: undef :: undef :: undef :: undef :: undef :: undef :: undef :: undef :: undef :: undef :: undef :: undef :: undef :: undef :: undef :: undef :: undef :: undef :: undef :: undef :: undef :: undef :: undef :: undef :: undef :: undef :: undef :: undef :: undef :: undef :: undef :: undef :: undef :: undef :: undef :: undef :: undef :: undef :: undef :: undef :: undef :: undef :: undef :: undef :: undef :: undef :: undef :: undef :: undef :: undef :: undef :: undef :: undef :: undef :: undef :: undef :: undef :: []), defers := [] } ∧ SH [] w w_ [.r 27 4 j11_3 (List.map rmC ms), .r 60 64 j11_4 (List.map lfl (J2j (ms.map mkL))), .b j11_2 (lf ea ex) 60, .r 9 1 (.slice j11_0 ss.length j11_1) (List.map Q59 ss), gx, .s u2 idl, .s u L, mbT (.slice At ms.length ct) ms, .r 23 32 (.slice A_8 ss.length c_8) (List.map J1e ss), .b p3 (agF [.a 32 S, .c vt4, .c (.slice A_5 [(⟨0, U1, U2⟩ : Sg)].length c_5), .c vs4]) 107, .b j8_0 (J0 .u8 32 (Q5 gv)) 23, .b J9n (J0 .u8 32 (Q5 (hs4 (kTx L)))) 23, .b J0c (J0 .u8 32 (Q5 S)) 23, .b Q5r (agF [.c (.int .i64 0), .a 32 U1, .a 64 U2]) 47, .b Z26 (pfc (.slice A_8 ss.length c_8) et ea ex) 53, .t 151 (fun W => TA W (ovT ms) vt4), .r 23 32 vs4 (List.map J1e [eS (sTx 0 U1)]), .r 47 97 (.slice A_5 [(⟨0, U1, U2⟩ : Sg)].length c_5) (List.map sgC [(⟨0, U1, U2⟩ : Sg)])]) ?_ ?_
  ·
   skip
   refine RTh (.q 0 (.q 3 (.b 1 (.b 2 (.b 4 (.q 5 (.q 6 (.q 7 (.q 8 (.e 9 (.q 10 (.e 11 (.q 12 .z)))))))) 9 (.e 4 (.q 5 (.q 6 (.q 7 (.q 8 (.q 10 (.e 11 (.q 12 .z))))))))) 9 (.e 2 (.e 4 (.q 5 (.q 6 (.q 7 (.q 8 (.q 10 (.e 11 (.q 12 .z)))))))))) 9 (.e 1 (.e 2 (.e 4 (.q 5 (.q 6 (.q 7 (.q 8 (.q 10 (.e 11 (.q 12 .z))))))))))))) hS ?_
   clear hS
   refine TV ?_
   refine TL 7 ?_
   refine TB (fun _ h => h) ?_ ?_
   ·
    skip
    refine ME (V := fun v => v) (fun W hS => J33 hS (Y18 (ms := ms) hn3 W (hS.pp (i := 3) rfl : MbR _ ms W).1 (hS.pp (i := 3) rfl : MbR _ ms W).2) (fun _ => ⟨rfl, rfl⟩)) ?_
    intro u_fr
    refine TNh (fun W hS => hS.pick [1, 2, 3, 4, 5, 6, 7, 8, 9, 10, 11, 12, 13, 14]) ?_
    refine TB (fun _ h => h) ?_ ?_
    ·
     skip
     refine ME (fun W hS => Q0d (ls := J2j (ms.map mkL)) hS (Q2f hr hn3 W (V6 hG hS.ext) (hS.row (i := 0) rfl).rr (fun y hy => ((hS.pp (i := 4) rfl : MbR _ ms W).2 y hy).2)) rfl) ?_
     intro u_lv14
     refine TNh (fun W hS => hS.pick [1, 2, 3, 4, 5, 6, 7, 8, 9, 10, 11, 12, 13, 14, 15]) ?_
     refine TB (fun _ h => h) ?_ ?_
     ·
      skip
      refine ME (V := fun v => .tuple #[v, .agg (lf ea ex), .bool et]) (fun W hS => J33 hS (Y4s hr hn3 HE.out Hss.out W (V6 hG hS.ext) (hS.row (i := 0) rfl).rr) (fun _ => ⟨rfl, rfl⟩)) ?_
      intro xo
      refine J3r (fun W hS => Row.form (ls := ss) (f := Q59) (hS.row (i := 0) rfl)) ?_
      rintro ⟨A_15, c_15, rfl⟩
      refine TNh (fun W hS => hS.pick [1, 2, 3, 4, 5, 6, 7, 8, 9, 10, 11, 12, 13, 14, 15, 16]) ?_
      refine TV ?_
      refine TV ?_
      refine TV ?_
      refine TW ?_ (v := .bool et)
      refine TE (fun _ h => h) ?_
      refine MN (z := lf 0 0) (t := 60) ?_
      intro V13
      refine TNp [1, 2, 3, 4, 5, 6, 7, 8, 9, 10, 11, 12, 13, 14, 15, 16, 17] [0, 1, 2, 3, 4, 5, 6, 7, 8, 9, 10, 11, 12, 13, 14, 15, 16] ?_
      refine TV ?_
      refine TE (fun _ h => h.pick [1, 2, 3, 4, 5, 6, 7, 8, 9, 10, 11, 12, 13, 14, 15, 16, 17]) ?_
      refine MR 0 ?_ (hz := by rw [Q8]; kernel_rfl) (hs := by first | rw [Q8, Q8] | rw [Q8] | kernel_rfl) (h1 := J34)
      refine TNp [1, 2, 3, 4, 5, 6, 7, 8, 9, 10, 11, 12, 13, 14, 15, 16, 17] [0, 1, 2, 3, 4, 5, 6, 7, 8, 9, 10, 11, 12, 13, 14, 15, 16] ?_
      refine TW ?_ (v := .bool et)
      refine TZ (fun _ h => h.pick [1, 2, 3, 4, 5, 6, 7, 8, 9, 10, 11, 12, 13, 14, 15, 16, 17]) fun W hS => ?_
      exact ⟨A_15, c_15, V13, u_fr, u_lv14, rfl, hS.pick [3, 2, 0, 1, 4, 5, 6, 7, 8, 9, 10, 11, 12, 13, 14, 15, 16, 17]⟩
     skip
     refine MN (z := lf 0 0) (t := 60) ?_
     intro V14
     refine TNp [1, 2, 3, 4, 5, 6, 7, 8, 9, 10, 11, 12, 13, 14, 15, 16] [0, 1, 2, 3, 4, 5, 6, 7, 8, 9, 10, 11, 12, 13, 14, 15] ?_
     refine TE (fun _ h => h.pick [1, 2, 3, 4, 5, 6, 7, 8, 9, 10, 11, 12, 13, 14, 15, 16]) ?_
     refine ME (V := fun v => .tuple #[v, .agg (lf ea ex), .bool et]) (fun W hS => J33 hS (Y4s hr hn3 HE.out Hss.out W (V6 hG hS.ext) (hS.row (i := 1) rfl).rr) (fun _ => ⟨rfl, rfl⟩)) ?_
     intro xo
     refine J3r (fun W hS => Row.form (ls := ss) (f := Q59) (hS.row (i := 0) rfl)) ?_
     rintro ⟨A_18, c_18, rfl⟩
     refine TNp [0, 2, 3, 4, 5, 6, 7, 8, 9, 10, 11, 12, 13, 14, 15, 16, 17] [1, 2, 3, 4, 5, 6, 7, 8, 9, 10, 11, 12, 13, 14, 15, 16] ?_
     refine TV ?_
     refine TV ?_
     refine TV ?_
     refine TW ?_ (v := .bool et)
     refine TV ?_
     refine TE (fun _ h => h.pick [0, 2, 3, 4, 5, 6, 7, 8, 9, 10, 11, 12, 13, 14, 15, 16, 17]) ?_
     refine MR 1 ?_ (hz := by rw [Q8]; kernel_rfl) (hs := by first | rw [Q8, Q8] | rw [Q8] | kernel_rfl) (h1 := J34)
     refine TNp [0, 2, 3, 4, 5, 6, 7, 8, 9, 10, 11, 12, 13, 14, 15, 16, 17] [0, 1, 2, 3, 4, 5, 6, 7, 8, 9, 10, 11, 12, 13, 14, 15, 16] ?_
     refine TW ?_ (v := .bool et)
     refine TZ (fun _ h => h.pick [0, 2, 3, 4, 5, 6, 7, 8, 9, 10, 11, 12, 13, 14, 15, 16, 17]) fun W hS => ?_
     exact ⟨A_18, c_18, V14, u_fr, u_lv14, rfl, hS.pick [3, 2, 1, 0, 4, 5, 6, 7, 8, 9, 10, 11, 12, 13, 14, 15, 16, 17]⟩
    skip
    refine MN (z := lf 0 0) (t := 60) ?_
    intro V15
    refine TNp [1, 2, 3, 4, 5, 6, 7, 8, 9, 10, 11, 12, 13, 14, 15] [0, 1, 2, 3, 4, 5, 6, 7, 8, 9, 10, 11, 12, 13, 14] ?_
    refine TE (fun _ h => h.pick [1, 2, 3, 4, 5, 6, 7, 8, 9, 10, 11, 12, 13, 14, 15]) ?_
    refine ME (fun W hS => Q0d (ls := J2j (ms.map mkL)) hS (Q2f hr hn3 W (V6 hG hS.ext) (hS.row (i := 1) rfl).rr (fun y hy => ((hS.pp (i := 5) rfl : MbR _ ms W).2 y hy).2)) rfl) ?_
    intro u_lv20
    refine TNp [0, 2, 3, 4, 5, 6, 7, 8, 9, 10, 11, 12, 13, 14, 15, 16] [1, 2, 3, 4, 5, 6, 7, 8, 9, 10, 11, 12, 13, 14, 15] ?_
    refine TE (fun _ h => h.pick [0, 2, 3, 4, 5, 6, 7, 8, 9, 10, 11, 12, 13, 14, 15, 16]) ?_
    refine ME (V := fun v => .tuple #[v, .agg (lf ea ex), .bool et]) (fun W hS => J33 hS (Y4s hr hn3 HE.out Hss.out W (V6 hG hS.ext) (hS.row (i := 0) rfl).rr) (fun _ => ⟨rfl, rfl⟩)) ?_
    intro xo
    refine J3r (fun W hS => Row.form (ls := ss) (f := Q59) (hS.row (i := 0) rfl)) ?_
    rintro ⟨A_21, c_21, rfl⟩
    refine TNp [0, 1, 3, 4, 5, 6, 7, 8, 9, 10, 11, 12, 13, 14, 15, 16, 17] [1, 2, 3, 4, 5, 6, 7, 8, 9, 10, 11, 12, 13, 14, 15, 16] ?_
    refine TV ?_
    refine TV ?_
    refine TV ?_
    refine TW ?_ (v := .bool et)
    refine TV ?_
    refine TE (fun _ h => h.pick [0, 1, 3, 4, 5, 6, 7, 8, 9, 10, 11, 12, 13, 14, 15, 16, 17]) ?_
    refine MR 2 ?_ (hz := by rw [Q8]; kernel_rfl) (hs := by first | rw [Q8, Q8] | rw [Q8] | kernel_rfl) (h1 := J34)
    refine TNp [0, 1, 3, 4, 5, 6, 7, 8, 9, 10, 11, 12, 13, 14, 15, 16, 17] [0, 1, 2, 3, 4, 5, 6, 7, 8, 9, 10, 11, 12, 13, 14, 15, 16] ?_
    refine TW ?_ (v := .bool et)
    refine TZ (fun _ h => h.pick [0, 1, 3, 4, 5, 6, 7, 8, 9, 10, 11, 12, 13, 14, 15, 16, 17]) fun W hS => ?_
    exact ⟨A_21, c_21, V15, u_fr, u_lv20, rfl, hS.pick [3, 1, 2, 0, 4, 5, 6, 7, 8, 9, 10, 11, 12, 13, 14, 15, 16, 17]⟩
   skip
   refine MN (z := lf 0 0) (t := 60) ?_
   intro V16
   refine TNp [1, 2, 3, 4, 5, 6, 7, 8, 9, 10, 11, 12, 13, 14] [0, 1, 2, 3, 4, 5, 6, 7, 8, 9, 10, 11, 12, 13] ?_
   refine TE (fun _ h => h.pick [1, 2, 3, 4, 5, 6, 7, 8, 9, 10, 11, 12, 13, 14]) ?_
   refine ME (V := fun v => v) (fun W hS => J33 hS (Y18 (ms := ms) hn3 W (hS.pp (i := 4) rfl : MbR _ ms W).1 (hS.pp (i := 4) rfl : MbR _ ms W).2) (fun _ => ⟨rfl, rfl⟩)) ?_
   intro u_fr
   refine TNp [0, 2, 3, 4, 5, 6, 7, 8, 9, 10, 11, 12, 13, 14, 15] [1, 2, 3, 4, 5, 6, 7, 8, 9, 10, 11, 12, 13, 14] ?_
   refine TE (fun _ h => h.pick [0, 2, 3, 4, 5, 6, 7, 8, 9, 10, 11, 12, 13, 14, 15]) ?_
   refine ME (fun W hS => Q0d (ls := J2j (ms.map mkL)) hS (Q2f hr hn3 W (V6 hG hS.ext) (hS.row (i := 0) rfl).rr (fun y hy => ((hS.pp (i := 5) rfl : MbR _ ms W).2 y hy).2)) rfl) ?_
   intro u_lv23
   refine TNp [0, 1, 3, 4, 5, 6, 7, 8, 9, 10, 11, 12, 13, 14, 15, 16] [1, 2, 3, 4, 5, 6, 7, 8, 9, 10, 11, 12, 13, 14, 15] ?_
   refine TE (fun _ h => h.pick [0, 1, 3, 4, 5, 6, 7, 8, 9, 10, 11, 12, 13, 14, 15, 16]) ?_
   refine ME (V := fun v => .tuple #[v, .agg (lf ea ex), .bool et]) (fun W hS => J33 hS (Y4s hr hn3 HE.out Hss.out W (V6 hG hS.ext) (hS.row (i := 0) rfl).rr) (fun _ => ⟨rfl, rfl⟩)) ?_
   intro xo
   refine J3r (fun W hS => Row.form (ls := ss) (f := Q59) (hS.row (i := 0) rfl)) ?_
   rintro ⟨A_24, c_24, rfl⟩
   refine TNp [0, 1, 2, 4, 5, 6, 7, 8, 9, 10, 11, 12, 13, 14, 15, 16, 17] [1, 2, 3, 4, 5, 6, 7, 8, 9, 10, 11, 12, 13, 14, 15, 16] ?_
   refine TV ?_
   refine TV ?_
   refine TV ?_
   refine TW ?_ (v := .bool et)
   refine TV ?_
   refine TE (fun _ h => h.pick [0, 1, 2, 4, 5, 6, 7, 8, 9, 10, 11, 12, 13, 14, 15, 16, 17]) ?_
   refine MR 3 ?_ (hz := by rw [Q8]; kernel_rfl) (hs := by first | rw [Q8, Q8] | rw [Q8] | kernel_rfl) (h1 := J34)
   refine TNp [0, 1, 2, 4, 5, 6, 7, 8, 9, 10, 11, 12, 13, 14, 15, 16, 17] [0, 1, 2, 3, 4, 5, 6, 7, 8, 9, 10, 11, 12, 13, 14, 15, 16] ?_
   refine TW ?_ (v := .bool et)
   refine TZ (fun _ h => h.pick [0, 1, 2, 4, 5, 6, 7, 8, 9, 10, 11, 12, 13, 14, 15, 16, 17]) fun W hS => ?_
   exact ⟨A_24, c_24, V16, u_fr, u_lv23, rfl, hS.pick [2, 1, 3, 0, 4, 5, 6, 7, 8, 9, 10, 11, 12, 13, 14, 15, 16, 17]⟩
  rintro _ W ⟨j11_0, j11_1, j11_2, j11_3, j11_4, rfl, hS⟩
  go_upto_region 12 with fail
  refine RL hS ?_
  clear hS
  refine MW ?_ (v := .bool et)
  refine ML 2 ?_ (hs := by rw [Q8]; kernel_rfl)
  refine MW ?_ (v := .agg (pfc (.slice none 0 0) et ea ex)) (hv := by intro W; first | rfl | kernel_rfl)
  refine MN (z := pfc (.slice none 0 0) false 0 0) (t := 66) ?_
  intro V17
  refine MR 0 ?_ (hz := by rw [J01]; kernel_rfl) (hs := by first | rw [J01, J01] | rw [J01] | kernel_rfl) (h1 := (Q48 rfl))
  refine MZ fun W hS => ?_
  have hS := hS.rnil 23 32 rfl
  go_wp2_with fail
  go_loopw [18] (fun ii wr => ∃ (i : Nat) (sv : Value), (i ≤ ss.length) ∧ (ii = .int .i64 (i : Int)) ∧ SH [] w wr [.r 23 32 sv (List.map J1e (List.take i ss)), .b V17 (pfc sv et ea ex) 66, .r 27 4 j11_3 (List.map rmC ms), .r 60 64 j11_4 (List.map lfl (J2j (ms.map mkL))), .b j11_2 (lf ea ex) 60, .r 9 1 (.slice j11_0 ss.length j11_1) (List.map Q59 ss), gx, .s u2 idl, .s u L, mbT (.slice At ms.length ct) ms, .r 23 32 (.slice A_8 ss.length c_8) (List.map J1e ss), .b p3 (agF [.a 32 S, .c vt4, .c (.slice A_5 [(⟨0, U1, U2⟩ : Sg)].length c_5), .c vs4]) 107, .b j8_0 (J0 .u8 32 (Q5 gv)) 23, .b J9n (J0 .u8 32 (Q5 (hs4 (kTx L)))) 23, .b J0c (J0 .u8 32 (Q5 S)) 23, .b Q5r (agF [.c (.int .i64 0), .a 32 U1, .a 64 U2]) 47, .b Z26 (pfc (.slice A_8 ss.length c_8) et ea ex) 53, .t 151 (fun W => TA W (ovT ms) vt4), .r 23 32 vs4 (List.map J1e [eS (sTx 0 U1)]), .r 47 97 (.slice A_5 [(⟨0, U1, U2⟩ : Sg)].length c_5) (List.map sgC [(⟨0, U1, U2⟩ : Sg)])])
   (fun ii _ => ss.length - (intOf ii).toNat)
  case atStart => exact ⟨0, _, Nat.zero_le _, rfl, hS⟩
  clear hS
  case round =>
   obtain ⟨i, sv, hi, rfl, hS⟩ := hrel
   have hocs := (Row.cells (hS.row (i := 0) rfl)).2
   by_cases hlt : i < ss.length
   ·
    have _f := hlt
    obtain ⟨y9, yh⟩ : ∃ x, ss[i]? = some x := ⟨_, List.getElem?_eq_getElem hlt⟩
    obtain ⟨Aq, cq, eq_, _, HRq⟩ := RR.opf (hS.row (i := 5) rfl).rr
    obtain ⟨gx_, ox_, A0x, _⟩ := HRq.out i y9 yh
    injection eq_ with eA e2_ e3_
    clear e2_ e3_
    rw [← eA] at A0x
    have HAx := Lib.hid A0x
    clear A0x HRq eA
    go_upto_region 14 with fail
    refine RL hS ?_
    clear hS
    refine MV ?_
    refine MV ?_
    refine MF (v := .int .i64 (ss.length : Int)) (fun W hS => Q6m (hS.row (i := 5) rfl) (List.length_map _) rfl rfl Tryz.underlying58) ?_
    refine MW ?_ (v := .bool true) (hv := by intro W; go_simp; first | done | omega)
    refine MZ fun W hS => ?_
    go_upto_region 16 with fail
    refine RL hS ?_
    clear hS
    refine MN (z := J0 .u8 32 (Q5 0)) (t := 23) ?_
    intro V18
    refine MZ fun W hS => ?_
    go_upto_region 17 with fail
    refine RTp [1, 2, 3, 4, 5, 6, 7, 8, 9, 10, 11, 12, 13, 14, 15, 16, 17, 18, 19, 20] (.q 0 (.q 1 (.q 2 (.q 3 (.q 4 (.e 5 .z)))))) hS ?_
    clear hS
    refine TW ?_ (v := .slice (some ⟨V18, 0, none⟩) 32 32)
    refine TV ?_
    refine TV ?_
    refine TW ?_ (v := .pointer (some ⟨gx_, ox_ + i * 1, none⟩)) (hv := fun _ => V0 HAx.out hlt rfl rfl rfl Tryz.underlying58 (by kernel_rfl))
    refine TF (v := str (lb 32 y9)) rfl (fun W hS => V2 rfl rfl ((RR.cellat (hS.row (i := 5) rfl).rr (by rw [List.getElem?_map, yh]; rfl) HAx.out) 0 _ rfl) (by kernel_rfl)) ?_
    refine TE (fun _ h => h.pick [1, 2, 3, 4, 5, 6, 7, 8, 9, 10, 11, 12, 13, 14, 15, 16, 17, 18, 19, 20]) ?_
    refine MCp 0 (l := (lb 32 y9)) (n := 32) (cs := J0 .u8 32 (Q5 0)) (new := J0 .u8 32 (Q5 y9)) (Q2 _ _) (by first | exact J2 _ _ _ | decide) (Z4i _ _) ?_
    refine TNp [1, 2, 3, 4, 5, 6, 7, 8, 9, 10, 11, 12, 13, 14, 15, 16, 17, 18, 19, 20] [0, 1, 2, 3, 4, 5, 6, 7, 8, 9, 10, 11, 12, 13, 14, 15, 16, 17, 18, 19] ?_
    refine TZ (fun _ h => h.pick [1, 2, 3, 4, 5, 6, 7, 8, 9, 10, 11, 12, 13, 14, 15, 16, 17, 18, 19, 20]) fun W hS => ?_
    go_upto_region 18 with fail
    refine RL hS ?_
    clear hS
    refine MV ?_
    refine MG 2 ?_ (v := sv) (hj := J6p)
    refine ML 0 ?_
    refine MB (z := (J0 .u8 32 (Q5 y9))) (t := 23) (n := 1) (c := 1) ?_ (hr := fun W _ => J1r rfl rfl rfl Tryz.underlying49 (by rw [J2]; kernel_rfl) (by rw [J2]; kernel_rfl) (by rw [J2]; decide) (by rw [J2]; decide))
    intro V66
    refine MAr 2 0 (tS := 49) (bytes := 32) (es := (List.map J1e (List.take i ss))) (by first | omega | (simp only [List.length_append, List.length_map, List.length_take, List.length_drop, List.length_cons, List.length_nil, Q2, V4, Y4, Y5]; omega)) (e := J1e y9) (hk := J2 _ _ _) (h1 := by exact K3 _ _ _) ?_
    intro Y1e
    refine MV ?_
    refine MP 3 (v := Y1e) (cs' := pfc Y1e et ea ex) ?_ (hv := fun W hS => Row.cells (hS.row (i := 2) rfl)) (hs := by rw [J01]; decide) (hc := Y2g)
    refine MZ fun W hS => ?_
    go_wp2
    go_roundw
    case rel => exact ⟨i + 1, _, by omega, by go_num, (by rw [Q6p yh J1e]; exact (hS.pick [2, 3, 4, 5, 6, 7, 8, 9, 10, 11, 12, 13, 14, 15, 16, 17, 18, 19, 20, 21]))⟩
    case measure => simp [intOf]; omega
   have _f := hlt
   obtain rfl : i = ss.length := by omega
   rw [List.take_length] at hS
   go_upto_region 14 with fail
   refine RL hS ?_
   clear hS
   refine MV ?_
   refine MV ?_
   refine MF (v := .int .i64 (ss.length : Int)) (fun W hS => Q6m (hS.row (i := 5) rfl) (List.length_map _) rfl rfl Tryz.underlying58) ?_
   refine MW ?_ (v := .bool false) (hv := by intro W; go_simp; first | done | omega)
   refine MZ fun W hS => ?_
   go_upto_region 19 with fail
   refine RL hS ?_
   clear hS
   refine MV ?_
   refine MG 16 ?_ (v := (.slice A_8 ss.length c_8)) (hj := J6p)
   refine MV ?_
   refine MG 16 ?_ (v := .bool et) (hj := Q0l)
   refine MV ?_
   refine MV ?_
   refine Ml 16 Z4z ?_
   refine MV ?_
   refine MV ?_
   refine Ml 16 Y7o ?_
   refine MW ?_ (v := .agg (lf ea ex)) (hv := by intro W; first | rfl | kernel_rfl)
   refine MW ?_ (v := .agg (pfc (.slice A_8 ss.length c_8) et ea ex)) (hv := by intro W; first | rfl | kernel_rfl)
   refine MN (z := pfc (.slice none 0 0) false 0 0) (t := 66) ?_
   intro V67
   refine MR 0 ?_ (hz := by rw [J01]; kernel_rfl) (hs := by first | rw [J01, J01] | rw [J01] | kernel_rfl) (h1 := (Q48 rfl))
   refine MZ fun W hS => ?_
   rcases Y1d et (ea = hs4 (kTx L)) with rfl | ⟨rfl, hak⟩ | ⟨rfl, hak⟩
   ·
    have _f := True.intro
    obtain rfl : gb = false := by rw [Hgb.out.1]; rfl
    go_upto_region 20 with fail
    refine RL hS ?_
    clear hS
    refine MC (v := .bool true) (fun W hS => Q5b W (hS.pp (i := 7) rfl : GX W)) ?_
    refine MW ?_ (v := .bool false)
    refine MW ?_ (v := .bool false)
    refine MW ?_ (v := .int .i64 0)
    refine MW ?_ (v := .bool false)
    refine MW ?_ (v := .bool false)
    refine MW ?_ (v := .bool false)
    refine ML 0 ?_ (hs := by rw [J01]; kernel_rfl)
    refine ML 2 ?_ (hs := by rw [J01]; kernel_rfl)
    refine MC (v := .bool true) (fun W hS => Q7g (ss := ss) (th := false) (a := ea) (x := ex) (b := ea) (z := ex) (by omega) (fun _ => ⟨rfl, rfl⟩) hea hex W (hS.row (i := 11) rfl).rr (hS.row (i := 1) rfl).rr) ?_
    refine MW ?_ (v := .bool false)
    refine MW ?_ (v := .bool false)
    refine MW ?_ (v := .bool false)
    refine MW ?_ (v := .bool false)
    refine MW ?_ (v := .bool false)
    refine MW ?_ (v := .bool false)
    refine MS ?_
    refine MS ?_
    refine MS ?_
    refine MS ?_
    refine MW ?_ (v := .bool false)
    refine MW ?_ (v := .bool false) (hv := by intro W; go_simp; first | done | omega)
    refine MW ?_ (v := .bool false)
    refine MZ fun W hS => ?_
    go_upto_region 22 with fail
    refine RL hS ?_
    clear hS
    refine MW ?_ (v := .bool false)
    refine MW ?_ (v := .bool true)
    refine MW ?_ (v := .bool true)
    refine MS ?_
    refine MS ?_
    refine MS ?_
    refine MS ?_
    refine MW ?_ (v := .bool true)
    refine MW ?_ (v := .bool true)
    refine MZ fun W hS => ?_
    go_wp2
    exact bodyPost_ret (v := .bool true) (by simp only [results, Tryz.results4]; go_simp) rfl ⟨rfl, hS.ext⟩
   ·
    have _f := True.intro
    obtain rfl : gb = true := by rw [Hgb.out.1, decide_eq_true hak]; rfl
    have hgx := Hgb.out.2 rfl
    go_upto_region 20 with fail
    refine RL hS ?_
    clear hS
    refine MC (v := .bool true) (fun W hS => Q5b W (hS.pp (i := 7) rfl : GX W)) ?_
    refine MW ?_ (v := .bool false)
    refine MW ?_ (v := .bool false)
    refine MW ?_ (v := .int .i64 0)
    refine MW ?_ (v := .bool false)
    refine MW ?_ (v := .bool false)
    refine MW ?_ (v := .bool false)
    refine ML 0 ?_ (hs := by rw [J01]; kernel_rfl)
    refine ML 2 ?_ (hs := by rw [J01]; kernel_rfl)
    refine MC (v := .bool true) (fun W hS => Q7g (ss := ss) (th := true) (a := ea) (x := ex) (b := ea) (z := ex) (by omega) (fun _ => ⟨rfl, rfl⟩) hea hex W (hS.row (i := 11) rfl).rr (hS.row (i := 1) rfl).rr) ?_
    refine MW ?_ (v := .bool false)
    refine MW ?_ (v := .bool false)
    refine MW ?_ (v := .bool false)
    refine MW ?_ (v := .bool true)
    refine MW ?_ (v := .bool true)
    refine MW ?_ (v := .bool true)
    refine MV ?_
    refine Ml 5 J4i ?_
    refine ML 14 ?_
    refine MW ?_ (v := .bool true) (hv := fun _ => J3q ((fun w => Q9e hak w) _) (by kernel_rfl) rfl rfl rfl)
    refine MW ?_ (v := .bool true)
    refine MW ?_ (v := .bool false) (hv := by intro W; go_simp; first | done | omega)
    refine MW ?_ (v := .bool false)
    refine MZ fun W hS => ?_
    go_upto_region 22 with fail
    refine RL hS ?_
    clear hS
    refine MW ?_ (v := .bool true)
    refine MW ?_ (v := .bool false)
    refine MW ?_ (v := .bool false)
    refine ML 13 ?_
    refine MV ?_
    refine Ml 5 Z7q ?_
    refine MW ?_ (v := .bool true) (hv := fun _ => J3q ((fun w => Q9e hgx w) _) (by kernel_rfl) rfl rfl rfl)
    refine MW ?_ (v := .bool true)
    refine MW ?_ (v := .bool true)
    refine MZ fun W hS => ?_
    go_wp2
    exact bodyPost_ret (v := .bool true) (by simp only [results, Tryz.results4]; go_simp) rfl ⟨rfl, hS.ext⟩
   have _f := True.intro
   obtain rfl : gb = false := by rw [Hgb.out.1, decide_eq_false hak]; rfl
   go_upto_region 20 with fail
   refine RL hS ?_
   clear hS
   refine MC (v := .bool true) (fun W hS => Q5b W (hS.pp (i := 7) rfl : GX W)) ?_
   refine MW ?_ (v := .bool false)
   refine MW ?_ (v := .bool false)
   refine MW ?_ (v := .int .i64 0)
   refine MW ?_ (v := .bool false)
   refine MW ?_ (v := .bool false)
   refine MW ?_ (v := .bool false)
   refine ML 0 ?_ (hs := by rw [J01]; kernel_rfl)
   refine ML 2 ?_ (hs := by rw [J01]; kernel_rfl)
   refine MC (v := .bool true) (fun W hS => Q7g (ss := ss) (th := true) (a := ea) (x := ex) (b := ea) (z := ex) (by omega) (fun _ => ⟨rfl, rfl⟩) hea hex W (hS.row (i := 11) rfl).rr (hS.row (i := 1) rfl).rr) ?_
   refine MW ?_ (v := .bool false)
   refine MW ?_ (v := .bool false)
   refine MW ?_ (v := .bool false)
   refine MW ?_ (v := .bool false)
   refine MW ?_ (v := .bool true)
   refine MW ?_ (v := .bool true)
   refine MV ?_
   refine Ml 5 J4i ?_
   refine ML 14 ?_
   refine MW ?_ (v := .bool false) (hv := fun _ => J3q ((fun w => (J94 ea (hs4 (kTx L)) hea (J3n _) w).trans (by rw [decide_eq_false hak])) _) (by kernel_rfl) rfl rfl rfl)
   refine MW ?_ (v := .bool false)
   refine MW ?_ (v := .bool false) (hv := by intro W; go_simp; first | done | omega)
   refine MW ?_ (v := .bool false)
   refine MZ fun W hS => ?_
   go_upto_region 22 with fail
   refine RL hS ?_
   clear hS
   refine MW ?_ (v := .bool false)
   refine MW ?_ (v := .bool true)
   refine MW ?_ (v := .bool true)
   refine MS ?_
   refine MS ?_
   refine MS ?_
   refine MS ?_
   refine MW ?_ (v := .bool true)
   refine MW ?_ (v := .bool true)
   refine MZ fun W hS => ?_
   go_wp2
   exact bodyPost_ret (v := .bool true) (by simp only [results, Tryz.results4]; go_simp) rfl ⟨rfl, hS.ext⟩
 clear hK1
 replace hrest := Lib.hid hrest
 rcases Y1c ms.length J.length with hA | hA | hA
 ·
  have _f := True.intro
  have hA0 := hA.1
  have hJ2 := Lib.hid hA.2
  clear hA
  obtain ⟨y, yh⟩ : ∃ x, ms[0]? = some x := ⟨_, List.getElem?_eq_getElem hA0⟩
  obtain ⟨Aq, cq, eq_, _, HRq⟩ := RR.opf (hS.pp (i := 2) rfl : MbR _ ms _).1
  obtain ⟨gt, ot, A0t, _⟩ := HRq.out 0 y yh
  injection eq_ with eA e2_ e3_
  clear e2_ e3_
  rw [← eA] at A0t
  have HAt := Lib.hid A0t
  clear A0t HRq eA
  have hyl : y.id.length ≤ 20 := hmi y (List.mem_of_getElem? yh)
  refine RL hS ?_
  clear hS
  refine MV ?_
  refine MV ?_
  refine MW ?_ (v := .bool true) (hv := by intro W; go_simp; first | done | omega)
  refine MW ?_ (v := .bool true)
  refine MV ?_
  refine MF (v := .int .i64 (J.length : Int)) (fun W hS => J12 (hS.sl (i := 0) rfl) rfl rfl) ?_
  refine MW ?_ (v := .int .i64 0) (hv := by intro W; go_simp; exact tm2 (r := 0) (by have h_ := hJ2.out; omega))
  refine MW ?_ (v := .bool true) (hv := by intro W; go_simp; first | done | omega)
  refine MW ?_ (v := .bool true)
  refine MZ fun W hS => ?_
  go_upto_region 4 with fail
  refine RL hS ?_
  clear hS
  refine MV ?_
  refine MW ?_ (v := .pointer (some ⟨gt, ot + 0 * 35, none⟩)) (hv := fun _ => V0 HAt.out hA0 rfl rfl rfl Tryz.underlying30 (by kernel_rfl))
  refine MW ?_ (v := .pointer (some ⟨gt, ot + 0 * 35, none⟩))
  refine MF (v := y.u) (fun W hS => V2 rfl rfl ((Q5a (hS.pp (i := 2) rfl : MbR _ ms W).1 yh HAt.out) 0 y.u (show (agF [.c y.u, .c (.bool y.gone), .c (.int .i64 y.ep), .a 32 y.link])[0]? = some y.u from (J00 (off := 0) 0))) (by kernel_rfl)) ?_
  refine MV ?_
  refine MZ fun W hS => ?_
  have hS := hS.partP (i := 2) (u := y.u) (l := y.id) rfl ((hS.pp (i := 2) rfl : MbR _ ms _).2 y (List.mem_of_getElem? yh)).1 (fun k hk => List.mem_append.2 (.inr (List.mem_flatMap.2 ⟨y, List.mem_of_getElem? yh, by rw [hk]; simp⟩)))
  go_wp2_with fail
  exact hrest.out _ _ ⟨y.u, y.id, _, _, _, _, _, _, _, _, _, _, _, by omega, rfl, hS.pick [0, 3, 2, 4, 5]⟩
 ·
  have _f := True.intro
  refine RL hS ?_
  clear hS
  refine MV ?_
  refine MV ?_
  refine MW ?_ (v := .bool false) (hv := by intro W; go_simp; first | done | omega)
  refine MW ?_ (v := .bool false)
  refine MS ?_
  refine MS ?_
  refine MS ?_
  refine MS ?_
  refine MW ?_ (v := .bool false)
  refine MZ fun W hS => ?_
  go_wp2_with fail
  exact hrest.out _ _ ⟨Q6r, J, _, _, _, _, _, _, _, _, _, _, _, by omega, rfl, hS.pick [0, 2, 1, 3, 4]⟩
 have _f := True.intro
 have hA0 := hA.1
 have hJ2 := Lib.hid hA.2
 clear hA
 refine RL hS ?_
 clear hS
 refine MV ?_
 refine MV ?_
 refine MW ?_ (v := .bool true) (hv := by intro W; go_simp; first | done | omega)
 refine MW ?_ (v := .bool true)
 refine MV ?_
 refine MF (v := .int .i64 (J.length : Int)) (fun W hS => J12 (hS.sl (i := 0) rfl) rfl rfl) ?_
 refine MW ?_ (v := .int .i64 1) (hv := by intro W; go_simp; exact tm2 (r := 1) (by have h_ := hJ2.out; omega))
 refine MW ?_ (v := .bool false) (hv := by intro W; go_simp; first | done | omega)
 refine MW ?_ (v := .bool false)
 refine MZ fun W hS => ?_
 go_wp2_with fail
 exact hrest.out _ _ ⟨Q6r, J, _, _, _, _, _, _, _, _, _, _, _, by omega, rfl, hS.pick [0, 2, 1, 3, 4]⟩
end Go.Proofs.YtejkmhgkkibafaaGreatDoor

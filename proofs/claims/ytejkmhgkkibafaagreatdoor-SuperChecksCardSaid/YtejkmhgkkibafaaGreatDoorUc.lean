/- super: a log's entries; New, Seal, Public, Epochs, Check. Conditions: the tables hold their numbers; no more than a million epochs. -/
import Derived.Test.YtejkmhgkkibafaaGreatDoorJ33
import Derived.Test.YtejkmhgkkibafaaGreatDoorJ30
set_option linter.unusedSimpArgs false
set_option linter.unusedVariables false
namespace Go.Proofs.YtejkmhgkkibafaaGreatDoor
set_option maxHeartbeats 3000000
set_option maxRecDepth 100000
open Go.RowKit
attribute [local irreducible] wpList J01 wpX
open S8 (Kn GA kP sig vfy)
def eS (l : List UInt8) : Nat := hs4 ([0] ++ l)
structure Sg where
 ep : Int
 ro : Nat
 sig : Nat
abbrev sgF (x : Sg) : Array Value := agF [.c (.int .i64 x.ep), .a 32 x.ro, .a 64 x.sig]
def sgC (x : Sg) : List Value := fcs [.c (.int .i64 x.ep), .a 32 x.ro, .a 64 x.sig]
abbrev suF (S : Nat) (vt vl vs : Value) : Array Value := agF [.a 32 S, .c vt, .c vl, .c vs]
abbrev nSl : Value := .slice none 0 0
abbrev suL (p S : Nat) (T : TR) (xs : List Sg) (us : List Nat) (vt vl vs : Value) : List As := [.b p (suF S vt vl vs) 107, .r 47 97 vl (xs.map sgC), .r 23 32 vs (us.map J0m), .t 151 (fun W => TA W T vt)]
def SuR (F : List Nat) (val : Value) (p S : Nat) (T : TR) (xs : List Sg) (us : List Nat) (R : List As) (w w' : World) (e : Ending) : Prop := ∃ y : Value × Value × Value, e = .returned val ∧ SH F w w' (suL p S T xs us y.1 y.2.1 y.2.2 ++ R)
def sgN (S : Nat) (T : TR) (n : Nat) : Sg := ⟨(n : Int), rs T, sig S (sTx (n : Int) (rs T))⟩
theorem Q1o (xs : List Sg) (S : Nat) (T : TR) (n : Nat) : List.map sgC xs ++ [sgC ⟨(n : Int), rs T, sig S (sTx (n : Int) (rs T))⟩] = List.map sgC (xs ++ [sgN S T n]) := by rw [List.map_append]; rfl
def V2u (ms : List Mb) : List Nat := ms.flatMap fun y => (sb y.u y.id).toList
def MbR (v : Value) (ms : List Mb) (W : World) : Prop := RR 35 W v (ms.map mbC) ∧ mbK ms W
abbrev mbT (v : Value) (ms : List Mb) : As := .p (fbR v (ms.map mbC) ++ V2u ms) (MbR v ms)
theorem Z4s {ms : List Mb} {w : World} (h : mbK ms w) : (As.p (V2u ms) (mbK ms)).holds w := by
 refine ⟨h, fun k hk => ?_, fun W' _ e y hy => ?_⟩
 ·
  obtain ⟨y, hy, h1⟩ := List.mem_flatMap.1 hk
  exact Sl.lt (h y hy).1 k (As.mem_toList h1)
 exact ⟨Z13 (h y hy).1 fun b hb => e b (List.mem_flatMap.2 ⟨y, hy, by rw [hb]; simp⟩), (h y hy).2⟩
theorem Q4m {v : Value} {ms : List Mb} {w : World} (h : MbR v ms w) : (mbT v ms).holds w := by
 have h1 := RR.pholds (by decide) Q6h h.1
 have h2 := Z4s h.2
 exact ⟨h, fun k hk => (List.mem_append.1 hk).elim (h1.2.1 k) (h2.2.1 k), fun W' hs e => ⟨h1.2.2 W' hs fun k hk => e k (List.mem_append.2 (.inl hk)), h2.2.2 W' hs fun k hk => e k (List.mem_append.2 (.inr hk))⟩⟩
attribute [local irreducible] eI be8 hs4 lb kTx vTx sTx rs ofT sE sL sN S8.sig S8.vfy S8.kP S8.kN S8.kD

theorem Q12 : zer Tryz.prog 107 = some (some (agF [.a 32 0, .c (.pointer none), .c (.slice none 0 0), .c (.slice none 0 0)])) := by kernel_rfl
theorem Q13 : plc Tryz.prog 107 = some [(0, 32), (32, 1), (33, 1), (34, 1)] := by kernel_rfl
theorem J6b : zer Tryz.prog 47 = some (some (agF [.c (.int .i64 0), .a 32 0, .a 64 0])) := by kernel_rfl
theorem J6c : plc Tryz.prog 47 = some [(0, 1), (1, 32), (33, 64)] := by kernel_rfl
theorem Z05 {q : Prop} {v : Value} {l : List UInt8} (w : World) (hG : GT q w) (hid : Sl w v l) (hl : l.length ≤ 100000000) :
  Calls Tryz.prog 73 #[v] w fun e w' => K6 (.agg (J0 .u8 32 (Q3 (eS l)))) w w' e := by
 have hS := SH.nil [] w
 go_enter Tryz.func73, Tryz.ntmps73
 go_upto_region 0 with fail
 refine RL hS ?_
 clear hS
 refine MN (z := J0 .u8 32 (Q3 0)) (t := 23) ?_
 intro N
 refine MZ fun W hS => ?_
 go_upto_region 1 with fail
 refine RL hS ?_
 clear hS
 refine MO (m := [0]) (n := 1) (z := #[.int .u8 0]) ?_
 intro D
 refine MV ?_
 refine MB (z := #[D, v]) (t := 22) (n := 2) (c := 2) ?_ (hr := fun W hS => J2s [D, v] rfl rfl (vsc (K9 (hS.osl (i := 0) rfl)).1 (vsc (K9 (J5t hid hS.ext)).1 vs0)) Tryz.underlying113 (by kernel_rfl) (by kernel_rfl) rfl (by decide) (by decide))
 intro M
 obtain ⟨U1, J⟩ := V0 (hs4 ([0] ++ l))
 have G := Lib.hid J
 clear J
 refine MC (v := .agg (J0 .u8 32 (Q3 U1))) (fun W hS => J5k G.out [[0], l] (some ⟨M, 0, none⟩) 2 (by simp only [List.flatten_cons, List.flatten_nil, List.append_nil, List.nil_append, List.append_assoc, List.cons_append]) (by first | omega | (simp only [lA, lM, lT, lD, lC, lN, Q1, U0, V9, V7]; omega)) (by simp) W (J26 (hS.blk (i := 0) rfl) (pvc (hS.osl (i := 1) rfl) (pvc (J5t hid hS.ext) pv0))) (J2j hG.1 hS.ext)) ?_
 refine MR 2 ?_ 
 refine MZ fun W hS => ?_
 have e_ := G.out
 subst e_
 go_wp2
 exact bodyPost_ret (Y3 rfl rfl (hS.blk (i := 2) rfl) (by kernel_rfl) (by rw [J2]; kernel_rfl)) rfl ⟨rfl, hS.ext⟩
theorem J9z {p S : Nat} {vt vl vs u : Value} {us : List Nat} {l : List UInt8} (hn : us.length ≤ 1000000) (hl : l.length ≤ 100000000) (w : World) (h_ : SH (SH.feet [.b p (suF S vt vl vs) 107, .r 23 32 vs (us.map J0m), .s u l, gx]) w w [.b p (suF S vt vl vs) 107, .r 23 32 vs (us.map J0m), .s u l, gx]) :
  Calls Tryz.prog 53 #[.pointer (some ⟨p, 34, none⟩), u] w fun e w' => ∃ x, e = .returned (.int .i64 (us.length : Int)) ∧ SH (SH.feet [.b p (suF S vt vl vs) 107, .r 23 32 vs (us.map J0m), .s u l, gx]) w w' [.b p (suF S vt vl x) 107, .r 23 32 x ((us ++ [eS l]).map J0m), .s u l, gx] := by
 have hS := h_
 clear h_
 have T := (Row.cells (hS.row (i := 1) rfl)).2
 go_enter Tryz.func53, Tryz.ntmps53
 go_upto_region 3 with fail
 refine RTp [2, 3] (.q 0 (.q 1 (.q 2 (.q 3 (.q 5 (.b 4 (.e 6 (.e 7 (.e 8 (.q 9 (.q 10 (.e 11 .z)))))) 6 (.b 4 (.e 7 (.e 8 (.q 9 (.q 10 (.e 11 .z))))) 7 (.e 4 (.e 8 (.q 9 (.q 10 (.e 11 .z)))))))))))) hS ?_
 clear hS
 refine TV ?_
 refine TV ?_
 refine TV ?_
 refine TV ?_
 refine TV ?_
 refine TB (fun _ h => h.pick [2, 3]) ?_ ?_
 ·
  refine MG 0 ?_ (v := vs) (hj := (Y7 (off := 34) 3))
  refine TNp [2, 3] [0, 1] ?_
  refine TE (fun _ h => h.pick [2, 3]) ?_
  refine MC (v := .agg (J0 .u8 32 (Q3 (eS l)))) (fun W hS => Z05 W (hS.pp (i := 3) rfl : GX W).gt (hS.sl (i := 2) rfl) (by first | omega | (simp only [lA, lM, lT, lD, lC, lN, Q1, U0, V9, V7]; omega))) ?_
  refine TNp [2, 3] [0, 1] ?_
  refine TE (fun _ h => h.pick [2, 3]) ?_
  refine MB (z := (J0 .u8 32 (Q3 (eS l)))) (t := 23) (n := 1) (c := 1) ?_ (hr := fun W _ => J34 rfl rfl rfl Tryz.underlying49 (by rw [J2]; kernel_rfl) (by rw [J2]; kernel_rfl) (by rw [J2]; decide) (by rw [J2]; decide))
  intro X
  refine TNp [0, 3, 4] [1, 2] ?_
  refine TE (fun _ h => h.pick [0, 3, 4]) ?_
  refine MAr 2 0 (tS := 49) (bytes := 32) (es := (List.map J0m us)) (by first | omega | (simp only [lA, lM, lT, lD, lC, lN, Q1, U0, V9, V7]; omega)) (e := J0m (eS l)) (hk := J2 _ _ _) (h1 := by exact Z0 _ _ _) ?_
  intro G
  refine TNp [0, 2, 3, 4] [0, 2, 3] ?_
  refine TV ?_
  refine TV ?_
  refine TE (fun _ h => h.pick [0, 2, 3, 4]) ?_
  refine J7f (fun W hS => (Row.cells (hS.row (i := 2) rfl)).2) ?_
  intro R
  refine MP 1 (v := G) (cs' := agF [.a 32 S, .c vt, .c vl, .c G]) ?_ (hs := by rw [J5]; exact Nat.le_of_ble_eq_true (by kernel_rfl)) (hc := J2z (off := 34) 3) (hv := fun W hS => Row.cells (hS.row (i := 2) rfl))
  refine TNp [0, 2, 3, 4] [0, 1, 2, 3] ?_
  refine TZ (fun _ h => h.pick [0, 2, 3, 4]) fun W hS => ?_
  go_upto_region 4 with fail
  refine RL hS ?_
  clear hS
  refine MV ?_
  refine MV ?_
  refine MV ?_
  refine MG 1 ?_ (v := G) (hj := (Y7 (off := 34) 3))
  refine MF (v := .int .i64 (((List.map J0m us) ++ [J0m (eS l)]).length : Int)) (fun W hS => J1d (hS.row (i := 2) rfl) rfl rfl Tryz.underlying49) ?_
  refine MW ?_ (v := .int .i64 (us.length : Int)) (hv := by intro W; rw [List.length_append, List.length_map]; go_simp; (try simp only [IntKind.wrap_i64]); omega)
  refine MV ?_
  refine MZ fun W hS => ?_
  go_wp2
  exact bodyPost_ret (v := .int .i64 (us.length : Int)) (by simp only [results, Tryz.results53]; go_simp) rfl ⟨_, rfl, by rw [List.map_append]; exact hS.pick [1, 2, 3, 4]⟩
 refine MC (v := .agg (J0 .u8 32 (Q3 (eS l)))) (fun W hS => Z05 W (hS.pp (i := 3) rfl : GX W).gt (hS.sl (i := 2) rfl) (by first | omega | (simp only [lA, lM, lT, lD, lC, lN, Q1, U0, V9, V7]; omega))) ?_
 refine TNp [2, 3] [0, 1] ?_
 refine TB (fun _ h => h.pick [2, 3]) ?_ ?_
 ·
  refine MG 0 ?_ (v := vs) (hj := (Y7 (off := 34) 3))
  refine TNp [2, 3] [0, 1] ?_
  refine TE (fun _ h => h.pick [2, 3]) ?_
  refine MB (z := (J0 .u8 32 (Q3 (eS l)))) (t := 23) (n := 1) (c := 1) ?_ (hr := fun W _ => J34 rfl rfl rfl Tryz.underlying49 (by rw [J2]; kernel_rfl) (by rw [J2]; kernel_rfl) (by rw [J2]; decide) (by rw [J2]; decide))
  intro V
  refine TNp [0, 3, 4] [1, 2] ?_
  refine TE (fun _ h => h.pick [0, 3, 4]) ?_
  refine MAr 2 0 (tS := 49) (bytes := 32) (es := (List.map J0m us)) (by first | omega | (simp only [lA, lM, lT, lD, lC, lN, Q1, U0, V9, V7]; omega)) (e := J0m (eS l)) (hk := J2 _ _ _) (h1 := by exact Z0 _ _ _) ?_
  intro D
  refine TNp [0, 2, 3, 4] [0, 2, 3] ?_
  refine TV ?_
  refine TV ?_
  refine TE (fun _ h => h.pick [0, 2, 3, 4]) ?_
  refine J7f (fun W hS => (Row.cells (hS.row (i := 2) rfl)).2) ?_
  intro N
  refine MP 1 (v := D) (cs' := agF [.a 32 S, .c vt, .c vl, .c D]) ?_ (hs := by rw [J5]; exact Nat.le_of_ble_eq_true (by kernel_rfl)) (hc := J2z (off := 34) 3) (hv := fun W hS => Row.cells (hS.row (i := 2) rfl))
  refine TNp [0, 2, 3, 4] [0, 1, 2, 3] ?_
  refine TZ (fun _ h => h.pick [0, 2, 3, 4]) fun W hS => ?_
  go_upto_region 4 with fail
  refine RL hS ?_
  clear hS
  refine MV ?_
  refine MV ?_
  refine MV ?_
  refine MG 1 ?_ (v := D) (hj := (Y7 (off := 34) 3))
  refine MF (v := .int .i64 (((List.map J0m us) ++ [J0m (eS l)]).length : Int)) (fun W hS => J1d (hS.row (i := 2) rfl) rfl rfl Tryz.underlying49) ?_
  refine MW ?_ (v := .int .i64 (us.length : Int)) (hv := by intro W; rw [List.length_append, List.length_map]; go_simp; (try simp only [IntKind.wrap_i64]); omega)
  refine MV ?_
  refine MZ fun W hS => ?_
  go_wp2
  exact bodyPost_ret (v := .int .i64 (us.length : Int)) (by simp only [results, Tryz.results53]; go_simp) rfl ⟨_, rfl, by rw [List.map_append]; exact hS.pick [1, 2, 3, 4]⟩
 refine MB (z := (J0 .u8 32 (Q3 (eS l)))) (t := 23) (n := 1) (c := 1) ?_ (hr := fun W _ => J34 rfl rfl rfl Tryz.underlying49 (by rw [J2]; kernel_rfl) (by rw [J2]; kernel_rfl) (by rw [J2]; decide) (by rw [J2]; decide))
 intro U
 refine TNp [0, 3, 4] [1, 2] ?_
 refine TE (fun _ h => h.pick [0, 3, 4]) ?_
 refine MG 1 ?_ (v := vs) (hj := (Y7 (off := 34) 3))
 refine TNp [0, 3, 4] [0, 1, 2] ?_
 refine TE (fun _ h => h.pick [0, 3, 4]) ?_
 refine MAr 2 0 (tS := 49) (bytes := 32) (es := (List.map J0m us)) (by first | omega | (simp only [lA, lM, lT, lD, lC, lN, Q1, U0, V9, V7]; omega)) (e := J0m (eS l)) (hk := J2 _ _ _) (h1 := by exact Z0 _ _ _) ?_
 intro J
 refine TNp [0, 2, 3, 4] [0, 2, 3] ?_
 refine TV ?_
 refine TV ?_
 refine TE (fun _ h => h.pick [0, 2, 3, 4]) ?_
 refine J7f (fun W hS => (Row.cells (hS.row (i := 2) rfl)).2) ?_
 intro M
 refine MP 1 (v := J) (cs' := agF [.a 32 S, .c vt, .c vl, .c J]) ?_ (hs := by rw [J5]; exact Nat.le_of_ble_eq_true (by kernel_rfl)) (hc := J2z (off := 34) 3) (hv := fun W hS => Row.cells (hS.row (i := 2) rfl))
 refine TNp [0, 2, 3, 4] [0, 1, 2, 3] ?_
 refine TZ (fun _ h => h.pick [0, 2, 3, 4]) fun W hS => ?_
 go_upto_region 4 with fail
 refine RL hS ?_
 clear hS
 refine MV ?_
 refine MV ?_
 refine MV ?_
 refine MG 1 ?_ (v := J) (hj := (Y7 (off := 34) 3))
 refine MF (v := .int .i64 (((List.map J0m us) ++ [J0m (eS l)]).length : Int)) (fun W hS => J1d (hS.row (i := 2) rfl) rfl rfl Tryz.underlying49) ?_
 refine MW ?_ (v := .int .i64 (us.length : Int)) (hv := by intro W; rw [List.length_append, List.length_map]; go_simp; (try simp only [IntKind.wrap_i64]); omega)
 refine MV ?_
 refine MZ fun W hS => ?_
 go_wp2
 exact bodyPost_ret (v := .int .i64 (us.length : Int)) (by simp only [results, Tryz.results53]; go_simp) rfl ⟨_, rfl, by rw [List.map_append]; exact hS.pick [1, 2, 3, 4]⟩
theorem Z2j (S : Nat) (w : World) :
  Calls Tryz.prog 19 #[.agg (J0 .u8 32 (Q3 S))] w fun e w' => ∃ p, e = .returned (.pointer (some ⟨p, 0, none⟩)) ∧ SH [] w w' [.b p (suF S nlp nSl nSl) 107] := by
 have hS := SH.nil [] w
 go_enter Tryz.func19, Tryz.ntmps19
 go_upto_region 0 with fail
 refine RL hS ?_
 clear hS
 refine MN (z := J0 .u8 32 (Q3 S)) (t := 23) ?_
 intro G
 refine MV ?_
 refine MZ fun W hS => ?_
 go_upto_region 1 with fail
 refine RL hS ?_
 clear hS
 refine ML 0 ?_
 refine MF (v := .agg (agF [.a 32 S, .c (.pointer none), .c (.slice none 0 0), .c (.slice none 0 0)])) (fun W hS => J2u rfl rfl Q12 Q13 (J17 J40 (l' := [.a 32 S, .c (.pointer none), .c (.slice none 0 0), .c (.slice none 0 0)]) (m := [.a 32 S]) (hv := (J9f _ _).symm) (hs := J05 (off := 0) 0 1) (hp := rfl) (hn := rfl) (hb := by show 0 + 32 ≤ 35; decide))) ?_
 refine MN (z := agF [.a 32 S, .c (.pointer none), .c (.slice none 0 0), .c (.slice none 0 0)]) (t := 107) ?_
 intro D
 refine MV ?_
 refine MZ fun W hS => ?_
 go_wp2
 exact bodyPost_ret (v := .pointer (some ⟨D, 0, none⟩)) (by simp only [results, Tryz.results19]; go_simp) rfl ⟨_, rfl, hS.pick [0]⟩
theorem Z4t {p S : Nat} {vt vl vs : Value} (w : World) (hb : Blk w p (suF S vt vl vs) 107) (hX : GX w) :
  Calls Tryz.prog 34 #[.pointer (some ⟨p, 0, none⟩)] w fun e w' => K6 (.agg (J0 .u8 32 (Q3 (kP S)))) w w' e := by
 have hS := SH.nil [] w
 go_enter Tryz.func34, Tryz.ntmps34
 go_upto_region 0 with fail
 refine RL hS ?_
 clear hS
 refine MN (z := J0 .u8 32 (Q3 0)) (t := 23) ?_
 intro T
 refine MZ fun W hS => ?_
 go_upto_region 3 with fail
 refine RL hS ?_
 clear hS
 refine MV ?_
 refine MV ?_
 refine MV ?_
 refine MF (v := .agg (J0 .u8 32 (Q3 S))) (fun W hS => J1r rfl rfl (fun i v hv => by rw [Q0 (J1 hb hS.ext)]; exact (J1n (off := 0) 0) i v hv) (by kernel_rfl) (by first | kernel_rfl | (rw [J2]; kernel_rfl))) ?_
 obtain ⟨U1, N⟩ := V0 (S8.kN S)
 have M := Lib.hid N
 clear N
 obtain ⟨U2, R⟩ := V0 (S8.kD S)
 have G := Lib.hid R
 clear R
 obtain ⟨U3, D⟩ := V0 (kP S)
 have J := Lib.hid D
 clear D
 refine MC (v := .agg (S8.s3 U1 U2 U3)) (fun W hS => S8.spreadN_c (kn := kn0) trivial trivial M.out G.out J.out W (GX.ext hX hS.ext).2) ?_
 refine MW ?_ (v := .agg (J0 .u8 32 (Q3 U3))) (hv := by intro W; kernel_rfl)
 refine MR 0 ?_ 
 refine MZ fun W hS => ?_
 have e_ := M.out
 subst e_
 have e_ := G.out
 subst e_
 have e_ := J.out
 subst e_
 go_wp2
 exact bodyPost_ret (Y3 rfl rfl (hS.blk (i := 0) rfl) (by kernel_rfl) (by rw [J2]; kernel_rfl)) rfl ⟨rfl, hS.ext⟩
theorem Z4u {p S : Nat} {vt vs : Value} {A : Option Addr} {n c : Nat} (w : World) (hb : Blk w p (suF S vt (.slice A n c) vs) 107) :
  Calls Tryz.prog 35 #[.pointer (some ⟨p, 0, none⟩)] w fun e w' => K6 (.int .i64 (n : Int)) w w' e := by
 have hS := SH.nil [] w
 go_enter Tryz.func35, Tryz.ntmps35
 go_upto_region 3 with fail
 refine RL hS ?_
 clear hS
 refine MV ?_
 refine MV ?_
 refine MV ?_
 refine MF (v := (.slice A n c)) (fun W hS => J04 rfl rfl (by rw [Q0 (J1 hb hS.ext)]; exact (Y7 (off := 33) 2)) (by kernel_rfl)) ?_
 refine MW ?_ (v := .int .i64 (n : Int)) (hv := by intro W; exact Q2i rfl rfl Tryz.underlying88)
 refine MV ?_
 refine MZ fun W hS => ?_
 go_wp2
 exact bodyPost_ret (v := .int .i64 (n : Int)) (by simp only [results, Tryz.results35]; go_simp) rfl ⟨rfl, hS.ext⟩
theorem Q8m {V : Nat} {x : Sg} (hV : V < 2 ^ 256) (hx : x.sig < 2 ^ (256 + 256)) (w : World) (hX : GX w) :
  Calls Tryz.prog 26 #[.agg (J0 .u8 32 (Q3 V)), .agg (sgF x)] w fun e w' => K6 (.int .i64 ((vfy V (sTx x.ep x.ro) x.sig : Nat) : Int)) w w' e := by
 have hS := SH.nil [] w
 go_enter Tryz.func26, Tryz.ntmps26
 go_upto_region 0 with fail
 refine RL hS ?_
 clear hS
 refine MN (z := J0 .u8 32 (Q3 V)) (t := 23) ?_
 intro M
 refine MN (z := agF [.c (.int .i64 x.ep), .a 32 x.ro, .a 64 x.sig]) (t := 47) ?_
 intro N
 refine MW ?_ (v := .int .i64 0)
 refine MZ fun W hS => ?_
 go_upto_region 1 with fail
 refine RTh (.q 0 (.q 1 (.q 2 (.q 3 (.q 4 (.q 6 (.q 7 (.e 5 (.e 8 (.q 9 .z)))))))))) hS ?_
 clear hS
 refine TL 1 ?_
 refine TV ?_
 refine TG 0 ?_ (v := .int .i64 x.ep) (hj := (Y7 (off := 0) 0))
 refine TV ?_
 refine Tk 0 ?_ (sub := J0 .u8 32 (Q3 x.ro)) (hs := (J1n (off := 1) 1))
 refine TV ?_
 refine Tk 0 ?_ (sub := J0 .u8 64 (Q3 x.sig)) (hs := (J1n (off := 33) 2))
 refine TE (fun _ h => h) ?_
 refine ME (V := fun v => v) (fun W hS => J5i hS (Q1n x.ep x.ro W) (fun _ => ⟨rfl, rfl⟩)) ?_
 intro J
 refine TNh (fun W hS => hS.pick [1, 2]) ?_
 refine TE (fun _ h => h) ?_
 obtain ⟨U1, G⟩ := V0 (vfy V (sTx x.ep x.ro) x.sig)
 have D := Lib.hid G
 clear G
 refine MC (v := .int .i64 (U1 : Int)) (fun W hS => S8.verifyN_c (kn := kn0) trivial trivial trivial D.out hV hx J [] (by first | omega | (simp only [lA, lM, lT, lD, lC, lN, Q1, U0, V9, V7]; omega)) W (GX.ext hX hS.ext).2 (hS.osl (i := 0) rfl)) ?_
 refine TNh (fun W hS => hS) ?_
 refine TV ?_
 refine TZ (fun _ h => h) fun W hS => ?_
 go_wp2
 exact bodyPost_ret (v := .int .i64 (U1 : Int)) (by simp only [results, Tryz.results26]; go_simp) rfl ⟨(by (try rw [D.out]); first | done | rfl), hS.ext⟩
theorem Z2k {p S : Nat} {T : TR} {xs : List Sg} {us : List Nat} {vt vl vs v : Value} {ms : List Mb} (hn : ms.length ≤ 1000) (hx : xs.length ≤ 1000000) (hu : us.length ≤ 1000000) (w : World) (h_ : SH (SH.feet (suL p S T xs us vt vl vs ++ [gx, mbT v ms])) w w (suL p S T xs us vt vl vs ++ [gx, mbT v ms])) :
  Calls Tryz.prog 20 #[.pointer (some ⟨p, 0, none⟩), v] w fun e w' => SuR (SH.feet (suL p S T xs us vt vl vs ++ [gx, mbT v ms])) (.agg (sgF (sgN S (ovT ms) xs.length))) p S (ovT ms) (xs ++ [sgN S (ovT ms) xs.length]) (us ++ [eS (sTx (xs.length : Int) (rs (ovT ms)))]) [gx, mbT v ms] w w' e := by
 have hS : SH _ w w [.b p (suF S vt vl vs) 107, .r 47 97 vl (xs.map sgC), .r 23 32 vs (us.map J0m), .t 151 (fun W => TA W T vt), gx, mbT v ms] := h_
 clear h_
 obtain ⟨Al, cl, rfl⟩ := Row.form (hS.row (i := 1) rfl)
 have θ := (Row.cells (hS.row (i := 2) rfl)).2
 have η := TA.one (hS.tt (i := 3) rfl)
 go_enter Tryz.func20, Tryz.ntmps20
 go_upto_region 0 with fail
 refine RL hS ?_
 clear hS
 refine MN (z := agF [.c (.int .i64 0), .a 32 0, .a 64 0]) (t := 47) ?_
 intro μ
 refine MZ fun W hS => ?_
 go_upto_region 3 with fail
 refine RL hS ?_
 clear hS
 refine MV ?_
 refine MV ?_
 refine ME (fun W hS => J4k (T := (ovT ms)) hS (Y9h hn W (hS.pp (i := 5) rfl : GX W).gt (hS.pp (i := 6) rfl : MbR v ms W).1 (hS.pp (i := 6) rfl : MbR v ms W).2) rfl) ?_
 intro D
 refine MV ?_
 refine MV ?_
 refine MP 2 (v := D) (cs' := agF [.a 32 S, .c D, .c (.slice Al xs.length cl), .c vs]) ?_ (hs := by rw [J5]; exact Nat.le_of_ble_eq_true (by kernel_rfl)) (hc := J2z (off := 32) 1) (hv := fun W hS => TA.one (hS.tt (i := 0) rfl))
 refine MZ fun W hS => ?_
 go_upto_region 4 with fail
 refine RTh (.q 0 (.q 1 (.q 2 (.q 3 (.q 4 (.q 5 (.q 6 (.q 7 (.q 8 (.b 9 (.q 10 (.e 11 (.e 12 .z))) 11 (.e 9 (.q 10 (.e 12 .z))))))))))))) hS ?_
 clear hS
 refine TV ?_
 refine TV ?_
 refine TV ?_
 refine TG 2 ?_ (v := (.slice Al xs.length cl)) (hj := (Y7 (off := 33) 2))
 refine TW ?_ (v := .int .i64 (xs.length : Int)) (hv := by intro W; exact Q2i rfl rfl Tryz.underlying88)
 refine TV ?_
 refine TV ?_
 refine TV ?_
 refine TG 2 ?_ (v := D) (hj := (Y7 (off := 32) 1))
 refine TB (fun _ h => h) ?_ ?_
 ·
  refine MC (v := .agg (J0 .u8 32 (Q3 (rs (ovT ms))))) (fun W hS => Q6d W (hS.pp (i := 6) rfl : GX W).gt (hS.tt (i := 0) rfl)) ?_
  refine TNh (fun W hS => hS) ?_
  refine TF (v := .agg (agF [.c (.int .i64 (xs.length : Int)), .a 32 (rs (ovT ms)), .a 64 0])) rfl (fun W hS => J2u rfl rfl J6b J6c (J17 (J17 J40 (l' := [.c (.int .i64 (xs.length : Int)), .a 32 (rs (ovT ms)), .a 64 0]) (m := [.a 32 (rs (ovT ms))]) (hv := (J9f _ _).symm) (hs := J05 (off := 1) 1 1) (hp := rfl) (hn := rfl) (hb := by show 1 + 32 ≤ 97; decide)) (l' := [.c (.int .i64 (xs.length : Int)), .a 32 0, .a 64 0]) (m := [.c (.int .i64 (xs.length : Int))]) (hv := rfl) (hs := J05 (off := 0) 0 1) (hp := rfl) (hn := rfl) (hb := by show 0 + 1 ≤ 97; decide))) ?_
  refine TE (fun _ h => h) ?_
  refine MN (z := agF [.c (.int .i64 0), .a 32 0, .a 64 0]) (t := 47) ?_
  intro ν
  refine TNp [1, 2, 3, 4, 5, 6, 7, 8] [0, 1, 2, 3, 4, 5, 6, 7] ?_
  refine TE (fun _ h => h.pick [1, 2, 3, 4, 5, 6, 7, 8]) ?_
  refine MR 0 ?_ (hz := by rw [J5]; kernel_rfl) (hs := by first | (rw [J5, J5]; simp only [J3j, J3i, J3h]; done) | (rw [J5, J5]; rfl) | rfl) (h1 := by exact (J0h ⟨rfl, trivial⟩))
  refine TNp [1, 2, 3, 4, 5, 6, 7, 8] [0, 1, 2, 3, 4, 5, 6, 7] ?_
  refine TZ (fun _ h => h.pick [1, 2, 3, 4, 5, 6, 7, 8]) fun W hS => ?_
  go_upto_region 5 with fail
  refine RL hS ?_
  clear hS
  refine MV ?_
  refine MG 0 ?_ (v := .int .i64 (xs.length : Int)) (hj := (Y7 (off := 0) 0))
  refine MV ?_
  refine Mk 0 ?_ (sub := J0 .u8 32 (Q3 (rs (ovT ms)))) (hs := (J1n (off := 1) 1))
  refine ME (V := fun v => v) (fun W hS => J5i hS (Q1n (xs.length : Int) (rs (ovT ms)) W) (fun _ => ⟨rfl, rfl⟩)) ?_
  intro ε
  refine MV ?_
  refine MZ fun W hS => ?_
  go_upto_region 6 with fail
  refine RL hS ?_
  clear hS
  refine MV ?_
  refine MV ?_
  refine MV ?_
  refine Mk 4 ?_ (sub := J0 .u8 32 (Q3 S)) (hs := (J1n (off := 0) 0))
  refine MV ?_
  obtain ⟨U1, J⟩ := V0 (sig S (sTx (xs.length : Int) (rs (ovT ms))))
  have G := Lib.hid J
  clear J
  refine MC (v := .agg (J0 .u8 64 (Q3 U1))) (fun W hS => S8.signN_c (kn := kn0) trivial trivial G.out ε [] (by first | omega | (simp only [lA, lM, lT, lD, lC, lN, Q1, U0, V9, V7]; omega)) W (hS.pp (i := 8) rfl : GX W).2 (hS.osl (i := 0) rfl)) ?_
  refine MV ?_
  refine Mq 1 (new := agF [.c (.int .i64 (xs.length : Int)), .a 32 (rs (ovT ms)), .a 64 U1]) ?_ (hc := Q7b (off := 33) 2) (hs := by rw [J2, J5]; exact Nat.le_of_ble_eq_true (by kernel_rfl))
  refine MZ fun W hS => ?_
  go_upto_region 7 with fail
  refine RTp [0, 1, 2, 3, 6, 7, 8, 9] (.q 0 (.q 1 (.q 2 (.q 3 (.q 5 (.b 4 (.e 6 (.e 7 (.q 8 (.q 9 (.e 10 .z))))) 6 (.e 4 (.e 7 (.q 8 (.q 9 (.e 10 .z))))))))))) hS ?_
  clear hS
  refine TV ?_
  refine TV ?_
  refine TV ?_
  refine TV ?_
  refine TL 1 ?_ (hs := by rw [J5]; kernel_rfl)
  refine TB (fun _ h => h.pick [0, 1, 2, 3, 6, 7, 8, 9]) ?_ ?_
  ·
   refine MG 4 ?_ (v := (.slice Al xs.length cl)) (hj := (Y7 (off := 33) 2))
   refine TNp [0, 1, 2, 3, 6, 7, 8, 9] [0, 1, 2, 3, 4, 5, 6, 7] ?_
   refine TE (fun _ h => h.pick [0, 1, 2, 3, 6, 7, 8, 9]) ?_
   refine MB (z := (agF [.c (.int .i64 (xs.length : Int)), .a 32 (rs (ovT ms)), .a 64 U1])) (t := 47) (n := 1) (c := 1) ?_ (hr := fun W _ => J34 rfl rfl rfl Tryz.underlying88 (by rw [J5]; kernel_rfl) (by rw [J5]; kernel_rfl) (by rw [J5]; exact Nat.le_of_ble_eq_true (by kernel_rfl)) (by rw [J5]; exact Nat.le_of_ble_eq_true (by kernel_rfl)))
   intro ρ
   refine TNp [0, 1, 2, 3, 4, 7, 8, 9, 10] [1, 2, 3, 4, 5, 6, 7, 8] ?_
   refine TE (fun _ h => h.pick [0, 1, 2, 3, 4, 7, 8, 9, 10]) ?_
   refine MAr 6 0 (tS := 88) (bytes := 104) (es := (List.map sgC xs)) (by first | omega | (simp only [lA, lM, lT, lD, lC, lN, Q1, U0, V9, V7]; omega)) (e := sgC ⟨(xs.length : Int), rs (ovT ms), U1⟩) (hk := by rw [J5]; kernel_rfl) (h1 := by exact (J0h ⟨rfl, trivial⟩)) (cs := (agF [.c (.int .i64 (xs.length : Int)), .a 32 (rs (ovT ms)), .a 64 U1])) ?_
   intro U
   refine TNp [0, 1, 2, 3, 4, 6, 7, 8, 9, 10] [0, 1, 2, 3, 4, 6, 7, 8, 9] ?_
   refine TV ?_
   refine TV ?_
   refine TE (fun _ h => h.pick [0, 1, 2, 3, 4, 6, 7, 8, 9, 10]) ?_
   refine J7f (fun W hS => (Row.cells (hS.row (i := 6) rfl)).2) ?_
   intro α
   refine MP 5 (v := U) (cs' := agF [.a 32 S, .c D, .c U, .c vs]) ?_ (hs := by rw [J5]; exact Nat.le_of_ble_eq_true (by kernel_rfl)) (hc := J2z (off := 33) 2) (hv := fun W hS => Row.cells (hS.row (i := 6) rfl))
   refine TNp [0, 1, 2, 3, 4, 6, 7, 8, 9, 10] [0, 1, 2, 3, 4, 5, 6, 7, 8, 9] ?_
   refine TZ (fun _ h => h.pick [0, 1, 2, 3, 4, 6, 7, 8, 9, 10]) fun W hS => ?_
   go_upto_region 8 with fail
   refine RL hS ?_
   clear hS
   refine MV ?_
   refine MV ?_
   refine MV ?_
   refine MV ?_
   refine MT (fun W hS => hS.read (i := 1) rfl (hS.osl (i := 1) rfl) J4d) ?_
   refine ME (V := fun _ => .int .i64 (us.length : Int)) (fun W hS => Q78 [5, 7, 1, 9] [0, 2, 3, 4, 6, 8, 10] hS (fun hT => J9z (us := us) (l := (sTx (xs.length : Int) (rs (ovT ms)))) (by first | omega | (simp only [lA, lM, lT, lD, lC, lN, Q1, U0, V9, V7]; omega)) (by first | omega | (simp only [lA, lM, lT, lD, lC, lN, Q1, U0, V9, V7]; omega)) W hT) (fun _ => ⟨.inr ⟨rfl, rfl⟩, .inr ⟨rfl, rfl⟩, .inl (by simp), .inl (by simp), trivial⟩)) ?_
   intro x8
   refine MZ fun W hS => ?_
   go_upto_region 9 with fail
   refine RL hS ?_
   clear hS
   refine ML 5 ?_ (hs := by rw [J5]; kernel_rfl)
   refine MR 7 ?_ (hz := by rw [J5]; kernel_rfl) (hs := by first | (rw [J5, J5]; simp only [J3j, J3i, J3h]; done) | (rw [J5, J5]; rfl) | rfl) (h1 := by exact (J0h ⟨rfl, trivial⟩))
   refine MZ fun W hS => ?_
   have e_ := G.out
   subst e_
   go_wp2
   exact bodyPost_ret (Y3 rfl rfl (hS.blk (i := 7) rfl) (by kernel_rfl) (by rw [J5]; kernel_rfl)) rfl ⟨(D, U, x8), rfl, by have h_ := hS.pick [0, 8, 1, 6, 3, 10]; rw [Q1o] at h_; exact h_⟩
  refine MB (z := (agF [.c (.int .i64 (xs.length : Int)), .a 32 (rs (ovT ms)), .a 64 U1])) (t := 47) (n := 1) (c := 1) ?_ (hr := fun W _ => J34 rfl rfl rfl Tryz.underlying88 (by rw [J5]; kernel_rfl) (by rw [J5]; kernel_rfl) (by rw [J5]; exact Nat.le_of_ble_eq_true (by kernel_rfl)) (by rw [J5]; exact Nat.le_of_ble_eq_true (by kernel_rfl)))
  intro σ
  refine TNp [0, 1, 2, 3, 4, 7, 8, 9, 10] [1, 2, 3, 4, 5, 6, 7, 8] ?_
  refine TE (fun _ h => h.pick [0, 1, 2, 3, 4, 7, 8, 9, 10]) ?_
  refine MG 5 ?_ (v := (.slice Al xs.length cl)) (hj := (Y7 (off := 33) 2))
  refine TNp [0, 1, 2, 3, 4, 7, 8, 9, 10] [0, 1, 2, 3, 4, 5, 6, 7, 8] ?_
  refine TE (fun _ h => h.pick [0, 1, 2, 3, 4, 7, 8, 9, 10]) ?_
  refine MAr 6 0 (tS := 88) (bytes := 104) (es := (List.map sgC xs)) (by first | omega | (simp only [lA, lM, lT, lD, lC, lN, Q1, U0, V9, V7]; omega)) (e := sgC ⟨(xs.length : Int), rs (ovT ms), U1⟩) (hk := by rw [J5]; kernel_rfl) (h1 := by exact (J0h ⟨rfl, trivial⟩)) (cs := (agF [.c (.int .i64 (xs.length : Int)), .a 32 (rs (ovT ms)), .a 64 U1])) ?_
  intro M
  refine TNp [0, 1, 2, 3, 4, 6, 7, 8, 9, 10] [0, 1, 2, 3, 4, 6, 7, 8, 9] ?_
  refine TV ?_
  refine TV ?_
  refine TE (fun _ h => h.pick [0, 1, 2, 3, 4, 6, 7, 8, 9, 10]) ?_
  refine J7f (fun W hS => (Row.cells (hS.row (i := 6) rfl)).2) ?_
  intro Z
  refine MP 5 (v := M) (cs' := agF [.a 32 S, .c D, .c M, .c vs]) ?_ (hs := by rw [J5]; exact Nat.le_of_ble_eq_true (by kernel_rfl)) (hc := J2z (off := 33) 2) (hv := fun W hS => Row.cells (hS.row (i := 6) rfl))
  refine TNp [0, 1, 2, 3, 4, 6, 7, 8, 9, 10] [0, 1, 2, 3, 4, 5, 6, 7, 8, 9] ?_
  refine TZ (fun _ h => h.pick [0, 1, 2, 3, 4, 6, 7, 8, 9, 10]) fun W hS => ?_
  go_upto_region 8 with fail
  refine RL hS ?_
  clear hS
  refine MV ?_
  refine MV ?_
  refine MV ?_
  refine MV ?_
  refine MT (fun W hS => hS.read (i := 1) rfl (hS.osl (i := 1) rfl) J4d) ?_
  refine ME (V := fun _ => .int .i64 (us.length : Int)) (fun W hS => Q78 [5, 7, 1, 9] [0, 2, 3, 4, 6, 8, 10] hS (fun hT => J9z (us := us) (l := (sTx (xs.length : Int) (rs (ovT ms)))) (by first | omega | (simp only [lA, lM, lT, lD, lC, lN, Q1, U0, V9, V7]; omega)) (by first | omega | (simp only [lA, lM, lT, lD, lC, lN, Q1, U0, V9, V7]; omega)) W hT) (fun _ => ⟨.inr ⟨rfl, rfl⟩, .inr ⟨rfl, rfl⟩, .inl (by simp), .inl (by simp), trivial⟩)) ?_
  intro δ
  refine MZ fun W hS => ?_
  go_upto_region 9 with fail
  refine RL hS ?_
  clear hS
  refine ML 5 ?_ (hs := by rw [J5]; kernel_rfl)
  refine MR 7 ?_ (hz := by rw [J5]; kernel_rfl) (hs := by first | (rw [J5, J5]; simp only [J3j, J3i, J3h]; done) | (rw [J5, J5]; rfl) | rfl) (h1 := by exact (J0h ⟨rfl, trivial⟩))
  refine MZ fun W hS => ?_
  have e_ := G.out
  subst e_
  go_wp2
  exact bodyPost_ret (Y3 rfl rfl (hS.blk (i := 7) rfl) (by kernel_rfl) (by rw [J5]; kernel_rfl)) rfl ⟨(D, M, δ), rfl, by have h_ := hS.pick [0, 8, 1, 6, 3, 10]; rw [Q1o] at h_; exact h_⟩
 refine MN (z := agF [.c (.int .i64 0), .a 32 0, .a 64 0]) (t := 47) ?_
 intro ξ
 refine TNp [1, 2, 3, 4, 5, 6, 7, 8] [0, 1, 2, 3, 4, 5, 6, 7] ?_
 refine TE (fun _ h => h.pick [1, 2, 3, 4, 5, 6, 7, 8]) ?_
 refine MC (v := .agg (J0 .u8 32 (Q3 (rs (ovT ms))))) (fun W hS => Q6d W (hS.pp (i := 7) rfl : GX W).gt (hS.tt (i := 1) rfl)) ?_
 refine TNp [1, 2, 3, 4, 5, 6, 7, 8] [0, 1, 2, 3, 4, 5, 6, 7] ?_
 refine TF (v := .agg (agF [.c (.int .i64 (xs.length : Int)), .a 32 (rs (ovT ms)), .a 64 0])) rfl (fun W hS => J2u rfl rfl J6b J6c (J17 (J17 J40 (l' := [.c (.int .i64 (xs.length : Int)), .a 32 (rs (ovT ms)), .a 64 0]) (m := [.a 32 (rs (ovT ms))]) (hv := (J9f _ _).symm) (hs := J05 (off := 1) 1 1) (hp := rfl) (hn := rfl) (hb := by show 1 + 32 ≤ 97; decide)) (l' := [.c (.int .i64 (xs.length : Int)), .a 32 0, .a 64 0]) (m := [.c (.int .i64 (xs.length : Int))]) (hv := rfl) (hs := J05 (off := 0) 0 1) (hp := rfl) (hn := rfl) (hb := by show 0 + 1 ≤ 97; decide))) ?_
 refine TE (fun _ h => h.pick [1, 2, 3, 4, 5, 6, 7, 8]) ?_
 refine MR 0 ?_ (hz := by rw [J5]; kernel_rfl) (hs := by first | (rw [J5, J5]; simp only [J3j, J3i, J3h]; done) | (rw [J5, J5]; rfl) | rfl) (h1 := by exact (J0h ⟨rfl, trivial⟩))
 refine TNp [1, 2, 3, 4, 5, 6, 7, 8] [0, 1, 2, 3, 4, 5, 6, 7] ?_
 refine TZ (fun _ h => h.pick [1, 2, 3, 4, 5, 6, 7, 8]) fun W hS => ?_
 go_upto_region 5 with fail
 refine RL hS ?_
 clear hS
 refine MV ?_
 refine MG 0 ?_ (v := .int .i64 (xs.length : Int)) (hj := (Y7 (off := 0) 0))
 refine MV ?_
 refine Mk 0 ?_ (sub := J0 .u8 32 (Q3 (rs (ovT ms)))) (hs := (J1n (off := 1) 1))
 refine ME (V := fun v => v) (fun W hS => J5i hS (Q1n (xs.length : Int) (rs (ovT ms)) W) (fun _ => ⟨rfl, rfl⟩)) ?_
 intro β
 refine MV ?_
 refine MZ fun W hS => ?_
 go_upto_region 6 with fail
 refine RL hS ?_
 clear hS
 refine MV ?_
 refine MV ?_
 refine MV ?_
 refine Mk 4 ?_ (sub := J0 .u8 32 (Q3 S)) (hs := (J1n (off := 0) 0))
 refine MV ?_
 obtain ⟨U1, J⟩ := V0 (sig S (sTx (xs.length : Int) (rs (ovT ms))))
 have G := Lib.hid J
 clear J
 refine MC (v := .agg (J0 .u8 64 (Q3 U1))) (fun W hS => S8.signN_c (kn := kn0) trivial trivial G.out β [] (by first | omega | (simp only [lA, lM, lT, lD, lC, lN, Q1, U0, V9, V7]; omega)) W (hS.pp (i := 8) rfl : GX W).2 (hS.osl (i := 0) rfl)) ?_
 refine MV ?_
 refine Mq 1 (new := agF [.c (.int .i64 (xs.length : Int)), .a 32 (rs (ovT ms)), .a 64 U1]) ?_ (hc := Q7b (off := 33) 2) (hs := by rw [J2, J5]; exact Nat.le_of_ble_eq_true (by kernel_rfl))
 refine MZ fun W hS => ?_
 go_upto_region 7 with fail
 refine RTp [0, 1, 2, 3, 6, 7, 8, 9] (.q 0 (.q 1 (.q 2 (.q 3 (.q 5 (.b 4 (.e 6 (.e 7 (.q 8 (.q 9 (.e 10 .z))))) 6 (.e 4 (.e 7 (.q 8 (.q 9 (.e 10 .z))))))))))) hS ?_
 clear hS
 refine TV ?_
 refine TV ?_
 refine TV ?_
 refine TV ?_
 refine TL 1 ?_ (hs := by rw [J5]; kernel_rfl)
 refine TB (fun _ h => h.pick [0, 1, 2, 3, 6, 7, 8, 9]) ?_ ?_
 ·
  refine MG 4 ?_ (v := (.slice Al xs.length cl)) (hj := (Y7 (off := 33) 2))
  refine TNp [0, 1, 2, 3, 6, 7, 8, 9] [0, 1, 2, 3, 4, 5, 6, 7] ?_
  refine TE (fun _ h => h.pick [0, 1, 2, 3, 6, 7, 8, 9]) ?_
  refine MB (z := (agF [.c (.int .i64 (xs.length : Int)), .a 32 (rs (ovT ms)), .a 64 U1])) (t := 47) (n := 1) (c := 1) ?_ (hr := fun W _ => J34 rfl rfl rfl Tryz.underlying88 (by rw [J5]; kernel_rfl) (by rw [J5]; kernel_rfl) (by rw [J5]; exact Nat.le_of_ble_eq_true (by kernel_rfl)) (by rw [J5]; exact Nat.le_of_ble_eq_true (by kernel_rfl)))
  intro τ
  refine TNp [0, 1, 2, 3, 4, 7, 8, 9, 10] [1, 2, 3, 4, 5, 6, 7, 8] ?_
  refine TE (fun _ h => h.pick [0, 1, 2, 3, 4, 7, 8, 9, 10]) ?_
  refine MAr 6 0 (tS := 88) (bytes := 104) (es := (List.map sgC xs)) (by first | omega | (simp only [lA, lM, lT, lD, lC, lN, Q1, U0, V9, V7]; omega)) (e := sgC ⟨(xs.length : Int), rs (ovT ms), U1⟩) (hk := by rw [J5]; kernel_rfl) (h1 := by exact (J0h ⟨rfl, trivial⟩)) (cs := (agF [.c (.int .i64 (xs.length : Int)), .a 32 (rs (ovT ms)), .a 64 U1])) ?_
  intro N
  refine TNp [0, 1, 2, 3, 4, 6, 7, 8, 9, 10] [0, 1, 2, 3, 4, 6, 7, 8, 9] ?_
  refine TV ?_
  refine TV ?_
  refine TE (fun _ h => h.pick [0, 1, 2, 3, 4, 6, 7, 8, 9, 10]) ?_
  refine J7f (fun W hS => (Row.cells (hS.row (i := 6) rfl)).2) ?_
  intro Y
  refine MP 5 (v := N) (cs' := agF [.a 32 S, .c D, .c N, .c vs]) ?_ (hs := by rw [J5]; exact Nat.le_of_ble_eq_true (by kernel_rfl)) (hc := J2z (off := 33) 2) (hv := fun W hS => Row.cells (hS.row (i := 6) rfl))
  refine TNp [0, 1, 2, 3, 4, 6, 7, 8, 9, 10] [0, 1, 2, 3, 4, 5, 6, 7, 8, 9] ?_
  refine TZ (fun _ h => h.pick [0, 1, 2, 3, 4, 6, 7, 8, 9, 10]) fun W hS => ?_
  go_upto_region 8 with fail
  refine RL hS ?_
  clear hS
  refine MV ?_
  refine MV ?_
  refine MV ?_
  refine MV ?_
  refine MT (fun W hS => hS.read (i := 1) rfl (hS.osl (i := 1) rfl) J4d) ?_
  refine ME (V := fun _ => .int .i64 (us.length : Int)) (fun W hS => Q78 [5, 7, 1, 9] [0, 2, 3, 4, 6, 8, 10] hS (fun hT => J9z (us := us) (l := (sTx (xs.length : Int) (rs (ovT ms)))) (by first | omega | (simp only [lA, lM, lT, lD, lC, lN, Q1, U0, V9, V7]; omega)) (by first | omega | (simp only [lA, lM, lT, lD, lC, lN, Q1, U0, V9, V7]; omega)) W hT) (fun _ => ⟨.inr ⟨rfl, rfl⟩, .inr ⟨rfl, rfl⟩, .inl (by simp), .inl (by simp), trivial⟩)) ?_
  intro ζ
  refine MZ fun W hS => ?_
  go_upto_region 9 with fail
  refine RL hS ?_
  clear hS
  refine ML 5 ?_ (hs := by rw [J5]; kernel_rfl)
  refine MR 7 ?_ (hz := by rw [J5]; kernel_rfl) (hs := by first | (rw [J5, J5]; simp only [J3j, J3i, J3h]; done) | (rw [J5, J5]; rfl) | rfl) (h1 := by exact (J0h ⟨rfl, trivial⟩))
  refine MZ fun W hS => ?_
  have e_ := G.out
  subst e_
  go_wp2
  exact bodyPost_ret (Y3 rfl rfl (hS.blk (i := 7) rfl) (by kernel_rfl) (by rw [J5]; kernel_rfl)) rfl ⟨(D, N, ζ), rfl, by have h_ := hS.pick [0, 8, 1, 6, 3, 10]; rw [Q1o] at h_; exact h_⟩
 refine MB (z := (agF [.c (.int .i64 (xs.length : Int)), .a 32 (rs (ovT ms)), .a 64 U1])) (t := 47) (n := 1) (c := 1) ?_ (hr := fun W _ => J34 rfl rfl rfl Tryz.underlying88 (by rw [J5]; kernel_rfl) (by rw [J5]; kernel_rfl) (by rw [J5]; exact Nat.le_of_ble_eq_true (by kernel_rfl)) (by rw [J5]; exact Nat.le_of_ble_eq_true (by kernel_rfl)))
 intro κ
 refine TNp [0, 1, 2, 3, 4, 7, 8, 9, 10] [1, 2, 3, 4, 5, 6, 7, 8] ?_
 refine TE (fun _ h => h.pick [0, 1, 2, 3, 4, 7, 8, 9, 10]) ?_
 refine MG 5 ?_ (v := (.slice Al xs.length cl)) (hj := (Y7 (off := 33) 2))
 refine TNp [0, 1, 2, 3, 4, 7, 8, 9, 10] [0, 1, 2, 3, 4, 5, 6, 7, 8] ?_
 refine TE (fun _ h => h.pick [0, 1, 2, 3, 4, 7, 8, 9, 10]) ?_
 refine MAr 6 0 (tS := 88) (bytes := 104) (es := (List.map sgC xs)) (by first | omega | (simp only [lA, lM, lT, lD, lC, lN, Q1, U0, V9, V7]; omega)) (e := sgC ⟨(xs.length : Int), rs (ovT ms), U1⟩) (hk := by rw [J5]; kernel_rfl) (h1 := by exact (J0h ⟨rfl, trivial⟩)) (cs := (agF [.c (.int .i64 (xs.length : Int)), .a 32 (rs (ovT ms)), .a 64 U1])) ?_
 intro R
 refine TNp [0, 1, 2, 3, 4, 6, 7, 8, 9, 10] [0, 1, 2, 3, 4, 6, 7, 8, 9] ?_
 refine TV ?_
 refine TV ?_
 refine TE (fun _ h => h.pick [0, 1, 2, 3, 4, 6, 7, 8, 9, 10]) ?_
 refine J7f (fun W hS => (Row.cells (hS.row (i := 6) rfl)).2) ?_
 intro X
 refine MP 5 (v := R) (cs' := agF [.a 32 S, .c D, .c R, .c vs]) ?_ (hs := by rw [J5]; exact Nat.le_of_ble_eq_true (by kernel_rfl)) (hc := J2z (off := 33) 2) (hv := fun W hS => Row.cells (hS.row (i := 6) rfl))
 refine TNp [0, 1, 2, 3, 4, 6, 7, 8, 9, 10] [0, 1, 2, 3, 4, 5, 6, 7, 8, 9] ?_
 refine TZ (fun _ h => h.pick [0, 1, 2, 3, 4, 6, 7, 8, 9, 10]) fun W hS => ?_
 go_upto_region 8 with fail
 refine RL hS ?_
 clear hS
 refine MV ?_
 refine MV ?_
 refine MV ?_
 refine MV ?_
 refine MT (fun W hS => hS.read (i := 1) rfl (hS.osl (i := 1) rfl) J4d) ?_
 refine ME (V := fun _ => .int .i64 (us.length : Int)) (fun W hS => Q78 [5, 7, 1, 9] [0, 2, 3, 4, 6, 8, 10] hS (fun hT => J9z (us := us) (l := (sTx (xs.length : Int) (rs (ovT ms)))) (by first | omega | (simp only [lA, lM, lT, lD, lC, lN, Q1, U0, V9, V7]; omega)) (by first | omega | (simp only [lA, lM, lT, lD, lC, lN, Q1, U0, V9, V7]; omega)) W hT) (fun _ => ⟨.inr ⟨rfl, rfl⟩, .inr ⟨rfl, rfl⟩, .inl (by simp), .inl (by simp), trivial⟩)) ?_
 intro γ
 refine MZ fun W hS => ?_
 go_upto_region 9 with fail
 refine RL hS ?_
 clear hS
 refine ML 5 ?_ (hs := by rw [J5]; kernel_rfl)
 refine MR 7 ?_ (hz := by rw [J5]; kernel_rfl) (hs := by first | (rw [J5, J5]; simp only [J3j, J3i, J3h]; done) | (rw [J5, J5]; rfl) | rfl) (h1 := by exact (J0h ⟨rfl, trivial⟩))
 refine MZ fun W hS => ?_
 have e_ := G.out
 subst e_
 go_wp2
 exact bodyPost_ret (Y3 rfl rfl (hS.blk (i := 7) rfl) (by kernel_rfl) (by rw [J5]; kernel_rfl)) rfl ⟨(D, R, γ), rfl, by have h_ := hS.pick [0, 8, 1, 6, 3, 10]; rw [Q1o] at h_; exact h_⟩
end Go.Proofs.YtejkmhgkkibafaaGreatDoor

/- super: a log's entries; New, Seal, Public, Epochs, Check. Conditions: the tables hold their numbers; no more than a million epochs. -/
import Derived.Test.YtejkmhgkkibafaaGreatDoorJ33
import Derived.Test.YtejkmhgkkibafaaGreatDoorJ30
set_option linter.unusedSimpArgs false
set_option linter.unusedVariables false
namespace Go.Proofs.YtejkmhgkkibafaaGreatDoor
set_option maxHeartbeats 3000000
set_option maxRecDepth 100000
open Go.RowKit
attribute [local irreducible] wpList U0 wpX
open S8 (Kn GA kP sig vfy)
def eS (l : List UInt8) : Nat := hs4 ([0] ++ l)
structure Sg where
 ep : Int
 ro : Nat
 sig : Nat
abbrev sgF (x : Sg) : Array Value := agF [.c (.int .i64 x.ep), .a 32 x.ro, .a 64 x.sig]
def sgC (x : Sg) : List Value := fcs [.c (.int .i64 x.ep), .a 32 x.ro, .a 64 x.sig]
abbrev suF (S : Nat) (vt vl vs : Value) : Array Value := agF [.a 32 S, .c vt, .c vl, .c vs]
abbrev nSl : Value := .slice none 0 0
abbrev suL (p S : Nat) (T : TR) (xs : List Sg) (us : List Nat) (vt vl vs : Value) : List As := [.b p (suF S vt vl vs) 107, .r 47 97 vl (xs.map sgC), .r 23 32 vs (us.map J0f), .t 151 (fun W => TA W T vt)]
def SuR (F : List Nat) (val : Value) (p S : Nat) (T : TR) (xs : List Sg) (us : List Nat) (R : List As) (w w' : World) (e : Ending) : Prop := ∃ y : Value × Value × Value, e = .returned val ∧ SH F w w' (suL p S T xs us y.1 y.2.1 y.2.2 ++ R)
def sgN (S : Nat) (T : TR) (n : Nat) : Sg := ⟨(n : Int), rs T, sig S (sTx (n : Int) (rs T))⟩
theorem Q1e (xs : List Sg) (S : Nat) (T : TR) (n : Nat) : List.map sgC xs ++ [sgC ⟨(n : Int), rs T, sig S (sTx (n : Int) (rs T))⟩] = List.map sgC (xs ++ [sgN S T n]) := by rw [List.map_append]; rfl
def V2a (ms : List Mb) : List Nat := ms.flatMap fun y => (sb y.u y.id).toList
def MbR (v : Value) (ms : List Mb) (W : World) : Prop := RR 35 W v (ms.map mbC) ∧ mbK ms W
abbrev mbT (v : Value) (ms : List Mb) : As := .p (fbR v (ms.map mbC) ++ V2a ms) (MbR v ms)
theorem Z4f {ms : List Mb} {w : World} (h : mbK ms w) : (As.p (V2a ms) (mbK ms)).holds w := by
 refine ⟨h, fun k hk => ?_, fun W' _ e y hy => ?_⟩
 ·
  obtain ⟨y, hy, h1⟩ := List.mem_flatMap.1 hk
  exact Sl.lt (h y hy).1 k (As.mem_toList h1)
 exact ⟨Z0r (h y hy).1 fun b hb => e b (List.mem_flatMap.2 ⟨y, hy, by rw [hb]; simp⟩), (h y hy).2⟩
theorem Q4b {v : Value} {ms : List Mb} {w : World} (h : MbR v ms w) : (mbT v ms).holds w := by
 have h1 := RR.pholds (by decide) Q65 h.1
 have h2 := Z4f h.2
 exact ⟨h, fun k hk => (List.mem_append.1 hk).elim (h1.2.1 k) (h2.2.1 k), fun W' hs e => ⟨h1.2.2 W' hs fun k hk => e k (List.mem_append.2 (.inl hk)), h2.2.2 W' hs fun k hk => e k (List.mem_append.2 (.inr hk))⟩⟩
attribute [local irreducible] eI be8 hs4 lb kTx vTx sTx rs ofT sE sL sN S8.sig S8.vfy S8.kP S8.kN S8.kD

theorem Q0r : zer Tryz.prog 107 = some (some (agF [.a 32 0, .c (.pointer none), .c (.slice none 0 0), .c (.slice none 0 0)])) := by kernel_rfl
theorem Q0s : plc Tryz.prog 107 = some [(0, 32), (32, 1), (33, 1), (34, 1)] := by kernel_rfl
theorem J60 : zer Tryz.prog 47 = some (some (agF [.c (.int .i64 0), .a 32 0, .a 64 0])) := by kernel_rfl
theorem J61 : plc Tryz.prog 47 = some [(0, 1), (1, 32), (33, 64)] := by kernel_rfl
theorem Q9u {q : Prop} {v : Value} {l : List UInt8} (w : World) (hG : GT q w) (hid : Sl w v l) (hl : l.length ≤ 100000000) :
  Calls Tryz.prog 73 #[v] w fun e w' => K7 (.agg (J0 .u8 32 (Q3 (eS l)))) w w' e := by
 have hS := SH.nil [] w
 go_enter Tryz.func73, Tryz.ntmps73
 go_upto_region 0 with fail
 refine RL hS ?_
 clear hS
 refine MN (z := J0 .u8 32 (Q3 0)) (t := 23) ?_
 intro X5
 refine MZ fun W hS => ?_
 go_upto_region 1 with fail
 refine RL hS ?_
 clear hS
 refine MO (m := [0]) (n := 1) (z := #[.int .u8 0]) ?_
 intro J
 refine MV ?_
 refine MB (z := #[J, v]) (t := 22) (n := 2) (c := 2) ?_ (hr := fun W hS => J2k [J, v] rfl rfl (vsc (K6 (hS.osl (i := 0) rfl)).1 (vsc (K6 (J5j hid hS.ext)).1 vs0)) Tryz.underlying113 (by kernel_rfl) (by kernel_rfl) rfl (by decide) (by decide))
 intro M
 obtain ⟨U1, G⟩ := V3 (hs4 ([0] ++ l))
 have D := Lib.hid G
 clear G
 refine MC (v := .agg (J0 .u8 32 (Q3 U1))) (fun W hS => J5a D.out [[0], l] (some ⟨M, 0, none⟩) 2 (by simp only [List.flatten_cons, List.flatten_nil, List.append_nil, List.nil_append, List.append_assoc, List.cons_append]) (by first | omega | (simp only [lA, lM, lT, lD, lC, lN, J8, K8, V9, V5]; omega)) (by simp) W (J1z (hS.blk (i := 0) rfl) (pvc (hS.osl (i := 1) rfl) (pvc (J5j hid hS.ext) pv0))) (J2b hG.1 hS.ext)) ?_
 refine MR 2 ?_ 
 refine MZ fun W hS => ?_
 have e_ := D.out
 subst e_
 go_wp2
 exact bodyPost_ret (Z6 rfl rfl (hS.blk (i := 2) rfl) (by kernel_rfl) (by rw [J1]; kernel_rfl)) rfl ⟨rfl, hS.ext⟩
theorem J9o {p S : Nat} {vt vl vs u : Value} {us : List Nat} {l : List UInt8} (hn : us.length ≤ 1000000) (hl : l.length ≤ 100000000) (w : World) (h_ : SH (SH.feet [.b p (suF S vt vl vs) 107, .r 23 32 vs (us.map J0f), .s u l, gx]) w w [.b p (suF S vt vl vs) 107, .r 23 32 vs (us.map J0f), .s u l, gx]) :
  Calls Tryz.prog 53 #[.pointer (some ⟨p, 34, none⟩), u] w fun e w' => ∃ x, e = .returned (.int .i64 (us.length : Int)) ∧ SH (SH.feet [.b p (suF S vt vl vs) 107, .r 23 32 vs (us.map J0f), .s u l, gx]) w w' [.b p (suF S vt vl x) 107, .r 23 32 x ((us ++ [eS l]).map J0f), .s u l, gx] := by
 have hS := h_
 clear h_
 have T := (Row.cells (hS.row (i := 1) rfl)).2
 go_enter Tryz.func53, Tryz.ntmps53
 go_upto_region 3 with fail
 refine RTp [2, 3] (.q 0 (.q 1 (.q 2 (.q 3 (.q 5 (.b 4 (.e 6 (.e 7 (.e 8 (.q 9 (.q 10 (.e 11 .z)))))) 6 (.b 4 (.e 7 (.e 8 (.q 9 (.q 10 (.e 11 .z))))) 7 (.e 4 (.e 8 (.q 9 (.q 10 (.e 11 .z)))))))))))) hS ?_
 clear hS
 refine TV ?_
 refine TV ?_
 refine TV ?_
 refine TV ?_
 refine TV ?_
 refine TB (fun _ h => h.pick [2, 3]) ?_ ?_
 ·
  refine MG 0 ?_ (v := vs) (hj := (Y3 (off := 34) 3))
  refine TNp [2, 3] [0, 1] ?_
  refine TE (fun _ h => h.pick [2, 3]) ?_
  refine MC (v := .agg (J0 .u8 32 (Q3 (eS l)))) (fun W hS => Q9u W (hS.pp (i := 3) rfl : GX W).gt (hS.sl (i := 2) rfl) (by first | omega | (simp only [lA, lM, lT, lD, lC, lN, J8, K8, V9, V5]; omega))) ?_
  refine TNp [2, 3] [0, 1] ?_
  refine TE (fun _ h => h.pick [2, 3]) ?_
  refine MB (z := (J0 .u8 32 (Q3 (eS l)))) (t := 23) (n := 1) (c := 1) ?_ (hr := fun W _ => J2u rfl rfl rfl Tryz.underlying49 (by rw [J1]; kernel_rfl) (by rw [J1]; kernel_rfl) (by rw [J1]; decide) (by rw [J1]; decide))
  intro V
  refine TNp [0, 3, 4] [1, 2] ?_
  refine TE (fun _ h => h.pick [0, 3, 4]) ?_
  refine MAr 2 0 (tS := 49) (bytes := 32) (es := (List.map J0f us)) (by first | omega | (simp only [lA, lM, lT, lD, lC, lN, J8, K8, V9, V5]; omega)) (e := J0f (eS l)) (hk := J1 _ _ _) (h1 := by exact Z9 _ _ _) ?_
  intro J
  refine TNp [0, 2, 3, 4] [0, 2, 3] ?_
  refine TV ?_
  refine TV ?_
  refine TE (fun _ h => h.pick [0, 2, 3, 4]) ?_
  refine J78 (fun W hS => (Row.cells (hS.row (i := 2) rfl)).2) ?_
  intro M
  refine MP 1 (v := J) (cs' := agF [.a 32 S, .c vt, .c vl, .c J]) ?_ (hs := by rw [J4]; exact Nat.le_of_ble_eq_true (by kernel_rfl)) (hc := J2q (off := 34) 3) (hv := fun W hS => Row.cells (hS.row (i := 2) rfl))
  refine TNp [0, 2, 3, 4] [0, 1, 2, 3] ?_
  refine TZ (fun _ h => h.pick [0, 2, 3, 4]) fun W hS => ?_
  go_upto_region 4 with fail
  refine RL hS ?_
  clear hS
  refine MV ?_
  refine MV ?_
  refine MV ?_
  refine MG 1 ?_ (v := J) (hj := (Y3 (off := 34) 3))
  refine MF (v := .int .i64 (((List.map J0f us) ++ [J0f (eS l)]).length : Int)) (fun W hS => J16 (hS.row (i := 2) rfl) rfl rfl Tryz.underlying49) ?_
  refine MW ?_ (v := .int .i64 (us.length : Int)) (hv := by intro W; rw [List.length_append, List.length_map]; go_simp; (try simp only [IntKind.wrap_i64]); omega)
  refine MV ?_
  refine MZ fun W hS => ?_
  go_wp2
  exact bodyPost_ret (v := .int .i64 (us.length : Int)) (by simp only [results, Tryz.results53]; go_simp) rfl ⟨_, rfl, by rw [List.map_append]; exact hS.pick [1, 2, 3, 4]⟩
 refine MC (v := .agg (J0 .u8 32 (Q3 (eS l)))) (fun W hS => Q9u W (hS.pp (i := 3) rfl : GX W).gt (hS.sl (i := 2) rfl) (by first | omega | (simp only [lA, lM, lT, lD, lC, lN, J8, K8, V9, V5]; omega))) ?_
 refine TNp [2, 3] [0, 1] ?_
 refine TB (fun _ h => h.pick [2, 3]) ?_ ?_
 ·
  refine MG 0 ?_ (v := vs) (hj := (Y3 (off := 34) 3))
  refine TNp [2, 3] [0, 1] ?_
  refine TE (fun _ h => h.pick [2, 3]) ?_
  refine MB (z := (J0 .u8 32 (Q3 (eS l)))) (t := 23) (n := 1) (c := 1) ?_ (hr := fun W _ => J2u rfl rfl rfl Tryz.underlying49 (by rw [J1]; kernel_rfl) (by rw [J1]; kernel_rfl) (by rw [J1]; decide) (by rw [J1]; decide))
  intro X
  refine TNp [0, 3, 4] [1, 2] ?_
  refine TE (fun _ h => h.pick [0, 3, 4]) ?_
  refine MAr 2 0 (tS := 49) (bytes := 32) (es := (List.map J0f us)) (by first | omega | (simp only [lA, lM, lT, lD, lC, lN, J8, K8, V9, V5]; omega)) (e := J0f (eS l)) (hk := J1 _ _ _) (h1 := by exact Z9 _ _ _) ?_
  intro D
  refine TNp [0, 2, 3, 4] [0, 2, 3] ?_
  refine TV ?_
  refine TV ?_
  refine TE (fun _ h => h.pick [0, 2, 3, 4]) ?_
  refine J78 (fun W hS => (Row.cells (hS.row (i := 2) rfl)).2) ?_
  intro R
  refine MP 1 (v := D) (cs' := agF [.a 32 S, .c vt, .c vl, .c D]) ?_ (hs := by rw [J4]; exact Nat.le_of_ble_eq_true (by kernel_rfl)) (hc := J2q (off := 34) 3) (hv := fun W hS => Row.cells (hS.row (i := 2) rfl))
  refine TNp [0, 2, 3, 4] [0, 1, 2, 3] ?_
  refine TZ (fun _ h => h.pick [0, 2, 3, 4]) fun W hS => ?_
  go_upto_region 4 with fail
  refine RL hS ?_
  clear hS
  refine MV ?_
  refine MV ?_
  refine MV ?_
  refine MG 1 ?_ (v := D) (hj := (Y3 (off := 34) 3))
  refine MF (v := .int .i64 (((List.map J0f us) ++ [J0f (eS l)]).length : Int)) (fun W hS => J16 (hS.row (i := 2) rfl) rfl rfl Tryz.underlying49) ?_
  refine MW ?_ (v := .int .i64 (us.length : Int)) (hv := by intro W; rw [List.length_append, List.length_map]; go_simp; (try simp only [IntKind.wrap_i64]); omega)
  refine MV ?_
  refine MZ fun W hS => ?_
  go_wp2
  exact bodyPost_ret (v := .int .i64 (us.length : Int)) (by simp only [results, Tryz.results53]; go_simp) rfl ⟨_, rfl, by rw [List.map_append]; exact hS.pick [1, 2, 3, 4]⟩
 refine MB (z := (J0 .u8 32 (Q3 (eS l)))) (t := 23) (n := 1) (c := 1) ?_ (hr := fun W _ => J2u rfl rfl rfl Tryz.underlying49 (by rw [J1]; kernel_rfl) (by rw [J1]; kernel_rfl) (by rw [J1]; decide) (by rw [J1]; decide))
 intro U
 refine TNp [0, 3, 4] [1, 2] ?_
 refine TE (fun _ h => h.pick [0, 3, 4]) ?_
 refine MG 1 ?_ (v := vs) (hj := (Y3 (off := 34) 3))
 refine TNp [0, 3, 4] [0, 1, 2] ?_
 refine TE (fun _ h => h.pick [0, 3, 4]) ?_
 refine MAr 2 0 (tS := 49) (bytes := 32) (es := (List.map J0f us)) (by first | omega | (simp only [lA, lM, lT, lD, lC, lN, J8, K8, V9, V5]; omega)) (e := J0f (eS l)) (hk := J1 _ _ _) (h1 := by exact Z9 _ _ _) ?_
 intro G
 refine TNp [0, 2, 3, 4] [0, 2, 3] ?_
 refine TV ?_
 refine TV ?_
 refine TE (fun _ h => h.pick [0, 2, 3, 4]) ?_
 refine J78 (fun W hS => (Row.cells (hS.row (i := 2) rfl)).2) ?_
 intro N
 refine MP 1 (v := G) (cs' := agF [.a 32 S, .c vt, .c vl, .c G]) ?_ (hs := by rw [J4]; exact Nat.le_of_ble_eq_true (by kernel_rfl)) (hc := J2q (off := 34) 3) (hv := fun W hS => Row.cells (hS.row (i := 2) rfl))
 refine TNp [0, 2, 3, 4] [0, 1, 2, 3] ?_
 refine TZ (fun _ h => h.pick [0, 2, 3, 4]) fun W hS => ?_
 go_upto_region 4 with fail
 refine RL hS ?_
 clear hS
 refine MV ?_
 refine MV ?_
 refine MV ?_
 refine MG 1 ?_ (v := G) (hj := (Y3 (off := 34) 3))
 refine MF (v := .int .i64 (((List.map J0f us) ++ [J0f (eS l)]).length : Int)) (fun W hS => J16 (hS.row (i := 2) rfl) rfl rfl Tryz.underlying49) ?_
 refine MW ?_ (v := .int .i64 (us.length : Int)) (hv := by intro W; rw [List.length_append, List.length_map]; go_simp; (try simp only [IntKind.wrap_i64]); omega)
 refine MV ?_
 refine MZ fun W hS => ?_
 go_wp2
 exact bodyPost_ret (v := .int .i64 (us.length : Int)) (by simp only [results, Tryz.results53]; go_simp) rfl ⟨_, rfl, by rw [List.map_append]; exact hS.pick [1, 2, 3, 4]⟩
theorem Z26 (S : Nat) (w : World) :
  Calls Tryz.prog 19 #[.agg (J0 .u8 32 (Q3 S))] w fun e w' => ∃ p, e = .returned (.pointer (some ⟨p, 0, none⟩)) ∧ SH [] w w' [.b p (suF S nlp nSl nSl) 107] := by
 have hS := SH.nil [] w
 go_enter Tryz.func19, Tryz.ntmps19
 go_upto_region 0 with fail
 refine RL hS ?_
 clear hS
 refine MN (z := J0 .u8 32 (Q3 S)) (t := 23) ?_
 intro G
 refine MV ?_
 refine MZ fun W hS => ?_
 go_upto_region 1 with fail
 refine RL hS ?_
 clear hS
 refine ML 0 ?_
 refine MF (v := .agg (agF [.a 32 S, .c (.pointer none), .c (.slice none 0 0), .c (.slice none 0 0)])) (fun W hS => J2m rfl rfl Q0r Q0s (J11 J3q (l' := [.a 32 S, .c (.pointer none), .c (.slice none 0 0), .c (.slice none 0 0)]) (m := [.a 32 S]) (hv := (J94 _ _).symm) (hs := X9 (off := 0) 0 1) (hp := rfl) (hn := rfl) (hb := by show 0 + 32 ≤ 35; decide))) ?_
 refine MN (z := agF [.a 32 S, .c (.pointer none), .c (.slice none 0 0), .c (.slice none 0 0)]) (t := 107) ?_
 intro D
 refine MV ?_
 refine MZ fun W hS => ?_
 go_wp2
 exact bodyPost_ret (v := .pointer (some ⟨D, 0, none⟩)) (by simp only [results, Tryz.results19]; go_simp) rfl ⟨_, rfl, hS.pick [0]⟩
theorem Z4g {p S : Nat} {vt vl vs : Value} (w : World) (hb : Blk w p (suF S vt vl vs) 107) (hX : GX w) :
  Calls Tryz.prog 34 #[.pointer (some ⟨p, 0, none⟩)] w fun e w' => K7 (.agg (J0 .u8 32 (Q3 (kP S)))) w w' e := by
 have hS := SH.nil [] w
 go_enter Tryz.func34, Tryz.ntmps34
 go_upto_region 0 with fail
 refine RL hS ?_
 clear hS
 refine MN (z := J0 .u8 32 (Q3 0)) (t := 23) ?_
 intro X5
 refine MZ fun W hS => ?_
 go_upto_region 3 with fail
 refine RL hS ?_
 clear hS
 refine MV ?_
 refine MV ?_
 refine MV ?_
 refine MF (v := .agg (J0 .u8 32 (Q3 S))) (fun W hS => J1j rfl rfl (fun i v hv => by rw [J7 (J2 hb hS.ext)]; exact (J1g (off := 0) 0) i v hv) (by kernel_rfl) (by first | kernel_rfl | (rw [J1]; kernel_rfl))) ?_
 obtain ⟨U1, N⟩ := V3 (S8.kN S)
 have D := Lib.hid N
 clear N
 obtain ⟨U2, J⟩ := V3 (S8.kD S)
 have R := Lib.hid J
 clear J
 obtain ⟨U3, G⟩ := V3 (kP S)
 have M := Lib.hid G
 clear G
 refine MC (v := .agg (S8.s3 U1 U2 U3)) (fun W hS => S8.spreadN_c (kn := kn0) trivial trivial D.out R.out M.out W (GX.ext hX hS.ext).2) ?_
 refine MW ?_ (v := .agg (J0 .u8 32 (Q3 U3))) (hv := by intro W; kernel_rfl)
 refine MR 0 ?_ 
 refine MZ fun W hS => ?_
 have e_ := D.out
 subst e_
 have e_ := R.out
 subst e_
 have e_ := M.out
 subst e_
 go_wp2
 exact bodyPost_ret (Z6 rfl rfl (hS.blk (i := 0) rfl) (by kernel_rfl) (by rw [J1]; kernel_rfl)) rfl ⟨rfl, hS.ext⟩
theorem Z4h {p S : Nat} {vt vs : Value} {A : Option Addr} {n c : Nat} (w : World) (hb : Blk w p (suF S vt (.slice A n c) vs) 107) :
  Calls Tryz.prog 35 #[.pointer (some ⟨p, 0, none⟩)] w fun e w' => K7 (.int .i64 (n : Int)) w w' e := by
 have hS := SH.nil [] w
 go_enter Tryz.func35, Tryz.ntmps35
 go_upto_region 3 with fail
 refine RL hS ?_
 clear hS
 refine MV ?_
 refine MV ?_
 refine MV ?_
 refine MF (v := (.slice A n c)) (fun W hS => X8 rfl rfl (by rw [J7 (J2 hb hS.ext)]; exact (Y3 (off := 33) 2)) (by kernel_rfl)) ?_
 refine MW ?_ (v := .int .i64 (n : Int)) (hv := by intro W; exact Q28 rfl rfl Tryz.underlying88)
 refine MV ?_
 refine MZ fun W hS => ?_
 go_wp2
 exact bodyPost_ret (v := .int .i64 (n : Int)) (by simp only [results, Tryz.results35]; go_simp) rfl ⟨rfl, hS.ext⟩
theorem Q8a {V : Nat} {x : Sg} (hV : V < 2 ^ 256) (hx : x.sig < 2 ^ (256 + 256)) (w : World) (hX : GX w) :
  Calls Tryz.prog 26 #[.agg (J0 .u8 32 (Q3 V)), .agg (sgF x)] w fun e w' => K7 (.int .i64 ((vfy V (sTx x.ep x.ro) x.sig : Nat) : Int)) w w' e := by
 have hS := SH.nil [] w
 go_enter Tryz.func26, Tryz.ntmps26
 go_upto_region 0 with fail
 refine RL hS ?_
 clear hS
 refine MN (z := J0 .u8 32 (Q3 V)) (t := 23) ?_
 intro X5
 refine MN (z := agF [.c (.int .i64 x.ep), .a 32 x.ro, .a 64 x.sig]) (t := 47) ?_
 intro M
 refine MW ?_ (v := .int .i64 0)
 refine MZ fun W hS => ?_
 go_upto_region 1 with fail
 refine RTh (.q 0 (.q 1 (.q 2 (.q 3 (.q 4 (.q 6 (.q 7 (.e 5 (.e 8 (.q 9 .z)))))))))) hS ?_
 clear hS
 refine TL 1 ?_
 refine TV ?_
 refine TG 0 ?_ (v := .int .i64 x.ep) (hj := (Y3 (off := 0) 0))
 refine TV ?_
 refine Tk 0 ?_ (sub := J0 .u8 32 (Q3 x.ro)) (hs := (J1g (off := 1) 1))
 refine TV ?_
 refine Tk 0 ?_ (sub := J0 .u8 64 (Q3 x.sig)) (hs := (J1g (off := 33) 2))
 refine TE (fun _ h => h) ?_
 refine ME (V := fun v => v) (fun W hS => J58 hS (Q1d x.ep x.ro W) (fun _ => ⟨rfl, rfl⟩)) ?_
 intro J
 refine TNh (fun W hS => hS.pick [1, 2]) ?_
 refine TE (fun _ h => h) ?_
 obtain ⟨U1, G⟩ := V3 (vfy V (sTx x.ep x.ro) x.sig)
 have D := Lib.hid G
 clear G
 refine MC (v := .int .i64 (U1 : Int)) (fun W hS => S8.verifyN_c (kn := kn0) trivial trivial trivial D.out hV hx J [] (by first | omega | (simp only [lA, lM, lT, lD, lC, lN, J8, K8, V9, V5]; omega)) W (GX.ext hX hS.ext).2 (hS.osl (i := 0) rfl)) ?_
 refine TNh (fun W hS => hS) ?_
 refine TV ?_
 refine TZ (fun _ h => h) fun W hS => ?_
 go_wp2
 exact bodyPost_ret (v := .int .i64 (U1 : Int)) (by simp only [results, Tryz.results26]; go_simp) rfl ⟨(by (try rw [D.out]); first | done | rfl), hS.ext⟩
theorem Z27 {p S : Nat} {T : TR} {xs : List Sg} {us : List Nat} {vt vl vs v : Value} {ms : List Mb} (hn : ms.length ≤ 1000) (hx : xs.length ≤ 1000000) (hu : us.length ≤ 1000000) (w : World) (h_ : SH (SH.feet (suL p S T xs us vt vl vs ++ [gx, mbT v ms])) w w (suL p S T xs us vt vl vs ++ [gx, mbT v ms])) :
  Calls Tryz.prog 20 #[.pointer (some ⟨p, 0, none⟩), v] w fun e w' => SuR (SH.feet (suL p S T xs us vt vl vs ++ [gx, mbT v ms])) (.agg (sgF (sgN S (ovT ms) xs.length))) p S (ovT ms) (xs ++ [sgN S (ovT ms) xs.length]) (us ++ [eS (sTx (xs.length : Int) (rs (ovT ms)))]) [gx, mbT v ms] w w' e := by
 have hS : SH _ w w [.b p (suF S vt vl vs) 107, .r 47 97 vl (xs.map sgC), .r 23 32 vs (us.map J0f), .t 151 (fun W => TA W T vt), gx, mbT v ms] := h_
 clear h_
 obtain ⟨Al, cl, rfl⟩ := Row.form (hS.row (i := 1) rfl)
 have η := (Row.cells (hS.row (i := 2) rfl)).2
 have θ := TA.one (hS.tt (i := 3) rfl)
 go_enter Tryz.func20, Tryz.ntmps20
 go_upto_region 0 with fail
 refine RL hS ?_
 clear hS
 refine MN (z := agF [.c (.int .i64 0), .a 32 0, .a 64 0]) (t := 47) ?_
 intro τ
 refine MZ fun W hS => ?_
 go_upto_region 3 with fail
 refine RL hS ?_
 clear hS
 refine MV ?_
 refine MV ?_
 refine ME (fun W hS => J49 (T := (ovT ms)) hS (Y8v hn W (hS.pp (i := 5) rfl : GX W).gt (hS.pp (i := 6) rfl : MbR v ms W).1 (hS.pp (i := 6) rfl : MbR v ms W).2) rfl) ?_
 intro D
 refine MV ?_
 refine MV ?_
 refine MP 2 (v := D) (cs' := agF [.a 32 S, .c D, .c (.slice Al xs.length cl), .c vs]) ?_ (hs := by rw [J4]; exact Nat.le_of_ble_eq_true (by kernel_rfl)) (hc := J2q (off := 32) 1) (hv := fun W hS => TA.one (hS.tt (i := 0) rfl))
 refine MZ fun W hS => ?_
 go_upto_region 4 with fail
 refine RTh (.q 0 (.q 1 (.q 2 (.q 3 (.q 4 (.q 5 (.q 6 (.q 7 (.q 8 (.b 9 (.q 10 (.e 11 (.e 12 .z))) 11 (.e 9 (.q 10 (.e 12 .z))))))))))))) hS ?_
 clear hS
 refine TV ?_
 refine TV ?_
 refine TV ?_
 refine TG 2 ?_ (v := (.slice Al xs.length cl)) (hj := (Y3 (off := 33) 2))
 refine TW ?_ (v := .int .i64 (xs.length : Int)) (hv := by intro W; exact Q28 rfl rfl Tryz.underlying88)
 refine TV ?_
 refine TV ?_
 refine TV ?_
 refine TG 2 ?_ (v := D) (hj := (Y3 (off := 32) 1))
 refine TB (fun _ h => h) ?_ ?_
 ·
  refine MC (v := .agg (J0 .u8 32 (Q3 (rs (ovT ms))))) (fun W hS => Q61 W (hS.pp (i := 6) rfl : GX W).gt (hS.tt (i := 0) rfl)) ?_
  refine TNh (fun W hS => hS) ?_
  refine TF (v := .agg (agF [.c (.int .i64 (xs.length : Int)), .a 32 (rs (ovT ms)), .a 64 0])) rfl (fun W hS => J2m rfl rfl J60 J61 (J11 (J11 J3q (l' := [.c (.int .i64 (xs.length : Int)), .a 32 (rs (ovT ms)), .a 64 0]) (m := [.a 32 (rs (ovT ms))]) (hv := (J94 _ _).symm) (hs := X9 (off := 1) 1 1) (hp := rfl) (hn := rfl) (hb := by show 1 + 32 ≤ 97; decide)) (l' := [.c (.int .i64 (xs.length : Int)), .a 32 0, .a 64 0]) (m := [.c (.int .i64 (xs.length : Int))]) (hv := rfl) (hs := X9 (off := 0) 0 1) (hp := rfl) (hn := rfl) (hb := by show 0 + 1 ≤ 97; decide))) ?_
  refine TE (fun _ h => h) ?_
  refine MN (z := agF [.c (.int .i64 0), .a 32 0, .a 64 0]) (t := 47) ?_
  intro σ
  refine TNp [1, 2, 3, 4, 5, 6, 7, 8] [0, 1, 2, 3, 4, 5, 6, 7] ?_
  refine TE (fun _ h => h.pick [1, 2, 3, 4, 5, 6, 7, 8]) ?_
  refine MR 0 ?_ (hz := by rw [J4]; kernel_rfl) (hs := by first | (rw [J4, J4]; simp only [J38, J37, J36]; done) | (rw [J4, J4]; rfl) | rfl) (h1 := by exact (J0a ⟨rfl, trivial⟩))
  refine TNp [1, 2, 3, 4, 5, 6, 7, 8] [0, 1, 2, 3, 4, 5, 6, 7] ?_
  refine TZ (fun _ h => h.pick [1, 2, 3, 4, 5, 6, 7, 8]) fun W hS => ?_
  go_upto_region 5 with fail
  refine RL hS ?_
  clear hS
  refine MV ?_
  refine MG 0 ?_ (v := .int .i64 (xs.length : Int)) (hj := (Y3 (off := 0) 0))
  refine MV ?_
  refine Mk 0 ?_ (sub := J0 .u8 32 (Q3 (rs (ovT ms)))) (hs := (J1g (off := 1) 1))
  refine ME (V := fun v => v) (fun W hS => J58 hS (Q1d (xs.length : Int) (rs (ovT ms)) W) (fun _ => ⟨rfl, rfl⟩)) ?_
  intro β
  refine MV ?_
  refine MZ fun W hS => ?_
  go_upto_region 6 with fail
  refine RL hS ?_
  clear hS
  refine MV ?_
  refine MV ?_
  refine MV ?_
  refine Mk 4 ?_ (sub := J0 .u8 32 (Q3 S)) (hs := (J1g (off := 0) 0))
  refine MV ?_
  obtain ⟨U1, J⟩ := V3 (sig S (sTx (xs.length : Int) (rs (ovT ms))))
  have G := Lib.hid J
  clear J
  refine MC (v := .agg (J0 .u8 64 (Q3 U1))) (fun W hS => S8.signN_c (kn := kn0) trivial trivial G.out β [] (by first | omega | (simp only [lA, lM, lT, lD, lC, lN, J8, K8, V9, V5]; omega)) W (hS.pp (i := 8) rfl : GX W).2 (hS.osl (i := 0) rfl)) ?_
  refine MV ?_
  refine Mq 1 (new := agF [.c (.int .i64 (xs.length : Int)), .a 32 (rs (ovT ms)), .a 64 U1]) ?_ (hc := Q70 (off := 33) 2) (hs := by rw [J1, J4]; exact Nat.le_of_ble_eq_true (by kernel_rfl))
  refine MZ fun W hS => ?_
  go_upto_region 7 with fail
  refine RTp [0, 1, 2, 3, 6, 7, 8, 9] (.q 0 (.q 1 (.q 2 (.q 3 (.q 5 (.b 4 (.e 6 (.e 7 (.q 8 (.q 9 (.e 10 .z))))) 6 (.e 4 (.e 7 (.q 8 (.q 9 (.e 10 .z))))))))))) hS ?_
  clear hS
  refine TV ?_
  refine TV ?_
  refine TV ?_
  refine TV ?_
  refine TL 1 ?_ (hs := by rw [J4]; kernel_rfl)
  refine TB (fun _ h => h.pick [0, 1, 2, 3, 6, 7, 8, 9]) ?_ ?_
  ·
   refine MG 4 ?_ (v := (.slice Al xs.length cl)) (hj := (Y3 (off := 33) 2))
   refine TNp [0, 1, 2, 3, 6, 7, 8, 9] [0, 1, 2, 3, 4, 5, 6, 7] ?_
   refine TE (fun _ h => h.pick [0, 1, 2, 3, 6, 7, 8, 9]) ?_
   refine MB (z := (agF [.c (.int .i64 (xs.length : Int)), .a 32 (rs (ovT ms)), .a 64 U1])) (t := 47) (n := 1) (c := 1) ?_ (hr := fun W _ => J2u rfl rfl rfl Tryz.underlying88 (by rw [J4]; kernel_rfl) (by rw [J4]; kernel_rfl) (by rw [J4]; exact Nat.le_of_ble_eq_true (by kernel_rfl)) (by rw [J4]; exact Nat.le_of_ble_eq_true (by kernel_rfl)))
   intro ρ
   refine TNp [0, 1, 2, 3, 4, 7, 8, 9, 10] [1, 2, 3, 4, 5, 6, 7, 8] ?_
   refine TE (fun _ h => h.pick [0, 1, 2, 3, 4, 7, 8, 9, 10]) ?_
   refine MAr 6 0 (tS := 88) (bytes := 104) (es := (List.map sgC xs)) (by first | omega | (simp only [lA, lM, lT, lD, lC, lN, J8, K8, V9, V5]; omega)) (e := sgC ⟨(xs.length : Int), rs (ovT ms), U1⟩) (hk := by rw [J4]; kernel_rfl) (h1 := by exact (J0a ⟨rfl, trivial⟩)) (cs := (agF [.c (.int .i64 (xs.length : Int)), .a 32 (rs (ovT ms)), .a 64 U1])) ?_
   intro R
   refine TNp [0, 1, 2, 3, 4, 6, 7, 8, 9, 10] [0, 1, 2, 3, 4, 6, 7, 8, 9] ?_
   refine TV ?_
   refine TV ?_
   refine TE (fun _ h => h.pick [0, 1, 2, 3, 4, 6, 7, 8, 9, 10]) ?_
   refine J78 (fun W hS => (Row.cells (hS.row (i := 6) rfl)).2) ?_
   intro α
   refine MP 5 (v := R) (cs' := agF [.a 32 S, .c D, .c R, .c vs]) ?_ (hs := by rw [J4]; exact Nat.le_of_ble_eq_true (by kernel_rfl)) (hc := J2q (off := 33) 2) (hv := fun W hS => Row.cells (hS.row (i := 6) rfl))
   refine TNp [0, 1, 2, 3, 4, 6, 7, 8, 9, 10] [0, 1, 2, 3, 4, 5, 6, 7, 8, 9] ?_
   refine TZ (fun _ h => h.pick [0, 1, 2, 3, 4, 6, 7, 8, 9, 10]) fun W hS => ?_
   go_upto_region 8 with fail
   refine RL hS ?_
   clear hS
   refine MV ?_
   refine MV ?_
   refine MV ?_
   refine MV ?_
   refine MT (fun W hS => hS.read (i := 1) rfl (hS.osl (i := 1) rfl) J43) ?_
   refine ME (V := fun _ => .int .i64 (us.length : Int)) (fun W hS => Q6x [5, 7, 1, 9] [0, 2, 3, 4, 6, 8, 10] hS (fun hT => J9o (us := us) (l := (sTx (xs.length : Int) (rs (ovT ms)))) (by first | omega | (simp only [lA, lM, lT, lD, lC, lN, J8, K8, V9, V5]; omega)) (by first | omega | (simp only [lA, lM, lT, lD, lC, lN, J8, K8, V9, V5]; omega)) W hT) (fun _ => ⟨.inr ⟨rfl, rfl⟩, .inr ⟨rfl, rfl⟩, .inl (by simp), .inl (by simp), trivial⟩)) ?_
   intro x8
   refine MZ fun W hS => ?_
   go_upto_region 9 with fail
   refine RL hS ?_
   clear hS
   refine ML 5 ?_ (hs := by rw [J4]; kernel_rfl)
   refine MR 7 ?_ (hz := by rw [J4]; kernel_rfl) (hs := by first | (rw [J4, J4]; simp only [J38, J37, J36]; done) | (rw [J4, J4]; rfl) | rfl) (h1 := by exact (J0a ⟨rfl, trivial⟩))
   refine MZ fun W hS => ?_
   have e_ := G.out
   subst e_
   go_wp2
   exact bodyPost_ret (Z6 rfl rfl (hS.blk (i := 7) rfl) (by kernel_rfl) (by rw [J4]; kernel_rfl)) rfl ⟨(D, R, x8), rfl, by have h_ := hS.pick [0, 8, 1, 6, 3, 10]; rw [Q1e] at h_; exact h_⟩
  refine MB (z := (agF [.c (.int .i64 (xs.length : Int)), .a 32 (rs (ovT ms)), .a 64 U1])) (t := 47) (n := 1) (c := 1) ?_ (hr := fun W _ => J2u rfl rfl rfl Tryz.underlying88 (by rw [J4]; kernel_rfl) (by rw [J4]; kernel_rfl) (by rw [J4]; exact Nat.le_of_ble_eq_true (by kernel_rfl)) (by rw [J4]; exact Nat.le_of_ble_eq_true (by kernel_rfl)))
  intro κ
  refine TNp [0, 1, 2, 3, 4, 7, 8, 9, 10] [1, 2, 3, 4, 5, 6, 7, 8] ?_
  refine TE (fun _ h => h.pick [0, 1, 2, 3, 4, 7, 8, 9, 10]) ?_
  refine MG 5 ?_ (v := (.slice Al xs.length cl)) (hj := (Y3 (off := 33) 2))
  refine TNp [0, 1, 2, 3, 4, 7, 8, 9, 10] [0, 1, 2, 3, 4, 5, 6, 7, 8] ?_
  refine TE (fun _ h => h.pick [0, 1, 2, 3, 4, 7, 8, 9, 10]) ?_
  refine MAr 6 0 (tS := 88) (bytes := 104) (es := (List.map sgC xs)) (by first | omega | (simp only [lA, lM, lT, lD, lC, lN, J8, K8, V9, V5]; omega)) (e := sgC ⟨(xs.length : Int), rs (ovT ms), U1⟩) (hk := by rw [J4]; kernel_rfl) (h1 := by exact (J0a ⟨rfl, trivial⟩)) (cs := (agF [.c (.int .i64 (xs.length : Int)), .a 32 (rs (ovT ms)), .a 64 U1])) ?_
  intro M
  refine TNp [0, 1, 2, 3, 4, 6, 7, 8, 9, 10] [0, 1, 2, 3, 4, 6, 7, 8, 9] ?_
  refine TV ?_
  refine TV ?_
  refine TE (fun _ h => h.pick [0, 1, 2, 3, 4, 6, 7, 8, 9, 10]) ?_
  refine J78 (fun W hS => (Row.cells (hS.row (i := 6) rfl)).2) ?_
  intro Y
  refine MP 5 (v := M) (cs' := agF [.a 32 S, .c D, .c M, .c vs]) ?_ (hs := by rw [J4]; exact Nat.le_of_ble_eq_true (by kernel_rfl)) (hc := J2q (off := 33) 2) (hv := fun W hS => Row.cells (hS.row (i := 6) rfl))
  refine TNp [0, 1, 2, 3, 4, 6, 7, 8, 9, 10] [0, 1, 2, 3, 4, 5, 6, 7, 8, 9] ?_
  refine TZ (fun _ h => h.pick [0, 1, 2, 3, 4, 6, 7, 8, 9, 10]) fun W hS => ?_
  go_upto_region 8 with fail
  refine RL hS ?_
  clear hS
  refine MV ?_
  refine MV ?_
  refine MV ?_
  refine MV ?_
  refine MT (fun W hS => hS.read (i := 1) rfl (hS.osl (i := 1) rfl) J43) ?_
  refine ME (V := fun _ => .int .i64 (us.length : Int)) (fun W hS => Q6x [5, 7, 1, 9] [0, 2, 3, 4, 6, 8, 10] hS (fun hT => J9o (us := us) (l := (sTx (xs.length : Int) (rs (ovT ms)))) (by first | omega | (simp only [lA, lM, lT, lD, lC, lN, J8, K8, V9, V5]; omega)) (by first | omega | (simp only [lA, lM, lT, lD, lC, lN, J8, K8, V9, V5]; omega)) W hT) (fun _ => ⟨.inr ⟨rfl, rfl⟩, .inr ⟨rfl, rfl⟩, .inl (by simp), .inl (by simp), trivial⟩)) ?_
  intro ζ
  refine MZ fun W hS => ?_
  go_upto_region 9 with fail
  refine RL hS ?_
  clear hS
  refine ML 5 ?_ (hs := by rw [J4]; kernel_rfl)
  refine MR 7 ?_ (hz := by rw [J4]; kernel_rfl) (hs := by first | (rw [J4, J4]; simp only [J38, J37, J36]; done) | (rw [J4, J4]; rfl) | rfl) (h1 := by exact (J0a ⟨rfl, trivial⟩))
  refine MZ fun W hS => ?_
  have e_ := G.out
  subst e_
  go_wp2
  exact bodyPost_ret (Z6 rfl rfl (hS.blk (i := 7) rfl) (by kernel_rfl) (by rw [J4]; kernel_rfl)) rfl ⟨(D, M, ζ), rfl, by have h_ := hS.pick [0, 8, 1, 6, 3, 10]; rw [Q1e] at h_; exact h_⟩
 refine MN (z := agF [.c (.int .i64 0), .a 32 0, .a 64 0]) (t := 47) ?_
 intro ξ
 refine TNp [1, 2, 3, 4, 5, 6, 7, 8] [0, 1, 2, 3, 4, 5, 6, 7] ?_
 refine TE (fun _ h => h.pick [1, 2, 3, 4, 5, 6, 7, 8]) ?_
 refine MC (v := .agg (J0 .u8 32 (Q3 (rs (ovT ms))))) (fun W hS => Q61 W (hS.pp (i := 7) rfl : GX W).gt (hS.tt (i := 1) rfl)) ?_
 refine TNp [1, 2, 3, 4, 5, 6, 7, 8] [0, 1, 2, 3, 4, 5, 6, 7] ?_
 refine TF (v := .agg (agF [.c (.int .i64 (xs.length : Int)), .a 32 (rs (ovT ms)), .a 64 0])) rfl (fun W hS => J2m rfl rfl J60 J61 (J11 (J11 J3q (l' := [.c (.int .i64 (xs.length : Int)), .a 32 (rs (ovT ms)), .a 64 0]) (m := [.a 32 (rs (ovT ms))]) (hv := (J94 _ _).symm) (hs := X9 (off := 1) 1 1) (hp := rfl) (hn := rfl) (hb := by show 1 + 32 ≤ 97; decide)) (l' := [.c (.int .i64 (xs.length : Int)), .a 32 0, .a 64 0]) (m := [.c (.int .i64 (xs.length : Int))]) (hv := rfl) (hs := X9 (off := 0) 0 1) (hp := rfl) (hn := rfl) (hb := by show 0 + 1 ≤ 97; decide))) ?_
 refine TE (fun _ h => h.pick [1, 2, 3, 4, 5, 6, 7, 8]) ?_
 refine MR 0 ?_ (hz := by rw [J4]; kernel_rfl) (hs := by first | (rw [J4, J4]; simp only [J38, J37, J36]; done) | (rw [J4, J4]; rfl) | rfl) (h1 := by exact (J0a ⟨rfl, trivial⟩))
 refine TNp [1, 2, 3, 4, 5, 6, 7, 8] [0, 1, 2, 3, 4, 5, 6, 7] ?_
 refine TZ (fun _ h => h.pick [1, 2, 3, 4, 5, 6, 7, 8]) fun W hS => ?_
 go_upto_region 5 with fail
 refine RL hS ?_
 clear hS
 refine MV ?_
 refine MG 0 ?_ (v := .int .i64 (xs.length : Int)) (hj := (Y3 (off := 0) 0))
 refine MV ?_
 refine Mk 0 ?_ (sub := J0 .u8 32 (Q3 (rs (ovT ms)))) (hs := (J1g (off := 1) 1))
 refine ME (V := fun v => v) (fun W hS => J58 hS (Q1d (xs.length : Int) (rs (ovT ms)) W) (fun _ => ⟨rfl, rfl⟩)) ?_
 intro γ
 refine MV ?_
 refine MZ fun W hS => ?_
 go_upto_region 6 with fail
 refine RL hS ?_
 clear hS
 refine MV ?_
 refine MV ?_
 refine MV ?_
 refine Mk 4 ?_ (sub := J0 .u8 32 (Q3 S)) (hs := (J1g (off := 0) 0))
 refine MV ?_
 obtain ⟨U1, J⟩ := V3 (sig S (sTx (xs.length : Int) (rs (ovT ms))))
 have G := Lib.hid J
 clear J
 refine MC (v := .agg (J0 .u8 64 (Q3 U1))) (fun W hS => S8.signN_c (kn := kn0) trivial trivial G.out γ [] (by first | omega | (simp only [lA, lM, lT, lD, lC, lN, J8, K8, V9, V5]; omega)) W (hS.pp (i := 8) rfl : GX W).2 (hS.osl (i := 0) rfl)) ?_
 refine MV ?_
 refine Mq 1 (new := agF [.c (.int .i64 (xs.length : Int)), .a 32 (rs (ovT ms)), .a 64 U1]) ?_ (hc := Q70 (off := 33) 2) (hs := by rw [J1, J4]; exact Nat.le_of_ble_eq_true (by kernel_rfl))
 refine MZ fun W hS => ?_
 go_upto_region 7 with fail
 refine RTp [0, 1, 2, 3, 6, 7, 8, 9] (.q 0 (.q 1 (.q 2 (.q 3 (.q 5 (.b 4 (.e 6 (.e 7 (.q 8 (.q 9 (.e 10 .z))))) 6 (.e 4 (.e 7 (.q 8 (.q 9 (.e 10 .z))))))))))) hS ?_
 clear hS
 refine TV ?_
 refine TV ?_
 refine TV ?_
 refine TV ?_
 refine TL 1 ?_ (hs := by rw [J4]; kernel_rfl)
 refine TB (fun _ h => h.pick [0, 1, 2, 3, 6, 7, 8, 9]) ?_ ?_
 ·
  refine MG 4 ?_ (v := (.slice Al xs.length cl)) (hj := (Y3 (off := 33) 2))
  refine TNp [0, 1, 2, 3, 6, 7, 8, 9] [0, 1, 2, 3, 4, 5, 6, 7] ?_
  refine TE (fun _ h => h.pick [0, 1, 2, 3, 6, 7, 8, 9]) ?_
  refine MB (z := (agF [.c (.int .i64 (xs.length : Int)), .a 32 (rs (ovT ms)), .a 64 U1])) (t := 47) (n := 1) (c := 1) ?_ (hr := fun W _ => J2u rfl rfl rfl Tryz.underlying88 (by rw [J4]; kernel_rfl) (by rw [J4]; kernel_rfl) (by rw [J4]; exact Nat.le_of_ble_eq_true (by kernel_rfl)) (by rw [J4]; exact Nat.le_of_ble_eq_true (by kernel_rfl)))
  intro ν
  refine TNp [0, 1, 2, 3, 4, 7, 8, 9, 10] [1, 2, 3, 4, 5, 6, 7, 8] ?_
  refine TE (fun _ h => h.pick [0, 1, 2, 3, 4, 7, 8, 9, 10]) ?_
  refine MAr 6 0 (tS := 88) (bytes := 104) (es := (List.map sgC xs)) (by first | omega | (simp only [lA, lM, lT, lD, lC, lN, J8, K8, V9, V5]; omega)) (e := sgC ⟨(xs.length : Int), rs (ovT ms), U1⟩) (hk := by rw [J4]; kernel_rfl) (h1 := by exact (J0a ⟨rfl, trivial⟩)) (cs := (agF [.c (.int .i64 (xs.length : Int)), .a 32 (rs (ovT ms)), .a 64 U1])) ?_
  intro N
  refine TNp [0, 1, 2, 3, 4, 6, 7, 8, 9, 10] [0, 1, 2, 3, 4, 6, 7, 8, 9] ?_
  refine TV ?_
  refine TV ?_
  refine TE (fun _ h => h.pick [0, 1, 2, 3, 4, 6, 7, 8, 9, 10]) ?_
  refine J78 (fun W hS => (Row.cells (hS.row (i := 6) rfl)).2) ?_
  intro X
  refine MP 5 (v := N) (cs' := agF [.a 32 S, .c D, .c N, .c vs]) ?_ (hs := by rw [J4]; exact Nat.le_of_ble_eq_true (by kernel_rfl)) (hc := J2q (off := 33) 2) (hv := fun W hS => Row.cells (hS.row (i := 6) rfl))
  refine TNp [0, 1, 2, 3, 4, 6, 7, 8, 9, 10] [0, 1, 2, 3, 4, 5, 6, 7, 8, 9] ?_
  refine TZ (fun _ h => h.pick [0, 1, 2, 3, 4, 6, 7, 8, 9, 10]) fun W hS => ?_
  go_upto_region 8 with fail
  refine RL hS ?_
  clear hS
  refine MV ?_
  refine MV ?_
  refine MV ?_
  refine MV ?_
  refine MT (fun W hS => hS.read (i := 1) rfl (hS.osl (i := 1) rfl) J43) ?_
  refine ME (V := fun _ => .int .i64 (us.length : Int)) (fun W hS => Q6x [5, 7, 1, 9] [0, 2, 3, 4, 6, 8, 10] hS (fun hT => J9o (us := us) (l := (sTx (xs.length : Int) (rs (ovT ms)))) (by first | omega | (simp only [lA, lM, lT, lD, lC, lN, J8, K8, V9, V5]; omega)) (by first | omega | (simp only [lA, lM, lT, lD, lC, lN, J8, K8, V9, V5]; omega)) W hT) (fun _ => ⟨.inr ⟨rfl, rfl⟩, .inr ⟨rfl, rfl⟩, .inl (by simp), .inl (by simp), trivial⟩)) ?_
  intro ε
  refine MZ fun W hS => ?_
  go_upto_region 9 with fail
  refine RL hS ?_
  clear hS
  refine ML 5 ?_ (hs := by rw [J4]; kernel_rfl)
  refine MR 7 ?_ (hz := by rw [J4]; kernel_rfl) (hs := by first | (rw [J4, J4]; simp only [J38, J37, J36]; done) | (rw [J4, J4]; rfl) | rfl) (h1 := by exact (J0a ⟨rfl, trivial⟩))
  refine MZ fun W hS => ?_
  have e_ := G.out
  subst e_
  go_wp2
  exact bodyPost_ret (Z6 rfl rfl (hS.blk (i := 7) rfl) (by kernel_rfl) (by rw [J4]; kernel_rfl)) rfl ⟨(D, N, ε), rfl, by have h_ := hS.pick [0, 8, 1, 6, 3, 10]; rw [Q1e] at h_; exact h_⟩
 refine MB (z := (agF [.c (.int .i64 (xs.length : Int)), .a 32 (rs (ovT ms)), .a 64 U1])) (t := 47) (n := 1) (c := 1) ?_ (hr := fun W _ => J2u rfl rfl rfl Tryz.underlying88 (by rw [J4]; kernel_rfl) (by rw [J4]; kernel_rfl) (by rw [J4]; exact Nat.le_of_ble_eq_true (by kernel_rfl)) (by rw [J4]; exact Nat.le_of_ble_eq_true (by kernel_rfl)))
 intro μ
 refine TNp [0, 1, 2, 3, 4, 7, 8, 9, 10] [1, 2, 3, 4, 5, 6, 7, 8] ?_
 refine TE (fun _ h => h.pick [0, 1, 2, 3, 4, 7, 8, 9, 10]) ?_
 refine MG 5 ?_ (v := (.slice Al xs.length cl)) (hj := (Y3 (off := 33) 2))
 refine TNp [0, 1, 2, 3, 4, 7, 8, 9, 10] [0, 1, 2, 3, 4, 5, 6, 7, 8] ?_
 refine TE (fun _ h => h.pick [0, 1, 2, 3, 4, 7, 8, 9, 10]) ?_
 refine MAr 6 0 (tS := 88) (bytes := 104) (es := (List.map sgC xs)) (by first | omega | (simp only [lA, lM, lT, lD, lC, lN, J8, K8, V9, V5]; omega)) (e := sgC ⟨(xs.length : Int), rs (ovT ms), U1⟩) (hk := by rw [J4]; kernel_rfl) (h1 := by exact (J0a ⟨rfl, trivial⟩)) (cs := (agF [.c (.int .i64 (xs.length : Int)), .a 32 (rs (ovT ms)), .a 64 U1])) ?_
 intro U
 refine TNp [0, 1, 2, 3, 4, 6, 7, 8, 9, 10] [0, 1, 2, 3, 4, 6, 7, 8, 9] ?_
 refine TV ?_
 refine TV ?_
 refine TE (fun _ h => h.pick [0, 1, 2, 3, 4, 6, 7, 8, 9, 10]) ?_
 refine J78 (fun W hS => (Row.cells (hS.row (i := 6) rfl)).2) ?_
 intro Z
 refine MP 5 (v := U) (cs' := agF [.a 32 S, .c D, .c U, .c vs]) ?_ (hs := by rw [J4]; exact Nat.le_of_ble_eq_true (by kernel_rfl)) (hc := J2q (off := 33) 2) (hv := fun W hS => Row.cells (hS.row (i := 6) rfl))
 refine TNp [0, 1, 2, 3, 4, 6, 7, 8, 9, 10] [0, 1, 2, 3, 4, 5, 6, 7, 8, 9] ?_
 refine TZ (fun _ h => h.pick [0, 1, 2, 3, 4, 6, 7, 8, 9, 10]) fun W hS => ?_
 go_upto_region 8 with fail
 refine RL hS ?_
 clear hS
 refine MV ?_
 refine MV ?_
 refine MV ?_
 refine MV ?_
 refine MT (fun W hS => hS.read (i := 1) rfl (hS.osl (i := 1) rfl) J43) ?_
 refine ME (V := fun _ => .int .i64 (us.length : Int)) (fun W hS => Q6x [5, 7, 1, 9] [0, 2, 3, 4, 6, 8, 10] hS (fun hT => J9o (us := us) (l := (sTx (xs.length : Int) (rs (ovT ms)))) (by first | omega | (simp only [lA, lM, lT, lD, lC, lN, J8, K8, V9, V5]; omega)) (by first | omega | (simp only [lA, lM, lT, lD, lC, lN, J8, K8, V9, V5]; omega)) W hT) (fun _ => ⟨.inr ⟨rfl, rfl⟩, .inr ⟨rfl, rfl⟩, .inl (by simp), .inl (by simp), trivial⟩)) ?_
 intro δ
 refine MZ fun W hS => ?_
 go_upto_region 9 with fail
 refine RL hS ?_
 clear hS
 refine ML 5 ?_ (hs := by rw [J4]; kernel_rfl)
 refine MR 7 ?_ (hz := by rw [J4]; kernel_rfl) (hs := by first | (rw [J4, J4]; simp only [J38, J37, J36]; done) | (rw [J4, J4]; rfl) | rfl) (h1 := by exact (J0a ⟨rfl, trivial⟩))
 refine MZ fun W hS => ?_
 have e_ := G.out
 subst e_
 go_wp2
 exact bodyPost_ret (Z6 rfl rfl (hS.blk (i := 7) rfl) (by kernel_rfl) (by rw [J4]; kernel_rfl)) rfl ⟨(D, U, δ), rfl, by have h_ := hS.pick [0, 8, 1, 6, 3, 10]; rw [Q1e] at h_; exact h_⟩
end Go.Proofs.YtejkmhgkkibafaaGreatDoor

/- The law SuperTexts. Conditions: the tables hold their numbers. -/
import Derived.Test.YtejkmhgkkibafaaGreatDoorJ48
set_option linter.unusedSimpArgs false
set_option linter.unusedVariables false
namespace Go.Proofs.YtejkmhgkkibafaaGreatDoor
set_option maxHeartbeats 3000000
set_option maxRecDepth 100000
open Go.RowKit
attribute [local irreducible] wpList wpTr wpX
open S8 (Kn GA kP sig vfy)
set_option linter.unusedSimpArgs false
theorem mb_row1 {W : World} {b : Nat} {m : Mb} {t : TypeId} (h : Blk W b (mbF m) t) : RR 35 W (.slice (some ⟨b, 0, none⟩) 1 1) ([m].map mbC) :=
 (row_blk (t := t) (es := [mbC m]) h (by show fcs _ = fcs _ ++ []; rw [List.append_nil]) (fun e he => mbC_len (ms := [m]) e he) (by show 1 ≤ maxLen; decide)).rr
theorem mbK1 {W : World} {m : Mb} (h : Sl W m.u m.id) (hl : m.id.length ≤ 100000000) : mbK [m] W := fun y hy => by rw [List.mem_singleton.1 hy]; exact ⟨h, hl⟩
theorem eqKeyS {A B : Nat} (h : A = B) (w : World) : (Op.equalIn 10000 31 (.agg (arrK .u8 32 (byt A))) (.agg (arrK .u8 32 (byt B)))).run Tryz.prog w = .ok true w := by
 subst h
 have h := run_equalIn_arr (P := Tryz.prog) w 9998 31 5 32 .u8 (arrK .u8 32 (byt A)) (arrK .u8 32 (byt A)) (byt A) (byt A) Tryz.underlying31 Tryz.underlying5 (by kernel_rfl)
  (fun i hi => arrK_get _ _ _ _ hi) (fun i hi => arrK_get _ _ _ _ hi)
 rw [h, (eqArr_true _ _ _).2 fun _ _ => rfl]
theorem kTx_eq (l : List UInt8) : kTx l = [5] ++ l := rfl
attribute [local irreducible] eI be8 hs4 lb kTx vTx sTx eS rs ofT sE sL sN S8.sig S8.vfy S8.kP S8.kN S8.kD

theorem superTexts_L {q : Prop} (hr : q) {u : Value} {id L : List UInt8} {gone : Bool} {ep epoch : Int} {link root : Nat} (hE : List.take (min id.length 50) id = L) (hL : L.length ≤ 50) (w : World) (hG : GT q w) (hX : GX w) (hid : Sl w u id) :
  Calls Tryz.prog 3 #[.agg (agF [.c u, .c (.bool gone), .c (.int .i64 ep), .a 32 link]), .int .i64 epoch, .agg (arrK .u8 32 (byt root))] w fun e w' => Ret (.bool true) w w' e := by
 have huc := sl_cells hid
 have hvl := fun m => vTx_len m
 have hS := SH.nil [] w
 have hS := hS.entp (gx_holds hX)
 go_enter Tryz.func3, Tryz.ntmps3
 go_upto_region 0 with fail
 refine RL hS ?_
 clear hS
 refine MN (z := agF [.c u, .c (.bool gone), .c (.int .i64 ep), .a 32 link]) (t := 25) ?_
 intro p3_1
 refine MN (z := arrK .u8 32 (byt root)) (t := 23) ?_
 intro p5_2
 refine MW ?_ (v := .bool false)
 refine MZ fun W hS => ?_
 go_upto_region 1 with fail
 refine RL hS ?_
 clear hS
 refine MV ?_
 refine MG 1 ?_ (v := u) (hj := (agF_cel (off := 0) 0))
 refine MV ?_
 refine MG 1 ?_ (v := u) (hj := (agF_cel (off := 0) 0))
 refine MF (v := .int .i64 (id.length : Int)) (fun W hS => run_lenA (sl_e hid hS.ext) rfl rfl) ?_
 refine MW ?_ (v := .int .i64 ((min id.length 50 : Nat) : Int))
 refine MT (fun W hS => hS.ent hid) ?_
 refine MH 0 (min id.length 50) (m := id) (m' := L) (by exact Nat.min_le_left _ _) ?_ (hm := hE)
 intro u16_3
 refine MV ?_
 refine MFact (fun W hS => (sl_cells (hS.sl (i := 0) rfl)).2) ?_
 intro oc_c164
 refine MP 3 (v := u16_3) (cs' := agF [.c u16_3, .c (.bool gone), .c (.int .i64 ep), .a 32 link]) ?_ (hs := by rw [agF_size]; exact Nat.le_of_ble_eq_true (by kernel_rfl)) (hc := agF_setc (off := 0) 0) (hv := fun W hS => sl_cells (hS.sl (i := 0) rfl))
 refine MZ fun W hS => ?_
 go_upto_region 2 with fail
 refine RL hS ?_
 clear hS
 refine ML 3 ?_ (hs := by rw [agF_size]; kernel_rfl)
 refine MB (z := (agF [.c u16_3, .c (.bool gone), .c (.int .i64 ep), .a 32 link])) (t := 25) (n := 1) (c := 1) ?_ (hr := fun W _ => run_bsA rfl rfl rfl Tryz.underlying30 (by rw [agF_size]; kernel_rfl) (by rw [agF_size]; kernel_rfl) (by rw [agF_size]; exact Nat.le_of_ble_eq_true (by kernel_rfl)) (by rw [agF_size]; exact Nat.le_of_ble_eq_true (by kernel_rfl)))
 intro p19_5
 refine ME (V := fun v => v) (fun W hS => ncall hS (from_c (ms := [⟨u16_3, L, gone, ep, link⟩]) (by simp) W (mb_row1 (hS.blk (i := 0) rfl)) (mbK1 (hS.sl (i := 1) rfl) (by first | omega | (simp only [List.length_append, List.length_map, List.length_take, List.length_drop, List.length_cons, List.length_nil, lb_length, eI_len, kTx_len, sTx_len]; omega)))) (fun _ => ⟨rfl, rfl⟩)) ?_
 intro u_fr6
 refine MI 0 0 (e := (rmC ⟨u16_3, L, gone, ep, link⟩)) rfl ?_
 intro gb21_7 _ hv21_7
 refine MF (v := .agg (agF [.c (str L), .c (.bool gone), .c (.int .i64 ep), .c (str (lb 32 link))])) (fun W hS => run_atsub rfl rfl (fun i_ v hv => row_cell (hS.row (i := 0) rfl) hv21_7.out rfl i_ v ((fun i_ v hv => by unfold rmC; rw [← agF_list, Array.getElem?_toList]; simpa using hv) i_ v hv)) (by kernel_rfl) (by rw [agF_size]; kernel_rfl)) ?_
 refine MN (z := agF [.c (str []), .c (.bool false), .c (.int .i64 0), .c (str [])]) (t := 27) ?_
 intro p7_8
 refine MR 0 ?_ (hz := by rw [agF_size]; kernel_rfl) (hs := by first | (rw [agF_size, agF_size]; rfl) | rfl) (h1 := by exact (agF_one ⟨rfl, rfl, rfl, rfl, trivial⟩))
 refine MZ fun W hS => ?_
 go_upto_region 3 with fail
 refine RJ (R := fun a_ w_ => ∃ (j3_0 : Nat), ∃ (j3_1 : Nat), a_ = { tmps := List.toArray ((.agg (agF [.c u, .c (.bool gone), .c (.int .i64 ep), .a 32 link])) :: (.int .i64 epoch) :: (.agg (arrK .u8 32 (byt root))) :: (.pointer (some ⟨p3_1, 0, none⟩)) :: undef :: (.pointer (some ⟨p5_2, 0, none⟩)) :: (.bool false) :: (.pointer (some ⟨p7_8, 0, none⟩)) :: (.pointer (some ⟨j3_0, 0, none⟩)) :: (.pointer (some ⟨j3_1, 0, none⟩)) :: (.pointer (some ⟨p3_1, 0, none⟩)) :: u :: (.pointer (some ⟨p3_1, 0, none⟩)) :: u :: (.int .i64 (id.length : Int)) :: (.int .i64 ((min id.length 50 : Nat) : Int)) :: u16_3 :: (.pointer (some ⟨p3_1, 0, none⟩)) :: (.agg (agF [.c u16_3, .c (.bool gone), .c (.int .i64 ep), .a 32 link])) :: (.slice (some ⟨p19_5, 0, none⟩) 1 1) :: u_fr6 :: (.pointer (some ⟨gb21_7, 0 * 4, none⟩)) :: (.agg (agF [.c (str L), .c (.bool gone), .c (.int .i64 ep), .c (str (lb 32 link))])) :: (.pointer (some ⟨p3_1, 0, none⟩)) :: u16_3 :: (.agg (arrK .u8 32 (byt (hs4 (kTx L))))) :: (.agg (agF [.c u16_3, .c (.bool gone), .c (.int .i64 ep), .a 32 link])) :: (.agg (arrK .u8 32 (byt (hs4 (vTx ⟨u16_3, L, gone, ep, link⟩))))) :: undef :: undef :: undef :: undef :: undef :: undef :: undef :: undef :: undef :: undef :: undef :: undef :: undef :: undef :: undef :: undef :: undef :: undef :: undef :: undef :: undef :: undef :: undef :: undef :: undef :: undef :: undef :: undef :: undef :: undef :: undef :: undef :: undef :: undef :: undef :: undef :: undef :: undef :: undef :: undef :: undef :: undef :: undef :: undef :: undef :: undef :: undef :: undef :: undef :: undef :: undef :: undef :: undef :: []), defers := [] } ∧ SH [] w w_ [.b j3_0 (arrK .u8 32 (byt (hs4 (kTx L)))) 31, .b j3_1 (arrK .u8 32 (byt (hs4 (vTx ⟨u16_3, L, gone, ep, link⟩)))) 23, .s u16_3 L, .r 27 4 u_fr6 (List.map rmC [⟨u16_3, L, gone, ep, link⟩]), gx, .s u id, .b p19_5 (agF [.c u16_3, .c (.bool gone), .c (.int .i64 ep), .a 32 link]) 25, .b p3_1 (agF [.c u16_3, .c (.bool gone), .c (.int .i64 ep), .a 32 link]) 25, .b p5_2 (arrK .u8 32 (byt root)) 23, .b p7_8 (agF [.c (str L), .c (.bool gone), .c (.int .i64 ep), .c (str (lb 32 link))]) 27]) ?_ ?_
 ·
  skip
  refine RTh (.q 0 (.q 1 (.q 3 (.c 2 (.c 4 (.b 5 (.e 6 (.e 7 (.e 8 .z))) 6 (.e 5 (.e 7 (.e 8 .z)))) 5 (.b 4 (.e 6 (.e 7 (.e 8 .z))) 6 (.e 4 (.e 7 (.e 8 .z)))) 6 (.b 4 (.e 5 (.e 7 (.e 8 .z))) 5 (.e 4 (.e 7 (.e 8 .z))))) 5 (.b 2 (.b 4 (.e 6 (.e 7 (.e 8 .z))) 6 (.e 4 (.e 7 (.e 8 .z)))) 6 (.e 2 (.e 4 (.e 7 (.e 8 .z))))) 6 (.b 2 (.b 4 (.e 5 (.e 7 (.e 8 .z))) 5 (.e 4 (.e 7 (.e 8 .z)))) 5 (.e 2 (.e 4 (.e 7 (.e 8 .z))))))))) hS ?_
  clear hS
  refine TV ?_
  refine TG 6 ?_ (v := u16_3) (hj := (agF_cel (off := 0) 0))
  refine TL 6 ?_ (hs := by rw [agF_size]; kernel_rfl)
  refine TC (fun _ h => h) ?_ ?_ ?_
  ·
   skip
   refine MC (v := .agg (arrK .u8 32 (byt (hs4 (kTx L))))) (fun W hS => sKey_c W (hS.pp (i := 7) rfl : GX W).gt (hS.sl (i := 3) rfl) (by first | omega | (simp only [List.length_append, List.length_map, List.length_take, List.length_drop, List.length_cons, List.length_nil, lb_length, eI_len, kTx_len, sTx_len]; omega))) ?_
   refine TNh (fun W hS => hS) ?_
   refine TC (fun _ h => h) ?_ ?_ ?_
   ·
    skip
    refine MC (v := .agg (arrK .u8 32 (byt (hs4 (vTx ⟨u16_3, L, gone, ep, link⟩))))) (fun W hS => sValue_c (m := ⟨u16_3, L, gone, ep, link⟩) W (hS.pp (i := 7) rfl : GX W).gt (hS.sl (i := 3) rfl)) ?_
    refine TNh (fun W hS => hS) ?_
    refine TB (fun _ h => h) ?_ ?_
    ·
     skip
     refine MN (z := arrK .u8 32 (byt 0)) (t := 31) ?_
     intro p8_9
     refine TNp [1, 2, 3, 4, 5, 6, 7, 8] [0, 1, 2, 3, 4, 5, 6, 7] ?_
     refine TE (fun _ h => h.pick [1, 2, 3, 4, 5, 6, 7, 8]) ?_
     refine MN (z := arrK .u8 32 (byt 0)) (t := 23) ?_
     intro p9_10
     refine TNp [2, 3, 4, 5, 6, 7, 8, 9] [0, 1, 2, 3, 4, 5, 6, 7] ?_
     refine TE (fun _ h => h.pick [2, 3, 4, 5, 6, 7, 8, 9]) ?_
     refine MR 1 ?_ 
     refine TNp [2, 3, 4, 5, 6, 7, 8, 9] [0, 1, 2, 3, 4, 5, 6, 7] ?_
     refine TE (fun _ h => h.pick [2, 3, 4, 5, 6, 7, 8, 9]) ?_
     refine MR 0 ?_ 
     refine TNp [2, 3, 4, 5, 6, 7, 8, 9] [0, 1, 2, 3, 4, 5, 6, 7] ?_
     refine TZ (fun _ h => h.pick [2, 3, 4, 5, 6, 7, 8, 9]) fun W hS => ?_
     exact ⟨p8_9, p9_10, rfl, hS.pick [1, 0, 5, 3, 9, 6, 4, 8, 7, 2]⟩
    ·
     skip
     refine MN (z := arrK .u8 32 (byt 0)) (t := 23) ?_
     intro p9_11
     refine TNp [1, 2, 3, 4, 5, 6, 7, 8] [0, 1, 2, 3, 4, 5, 6, 7] ?_
     refine TE (fun _ h => h.pick [1, 2, 3, 4, 5, 6, 7, 8]) ?_
     refine MN (z := arrK .u8 32 (byt 0)) (t := 31) ?_
     intro p8_12
     refine TNp [2, 3, 4, 5, 6, 7, 8, 9] [0, 1, 2, 3, 4, 5, 6, 7] ?_
     refine TE (fun _ h => h.pick [2, 3, 4, 5, 6, 7, 8, 9]) ?_
     refine MR 0 ?_ 
     refine TNp [2, 3, 4, 5, 6, 7, 8, 9] [0, 1, 2, 3, 4, 5, 6, 7] ?_
     refine TE (fun _ h => h.pick [2, 3, 4, 5, 6, 7, 8, 9]) ?_
     refine MR 1 ?_ 
     refine TNp [2, 3, 4, 5, 6, 7, 8, 9] [0, 1, 2, 3, 4, 5, 6, 7] ?_
     refine TZ (fun _ h => h.pick [2, 3, 4, 5, 6, 7, 8, 9]) fun W hS => ?_
     exact ⟨p8_12, p9_11, rfl, hS.pick [0, 1, 5, 3, 9, 6, 4, 8, 7, 2]⟩
   ·
    skip
    refine MN (z := arrK .u8 32 (byt 0)) (t := 31) ?_
    intro p8_13
    refine TNp [1, 2, 3, 4, 5, 6, 7, 8] [0, 1, 2, 3, 4, 5, 6, 7] ?_
    refine TB (fun _ h => h.pick [1, 2, 3, 4, 5, 6, 7, 8]) ?_ ?_
    ·
     skip
     refine MC (v := .agg (arrK .u8 32 (byt (hs4 (vTx ⟨u16_3, L, gone, ep, link⟩))))) (fun W hS => sValue_c (m := ⟨u16_3, L, gone, ep, link⟩) W (hS.pp (i := 8) rfl : GX W).gt (hS.sl (i := 4) rfl)) ?_
     refine TNp [1, 2, 3, 4, 5, 6, 7, 8] [0, 1, 2, 3, 4, 5, 6, 7] ?_
     refine TE (fun _ h => h.pick [1, 2, 3, 4, 5, 6, 7, 8]) ?_
     refine MN (z := arrK .u8 32 (byt 0)) (t := 23) ?_
     intro p9_14
     refine TNp [2, 3, 4, 5, 6, 7, 8, 9] [0, 1, 2, 3, 4, 5, 6, 7] ?_
     refine TE (fun _ h => h.pick [2, 3, 4, 5, 6, 7, 8, 9]) ?_
     refine MR 1 ?_ 
     refine TNp [2, 3, 4, 5, 6, 7, 8, 9] [0, 1, 2, 3, 4, 5, 6, 7] ?_
     refine TE (fun _ h => h.pick [2, 3, 4, 5, 6, 7, 8, 9]) ?_
     refine MR 0 ?_ 
     refine TNp [2, 3, 4, 5, 6, 7, 8, 9] [0, 1, 2, 3, 4, 5, 6, 7] ?_
     refine TZ (fun _ h => h.pick [2, 3, 4, 5, 6, 7, 8, 9]) fun W hS => ?_
     exact ⟨p8_13, p9_14, rfl, hS.pick [1, 0, 5, 3, 9, 6, 4, 8, 7, 2]⟩
    ·
     skip
     refine MN (z := arrK .u8 32 (byt 0)) (t := 23) ?_
     intro p9_15
     refine TNp [2, 3, 4, 5, 6, 7, 8, 9] [0, 1, 2, 3, 4, 5, 6, 7] ?_
     refine TE (fun _ h => h.pick [2, 3, 4, 5, 6, 7, 8, 9]) ?_
     refine MC (v := .agg (arrK .u8 32 (byt (hs4 (vTx ⟨u16_3, L, gone, ep, link⟩))))) (fun W hS => sValue_c (m := ⟨u16_3, L, gone, ep, link⟩) W (hS.pp (i := 9) rfl : GX W).gt (hS.sl (i := 5) rfl)) ?_
     refine TNp [2, 3, 4, 5, 6, 7, 8, 9] [0, 1, 2, 3, 4, 5, 6, 7] ?_
     refine TE (fun _ h => h.pick [2, 3, 4, 5, 6, 7, 8, 9]) ?_
     refine MR 1 ?_ 
     refine TNp [2, 3, 4, 5, 6, 7, 8, 9] [0, 1, 2, 3, 4, 5, 6, 7] ?_
     refine TE (fun _ h => h.pick [2, 3, 4, 5, 6, 7, 8, 9]) ?_
     refine MR 0 ?_ 
     refine TNp [2, 3, 4, 5, 6, 7, 8, 9] [0, 1, 2, 3, 4, 5, 6, 7] ?_
     refine TZ (fun _ h => h.pick [2, 3, 4, 5, 6, 7, 8, 9]) fun W hS => ?_
     exact ⟨p8_13, p9_15, rfl, hS.pick [1, 0, 5, 3, 9, 6, 4, 8, 7, 2]⟩
   ·
    skip
    refine MN (z := arrK .u8 32 (byt 0)) (t := 23) ?_
    intro p9_16
    refine TNp [1, 2, 3, 4, 5, 6, 7, 8] [0, 1, 2, 3, 4, 5, 6, 7] ?_
    refine TB (fun _ h => h.pick [1, 2, 3, 4, 5, 6, 7, 8]) ?_ ?_
    ·
     skip
     refine MC (v := .agg (arrK .u8 32 (byt (hs4 (vTx ⟨u16_3, L, gone, ep, link⟩))))) (fun W hS => sValue_c (m := ⟨u16_3, L, gone, ep, link⟩) W (hS.pp (i := 8) rfl : GX W).gt (hS.sl (i := 4) rfl)) ?_
     refine TNp [1, 2, 3, 4, 5, 6, 7, 8] [0, 1, 2, 3, 4, 5, 6, 7] ?_
     refine TE (fun _ h => h.pick [1, 2, 3, 4, 5, 6, 7, 8]) ?_
     refine MN (z := arrK .u8 32 (byt 0)) (t := 31) ?_
     intro p8_17
     refine TNp [2, 3, 4, 5, 6, 7, 8, 9] [0, 1, 2, 3, 4, 5, 6, 7] ?_
     refine TE (fun _ h => h.pick [2, 3, 4, 5, 6, 7, 8, 9]) ?_
     refine MR 0 ?_ 
     refine TNp [2, 3, 4, 5, 6, 7, 8, 9] [0, 1, 2, 3, 4, 5, 6, 7] ?_
     refine TE (fun _ h => h.pick [2, 3, 4, 5, 6, 7, 8, 9]) ?_
     refine MR 1 ?_ 
     refine TNp [2, 3, 4, 5, 6, 7, 8, 9] [0, 1, 2, 3, 4, 5, 6, 7] ?_
     refine TZ (fun _ h => h.pick [2, 3, 4, 5, 6, 7, 8, 9]) fun W hS => ?_
     exact ⟨p8_17, p9_16, rfl, hS.pick [0, 1, 5, 3, 9, 6, 4, 8, 7, 2]⟩
    ·
     skip
     refine MN (z := arrK .u8 32 (byt 0)) (t := 31) ?_
     intro p8_18
     refine TNp [2, 3, 4, 5, 6, 7, 8, 9] [0, 1, 2, 3, 4, 5, 6, 7] ?_
     refine TE (fun _ h => h.pick [2, 3, 4, 5, 6, 7, 8, 9]) ?_
     refine MC (v := .agg (arrK .u8 32 (byt (hs4 (vTx ⟨u16_3, L, gone, ep, link⟩))))) (fun W hS => sValue_c (m := ⟨u16_3, L, gone, ep, link⟩) W (hS.pp (i := 9) rfl : GX W).gt (hS.sl (i := 5) rfl)) ?_
     refine TNp [2, 3, 4, 5, 6, 7, 8, 9] [0, 1, 2, 3, 4, 5, 6, 7] ?_
     refine TE (fun _ h => h.pick [2, 3, 4, 5, 6, 7, 8, 9]) ?_
     refine MR 0 ?_ 
     refine TNp [2, 3, 4, 5, 6, 7, 8, 9] [0, 1, 2, 3, 4, 5, 6, 7] ?_
     refine TE (fun _ h => h.pick [2, 3, 4, 5, 6, 7, 8, 9]) ?_
     refine MR 1 ?_ 
     refine TNp [2, 3, 4, 5, 6, 7, 8, 9] [0, 1, 2, 3, 4, 5, 6, 7] ?_
     refine TZ (fun _ h => h.pick [2, 3, 4, 5, 6, 7, 8, 9]) fun W hS => ?_
     exact ⟨p8_18, p9_16, rfl, hS.pick [0, 1, 5, 3, 9, 6, 4, 8, 7, 2]⟩
  ·
   skip
   refine MN (z := arrK .u8 32 (byt 0)) (t := 31) ?_
   intro p8_19
   refine TNp [1, 2, 3, 4, 5, 6, 7, 8] [0, 1, 2, 3, 4, 5, 6, 7] ?_
   refine TB (fun _ h => h.pick [1, 2, 3, 4, 5, 6, 7, 8]) ?_ ?_
   ·
    skip
    refine MC (v := .agg (arrK .u8 32 (byt (hs4 (kTx L))))) (fun W hS => sKey_c W (hS.pp (i := 8) rfl : GX W).gt (hS.sl (i := 4) rfl) (by first | omega | (simp only [List.length_append, List.length_map, List.length_take, List.length_drop, List.length_cons, List.length_nil, lb_length, eI_len, kTx_len, sTx_len]; omega))) ?_
    refine TNp [1, 2, 3, 4, 5, 6, 7, 8] [0, 1, 2, 3, 4, 5, 6, 7] ?_
    refine TB (fun _ h => h.pick [1, 2, 3, 4, 5, 6, 7, 8]) ?_ ?_
    ·
     skip
     refine MC (v := .agg (arrK .u8 32 (byt (hs4 (vTx ⟨u16_3, L, gone, ep, link⟩))))) (fun W hS => sValue_c (m := ⟨u16_3, L, gone, ep, link⟩) W (hS.pp (i := 8) rfl : GX W).gt (hS.sl (i := 4) rfl)) ?_
     refine TNp [1, 2, 3, 4, 5, 6, 7, 8] [0, 1, 2, 3, 4, 5, 6, 7] ?_
     refine TE (fun _ h => h.pick [1, 2, 3, 4, 5, 6, 7, 8]) ?_
     refine MN (z := arrK .u8 32 (byt 0)) (t := 23) ?_
     intro p9_20
     refine TNp [2, 3, 4, 5, 6, 7, 8, 9] [0, 1, 2, 3, 4, 5, 6, 7] ?_
     refine TE (fun _ h => h.pick [2, 3, 4, 5, 6, 7, 8, 9]) ?_
     refine MR 1 ?_ 
     refine TNp [2, 3, 4, 5, 6, 7, 8, 9] [0, 1, 2, 3, 4, 5, 6, 7] ?_
     refine TE (fun _ h => h.pick [2, 3, 4, 5, 6, 7, 8, 9]) ?_
     refine MR 0 ?_ 
     refine TNp [2, 3, 4, 5, 6, 7, 8, 9] [0, 1, 2, 3, 4, 5, 6, 7] ?_
     refine TZ (fun _ h => h.pick [2, 3, 4, 5, 6, 7, 8, 9]) fun W hS => ?_
     exact ⟨p8_19, p9_20, rfl, hS.pick [1, 0, 5, 3, 9, 6, 4, 8, 7, 2]⟩
    ·
     skip
     refine MN (z := arrK .u8 32 (byt 0)) (t := 23) ?_
     intro p9_21
     refine TNp [2, 3, 4, 5, 6, 7, 8, 9] [0, 1, 2, 3, 4, 5, 6, 7] ?_
     refine TE (fun _ h => h.pick [2, 3, 4, 5, 6, 7, 8, 9]) ?_
     refine MC (v := .agg (arrK .u8 32 (byt (hs4 (vTx ⟨u16_3, L, gone, ep, link⟩))))) (fun W hS => sValue_c (m := ⟨u16_3, L, gone, ep, link⟩) W (hS.pp (i := 9) rfl : GX W).gt (hS.sl (i := 5) rfl)) ?_
     refine TNp [2, 3, 4, 5, 6, 7, 8, 9] [0, 1, 2, 3, 4, 5, 6, 7] ?_
     refine TE (fun _ h => h.pick [2, 3, 4, 5, 6, 7, 8, 9]) ?_
     refine MR 1 ?_ 
     refine TNp [2, 3, 4, 5, 6, 7, 8, 9] [0, 1, 2, 3, 4, 5, 6, 7] ?_
     refine TE (fun _ h => h.pick [2, 3, 4, 5, 6, 7, 8, 9]) ?_
     refine MR 0 ?_ 
     refine TNp [2, 3, 4, 5, 6, 7, 8, 9] [0, 1, 2, 3, 4, 5, 6, 7] ?_
     refine TZ (fun _ h => h.pick [2, 3, 4, 5, 6, 7, 8, 9]) fun W hS => ?_
     exact ⟨p8_19, p9_21, rfl, hS.pick [1, 0, 5, 3, 9, 6, 4, 8, 7, 2]⟩
   ·
    skip
    refine MN (z := arrK .u8 32 (byt 0)) (t := 23) ?_
    intro p9_22
    refine TNp [2, 3, 4, 5, 6, 7, 8, 9] [0, 1, 2, 3, 4, 5, 6, 7] ?_
    refine TE (fun _ h => h.pick [2, 3, 4, 5, 6, 7, 8, 9]) ?_
    refine MC (v := .agg (arrK .u8 32 (byt (hs4 (kTx L))))) (fun W hS => sKey_c W (hS.pp (i := 9) rfl : GX W).gt (hS.sl (i := 5) rfl) (by first | omega | (simp only [List.length_append, List.length_map, List.length_take, List.length_drop, List.length_cons, List.length_nil, lb_length, eI_len, kTx_len, sTx_len]; omega))) ?_
    refine TNp [2, 3, 4, 5, 6, 7, 8, 9] [0, 1, 2, 3, 4, 5, 6, 7] ?_
    refine TE (fun _ h => h.pick [2, 3, 4, 5, 6, 7, 8, 9]) ?_
    refine MC (v := .agg (arrK .u8 32 (byt (hs4 (vTx ⟨u16_3, L, gone, ep, link⟩))))) (fun W hS => sValue_c (m := ⟨u16_3, L, gone, ep, link⟩) W (hS.pp (i := 9) rfl : GX W).gt (hS.sl (i := 5) rfl)) ?_
    refine TNp [2, 3, 4, 5, 6, 7, 8, 9] [0, 1, 2, 3, 4, 5, 6, 7] ?_
    refine TE (fun _ h => h.pick [2, 3, 4, 5, 6, 7, 8, 9]) ?_
    refine MR 1 ?_ 
    refine TNp [2, 3, 4, 5, 6, 7, 8, 9] [0, 1, 2, 3, 4, 5, 6, 7] ?_
    refine TE (fun _ h => h.pick [2, 3, 4, 5, 6, 7, 8, 9]) ?_
    refine MR 0 ?_ 
    refine TNp [2, 3, 4, 5, 6, 7, 8, 9] [0, 1, 2, 3, 4, 5, 6, 7] ?_
    refine TZ (fun _ h => h.pick [2, 3, 4, 5, 6, 7, 8, 9]) fun W hS => ?_
    exact ⟨p8_19, p9_22, rfl, hS.pick [1, 0, 5, 3, 9, 6, 4, 8, 7, 2]⟩
  ·
   skip
   refine MN (z := arrK .u8 32 (byt 0)) (t := 23) ?_
   intro p9_23
   refine TNp [1, 2, 3, 4, 5, 6, 7, 8] [0, 1, 2, 3, 4, 5, 6, 7] ?_
   refine TB (fun _ h => h.pick [1, 2, 3, 4, 5, 6, 7, 8]) ?_ ?_
   ·
    skip
    refine MC (v := .agg (arrK .u8 32 (byt (hs4 (kTx L))))) (fun W hS => sKey_c W (hS.pp (i := 8) rfl : GX W).gt (hS.sl (i := 4) rfl) (by first | omega | (simp only [List.length_append, List.length_map, List.length_take, List.length_drop, List.length_cons, List.length_nil, lb_length, eI_len, kTx_len, sTx_len]; omega))) ?_
    refine TNp [1, 2, 3, 4, 5, 6, 7, 8] [0, 1, 2, 3, 4, 5, 6, 7] ?_
    refine TB (fun _ h => h.pick [1, 2, 3, 4, 5, 6, 7, 8]) ?_ ?_
    ·
     skip
     refine MC (v := .agg (arrK .u8 32 (byt (hs4 (vTx ⟨u16_3, L, gone, ep, link⟩))))) (fun W hS => sValue_c (m := ⟨u16_3, L, gone, ep, link⟩) W (hS.pp (i := 8) rfl : GX W).gt (hS.sl (i := 4) rfl)) ?_
     refine TNp [1, 2, 3, 4, 5, 6, 7, 8] [0, 1, 2, 3, 4, 5, 6, 7] ?_
     refine TE (fun _ h => h.pick [1, 2, 3, 4, 5, 6, 7, 8]) ?_
     refine MN (z := arrK .u8 32 (byt 0)) (t := 31) ?_
     intro p8_24
     refine TNp [2, 3, 4, 5, 6, 7, 8, 9] [0, 1, 2, 3, 4, 5, 6, 7] ?_
     refine TE (fun _ h => h.pick [2, 3, 4, 5, 6, 7, 8, 9]) ?_
     refine MR 0 ?_ 
     refine TNp [2, 3, 4, 5, 6, 7, 8, 9] [0, 1, 2, 3, 4, 5, 6, 7] ?_
     refine TE (fun _ h => h.pick [2, 3, 4, 5, 6, 7, 8, 9]) ?_
     refine MR 1 ?_ 
     refine TNp [2, 3, 4, 5, 6, 7, 8, 9] [0, 1, 2, 3, 4, 5, 6, 7] ?_
     refine TZ (fun _ h => h.pick [2, 3, 4, 5, 6, 7, 8, 9]) fun W hS => ?_
     exact ⟨p8_24, p9_23, rfl, hS.pick [0, 1, 5, 3, 9, 6, 4, 8, 7, 2]⟩
    ·
     skip
     refine MN (z := arrK .u8 32 (byt 0)) (t := 31) ?_
     intro p8_25
     refine TNp [2, 3, 4, 5, 6, 7, 8, 9] [0, 1, 2, 3, 4, 5, 6, 7] ?_
     refine TE (fun _ h => h.pick [2, 3, 4, 5, 6, 7, 8, 9]) ?_
     refine MC (v := .agg (arrK .u8 32 (byt (hs4 (vTx ⟨u16_3, L, gone, ep, link⟩))))) (fun W hS => sValue_c (m := ⟨u16_3, L, gone, ep, link⟩) W (hS.pp (i := 9) rfl : GX W).gt (hS.sl (i := 5) rfl)) ?_
     refine TNp [2, 3, 4, 5, 6, 7, 8, 9] [0, 1, 2, 3, 4, 5, 6, 7] ?_
     refine TE (fun _ h => h.pick [2, 3, 4, 5, 6, 7, 8, 9]) ?_
     refine MR 0 ?_ 
     refine TNp [2, 3, 4, 5, 6, 7, 8, 9] [0, 1, 2, 3, 4, 5, 6, 7] ?_
     refine TE (fun _ h => h.pick [2, 3, 4, 5, 6, 7, 8, 9]) ?_
     refine MR 1 ?_ 
     refine TNp [2, 3, 4, 5, 6, 7, 8, 9] [0, 1, 2, 3, 4, 5, 6, 7] ?_
     refine TZ (fun _ h => h.pick [2, 3, 4, 5, 6, 7, 8, 9]) fun W hS => ?_
     exact ⟨p8_25, p9_23, rfl, hS.pick [0, 1, 5, 3, 9, 6, 4, 8, 7, 2]⟩
   ·
    skip
    refine MN (z := arrK .u8 32 (byt 0)) (t := 31) ?_
    intro p8_26
    refine TNp [2, 3, 4, 5, 6, 7, 8, 9] [0, 1, 2, 3, 4, 5, 6, 7] ?_
    refine TE (fun _ h => h.pick [2, 3, 4, 5, 6, 7, 8, 9]) ?_
    refine MC (v := .agg (arrK .u8 32 (byt (hs4 (kTx L))))) (fun W hS => sKey_c W (hS.pp (i := 9) rfl : GX W).gt (hS.sl (i := 5) rfl) (by first | omega | (simp only [List.length_append, List.length_map, List.length_take, List.length_drop, List.length_cons, List.length_nil, lb_length, eI_len, kTx_len, sTx_len]; omega))) ?_
    refine TNp [2, 3, 4, 5, 6, 7, 8, 9] [0, 1, 2, 3, 4, 5, 6, 7] ?_
    refine TE (fun _ h => h.pick [2, 3, 4, 5, 6, 7, 8, 9]) ?_
    refine MC (v := .agg (arrK .u8 32 (byt (hs4 (vTx ⟨u16_3, L, gone, ep, link⟩))))) (fun W hS => sValue_c (m := ⟨u16_3, L, gone, ep, link⟩) W (hS.pp (i := 9) rfl : GX W).gt (hS.sl (i := 5) rfl)) ?_
    refine TNp [2, 3, 4, 5, 6, 7, 8, 9] [0, 1, 2, 3, 4, 5, 6, 7] ?_
    refine TE (fun _ h => h.pick [2, 3, 4, 5, 6, 7, 8, 9]) ?_
    refine MR 0 ?_ 
    refine TNp [2, 3, 4, 5, 6, 7, 8, 9] [0, 1, 2, 3, 4, 5, 6, 7] ?_
    refine TE (fun _ h => h.pick [2, 3, 4, 5, 6, 7, 8, 9]) ?_
    refine MR 1 ?_ 
    refine TNp [2, 3, 4, 5, 6, 7, 8, 9] [0, 1, 2, 3, 4, 5, 6, 7] ?_
    refine TZ (fun _ h => h.pick [2, 3, 4, 5, 6, 7, 8, 9]) fun W hS => ?_
    exact ⟨p8_26, p9_23, rfl, hS.pick [0, 1, 5, 3, 9, 6, 4, 8, 7, 2]⟩
 rintro _ W ⟨j3_0, j3_1, rfl, hS⟩
 go_upto_region 4 with fail
 refine RTh (.e 0 (.q 1 (.q 2 (.q 3 (.q 6 (.q 7 (.q 8 (.e 4 (.q 5 (.q 9 (.q 10 (.q 11 (.q 12 (.q 13 (.q 14 (.q 15 (.e 16 (.q 17 (.q 18 (.q 19 (.q 20 (.q 23 (.e 21 (.q 22 (.e 24 (.q 25 (.q 26 (.q 27 (.q 28 (.q 29 (.q 30 (.e 31 (.e 32 (.q 33 (.q 34 (.q 35 (.q 36 (.q 37 (.q 40 (.q 41 (.q 42 (.e 38 (.q 39 (.e 43 (.q 44 (.q 45 (.q 46 (.q 47 (.q 48 (.q 49 (.e 50 (.q 51 (.q 52 (.q 53 .z)))))))))))))))))))))))))))))))))))))))))))))))))))))) hS ?_
 clear hS
 refine TE (fun _ h => h) ?_
 refine MC (v := .bool true) (fun W hS => supers_c W (hS.pp (i := 4) rfl : GX W)) ?_
 refine TNh (fun W hS => hS) ?_
 refine TW ?_ (v := .bool true)
 refine TV ?_
 refine TG 7 ?_ (v := u16_3) (hj := (agF_cel (off := 0) 0))
 refine TV ?_
 refine TG 9 ?_ (v := str L) (hj := (agF_cel (off := 0) 0))
 refine TW ?_ (v := str ([5] ++ L)) (hv := fun _ => run_cat (l := [5]) (m := L) rfl rfl rfl (by first | omega | (simp only [List.length_append, List.length_map, List.length_take, List.length_drop, List.length_cons, List.length_nil, lb_length, eI_len, kTx_len, sTx_len]; omega)))
 refine TE (fun _ h => h) ?_
 refine ME (V := fun v => v) (fun W hS => ncall hS (sKeyText_c W (hS.sl (i := 2) rfl) (by first | omega | (simp only [List.length_append, List.length_map, List.length_take, List.length_drop, List.length_cons, List.length_nil, lb_length, eI_len, kTx_len, sTx_len]; omega))) (fun _ => ⟨rfl, rfl⟩)) ?_
 intro u32_27
 refine TNh (fun W hS => hS.pick [1, 2, 3, 4, 5, 6, 7, 8, 9, 10]) ?_
 refine TF (v := str (kTx L)) rfl (fun W hS => run_cvs (hS.osl (i := 0) rfl) rfl rfl) ?_
 refine TW ?_ (v := .bool true) (hv := fun _ => run_streqb (l := (kTx L)) (m := ([5] ++ L)) (b := true) (decide_eq_true (kTx_eq _)) rfl rfl rfl)
 refine TW ?_ (v := .bool true)
 refine TW ?_ (v := .bool true)
 refine TW ?_ (v := .slice (some ⟨j3_0, 0, none⟩) 32 32)
 refine TF (v := str (lb 32 (hs4 (kTx L)))) rfl (fun W hS => run_cvs (sl_part (V := (hs4 (kTx L))) (n := 32) (off := 0) (c := 32) (hS.blk (i := 1) rfl) ap0 (by decide) (by decide)) rfl rfl) ?_
 refine TV ?_
 refine TG 10 ?_ (v := str L) (hj := (agF_cel (off := 0) 0))
 refine TE (fun _ h => h) ?_
 refine MC (v := str (lb 32 (hs4 (kTx L)))) (fun W hS => dKey_c hr (by first | omega | (simp only [List.length_append, List.length_map, List.length_take, List.length_drop, List.length_cons, List.length_nil, lb_length, eI_len, kTx_len, sTx_len]; omega)) W (GT_ext hG hS.ext)) ?_
 refine TNh (fun W hS => hS) ?_
 refine TW ?_ (v := .bool true) (hv := fun _ => run_streqb (l := (lb 32 (hs4 (kTx L)))) (m := (lb 32 (hs4 (kTx L)))) (b := true) (decide_eq_true rfl) rfl rfl rfl)
 refine TW ?_ (v := .bool true)
 refine TW ?_ (v := .bool true)
 refine TL 8 ?_ (hs := by rw [agF_size]; kernel_rfl)
 refine TL 10 ?_ (hs := by rw [agF_size]; kernel_rfl)
 refine TE (fun _ h => h) ?_
 refine ME (V := fun v => v) (fun W hS => ncall hS (sValueText_c (m := ⟨u16_3, L, gone, ep, link⟩) W (hS.sl (i := 3) rfl)) (fun _ => ⟨rfl, rfl⟩)) ?_
 intro u49_28
 refine TNh (fun W hS => hS.pick [1, 2, 3, 4, 5, 6, 7, 8, 9, 10, 11]) ?_
 refine TF (v := str (vTx ⟨u16_3, L, gone, ep, link⟩)) rfl (fun W hS => run_cvs (hS.osl (i := 0) rfl) rfl rfl) ?_
 refine TE (fun _ h => h) ?_
 refine MC (v := str (vTx ⟨u16_3, L, gone, ep, link⟩)) (fun W hS => dValueText_c (m := ⟨u16_3, L, gone, ep, link⟩) W) ?_
 refine TNh (fun W hS => hS) ?_
 refine TW ?_ (v := .bool true) (hv := fun _ => run_streqb (l := (vTx ⟨u16_3, L, gone, ep, link⟩)) (m := (vTx ⟨u16_3, L, gone, ep, link⟩)) (b := true) (decide_eq_true rfl) rfl rfl rfl)
 refine TW ?_ (v := .bool true)
 refine TW ?_ (v := .bool true)
 refine TW ?_ (v := .slice (some ⟨j3_1, 0, none⟩) 32 32)
 refine TF (v := str (lb 32 (hs4 (vTx ⟨u16_3, L, gone, ep, link⟩)))) rfl (fun W hS => run_cvs (sl_part (V := (hs4 (vTx ⟨u16_3, L, gone, ep, link⟩))) (n := 32) (off := 0) (c := 32) (hS.blk (i := 3) rfl) ap0 (by decide) (by decide)) rfl rfl) ?_
 refine TL 11 ?_ (hs := by rw [agF_size]; kernel_rfl)
 refine TE (fun _ h => h) ?_
 refine MC (v := str (vTx ⟨u16_3, L, gone, ep, link⟩)) (fun W hS => dValueText_c (m := ⟨u16_3, L, gone, ep, link⟩) W) ?_
 refine TNh (fun W hS => hS) ?_
 refine TE (fun _ h => h) ?_
 refine MC (v := str (lb 32 (hs4 (vTx ⟨u16_3, L, gone, ep, link⟩)))) (fun W hS => rsumN4_c (l := vTx ⟨u16_3, L, gone, ep, link⟩) rfl (by have h_ := vTx_len ⟨u16_3, L, gone, ep, link⟩; omega) W ((GT_ext hG hS.ext).2 hr)) ?_
 refine TNh (fun W hS => hS) ?_
 refine TW ?_ (v := .bool true) (hv := fun _ => run_streqb (l := (lb 32 (hs4 (vTx ⟨u16_3, L, gone, ep, link⟩)))) (m := (lb 32 (hs4 (vTx ⟨u16_3, L, gone, ep, link⟩)))) (b := true) (decide_eq_true rfl) rfl rfl rfl)
 refine TW ?_ (v := .bool true)
 refine TW ?_ (v := .bool true)
 refine TV ?_
 refine TL 10 ?_
 refine TV ?_
 refine TW ?_ (v := .slice (some ⟨p5_2, 0, none⟩) 32 32)
 refine TF (v := str (lb 32 root)) rfl (fun W hS => run_cvs (sl_part (V := root) (n := 32) (off := 0) (c := 32) (hS.blk (i := 10) rfl) ap0 (by decide) (by decide)) rfl rfl) ?_
 refine TE (fun _ h => h) ?_
 refine ME (V := fun v => v) (fun W hS => ncall hS (sText_c epoch root W) (fun _ => ⟨rfl, rfl⟩)) ?_
 intro u66_29
 refine TNh (fun W hS => hS.pick [1, 2, 3, 4, 5, 6, 7, 8, 9, 10, 11, 12]) ?_
 refine TF (v := str (sTx epoch root)) rfl (fun W hS => run_cvs (hS.osl (i := 0) rfl) rfl rfl) ?_
 refine TE (fun _ h => h) ?_
 refine MC (v := str (sTx epoch root)) (fun W hS => dText_c epoch root W) ?_
 refine TNh (fun W hS => hS) ?_
 refine TW ?_ (v := .bool true) (hv := fun _ => run_streqb (l := (sTx epoch root)) (m := (sTx epoch root)) (b := true) (decide_eq_true rfl) rfl rfl rfl)
 refine TW ?_ (v := .bool true)
 refine TW ?_ (v := .bool true)
 refine TL 3 ?_
 refine TV ?_
 refine TG 10 ?_ (v := u16_3) (hj := (agF_cel (off := 0) 0))
 refine TE (fun _ h => h) ?_
 refine MC (v := .agg (arrK .u8 32 (byt (hs4 (kTx L))))) (fun W hS => sKey_c W (hS.pp (i := 7) rfl : GX W).gt (hS.sl (i := 5) rfl) (by first | omega | (simp only [List.length_append, List.length_map, List.length_take, List.length_drop, List.length_cons, List.length_nil, lb_length, eI_len, kTx_len, sTx_len]; omega))) ?_
 refine TNh (fun W hS => hS) ?_
 refine TW ?_ (v := .bool true) (hv := fun _ => run_eqlA ((fun w => eqKeyS rfl w) _) (by kernel_rfl) rfl rfl rfl)
 refine TW ?_ (v := .bool true)
 refine TW ?_ (v := .bool true)
 refine TZ (fun _ h => h) fun W hS => ?_
 go_wp2
 exact bodyPost_ret (v := .bool true) (by simp only [results, Tryz.results3]; go_simp) rfl ⟨rfl, hS.ext⟩
end Go.Proofs.YtejkmhgkkibafaaGreatDoor

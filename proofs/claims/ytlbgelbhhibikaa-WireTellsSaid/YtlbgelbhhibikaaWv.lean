/- The laws of layer 24: found, back, sized, same. Conditions: memory holds what is written. -/
import Derived.Test.YtlbgelbhhibikaaWr
import Derived.Test.YtlbgelbhhibikaaJ40
import Derived.Test.YtlbgelbhhibikaaJ7
set_option linter.unusedSimpArgs false
set_option linter.unusedVariables false
namespace Go.Proofs.Ytlbgelbhhibikaa.Ww
set_option maxHeartbeats 6000000
set_option maxRecDepth 100000
open Go.RowKit
attribute [local irreducible] wpList wpTr wpX
set_option linter.unusedSimpArgs false
/-- the document's look, whatever its texts -/
structure Do where
 ep : Int
 ix : List UInt8
 vr : List UInt8
 pre : Bool
 ver : Int
 val : List UInt8
 bo : List UInt8
 op : List UInt8
 ss : List Nat
 th : Bool
 a : Nat
 x : Nat
 ro : List UInt8
 li : List UInt8
 ah : List UInt8
 rd : Int
abbrev doF (d : Do) (sv : Value) : Array Value := agF [.c (.int .i64 d.ep), .c (str d.ix), .c (str d.vr), .c (.bool d.pre), .c (.int .i64 d.ver), .c (str d.val), .c (str d.bo), .c (str d.op), .c sv, .c (.bool d.th), .a 32 d.a, .a 32 d.x, .c (str d.ro), .c (str d.li), .c (str d.ah), .c (.int .i64 d.rd)]
def fOf (d : Do) : Fo := ⟨d.ep, le (d.ix.take 32), le (d.vr.take 80), d.pre, d.ver, d.val, le (d.bo.take 32), le (d.op.take 32), d.ss, d.th, d.a, d.x, le (d.ro.take 32), le (d.li.take 32), le (d.ah.take 32), d.rd⟩
def toD (f : Fo) : Do := ⟨f.ep, lb 32 f.ix, lb 80 f.vr, f.pre, f.ver, f.val, lb 32 f.bo, lb 32 f.op, f.ss, f.th, f.a, f.x, lb 32 f.ro, lb 32 f.li, lb 32 f.ah, f.rd⟩
/-- what sized leaves -/
def szD (d : Do) : Fo := fOf { d with val := d.val.take (min d.val.length 80), ss := d.ss.take 258 }
attribute [local irreducible] lb be8 eI tB txL txB dtx dok pB

theorem zer_direct_Found : zer Try.prog 64 = some (some (agF [.c (.int .i64 0), .a 32 0, .a 80 0, .c (.bool false), .c (.int .i64 0), .c (.slice none 0 0), .a 32 0, .a 32 0, .c (.slice none 0 0), .c (.bool false), .a 32 0, .a 32 0, .a 32 0, .a 32 0, .a 32 0, .c (.int .i64 0)])) := by kernel_rfl
theorem plc_direct_Found : plc Try.prog 64 = some [(0, 1), (1, 32), (33, 80), (113, 1), (114, 1), (115, 1), (116, 32), (148, 32), (180, 66), (246, 32), (278, 32), (310, 32), (342, 1)] := by kernel_rfl
theorem zer_custumalref24_Found : zer Try.prog 54 = some (some (agF [.c (.int .i64 0), .c (str []), .c (str []), .c (.bool false), .c (.int .i64 0), .c (str []), .c (str []), .c (str []), .c (.slice none 0 0), .c (.bool false), .a 32 0, .a 32 0, .c (str []), .c (str []), .c (str []), .c (.int .i64 0)])) := by kernel_rfl
theorem plc_custumalref24_Found : plc Try.prog 54 = some [(0, 1), (1, 1), (2, 1), (3, 1), (4, 1), (5, 1), (6, 1), (7, 1), (8, 66), (74, 1), (75, 1), (76, 1), (77, 1)] := by kernel_rfl
theorem zer_proof_Proof : zer Try.prog 62 = some (some (agF [.c (.slice none 0 0), .c (.bool false), .a 32 0, .a 32 0])) := by kernel_rfl
theorem plc_proof_Proof : plc Try.prog 62 = some [(0, 1), (1, 1), (2, 64)] := by kernel_rfl
theorem zer_custumalref15_Proof : zer Try.prog 52 = some (some (agF [.c (.slice none 0 0), .c (.bool false), .a 32 0, .a 32 0])) := by kernel_rfl
theorem plc_custumalref15_Proof : plc Try.prog 52 = some [(0, 1), (1, 1), (2, 64)] := by kernel_rfl
theorem zer_custumalref14_Leaf : zer Try.prog 50 = some (some (agF [.a 32 0, .a 32 0])) := by kernel_rfl
theorem plc_custumalref14_Leaf : plc Try.prog 50 = some [(0, 32), (32, 32)] := by kernel_rfl
theorem found_c {d : Do} {sv : Value} (hv : d.val.length ≤ 1000000) (w : World) (hsm : RR 32 w sv (d.ss.map b32l)) :
  Calls Try.prog 18 #[.agg (doF d sv)] w fun e w' => ∃ vv, e = .returned (.agg (foF (fOf d) vv sv)) ∧ SH [] w w' [.w vv d.val] := by
 have hS := SH.nil [] w
 go_enter Try.func18, Try.ntmps18
 go_upto_region 0 with fail
 refine RL hS ?_
 clear hS
 refine MN (z := agF [.c (.int .i64 d.ep), .c (str d.ix), .c (str d.vr), .c (.bool d.pre), .c (.int .i64 d.ver), .c (str d.val), .c (str d.bo), .c (str d.op), .c sv, .c (.bool d.th), .a 32 d.a, .a 32 d.x, .c (str d.ro), .c (str d.li), .c (str d.ah), .c (.int .i64 d.rd)]) (t := 54) ?_
 intro p1_1
 refine MN (z := agF [.c (.int .i64 0), .a 32 0, .a 80 0, .c (.bool false), .c (.int .i64 0), .c (.slice none 0 0), .a 32 0, .a 32 0, .c (.slice none 0 0), .c (.bool false), .a 32 0, .a 32 0, .a 32 0, .a 32 0, .a 32 0, .c (.int .i64 0)]) (t := 64) ?_
 intro p2_2
 refine MZ fun W hS => ?_
 go_upto_region 1 with fail
 refine RL hS ?_
 clear hS
 refine MV ?_
 refine MG 1 ?_ (v := .int .i64 d.ep) (hj := (agF_cel (off := 0) 0))
 refine MV ?_
 refine MG 1 ?_ (v := .bool d.pre) (hj := (agF_cel (off := 3) 3))
 refine MV ?_
 refine MG 1 ?_ (v := .int .i64 d.ver) (hj := (agF_cel (off := 4) 4))
 refine MV ?_
 refine MG 1 ?_ (v := str d.val) (hj := (agF_cel (off := 5) 5))
 refine MY (m := d.val) (by first | omega | decide) ?_
 intro v12_3
 refine MV ?_
 refine MG 2 ?_ (v := .int .i64 d.rd) (hj := (agF_cel (off := 77) 15))
 refine MFact (fun W hS => (sl_cells (hS.ozl (i := 0) rfl)).2) ?_
 intro oc_q124
 refine MF (v := .agg (agF [.c (.int .i64 d.ep), .a 32 0, .a 80 0, .c (.bool d.pre), .c (.int .i64 d.ver), .c v12_3, .a 32 0, .a 32 0, .c (.slice none 0 0), .c (.bool false), .a 32 0, .a 32 0, .a 32 0, .a 32 0, .a 32 0, .c (.int .i64 d.rd)])) (fun W hS => run_bld rfl rfl zer_direct_Found plc_direct_Found (fill_c (fill_c (fill_c (fill_c (fill_c fill_n (l' := [.c (.int .i64 d.ep), .a 32 0, .a 80 0, .c (.bool d.pre), .c (.int .i64 d.ver), .c v12_3, .a 32 0, .a 32 0, .c (.slice none 0 0), .c (.bool false), .a 32 0, .a 32 0, .a 32 0, .a 32 0, .a 32 0, .c (.int .i64 d.rd)]) (m := [.c (.int .i64 d.rd)]) (hv := rfl) (hs := agF_setp (off := 342) 15 1) (hp := rfl) (hn := rfl) (hb := by show 342 + 1 ≤ 343; decide)) (l' := [.c (.int .i64 d.ep), .a 32 0, .a 80 0, .c (.bool d.pre), .c (.int .i64 d.ver), .c v12_3, .a 32 0, .a 32 0, .c (.slice none 0 0), .c (.bool false), .a 32 0, .a 32 0, .a 32 0, .a 32 0, .a 32 0, .c (.int .i64 0)]) (m := [.c v12_3]) (hv := (sl_cells (hS.ozl (i := 0) rfl)).1) (hs := agF_setp (off := 115) 5 1) (hp := rfl) (hn := rfl) (hb := by show 115 + 1 ≤ 343; decide)) (l' := [.c (.int .i64 d.ep), .a 32 0, .a 80 0, .c (.bool d.pre), .c (.int .i64 d.ver), .c (.slice none 0 0), .a 32 0, .a 32 0, .c (.slice none 0 0), .c (.bool false), .a 32 0, .a 32 0, .a 32 0, .a 32 0, .a 32 0, .c (.int .i64 0)]) (m := [.c (.int .i64 d.ver)]) (hv := rfl) (hs := agF_setp (off := 114) 4 1) (hp := rfl) (hn := rfl) (hb := by show 114 + 1 ≤ 343; decide)) (l' := [.c (.int .i64 d.ep), .a 32 0, .a 80 0, .c (.bool d.pre), .c (.int .i64 0), .c (.slice none 0 0), .a 32 0, .a 32 0, .c (.slice none 0 0), .c (.bool false), .a 32 0, .a 32 0, .a 32 0, .a 32 0, .a 32 0, .c (.int .i64 0)]) (m := [.c (.bool d.pre)]) (hv := rfl) (hs := agF_setp (off := 113) 3 1) (hp := rfl) (hn := rfl) (hb := by show 113 + 1 ≤ 343; decide)) (l' := [.c (.int .i64 d.ep), .a 32 0, .a 80 0, .c (.bool false), .c (.int .i64 0), .c (.slice none 0 0), .a 32 0, .a 32 0, .c (.slice none 0 0), .c (.bool false), .a 32 0, .a 32 0, .a 32 0, .a 32 0, .a 32 0, .c (.int .i64 0)]) (m := [.c (.int .i64 d.ep)]) (hv := rfl) (hs := agF_setp (off := 0) 0 1) (hp := rfl) (hn := rfl) (hb := by show 0 + 1 ≤ 343; decide))) ?_
 refine MN (z := agF [.c (.int .i64 0), .a 32 0, .a 80 0, .c (.bool false), .c (.int .i64 0), .c (.slice none 0 0), .a 32 0, .a 32 0, .c (.slice none 0 0), .c (.bool false), .a 32 0, .a 32 0, .a 32 0, .a 32 0, .a 32 0, .c (.int .i64 0)]) (t := 64) ?_
 intro p3_5
 refine MR 0 ?_ (hz := by rw [agF_size]; kernel_rfl) (hs := by first | (rw [agF_size, agF_size]; rfl) | rfl) (h1 := by exact (agF_one ⟨rfl, rfl, rfl, oc_q124, rfl, rfl, rfl, trivial⟩))
 refine MZ fun W hS => ?_
 go_upto_region 2 with fail
 refine RTp [1, 2, 3] (.q 0 (.q 1 (.q 2 (.q 3 (.e 4 .z))))) hS ?_
 clear hS
 refine TV ?_
 refine TW ?_ (v := .slice (some ⟨p3_5, 1, none⟩) 32 32)
 refine TV ?_
 refine TG 2 ?_ (v := str d.ix) (hj := (agF_cel (off := 1) 1))
 refine TE (fun _ h => h.pick [1, 2, 3]) ?_
 refine MCq 0 (l := d.ix) (N := 32) (cs := agF [.c (.int .i64 d.ep), .a 32 0, .a 80 0, .c (.bool d.pre), .c (.int .i64 d.ver), .c v12_3, .a 32 0, .a 32 0, .c (.slice none 0 0), .c (.bool false), .a 32 0, .a 32 0, .a 32 0, .a 32 0, .a 32 0, .c (.int .i64 d.rd)]) (new := agF [.c (.int .i64 d.ep), .a 32 (le (List.take 32 d.ix)), .a 80 0, .c (.bool d.pre), .c (.int .i64 d.ver), .c v12_3, .a 32 0, .a 32 0, .c (.slice none 0 0), .c (.bool false), .a 32 0, .a 32 0, .a 32 0, .a 32 0, .a 32 0, .c (.int .i64 d.rd)]) (off := 1) (cpF 1 rfl rfl (by kernel_rfl)) ?_
 refine TNp [1, 2, 3] [0, 1, 2] ?_
 refine TZ (fun _ h => h.pick [1, 2, 3]) fun W hS => ?_
 go_upto_region 3 with fail
 refine RTp [1, 2, 3] (.q 0 (.q 1 (.q 2 (.q 3 (.e 4 .z))))) hS ?_
 clear hS
 refine TV ?_
 refine TW ?_ (v := .slice (some ⟨p3_5, 33, none⟩) 80 80)
 refine TV ?_
 refine TG 2 ?_ (v := str d.vr) (hj := (agF_cel (off := 2) 2))
 refine TE (fun _ h => h.pick [1, 2, 3]) ?_
 refine MCq 0 (l := d.vr) (N := 80) (cs := agF [.c (.int .i64 d.ep), .a 32 (le (List.take 32 d.ix)), .a 80 0, .c (.bool d.pre), .c (.int .i64 d.ver), .c v12_3, .a 32 0, .a 32 0, .c (.slice none 0 0), .c (.bool false), .a 32 0, .a 32 0, .a 32 0, .a 32 0, .a 32 0, .c (.int .i64 d.rd)]) (new := agF [.c (.int .i64 d.ep), .a 32 (le (List.take 32 d.ix)), .a 80 (le (List.take 80 d.vr)), .c (.bool d.pre), .c (.int .i64 d.ver), .c v12_3, .a 32 0, .a 32 0, .c (.slice none 0 0), .c (.bool false), .a 32 0, .a 32 0, .a 32 0, .a 32 0, .a 32 0, .c (.int .i64 d.rd)]) (off := 33) (cpF 2 rfl rfl (by kernel_rfl)) ?_
 refine TNp [1, 2, 3] [0, 1, 2] ?_
 refine TZ (fun _ h => h.pick [1, 2, 3]) fun W hS => ?_
 go_upto_region 4 with fail
 refine RTp [1, 2, 3] (.q 0 (.q 1 (.q 2 (.q 3 (.e 4 .z))))) hS ?_
 clear hS
 refine TV ?_
 refine TW ?_ (v := .slice (some ⟨p3_5, 116, none⟩) 32 32)
 refine TV ?_
 refine TG 2 ?_ (v := str d.bo) (hj := (agF_cel (off := 6) 6))
 refine TE (fun _ h => h.pick [1, 2, 3]) ?_
 refine MCq 0 (l := d.bo) (N := 32) (cs := agF [.c (.int .i64 d.ep), .a 32 (le (List.take 32 d.ix)), .a 80 (le (List.take 80 d.vr)), .c (.bool d.pre), .c (.int .i64 d.ver), .c v12_3, .a 32 0, .a 32 0, .c (.slice none 0 0), .c (.bool false), .a 32 0, .a 32 0, .a 32 0, .a 32 0, .a 32 0, .c (.int .i64 d.rd)]) (new := agF [.c (.int .i64 d.ep), .a 32 (le (List.take 32 d.ix)), .a 80 (le (List.take 80 d.vr)), .c (.bool d.pre), .c (.int .i64 d.ver), .c v12_3, .a 32 (le (List.take 32 d.bo)), .a 32 0, .c (.slice none 0 0), .c (.bool false), .a 32 0, .a 32 0, .a 32 0, .a 32 0, .a 32 0, .c (.int .i64 d.rd)]) (off := 116) (cpF 6 rfl rfl (by kernel_rfl)) ?_
 refine TNp [1, 2, 3] [0, 1, 2] ?_
 refine TZ (fun _ h => h.pick [1, 2, 3]) fun W hS => ?_
 go_upto_region 5 with fail
 refine RTp [1, 2, 3] (.q 0 (.q 1 (.q 2 (.q 3 (.e 4 .z))))) hS ?_
 clear hS
 refine TV ?_
 refine TW ?_ (v := .slice (some ⟨p3_5, 148, none⟩) 32 32)
 refine TV ?_
 refine TG 2 ?_ (v := str d.op) (hj := (agF_cel (off := 7) 7))
 refine TE (fun _ h => h.pick [1, 2, 3]) ?_
 refine MCq 0 (l := d.op) (N := 32) (cs := agF [.c (.int .i64 d.ep), .a 32 (le (List.take 32 d.ix)), .a 80 (le (List.take 80 d.vr)), .c (.bool d.pre), .c (.int .i64 d.ver), .c v12_3, .a 32 (le (List.take 32 d.bo)), .a 32 0, .c (.slice none 0 0), .c (.bool false), .a 32 0, .a 32 0, .a 32 0, .a 32 0, .a 32 0, .c (.int .i64 d.rd)]) (new := agF [.c (.int .i64 d.ep), .a 32 (le (List.take 32 d.ix)), .a 80 (le (List.take 80 d.vr)), .c (.bool d.pre), .c (.int .i64 d.ver), .c v12_3, .a 32 (le (List.take 32 d.bo)), .a 32 (le (List.take 32 d.op)), .c (.slice none 0 0), .c (.bool false), .a 32 0, .a 32 0, .a 32 0, .a 32 0, .a 32 0, .c (.int .i64 d.rd)]) (off := 148) (cpF 7 rfl rfl (by kernel_rfl)) ?_
 refine TNp [1, 2, 3] [0, 1, 2] ?_
 refine TZ (fun _ h => h.pick [1, 2, 3]) fun W hS => ?_
 go_upto_region 6 with fail
 refine RTp [1, 2, 3] (.q 0 (.q 1 (.q 2 (.q 3 (.e 4 .z))))) hS ?_
 clear hS
 refine TV ?_
 refine TW ?_ (v := .slice (some ⟨p3_5, 246, none⟩) 32 32)
 refine TV ?_
 refine TG 2 ?_ (v := str d.ro) (hj := (agF_cel (off := 74) 12))
 refine TE (fun _ h => h.pick [1, 2, 3]) ?_
 refine MCq 0 (l := d.ro) (N := 32) (cs := agF [.c (.int .i64 d.ep), .a 32 (le (List.take 32 d.ix)), .a 80 (le (List.take 80 d.vr)), .c (.bool d.pre), .c (.int .i64 d.ver), .c v12_3, .a 32 (le (List.take 32 d.bo)), .a 32 (le (List.take 32 d.op)), .c (.slice none 0 0), .c (.bool false), .a 32 0, .a 32 0, .a 32 0, .a 32 0, .a 32 0, .c (.int .i64 d.rd)]) (new := agF [.c (.int .i64 d.ep), .a 32 (le (List.take 32 d.ix)), .a 80 (le (List.take 80 d.vr)), .c (.bool d.pre), .c (.int .i64 d.ver), .c v12_3, .a 32 (le (List.take 32 d.bo)), .a 32 (le (List.take 32 d.op)), .c (.slice none 0 0), .c (.bool false), .a 32 0, .a 32 0, .a 32 (le (List.take 32 d.ro)), .a 32 0, .a 32 0, .c (.int .i64 d.rd)]) (off := 246) (cpF 12 rfl rfl (by kernel_rfl)) ?_
 refine TNp [1, 2, 3] [0, 1, 2] ?_
 refine TZ (fun _ h => h.pick [1, 2, 3]) fun W hS => ?_
 go_upto_region 7 with fail
 refine RTp [1, 2, 3] (.q 0 (.q 1 (.q 2 (.q 3 (.e 4 .z))))) hS ?_
 clear hS
 refine TV ?_
 refine TW ?_ (v := .slice (some ⟨p3_5, 278, none⟩) 32 32)
 refine TV ?_
 refine TG 2 ?_ (v := str d.li) (hj := (agF_cel (off := 75) 13))
 refine TE (fun _ h => h.pick [1, 2, 3]) ?_
 refine MCq 0 (l := d.li) (N := 32) (cs := agF [.c (.int .i64 d.ep), .a 32 (le (List.take 32 d.ix)), .a 80 (le (List.take 80 d.vr)), .c (.bool d.pre), .c (.int .i64 d.ver), .c v12_3, .a 32 (le (List.take 32 d.bo)), .a 32 (le (List.take 32 d.op)), .c (.slice none 0 0), .c (.bool false), .a 32 0, .a 32 0, .a 32 (le (List.take 32 d.ro)), .a 32 0, .a 32 0, .c (.int .i64 d.rd)]) (new := agF [.c (.int .i64 d.ep), .a 32 (le (List.take 32 d.ix)), .a 80 (le (List.take 80 d.vr)), .c (.bool d.pre), .c (.int .i64 d.ver), .c v12_3, .a 32 (le (List.take 32 d.bo)), .a 32 (le (List.take 32 d.op)), .c (.slice none 0 0), .c (.bool false), .a 32 0, .a 32 0, .a 32 (le (List.take 32 d.ro)), .a 32 (le (List.take 32 d.li)), .a 32 0, .c (.int .i64 d.rd)]) (off := 278) (cpF 13 rfl rfl (by kernel_rfl)) ?_
 refine TNp [1, 2, 3] [0, 1, 2] ?_
 refine TZ (fun _ h => h.pick [1, 2, 3]) fun W hS => ?_
 go_upto_region 8 with fail
 refine RTp [1, 2, 3] (.q 0 (.q 1 (.q 2 (.q 3 (.e 4 .z))))) hS ?_
 clear hS
 refine TV ?_
 refine TW ?_ (v := .slice (some ⟨p3_5, 310, none⟩) 32 32)
 refine TV ?_
 refine TG 2 ?_ (v := str d.ah) (hj := (agF_cel (off := 76) 14))
 refine TE (fun _ h => h.pick [1, 2, 3]) ?_
 refine MCq 0 (l := d.ah) (N := 32) (cs := agF [.c (.int .i64 d.ep), .a 32 (le (List.take 32 d.ix)), .a 80 (le (List.take 80 d.vr)), .c (.bool d.pre), .c (.int .i64 d.ver), .c v12_3, .a 32 (le (List.take 32 d.bo)), .a 32 (le (List.take 32 d.op)), .c (.slice none 0 0), .c (.bool false), .a 32 0, .a 32 0, .a 32 (le (List.take 32 d.ro)), .a 32 (le (List.take 32 d.li)), .a 32 0, .c (.int .i64 d.rd)]) (new := agF [.c (.int .i64 d.ep), .a 32 (le (List.take 32 d.ix)), .a 80 (le (List.take 80 d.vr)), .c (.bool d.pre), .c (.int .i64 d.ver), .c v12_3, .a 32 (le (List.take 32 d.bo)), .a 32 (le (List.take 32 d.op)), .c (.slice none 0 0), .c (.bool false), .a 32 0, .a 32 0, .a 32 (le (List.take 32 d.ro)), .a 32 (le (List.take 32 d.li)), .a 32 (le (List.take 32 d.ah)), .c (.int .i64 d.rd)]) (off := 310) (cpF 14 rfl rfl (by kernel_rfl)) ?_
 refine TNp [1, 2, 3] [0, 1, 2] ?_
 refine TZ (fun _ h => h.pick [1, 2, 3]) fun W hS => ?_
 go_upto_region 9 with fail
 refine RL hS ?_
 clear hS
 refine MV ?_
 refine MV ?_
 refine MG 3 ?_ (v := sv) (hj := (agF_cel (off := 8) 8))
 refine MV ?_
 refine MV ?_
 refine MG 3 ?_ (v := .bool d.th) (hj := (agF_cel (off := 9) 9))
 refine MF (v := .agg (agF [.c sv, .c (.bool d.th), .a 32 0, .a 32 0])) (fun W hS => run_bld rfl rfl zer_proof_Proof plc_proof_Proof (fill_c (fill_c fill_n (l' := [.c sv, .c (.bool d.th), .a 32 0, .a 32 0]) (m := [.c (.bool d.th)]) (hv := rfl) (hs := agF_setp (off := 1) 1 1) (hp := rfl) (hn := rfl) (hb := by show 1 + 1 ≤ 66; decide)) (l' := [.c sv, .c (.bool false), .a 32 0, .a 32 0]) (m := [.c sv]) (hv := (rr_cells hsm).1) (hs := agF_setp (off := 0) 0 1) (hp := rfl) (hn := rfl) (hb := by show 0 + 1 ≤ 66; decide))) ?_
 refine MV ?_
 refine Mq 0 (new := agF [.c (.int .i64 d.ep), .a 32 (le (List.take 32 d.ix)), .a 80 (le (List.take 80 d.vr)), .c (.bool d.pre), .c (.int .i64 d.ver), .c v12_3, .a 32 (le (List.take 32 d.bo)), .a 32 (le (List.take 32 d.op)), .c sv, .c (.bool d.th), .a 32 0, .a 32 0, .a 32 (le (List.take 32 d.ro)), .a 32 (le (List.take 32 d.li)), .a 32 (le (List.take 32 d.ah)), .c (.int .i64 d.rd)]) ?_ (hc := agF_setp (off := 180) 8 4) (hs := by rw [agF_size, agF_size]; exact Nat.le_of_ble_eq_true (by kernel_rfl)) (h1 := by exact (agF_one ⟨(rr_cells hsm).2, rfl, trivial⟩))
 refine MZ fun W hS => ?_
 go_upto_region 10 with fail
 refine RTp [1, 2, 3] (.q 0 (.q 1 (.q 2 (.q 3 (.q 4 (.q 5 (.q 6 (.q 7 (.q 8 (.q 9 (.q 10 (.e 11 (.q 12 (.q 13 (.q 14 (.e 15 .z)))))))))))))))) hS ?_
 clear hS
 refine TV ?_
 refine TV ?_
 refine TV ?_
 refine Tk 2 ?_ (sub := arrK .u8 32 (byt d.a)) (hs := (agF_arr (off := 10) 10))
 refine TV ?_
 refine TV ?_
 refine TV ?_
 refine Tk 2 ?_ (sub := arrK .u8 32 (byt d.x)) (hs := (agF_arr (off := 42) 11))
 refine TV ?_
 refine TV ?_
 refine TV ?_
 refine TE (fun _ h => h.pick [1, 2, 3]) ?_
 refine Mq 0 (new := agF [.c (.int .i64 d.ep), .a 32 (le (List.take 32 d.ix)), .a 80 (le (List.take 80 d.vr)), .c (.bool d.pre), .c (.int .i64 d.ver), .c v12_3, .a 32 (le (List.take 32 d.bo)), .a 32 (le (List.take 32 d.op)), .c sv, .c (.bool d.th), .a 32 d.a, .a 32 0, .a 32 (le (List.take 32 d.ro)), .a 32 (le (List.take 32 d.li)), .a 32 (le (List.take 32 d.ah)), .c (.int .i64 d.rd)]) ?_ (hc := agF_seta (off := 182) 10) (hs := by rw [arrK_size, agF_size]; exact Nat.le_of_ble_eq_true (by kernel_rfl))
 refine TNp [1, 2, 3] [0, 1, 2] ?_
 refine TV ?_
 refine TV ?_
 refine TV ?_
 refine TE (fun _ h => h.pick [1, 2, 3]) ?_
 refine Mq 0 (new := agF [.c (.int .i64 d.ep), .a 32 (le (List.take 32 d.ix)), .a 80 (le (List.take 80 d.vr)), .c (.bool d.pre), .c (.int .i64 d.ver), .c v12_3, .a 32 (le (List.take 32 d.bo)), .a 32 (le (List.take 32 d.op)), .c sv, .c (.bool d.th), .a 32 d.a, .a 32 d.x, .a 32 (le (List.take 32 d.ro)), .a 32 (le (List.take 32 d.li)), .a 32 (le (List.take 32 d.ah)), .c (.int .i64 d.rd)]) ?_ (hc := agF_seta (off := 214) 11) (hs := by rw [arrK_size, agF_size]; exact Nat.le_of_ble_eq_true (by kernel_rfl))
 refine TNp [1, 2, 3] [0, 1, 2] ?_
 refine TZ (fun _ h => h.pick [1, 2, 3]) fun W hS => ?_
 go_upto_region 11 with fail
 refine RL hS ?_
 clear hS
 refine ML 0 ?_ (hs := by rw [agF_size]; kernel_rfl)
 refine MR 2 ?_ (hz := by rw [agF_size]; kernel_rfl) (hs := by first | (rw [agF_size, agF_size]; rfl) | rfl) (h1 := by exact (agF_one ⟨rfl, rfl, rfl, oc_q124, (rr_cells hsm).2, rfl, rfl, trivial⟩))
 refine MZ fun W hS => ?_
 go_wp2
 exact bodyPost_ret (res_row rfl rfl (hS.blk (i := 2) rfl) (by kernel_rfl) (by rw [agF_size]; kernel_rfl)) rfl ⟨v12_3, rfl, hS.pick [1]⟩
theorem back_c {f : Fo} {vv sv : Value} (w : World) (hval : Sl w vv f.val) (hsm : RR 32 w sv (f.ss.map b32l)) :
  Calls Try.prog 22 #[.agg (foF f vv sv)] w fun e w' => Ret (.agg (dfF f sv)) w w' e := by
 have hS := SH.nil [] w
 go_enter Try.func22, Try.ntmps22
 go_upto_region 0 with fail
 refine RL hS ?_
 clear hS
 refine MN (z := agF [.c (.int .i64 f.ep), .a 32 f.ix, .a 80 f.vr, .c (.bool f.pre), .c (.int .i64 f.ver), .c vv, .a 32 f.bo, .a 32 f.op, .c sv, .c (.bool f.th), .a 32 f.a, .a 32 f.x, .a 32 f.ro, .a 32 f.li, .a 32 f.ah, .c (.int .i64 f.rd)]) (t := 64) ?_
 intro p1_1
 refine MN (z := agF [.c (.int .i64 0), .c (str []), .c (str []), .c (.bool false), .c (.int .i64 0), .c (str []), .c (str []), .c (str []), .c (.slice none 0 0), .c (.bool false), .a 32 0, .a 32 0, .c (str []), .c (str []), .c (str []), .c (.int .i64 0)]) (t := 54) ?_
 intro p2_2
 refine MZ fun W hS => ?_
 go_upto_region 1 with fail
 refine RL hS ?_
 clear hS
 refine MV ?_
 refine MV ?_
 refine MG 1 ?_ (v := sv) (hj := (agF_cel (off := 180) 8))
 refine MV ?_
 refine MV ?_
 refine MG 1 ?_ (v := .bool f.th) (hj := (agF_cel (off := 181) 9))
 refine MV ?_
 refine MV ?_
 refine MV ?_
 refine Mk 1 ?_ (sub := arrK .u8 32 (byt f.a)) (hs := (agF_arr (off := 182) 10))
 refine MV ?_
 refine MV ?_
 refine MV ?_
 refine Mk 1 ?_ (sub := arrK .u8 32 (byt f.x)) (hs := (agF_arr (off := 214) 11))
 refine MF (v := .agg (agF [.a 32 f.a, .a 32 f.x])) (fun W hS => run_bld rfl rfl zer_custumalref14_Leaf plc_custumalref14_Leaf (fill_c (fill_c fill_n (l' := [.a 32 f.a, .a 32 f.x]) (m := [.a 32 f.x]) (hv := (agF_a _ _).symm) (hs := agF_setp (off := 32) 1 1) (hp := rfl) (hn := rfl) (hb := by show 32 + 32 ≤ 64; decide)) (l' := [.a 32 f.a, .a 32 0]) (m := [.a 32 f.a]) (hv := (agF_a _ _).symm) (hs := agF_setp (off := 0) 0 1) (hp := rfl) (hn := rfl) (hb := by show 0 + 32 ≤ 64; decide))) ?_
 refine MF (v := .agg (agF [.c sv, .c (.bool f.th), .a 32 f.a, .a 32 f.x])) (fun W hS => run_bld rfl rfl zer_custumalref15_Proof plc_custumalref15_Proof (fill_c (fill_c (fill_c fill_n (l' := [.c sv, .c (.bool f.th), .a 32 f.a, .a 32 f.x]) (m := [.a 32 f.a, .a 32 f.x]) (hv := rfl) (hs := agF_setp (off := 2) 2 2) (hp := rfl) (hn := rfl) (hb := by show 2 + 64 ≤ 66; decide)) (l' := [.c sv, .c (.bool f.th), .a 32 0, .a 32 0]) (m := [.c (.bool f.th)]) (hv := rfl) (hs := agF_setp (off := 1) 1 1) (hp := rfl) (hn := rfl) (hb := by show 1 + 1 ≤ 66; decide)) (l' := [.c sv, .c (.bool false), .a 32 0, .a 32 0]) (m := [.c sv]) (hv := (rr_cells hsm).1) (hs := agF_setp (off := 0) 0 1) (hp := rfl) (hn := rfl) (hb := by show 0 + 1 ≤ 66; decide))) ?_
 refine MN (z := agF [.c (.slice none 0 0), .c (.bool false), .a 32 0, .a 32 0]) (t := 52) ?_
 intro p3_3
 refine MR 0 ?_ (hz := by rw [agF_size]; kernel_rfl) (hs := by first | (rw [agF_size, agF_size]; rfl) | rfl) (h1 := by exact (agF_one ⟨(rr_cells hsm).2, rfl, trivial⟩))
 refine MZ fun W hS => ?_
 go_upto_region 2 with fail
 refine RTp [0, 2] (.q 0 (.q 1 (.q 2 (.q 3 (.q 4 (.q 5 (.q 6 (.q 7 (.q 8 (.q 9 (.q 10 (.q 11 (.q 12 (.q 13 (.q 14 (.q 15 (.q 16 (.q 17 (.q 18 (.q 19 (.q 20 (.q 21 (.q 22 (.q 23 (.q 24 (.q 25 (.q 26 (.q 27 (.q 28 (.q 29 (.q 30 (.q 31 (.q 32 (.q 33 (.e 34 .z))))))))))))))))))))))))))))))))))) hS ?_
 clear hS
 refine TV ?_
 refine TG 1 ?_ (v := .int .i64 f.ep) (hj := (agF_cel (off := 0) 0))
 refine TV ?_
 refine TW ?_ (v := .slice (some ⟨p1_1, 1, none⟩) 32 32)
 refine TF (v := str (lb 32 f.ix)) rfl (fun W hS => run_cvs (sl_part (V := f.ix) (n := 32) (off := 1) (c := 32) (hS.blk (i := 1) rfl) (agF_arr (off := 1) 1) (by decide) (by decide)) rfl rfl) ?_
 refine TV ?_
 refine TW ?_ (v := .slice (some ⟨p1_1, 33, none⟩) 80 80)
 refine TF (v := str (lb 80 f.vr)) rfl (fun W hS => run_cvs (sl_part (V := f.vr) (n := 80) (off := 33) (c := 80) (hS.blk (i := 1) rfl) (agF_arr (off := 33) 2) (by decide) (by decide)) rfl rfl) ?_
 refine TV ?_
 refine TG 1 ?_ (v := .bool f.pre) (hj := (agF_cel (off := 113) 3))
 refine TV ?_
 refine TG 1 ?_ (v := .int .i64 f.ver) (hj := (agF_cel (off := 114) 4))
 refine TV ?_
 refine TG 1 ?_ (v := vv) (hj := (agF_cel (off := 115) 5))
 refine TF (v := str f.val) rfl (fun W hS => run_cvs (sl_e hval hS.ext) rfl rfl) ?_
 refine TV ?_
 refine TW ?_ (v := .slice (some ⟨p1_1, 116, none⟩) 32 32)
 refine TF (v := str (lb 32 f.bo)) rfl (fun W hS => run_cvs (sl_part (V := f.bo) (n := 32) (off := 116) (c := 32) (hS.blk (i := 1) rfl) (agF_arr (off := 116) 6) (by decide) (by decide)) rfl rfl) ?_
 refine TV ?_
 refine TW ?_ (v := .slice (some ⟨p1_1, 148, none⟩) 32 32)
 refine TF (v := str (lb 32 f.op)) rfl (fun W hS => run_cvs (sl_part (V := f.op) (n := 32) (off := 148) (c := 32) (hS.blk (i := 1) rfl) (agF_arr (off := 148) 7) (by decide) (by decide)) rfl rfl) ?_
 refine TL 0 ?_ (hs := by rw [agF_size]; kernel_rfl)
 refine TV ?_
 refine TW ?_ (v := .slice (some ⟨p1_1, 246, none⟩) 32 32)
 refine TF (v := str (lb 32 f.ro)) rfl (fun W hS => run_cvs (sl_part (V := f.ro) (n := 32) (off := 246) (c := 32) (hS.blk (i := 1) rfl) (agF_arr (off := 246) 12) (by decide) (by decide)) rfl rfl) ?_
 refine TV ?_
 refine TW ?_ (v := .slice (some ⟨p1_1, 278, none⟩) 32 32)
 refine TF (v := str (lb 32 f.li)) rfl (fun W hS => run_cvs (sl_part (V := f.li) (n := 32) (off := 278) (c := 32) (hS.blk (i := 1) rfl) (agF_arr (off := 278) 13) (by decide) (by decide)) rfl rfl) ?_
 refine TV ?_
 refine TW ?_ (v := .slice (some ⟨p1_1, 310, none⟩) 32 32)
 refine TF (v := str (lb 32 f.ah)) rfl (fun W hS => run_cvs (sl_part (V := f.ah) (n := 32) (off := 310) (c := 32) (hS.blk (i := 1) rfl) (agF_arr (off := 310) 14) (by decide) (by decide)) rfl rfl) ?_
 refine TV ?_
 refine TG 1 ?_ (v := .int .i64 f.rd) (hj := (agF_cel (off := 342) 15))
 refine TF (v := .agg (agF [.c (.int .i64 f.ep), .c (str (lb 32 f.ix)), .c (str (lb 80 f.vr)), .c (.bool f.pre), .c (.int .i64 f.ver), .c (str f.val), .c (str (lb 32 f.bo)), .c (str (lb 32 f.op)), .c sv, .c (.bool f.th), .a 32 f.a, .a 32 f.x, .c (str (lb 32 f.ro)), .c (str (lb 32 f.li)), .c (str (lb 32 f.ah)), .c (.int .i64 f.rd)])) rfl (fun W hS => run_bld rfl rfl zer_custumalref24_Found plc_custumalref24_Found (fill_c (fill_c (fill_c (fill_c (fill_c (fill_c (fill_c (fill_c (fill_c (fill_c (fill_c (fill_c (fill_c fill_n (l' := [.c (.int .i64 f.ep), .c (str (lb 32 f.ix)), .c (str (lb 80 f.vr)), .c (.bool f.pre), .c (.int .i64 f.ver), .c (str f.val), .c (str (lb 32 f.bo)), .c (str (lb 32 f.op)), .c sv, .c (.bool f.th), .a 32 f.a, .a 32 f.x, .c (str (lb 32 f.ro)), .c (str (lb 32 f.li)), .c (str (lb 32 f.ah)), .c (.int .i64 f.rd)]) (m := [.c (.int .i64 f.rd)]) (hv := rfl) (hs := agF_setp (off := 77) 15 1) (hp := rfl) (hn := rfl) (hb := by show 77 + 1 ≤ 78; decide)) (l' := [.c (.int .i64 f.ep), .c (str (lb 32 f.ix)), .c (str (lb 80 f.vr)), .c (.bool f.pre), .c (.int .i64 f.ver), .c (str f.val), .c (str (lb 32 f.bo)), .c (str (lb 32 f.op)), .c sv, .c (.bool f.th), .a 32 f.a, .a 32 f.x, .c (str (lb 32 f.ro)), .c (str (lb 32 f.li)), .c (str (lb 32 f.ah)), .c (.int .i64 0)]) (m := [.c (str (lb 32 f.ah))]) (hv := rfl) (hs := agF_setp (off := 76) 14 1) (hp := rfl) (hn := rfl) (hb := by show 76 + 1 ≤ 78; decide)) (l' := [.c (.int .i64 f.ep), .c (str (lb 32 f.ix)), .c (str (lb 80 f.vr)), .c (.bool f.pre), .c (.int .i64 f.ver), .c (str f.val), .c (str (lb 32 f.bo)), .c (str (lb 32 f.op)), .c sv, .c (.bool f.th), .a 32 f.a, .a 32 f.x, .c (str (lb 32 f.ro)), .c (str (lb 32 f.li)), .c (str []), .c (.int .i64 0)]) (m := [.c (str (lb 32 f.li))]) (hv := rfl) (hs := agF_setp (off := 75) 13 1) (hp := rfl) (hn := rfl) (hb := by show 75 + 1 ≤ 78; decide)) (l' := [.c (.int .i64 f.ep), .c (str (lb 32 f.ix)), .c (str (lb 80 f.vr)), .c (.bool f.pre), .c (.int .i64 f.ver), .c (str f.val), .c (str (lb 32 f.bo)), .c (str (lb 32 f.op)), .c sv, .c (.bool f.th), .a 32 f.a, .a 32 f.x, .c (str (lb 32 f.ro)), .c (str []), .c (str []), .c (.int .i64 0)]) (m := [.c (str (lb 32 f.ro))]) (hv := rfl) (hs := agF_setp (off := 74) 12 1) (hp := rfl) (hn := rfl) (hb := by show 74 + 1 ≤ 78; decide)) (l' := [.c (.int .i64 f.ep), .c (str (lb 32 f.ix)), .c (str (lb 80 f.vr)), .c (.bool f.pre), .c (.int .i64 f.ver), .c (str f.val), .c (str (lb 32 f.bo)), .c (str (lb 32 f.op)), .c sv, .c (.bool f.th), .a 32 f.a, .a 32 f.x, .c (str []), .c (str []), .c (str []), .c (.int .i64 0)]) (m := [.c sv, .c (.bool f.th), .a 32 f.a, .a 32 f.x]) (hv := rfl) (hs := agF_setp (off := 8) 8 4) (hp := rfl) (hn := rfl) (hb := by show 8 + 66 ≤ 78; decide)) (l' := [.c (.int .i64 f.ep), .c (str (lb 32 f.ix)), .c (str (lb 80 f.vr)), .c (.bool f.pre), .c (.int .i64 f.ver), .c (str f.val), .c (str (lb 32 f.bo)), .c (str (lb 32 f.op)), .c (.slice none 0 0), .c (.bool false), .a 32 0, .a 32 0, .c (str []), .c (str []), .c (str []), .c (.int .i64 0)]) (m := [.c (str (lb 32 f.op))]) (hv := rfl) (hs := agF_setp (off := 7) 7 1) (hp := rfl) (hn := rfl) (hb := by show 7 + 1 ≤ 78; decide)) (l' := [.c (.int .i64 f.ep), .c (str (lb 32 f.ix)), .c (str (lb 80 f.vr)), .c (.bool f.pre), .c (.int .i64 f.ver), .c (str f.val), .c (str (lb 32 f.bo)), .c (str []), .c (.slice none 0 0), .c (.bool false), .a 32 0, .a 32 0, .c (str []), .c (str []), .c (str []), .c (.int .i64 0)]) (m := [.c (str (lb 32 f.bo))]) (hv := rfl) (hs := agF_setp (off := 6) 6 1) (hp := rfl) (hn := rfl) (hb := by show 6 + 1 ≤ 78; decide)) (l' := [.c (.int .i64 f.ep), .c (str (lb 32 f.ix)), .c (str (lb 80 f.vr)), .c (.bool f.pre), .c (.int .i64 f.ver), .c (str f.val), .c (str []), .c (str []), .c (.slice none 0 0), .c (.bool false), .a 32 0, .a 32 0, .c (str []), .c (str []), .c (str []), .c (.int .i64 0)]) (m := [.c (str f.val)]) (hv := rfl) (hs := agF_setp (off := 5) 5 1) (hp := rfl) (hn := rfl) (hb := by show 5 + 1 ≤ 78; decide)) (l' := [.c (.int .i64 f.ep), .c (str (lb 32 f.ix)), .c (str (lb 80 f.vr)), .c (.bool f.pre), .c (.int .i64 f.ver), .c (str []), .c (str []), .c (str []), .c (.slice none 0 0), .c (.bool false), .a 32 0, .a 32 0, .c (str []), .c (str []), .c (str []), .c (.int .i64 0)]) (m := [.c (.int .i64 f.ver)]) (hv := rfl) (hs := agF_setp (off := 4) 4 1) (hp := rfl) (hn := rfl) (hb := by show 4 + 1 ≤ 78; decide)) (l' := [.c (.int .i64 f.ep), .c (str (lb 32 f.ix)), .c (str (lb 80 f.vr)), .c (.bool f.pre), .c (.int .i64 0), .c (str []), .c (str []), .c (str []), .c (.slice none 0 0), .c (.bool false), .a 32 0, .a 32 0, .c (str []), .c (str []), .c (str []), .c (.int .i64 0)]) (m := [.c (.bool f.pre)]) (hv := rfl) (hs := agF_setp (off := 3) 3 1) (hp := rfl) (hn := rfl) (hb := by show 3 + 1 ≤ 78; decide)) (l' := [.c (.int .i64 f.ep), .c (str (lb 32 f.ix)), .c (str (lb 80 f.vr)), .c (.bool false), .c (.int .i64 0), .c (str []), .c (str []), .c (str []), .c (.slice none 0 0), .c (.bool false), .a 32 0, .a 32 0, .c (str []), .c (str []), .c (str []), .c (.int .i64 0)]) (m := [.c (str (lb 80 f.vr))]) (hv := rfl) (hs := agF_setp (off := 2) 2 1) (hp := rfl) (hn := rfl) (hb := by show 2 + 1 ≤ 78; decide)) (l' := [.c (.int .i64 f.ep), .c (str (lb 32 f.ix)), .c (str []), .c (.bool false), .c (.int .i64 0), .c (str []), .c (str []), .c (str []), .c (.slice none 0 0), .c (.bool false), .a 32 0, .a 32 0, .c (str []), .c (str []), .c (str []), .c (.int .i64 0)]) (m := [.c (str (lb 32 f.ix))]) (hv := rfl) (hs := agF_setp (off := 1) 1 1) (hp := rfl) (hn := rfl) (hb := by show 1 + 1 ≤ 78; decide)) (l' := [.c (.int .i64 f.ep), .c (str []), .c (str []), .c (.bool false), .c (.int .i64 0), .c (str []), .c (str []), .c (str []), .c (.slice none 0 0), .c (.bool false), .a 32 0, .a 32 0, .c (str []), .c (str []), .c (str []), .c (.int .i64 0)]) (m := [.c (.int .i64 f.ep)]) (hv := rfl) (hs := agF_setp (off := 0) 0 1) (hp := rfl) (hn := rfl) (hb := by show 0 + 1 ≤ 78; decide))) ?_
 refine TE (fun _ h => h.pick [0, 2]) ?_
 refine MR 1 ?_ (hz := by rw [agF_size]; kernel_rfl) (hs := by first | (rw [agF_size, agF_size]; rfl) | rfl) (h1 := by exact (agF_one ⟨rfl, rfl, rfl, rfl, rfl, rfl, rfl, rfl, (rr_cells hsm).2, rfl, rfl, rfl, rfl, rfl, trivial⟩))
 refine TNp [0, 2] [0, 1] ?_
 refine TZ (fun _ h => h.pick [0, 2]) fun W hS => ?_
 go_wp2
 exact bodyPost_ret (res_row rfl rfl (hS.blk (i := 1) rfl) (by kernel_rfl) (by rw [agF_size]; kernel_rfl)) rfl ⟨rfl, hS.ext⟩
theorem sized_c {d : Do} {sv u : Value} (w : World) (hsm : RR 32 w sv (d.ss.map b32l)) (hu : ∀ W, (Instr.sliceAt 48 sv none (some (.int .i64 ((min d.ss.length 258 : Nat) : Int))) none).run Try.prog W = .ok u W) (hR : RR 32 w u ((d.ss.take 258).map b32l)) :
  Calls Try.prog 16 #[.agg (doF d sv)] w fun e w' => Ret (.agg (dfF (szD d) u)) w w' e := by
 obtain ⟨Ap, cp, rfl, _, _⟩ := RR.opf hsm
 have hS := SH.nil [] w
 go_enter Try.func16, Try.ntmps16
 go_upto_region 0 with fail
 refine RL hS ?_
 clear hS
 refine MN (z := agF [.c (.int .i64 d.ep), .c (str d.ix), .c (str d.vr), .c (.bool d.pre), .c (.int .i64 d.ver), .c (str d.val), .c (str d.bo), .c (str d.op), .c (.slice Ap d.ss.length cp), .c (.bool d.th), .a 32 d.a, .a 32 d.x, .c (str d.ro), .c (str d.li), .c (str d.ah), .c (.int .i64 d.rd)]) (t := 54) ?_
 intro p1_1
 refine MN (z := agF [.c (.int .i64 0), .c (str []), .c (str []), .c (.bool false), .c (.int .i64 0), .c (str []), .c (str []), .c (str []), .c (.slice none 0 0), .c (.bool false), .a 32 0, .a 32 0, .c (str []), .c (str []), .c (str []), .c (.int .i64 0)]) (t := 54) ?_
 intro p2_2
 refine MZ fun W hS => ?_
 go_upto_region 1 with fail
 refine RL hS ?_
 clear hS
 refine MV ?_
 refine MG 1 ?_ (v := str d.val) (hj := (agF_cel (off := 5) 5))
 refine MV ?_
 refine MG 1 ?_ (v := str d.val) (hj := (agF_cel (off := 5) 5))
 refine MW ?_ (v := .int .i64 (d.val.length : Int)) (hv := fun _ => run_slen (l := d.val) rfl rfl)
 refine MW ?_ (v := .int .i64 ((min d.val.length 80 : Nat) : Int))
 refine MW ?_ (v := str (List.take (min d.val.length 80) d.val)) (hv := fun _ => run_shead (n := (min d.val.length 80)) (by first | omega | decide | (rw [List.length_take]; omega)) rfl Try.underlying9 rfl rfl)
 refine MV ?_
 refine MP 1 (v := str (List.take (min d.val.length 80) d.val)) (cs' := agF [.c (.int .i64 d.ep), .c (str d.ix), .c (str d.vr), .c (.bool d.pre), .c (.int .i64 d.ver), .c (str (List.take (min d.val.length 80) d.val)), .c (str d.bo), .c (str d.op), .c (.slice Ap d.ss.length cp), .c (.bool d.th), .a 32 d.a, .a 32 d.x, .c (str d.ro), .c (str d.li), .c (str d.ah), .c (.int .i64 d.rd)]) ?_ (hs := by rw [agF_size]; exact Nat.le_of_ble_eq_true (by kernel_rfl)) (hc := agF_setc (off := 5) 5)
 refine MZ fun W hS => ?_
 go_upto_region 2 with fail
 refine RL hS ?_
 clear hS
 refine MV ?_
 refine MV ?_
 refine MG 1 ?_ (v := (.slice Ap d.ss.length cp)) (hj := (agF_cel (off := 8) 8))
 refine MV ?_
 refine MV ?_
 refine MG 1 ?_ (v := (.slice Ap d.ss.length cp)) (hj := (agF_cel (off := 8) 8))
 refine MW ?_ (v := .int .i64 (d.ss.length : Int)) (hv := fun _ => run_lenV rfl rfl Try.underlying48)
 refine MW ?_ (v := .int .i64 ((min d.ss.length 258 : Nat) : Int))
 refine MW ?_ (v := u) (hv := fun _ => run_headV hu rfl rfl rfl)
 refine MV ?_
 refine MV ?_
 refine MP 1 (v := u) (cs' := agF [.c (.int .i64 d.ep), .c (str d.ix), .c (str d.vr), .c (.bool d.pre), .c (.int .i64 d.ver), .c (str (List.take (min d.val.length 80) d.val)), .c (str d.bo), .c (str d.op), .c u, .c (.bool d.th), .a 32 d.a, .a 32 d.x, .c (str d.ro), .c (str d.li), .c (str d.ah), .c (.int .i64 d.rd)]) ?_ (hs := by rw [agF_size]; exact Nat.le_of_ble_eq_true (by kernel_rfl)) (hc := agF_setc (off := 8) 8) (hv := fun W hS => ⟨(rr_cells hR).1, (rr_cells hR).2⟩)
 refine MZ fun W hS => ?_
 go_upto_region 3 with fail
 refine RL hS ?_
 clear hS
 refine ML 1 ?_ (hs := by rw [agF_size]; kernel_rfl)
 refine ME (V := fun vv => .agg (foF (szD d) vv u)) (fun W hS => ncall hS (found_c (d := { d with val := d.val.take (min d.val.length 80), ss := d.ss.take 258 }) (by show (d.val.take _).length ≤ _; rw [List.length_take]; omega) W (hR.ext hS.ext)) (fun _ => ⟨rfl, rfl⟩)) ?_
 intro vv3
 refine MFact (fun W hS => sl_cells (hS.ozl (i := 0) rfl)) ?_
 intro hvc3
 refine MC (v := .agg (agF [.c (.int .i64 (szD d).ep), .c (str (lb 32 (szD d).ix)), .c (str (lb 80 (szD d).vr)), .c (.bool (szD d).pre), .c (.int .i64 (szD d).ver), .c (str (szD d).val), .c (str (lb 32 (szD d).bo)), .c (str (lb 32 (szD d).op)), .c u, .c (.bool (szD d).th), .a 32 ((szD d).a), .a 32 ((szD d).x), .c (str (lb 32 (szD d).ro)), .c (str (lb 32 (szD d).li)), .c (str (lb 32 (szD d).ah)), .c (.int .i64 (szD d).rd)])) (fun W hS => back_c (f := szD d) (vv := vv3) (sv := u) W (hS.ozl (i := 0) rfl) (hR.ext hS.ext)) ?_
 refine MR 1 ?_ (hz := by rw [agF_size]; kernel_rfl) (hs := by first | (rw [agF_size, agF_size]; rfl) | rfl) (h1 := by exact (agF_one ⟨rfl, rfl, rfl, rfl, rfl, rfl, rfl, rfl, (rr_cells hR).2, rfl, rfl, rfl, rfl, rfl, trivial⟩))
 refine MZ fun W hS => ?_
 go_wp2
 exact bodyPost_ret (res_row rfl rfl (hS.blk (i := 1) rfl) (by kernel_rfl) (by rw [agF_size]; kernel_rfl)) rfl ⟨rfl, hS.ext⟩
end Go.Proofs.Ytlbgelbhhibikaa.Ww

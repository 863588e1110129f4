/- Trees, the plain law: the tree of leaves is that of the leaves in order, however they are put. No conditions. Trees, the plain law: the tree of a list in order; a leaf put into it; its leaves. No conditions. Lists of leaves: the document's Put, Side, Same; the laws' to, from, few, list. Conditions: keys and values have 256 bits. Lists of leaves: the laws' to and from; the document's Put, Side, Same; few, list. Conditions: keys and values have 256 bits. Lists of leaves: the document's Same; the law's few and list. Conditions: keys and values have 256 bits. The document's sum of leaves; a tree's leaves. Conditions: the tables hold their numbers; keys and values have 256 bits. A tree's leaves, in order. Conditions: fewer than 2^38 leaves. TreeRoots. Conditions: keys and values have 256 bits; the tables hold their numbers. super: the tree over members; a log's entries; New, Seal, Public, Epochs, Check. Conditions: the tables hold their numbers. Sums and rows of members out of the arguments. No conditions. The way of a key in a tree; a key's value. Conditions: the tree is not too large. Lists of leaves, the plain law: the order in which leaves of unlike keys are put is no matter; a leaf that is there is found. No conditions. A key's value; TreeStays. Conditions: keys and values have 256 bits; the tables hold their numbers. The sums beside a key's way. Conditions: the tables hold their numbers; the tree is not too large. -/
import Derived.Test.YtejkmhgkkibafaaGreatDoorJ43
import Derived.Test.YtejkmhgkkibafaaGreatDoorUa
import Derived.Test.YtejkmhgkkibafaaGreatDoorJ29
import Derived.Test.YtejkmhgkkibafaaGreatDoorRowKitY
import Derived.Test.YtejkmhgkkibafaaGreatDoorJ9
set_option linter.unusedSimpArgs false
set_option linter.unusedVariables false
namespace Go.Proofs.YtejkmhgkkibafaaGreatDoor
/-! ### Lists of leaves, by the document -/
end Go.Proofs.YtejkmhgkkibafaaGreatDoor

set_option linter.unusedSimpArgs false
set_option linter.unusedVariables false
namespace Go.Proofs.YtejkmhgkkibafaaGreatDoor
/-! ### The leaves of a tree -/
/-! ### Lists, step by step -/
end Go.Proofs.YtejkmhgkkibafaaGreatDoor

set_option linter.unusedSimpArgs false
set_option linter.unusedVariables false
namespace Go.Proofs.YtejkmhgkkibafaaGreatDoor
open Go.RowKit
attribute [local irreducible] wpList wpTr wpX
set_option linter.unusedSimpArgs false
theorem RR.op {w : World} {u : Value} {ls : List Lf} (h : RR 64 w u (ls.map lfl)) : ∃ A c, u = .slice A ls.length c ∧ ls.length ≤ c ∧ Hid (∀ (j : Nat) (x : Lf), ls[j]? = some x → ∃ g o, A = some ⟨g, o, none⟩ ∧ ∀ (i : Nat) (v : Value), (lfl x)[i]? = some v → w.cell? ⟨g, o + j * 64 + i, none⟩ = some v) := by
 obtain ⟨A, c, h1, h2, _, h3⟩ := h
 rw [List.length_map] at h1 h2
 exact ⟨A, c, h1, h2, Lib.hid fun j x hj => h3 j (lfl x) (by rw [List.getElem?_map, hj]; rfl)⟩
end Go.Proofs.YtejkmhgkkibafaaGreatDoor

set_option linter.unusedSimpArgs false
set_option linter.unusedVariables false
namespace Go.Proofs.YtejkmhgkkibafaaGreatDoor
set_option maxHeartbeats 3000000
set_option maxRecDepth 100000
open Go.RowKit
attribute [local irreducible] wpList wpTr wpX
set_option linter.unusedSimpArgs false
end Go.Proofs.YtejkmhgkkibafaaGreatDoor

set_option linter.unusedSimpArgs false
set_option linter.unusedVariables false
namespace Go.Proofs.YtejkmhgkkibafaaGreatDoor
open Go.RowKit
attribute [local irreducible] wpList wpTr wpX
set_option linter.unusedSimpArgs false

end Go.Proofs.YtejkmhgkkibafaaGreatDoor

set_option linter.unusedSimpArgs false
set_option linter.unusedVariables false
namespace Go.Proofs.YtejkmhgkkibafaaGreatDoor
set_option maxHeartbeats 3000000
set_option maxRecDepth 100000
open Go.RowKit
attribute [local irreducible] wpList wpTr wpX
set_option linter.unusedSimpArgs false
attribute [local irreducible] hs4 sE sL sN

end Go.Proofs.YtejkmhgkkibafaaGreatDoor

set_option linter.unusedSimpArgs false
set_option linter.unusedVariables false
namespace Go.Proofs.YtejkmhgkkibafaaGreatDoor
open Go.RowKit
attribute [local irreducible] wpList wpTr wpX
set_option linter.unusedSimpArgs false
attribute [local irreducible] hs4 sE sL sN

end Go.Proofs.YtejkmhgkkibafaaGreatDoor

set_option linter.unusedSimpArgs false
set_option linter.unusedVariables false
namespace Go.Proofs.YtejkmhgkkibafaaGreatDoor
open Go.RowKit
attribute [local irreducible] wpList wpTr wpX
set_option linter.unusedSimpArgs false
theorem of_tsz {ls : List Lf} (h : ls.length ≤ 1000) : tsz (ofT ls) < 4611686018427387904 := by have := (ofT_le ls.length ls).1; rw [List.take_length] at this; omega
theorem of_cnt {ls : List Lf} (h : ls.length ≤ 1000) : cnt (ofT ls) < 2305843009213693952 := by have := (ofT_le ls.length ls).2; rw [List.take_length] at this; omega
attribute [local irreducible] hs4 sE sL sN

end Go.Proofs.YtejkmhgkkibafaaGreatDoor

set_option linter.unusedSimpArgs false
set_option linter.unusedVariables false
namespace Go.Proofs.YtejkmhgkkibafaaGreatDoor
set_option maxHeartbeats 3000000
set_option maxRecDepth 100000
open Go.RowKit
attribute [local irreducible] wpList wpTr wpX
open S8 (Kn GA kP sig vfy)
set_option linter.unusedSimpArgs false
theorem ta_nil0 (W : World) (ls : List (Nat × Nat)) : TA W (ofT (List.take 0 ls)) nlp := rfl
/-- members in a row, and where their ids lie -/
def mbC (m : Mb) : List Value := fcs [.c m.u, .c (.bool m.gone), .c (.int .i64 m.ep), .a 32 m.link]
theorem mbC_len {ms : List Mb} : ∀ e ∈ ms.map mbC, e.length = 35 := fun e he => by
 obtain ⟨y, _, rfl⟩ := List.mem_map.1 he
 unfold mbC; rw [fcs_len]; rfl
def mbK (ms : List Mb) (W : World) : Prop := ∀ y ∈ ms, Sl W y.u y.id ∧ y.id.length ≤ 100000000
theorem mb_at {W : World} {A : Option Addr} {n c i g o : Nat} {ms : List Mb} {y : Mb} (h : RR 35 W (.slice A n c) (ms.map mbC)) (yh : ms[i]? = some y) (hA : A = some ⟨g, o, none⟩) : ∀ (j : Nat) (v : Value), (mbF y)[j]? = some v → W.cell? ⟨g, o + i * 35 + j, none⟩ = some v := fun j v hv =>
 RR.cellat h (by rw [List.getElem?_map, yh]; rfl) hA j v (by unfold mbC; rw [← agF_list, Array.getElem?_toList]; exact hv)
/-- a member's leaf -/
def mkL (m : Mb) : Nat × Nat := (hs4 (kTx m.id), hs4 (vTx m))
abbrev ovT (ms : List Mb) : TR := ofT (ms.map mkL)
theorem mk_at {ms : List Mb} {i : Nat} {y : Mb} (h : ms[i]? = some y) : (ms.map mkL)[i]? = some (mkL y) := by rw [List.getElem?_map, h]; rfl
theorem ov_put {q : Prop} {ms : List Mb} {i : Nat} {y : Mb} {u : Value} (h : ms[i]? = some y) (hn : ms.length ≤ 1000) (w : World) (hG : GT q w) (ht : TA w (ofT (List.take i (ms.map mkL))) u) :
  Calls Tryz.prog 87 #[u, .agg (lf (hs4 (kTx y.id)) (hs4 (vTx y)))] w fun e w' => TRet (ofT (List.take (i + 1) (ms.map mkL))) w w' e := by
 have hl : (List.take i (ms.map mkL)).length ≤ 1000 := by rw [List.length_take, List.length_map]; omega
 rw [ofT_take (mk_at h)]
 exact Put_c (hs_lt4 _) (hs_lt4 _) (of_tsz hl) (of_cnt hl) w hG ht
attribute [local irreducible] eI be8 hs4 lb kTx vTx sTx rs ofT

theorem over_c {q : Prop} {ms : List Mb} {v : Value} (hn : ms.length ≤ 1000) (w : World) (hG : GT q w) (hp : RR 35 w v (ms.map mbC)) (hk : mbK ms w) :
  Calls Tryz.prog 50 #[v] w fun e w' => TRet (ovT ms) w w' e := by
 obtain ⟨Ap, cp, rfl, hlc_p, HRp⟩ := RR.opf hp
 have hS := SH.nil [] w
 go_enter Tryz.func50, Tryz.ntmps50
 go_upto_region 2 with fail
 refine RL hS ?_
 clear hS
 refine MV ?_
 refine MV ?_
 refine MW ?_ (v := .int .i64 0)
 refine MZ fun W hS => ?_
 have hS := hS.fact (TA.holds (ta_nil0 _ (ms.map mkL))) rfl
 go_wp2_with fail
 go_loopw [3, 8] (fun uv ii wr => ∃ (i : Nat) (u : Value), (i ≤ ms.length) ∧ (u = uv) ∧ (ii = .int .i64 (i : Int)) ∧ SH [] w wr [.t 151 (fun W => TA W (ofT (List.take i (ms.map mkL))) u)])
  (fun uv ii _ => ms.length - (intOf ii).toNat)
 case atStart => exact ⟨0, nlp, Nat.zero_le _, rfl, rfl, hS⟩
 clear hS
 case round =>
  obtain ⟨i, u, hi, rfl, rfl, hS⟩ := hrel
  by_cases hlt : i < ms.length
  ·
   have _f := hlt
   obtain ⟨y, yh⟩ : ∃ x, ms[i]? = some x := ⟨_, List.getElem?_eq_getElem hlt⟩
   obtain ⟨gp, op, A0p, _⟩ := HRp.out i y yh
   have HAp := Lib.hid A0p
   clear A0p
   have hid := (hk y (List.mem_of_getElem? yh)).1
   have hidl := (hk y (List.mem_of_getElem? yh)).2
   have huc := sl_cells hid
   go_upto_region 3 with fail
   refine RL hS ?_
   clear hS
   refine MW ?_ (v := .bool true)
   refine MZ fun W hS => ?_
   go_upto_region 4 with fail
   refine RL hS ?_
   clear hS
   refine MW ?_ (v := .pointer (some ⟨gp, op + i * 35, none⟩)) (hv := fun _ => run_ixRA HAp.out hlt rfl rfl rfl Tryz.underlying30 (by kernel_rfl))
   refine MF (v := .agg (agF [.c y.u, .c (.bool y.gone), .c (.int .i64 y.ep), .a 32 y.link])) (fun W hS => run_atsub rfl rfl (fun i_ v hv => (mb_at (hp.ext hS.ext) yh HAp.out) i_ v (by simpa using hv)) (by kernel_rfl) (by rw [agF_size]; kernel_rfl)) ?_
   refine MN (z := agF [.c (.slice none 0 0), .c (.bool false), .c (.int .i64 0), .a 32 0]) (t := 25) ?_
   intro p5_1
   refine MR 0 ?_ (hz := by rw [agF_size]; kernel_rfl) (hs := by first | (rw [agF_size, agF_size]; rfl) | rfl) (h1 := by exact (agF_one ⟨huc.2, rfl, rfl, trivial⟩))
   refine MZ fun W hS => ?_
   go_upto_region 5 with fail
   refine RTh (.q 0 (.q 1 (.q 2 (.q 4 (.e 3 (.e 5 (.q 6 (.e 7 (.q 8 .z))))))))) hS ?_
   clear hS
   refine TV ?_
   refine TV ?_
   refine TG 0 ?_ (v := y.u) (hj := (agF_cel (off := 0) 0))
   refine TL 0 ?_ (hs := by rw [agF_size]; kernel_rfl)
   refine TE (fun _ h => h) ?_
   refine MC (v := .agg (arrK .u8 32 (byt (hs4 (kTx y.id))))) (fun W hS => sKey_c W (GT_ext hG hS.ext) (sl_e hid hS.ext) (by first | omega | (simp only [List.length_append, List.length_map, List.length_take, List.length_drop, List.length_cons, List.length_nil, lb_length, eI_len, kTx_len, sTx_len]; omega))) ?_
   refine TNh (fun W hS => hS) ?_
   refine TE (fun _ h => h) ?_
   refine MC (v := .agg (arrK .u8 32 (byt (hs4 (vTx y))))) (fun W hS => sValue_c (m := y) W (GT_ext hG hS.ext) (sl_e hid hS.ext)) ?_
   refine TNh (fun W hS => hS) ?_
   refine TW ?_ (v := .agg (lf (hs4 (kTx y.id)) (hs4 (vTx y)))) (hv := by intro W; first | rfl | kernel_rfl)
   refine TE (fun _ h => h) ?_
   refine ME (fun W hS => tcall (T := (ofT (List.take (i + 1) (ms.map mkL)))) hS (ov_put yh hn W (GT_ext hG hS.ext) (hS.tt (i := 1) rfl)) rfl) ?_
   intro u_tq2
   refine TNh (fun W hS => hS.pick [1, 2]) ?_
   refine TV ?_
   refine TZ (fun _ h => h) fun W hS => ?_
   go_wp2
   go_roundw
   case rel => exact ⟨i + 1, u_tq2, by omega, rfl, by go_num, (hS.pick [0])⟩
   case measure => simp [intOf]; omega
  ·
   have _f := hlt
   obtain rfl : i = ms.length := by omega
   rw [List.take_of_length_le (Nat.le_of_eq (List.length_map _))] at hS
   go_upto_region 3 with fail
   refine RL hS ?_
   clear hS
   refine MW ?_ (v := .bool false)
   refine MZ fun W hS => ?_
   go_wp2
   exact bodyPost_ret (v := u) (by simp only [results, Tryz.results50]; go_simp) rfl ⟨_, rfl, hS.ext, hS.tt (i := 0) rfl⟩
end Go.Proofs.YtejkmhgkkibafaaGreatDoor

set_option linter.unusedSimpArgs false
set_option linter.unusedVariables false
namespace Go.Proofs.YtejkmhgkkibafaaGreatDoor
set_option maxRecDepth 100000
open Go.ChangeShapes Go.WideShapes Go.ChangeAt Go.RowKit Go.Deep
section
variable {H : Type} {enc : TypeId × Value → H} {W : World} {base : Nat} {sp : Nat → Bool} {held : Bool}
theorem open_am {n : Nat} {t : TypeId} (hn : Tryz.prog.underlying t = some (.array n 5)) (hc : Tryz.prog.cellsOf t = n) {r : Reach} {b0 : Nat} {v : Value} {d : DataW H} {ps : List MemPlace} (hval : Value.okWide Tryz.prog W r b0 t v) (hd : DataW.Trod enc Tryz.prog W base sp held t v d ps) :
    ∃ N : Nat, N < 2 ^ (8 * n) ∧ v = .agg (arrK .u8 n (byt N)) := by
  simp only [Value.okWide, hn] at hval
  obtain ⟨cs, rfl, _⟩ := hval
  obtain ⟨fuel, hf⟩ := hd
  obtain ⟨N, hN, e⟩ := trod_arrN hn hc hf
  exact ⟨N, hN, by rw [show cs = arrK .u8 n (byt N) from Array.toList_inj.1 e]⟩
theorem open_a32 {r : Reach} {b0 : Nat} {v : Value} {d : DataW H} {ps : List MemPlace} (hval : Value.okWide Tryz.prog W r b0 23 v) (hd : DataW.Trod enc Tryz.prog W base sp held 23 v d ps) :
    ∃ N : Nat, N < 2 ^ (8 * 32) ∧ v = .agg (arrK .u8 32 (byt N)) := open_am Tryz.underlying23 (by kernel_rfl) hval hd
instance : Inhabited Mb := ⟨⟨.slice none 0 0, [], false, 0, 0⟩⟩
end
end Go.Proofs.YtejkmhgkkibafaaGreatDoor

set_option linter.unusedSimpArgs false
set_option linter.unusedVariables false
namespace Go.Proofs.YtejkmhgkkibafaaGreatDoor
set_option maxHeartbeats 3000000
set_option maxRecDepth 100000
open Go.RowKit
attribute [local irreducible] wpList wpTr wpX
set_option linter.unusedSimpArgs false
attribute [local irreducible] hs4 sE sL sN

end Go.Proofs.YtejkmhgkkibafaaGreatDoor

set_option linter.unusedSimpArgs false
set_option linter.unusedVariables false
namespace Go.Proofs.YtejkmhgkkibafaaGreatDoor
end Go.Proofs.YtejkmhgkkibafaaGreatDoor

set_option linter.unusedSimpArgs false
set_option linter.unusedVariables false
namespace Go.Proofs.YtejkmhgkkibafaaGreatDoor
open Go.RowKit
attribute [local irreducible] wpList wpTr wpX
set_option linter.unusedSimpArgs false
attribute [local irreducible] hs4 sE sL sN

end Go.Proofs.YtejkmhgkkibafaaGreatDoor

set_option linter.unusedSimpArgs false
set_option linter.unusedVariables false
namespace Go.Proofs.YtejkmhgkkibafaaGreatDoor
set_option maxHeartbeats 3000000
set_option maxRecDepth 100000
open Go.RowKit
attribute [local irreducible] wpList wpTr wpX
set_option linter.unusedSimpArgs false
attribute [local irreducible] hs4 sE sL sN

end Go.Proofs.YtejkmhgkkibafaaGreatDoor

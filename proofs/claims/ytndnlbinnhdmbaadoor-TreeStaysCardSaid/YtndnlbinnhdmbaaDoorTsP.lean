/- Lists of leaves: the laws' to and from; the document's Put, Side, Same; few, list. Conditions: keys and values have 256 bits. -/
import Derived.Test.YtndnlbinnhdmbaaDoorTsO
set_option linter.unusedSimpArgs false
set_option linter.unusedVariables false
namespace Go.Proofs.YtndnlbinnhdmbaaDoor
set_option maxHeartbeats 3000000
set_option maxRecDepth 100000
open Go.RowKit
attribute [local irreducible] wpList wpTr wpX
set_option linter.unusedSimpArgs false
theorem take_map {ls : List Lf} {i : Nat} {x : Lf} (h : ls[i]? = some x) : List.map lfl (ls.take i) ++ [lfl x] = List.map lfl (ls.take (i + 1)) := by rw [List.take_add_one, h, List.map_append]; rfl

theorem to_c {ls : List Lf} {u : Value} (hn : ls.length ≤ 1099511627776) (w : World) (hl : RR 64 w u (ls.map lfl)) :
  Calls Tryd.prog 22 #[u] w fun e w' => RRet 30 ls w w' e := by
 obtain ⟨Al, cl, rfl, hlcl, HRl⟩ := hl.op
 have hS := SH.nil [] w
 go_enter Tryd.func22, Tryd.ntmps22
 have hS := hS.rnil 30 64 rfl
 go_wp2_with fail
 go_loopw [3, 4] (fun uv ii wr => ∃ (i : Nat) (u : Value), (i ≤ ls.length) ∧ (u = uv) ∧ (ii = .int .i64 (i : Int)) ∧ SH [] w wr [.r 30 64 u (List.map lfl (List.take i ls))])
  (fun uv ii _ => ls.length - (intOf ii).toNat)
 case atStart => exact ⟨0, (.slice none 0 0), Nat.zero_le _, rfl, rfl, hS⟩
 clear hS
 case round =>
  obtain ⟨i, u, hi, rfl, rfl, hS⟩ := hrel
  by_cases hlt : i < ls.length
  ·
   have _f := hlt
   obtain ⟨x, xh⟩ : ∃ x, ls[i]? = some x := ⟨_, List.getElem?_eq_getElem hlt⟩
   obtain ⟨gl, ol, A0l, c0l⟩ := HRl.out i x xh
   have HAl := Lib.hid A0l
   clear A0l
   go_upto_region 3 with fail
   refine RL hS ?_
   clear hS
   refine MV ?_
   refine MV ?_
   refine MV ?_
   refine MW ?_ (v := .bool true)
   refine MZ fun W hS => ?_
   go_upto_region 5 with fail
   refine RTp [] (.q 0 (.q 1 (.q 2 (.q 3 (.q 4 (.q 5 (.q 6 (.q 7 (.q 8 (.q 9 (.q 10 (.q 11 (.e 12 (.e 13 (.q 14 .z))))))))))))))) hS ?_
   clear hS
   refine TV ?_
   refine TV ?_
   refine TV ?_
   refine TW ?_ (v := .pointer (some ⟨gl, ol + i * 64, none⟩)) (hv := fun _ => run_ixRA HAl.out hlt rfl rfl rfl Tryd.underlying38 (by kernel_rfl))
   refine TW ?_ (v := .pointer (some ⟨gl, ol + i * 64, none⟩))
   refine TF (v := .agg (arrK .u8 32 (byt x.1))) rfl (fun W hS => run_atsub rfl rfl (fun i_ v hv => cell_ext (c0l i_ v (by rw [Array.getElem?_toList]; have h_ := lf_k (k := x.1) (v := x.2) i_ v hv; rw [Nat.zero_add] at h_; exact h_)) hS.ext) (by kernel_rfl) (by rw [arrK_size]; kernel_rfl)) ?_
   refine TV ?_
   refine TV ?_
   refine TW ?_ (v := .pointer (some ⟨gl, ol + i * 64, none⟩)) (hv := fun _ => run_ixRA HAl.out hlt rfl rfl rfl Tryd.underlying38 (by kernel_rfl))
   refine TW ?_ (v := .pointer (some ⟨gl, ol + i * 64 + 32, none⟩))
   refine TF (v := .agg (arrK .u8 32 (byt x.2))) rfl (fun W hS => run_atsub rfl rfl (fun i_ v hv => cell_ext ((by rw [Nat.add_assoc]; exact c0l _ v (by rw [Array.getElem?_toList]; exact lf_v (k := x.1) (v := x.2) i_ v hv))) hS.ext) (by kernel_rfl) (by rw [arrK_size]; kernel_rfl)) ?_
   refine TW ?_ (v := .agg (lf x.1 x.2)) (hv := by intro W; first | rfl | kernel_rfl)
   refine TE (fun _ h => h.pick []) ?_
   refine MB (z := (lf x.1 x.2)) (t := 30) (n := 1) (c := 1) ?_ (hr := fun W _ => run_bsA rfl rfl rfl Tryd.underlying40 (by rw [lf_size]; kernel_rfl) (by rw [lf_size]; kernel_rfl) (by rw [lf_size]; decide) (by rw [lf_size]; decide))
   intro p23_1
   refine TNp [0] [] ?_
   refine TE (fun _ h => h.pick [0]) ?_
   refine MAr 1 0 (tS := 40) (bytes := 64) (es := (List.map lfl (List.take i ls))) (by first | omega | (simp only [List.length_append, List.length_map, List.length_take, List.length_cons, List.length_nil]; omega)) (e := lfl x) (hk := lf_size) (h1 := lf_one) ?_
   intro v24_2
   refine TNp [0, 1] [0] ?_
   refine TV ?_
   refine TZ (fun _ h => h) fun W hS => ?_
   go_wp2
   go_roundw
   case rel => exact ⟨i + 1, v24_2, by omega, rfl, by go_num, (by rw [take_map xh] at hS; exact (hS.pick [1]))⟩
   case measure => simp [intOf]; omega
  ·
   have _f := hlt
   obtain rfl : i = ls.length := by omega
   go_upto_region 3 with fail
   refine RL hS ?_
   clear hS
   refine MV ?_
   refine MV ?_
   refine MV ?_
   refine MW ?_ (v := .bool false)
   refine MZ fun W hS => ?_
   go_wp2
   exact bodyPost_ret (v := u) (by simp only [results, Tryd.results22]; go_simp) rfl ⟨_, rfl, by have h_ := hS.pick [0]; rw [List.take_length] at h_; exact h_⟩
theorem from_c {ls : List Lf} {u : Value} (hn : ls.length ≤ 1099511627776) (w : World) (hl : RR 64 w u (ls.map lfl)) :
  Calls Tryd.prog 30 #[u] w fun e w' => RRet 24 ls w w' e := by
 obtain ⟨Al, cl, rfl, hlcl, HRl⟩ := hl.op
 have hS := SH.nil [] w
 go_enter Tryd.func30, Tryd.ntmps30
 have hS := hS.rnil 24 64 rfl
 go_wp2_with fail
 go_loopw [3, 4] (fun uv ii wr => ∃ (i : Nat) (u : Value), (i ≤ ls.length) ∧ (u = uv) ∧ (ii = .int .i64 (i : Int)) ∧ SH [] w wr [.r 24 64 u (List.map lfl (List.take i ls))])
  (fun uv ii _ => ls.length - (intOf ii).toNat)
 case atStart => exact ⟨0, (.slice none 0 0), Nat.zero_le _, rfl, rfl, hS⟩
 clear hS
 case round =>
  obtain ⟨i, u, hi, rfl, rfl, hS⟩ := hrel
  by_cases hlt : i < ls.length
  ·
   have _f := hlt
   obtain ⟨x, xh⟩ : ∃ x, ls[i]? = some x := ⟨_, List.getElem?_eq_getElem hlt⟩
   obtain ⟨gl, ol, A0l, c0l⟩ := HRl.out i x xh
   have HAl := Lib.hid A0l
   clear A0l
   go_upto_region 3 with fail
   refine RL hS ?_
   clear hS
   refine MV ?_
   refine MV ?_
   refine MV ?_
   refine MW ?_ (v := .bool true)
   refine MZ fun W hS => ?_
   go_upto_region 5 with fail
   refine RTp [] (.q 0 (.q 1 (.q 2 (.q 3 (.q 4 (.q 5 (.q 6 (.q 7 (.q 8 (.q 9 (.q 10 (.q 11 (.e 12 (.e 13 (.q 14 .z))))))))))))))) hS ?_
   clear hS
   refine TV ?_
   refine TV ?_
   refine TV ?_
   refine TW ?_ (v := .pointer (some ⟨gl, ol + i * 64, none⟩)) (hv := fun _ => run_ixRA HAl.out hlt rfl rfl rfl Tryd.underlying40 (by kernel_rfl))
   refine TW ?_ (v := .pointer (some ⟨gl, ol + i * 64, none⟩))
   refine TF (v := .agg (arrK .u8 32 (byt x.1))) rfl (fun W hS => run_atsub rfl rfl (fun i_ v hv => cell_ext (c0l i_ v (by rw [Array.getElem?_toList]; have h_ := lf_k (k := x.1) (v := x.2) i_ v hv; rw [Nat.zero_add] at h_; exact h_)) hS.ext) (by kernel_rfl) (by rw [arrK_size]; kernel_rfl)) ?_
   refine TV ?_
   refine TV ?_
   refine TW ?_ (v := .pointer (some ⟨gl, ol + i * 64, none⟩)) (hv := fun _ => run_ixRA HAl.out hlt rfl rfl rfl Tryd.underlying40 (by kernel_rfl))
   refine TW ?_ (v := .pointer (some ⟨gl, ol + i * 64 + 32, none⟩))
   refine TF (v := .agg (arrK .u8 32 (byt x.2))) rfl (fun W hS => run_atsub rfl rfl (fun i_ v hv => cell_ext ((by rw [Nat.add_assoc]; exact c0l _ v (by rw [Array.getElem?_toList]; exact lf_v (k := x.1) (v := x.2) i_ v hv))) hS.ext) (by kernel_rfl) (by rw [arrK_size]; kernel_rfl)) ?_
   refine TW ?_ (v := .agg (lf x.1 x.2)) (hv := by intro W; first | rfl | kernel_rfl)
   refine TE (fun _ h => h.pick []) ?_
   refine MB (z := (lf x.1 x.2)) (t := 24) (n := 1) (c := 1) ?_ (hr := fun W _ => run_bsA rfl rfl rfl Tryd.underlying38 (by rw [lf_size]; kernel_rfl) (by rw [lf_size]; kernel_rfl) (by rw [lf_size]; decide) (by rw [lf_size]; decide))
   intro p23_1
   refine TNp [0] [] ?_
   refine TE (fun _ h => h.pick [0]) ?_
   refine MAr 1 0 (tS := 38) (bytes := 64) (es := (List.map lfl (List.take i ls))) (by first | omega | (simp only [List.length_append, List.length_map, List.length_take, List.length_cons, List.length_nil]; omega)) (e := lfl x) (hk := lf_size) (h1 := lf_one) ?_
   intro v24_2
   refine TNp [0, 1] [0] ?_
   refine TV ?_
   refine TZ (fun _ h => h) fun W hS => ?_
   go_wp2
   go_roundw
   case rel => exact ⟨i + 1, v24_2, by omega, rfl, by go_num, (by rw [take_map xh] at hS; exact (hS.pick [1]))⟩
   case measure => simp [intOf]; omega
  ·
   have _f := hlt
   obtain rfl : i = ls.length := by omega
   go_upto_region 3 with fail
   refine RL hS ?_
   clear hS
   refine MV ?_
   refine MV ?_
   refine MV ?_
   refine MW ?_ (v := .bool false)
   refine MZ fun W hS => ?_
   go_wp2
   exact bodyPost_ret (v := u) (by simp only [results, Tryd.results30]; go_simp) rfl ⟨_, rfl, by have h_ := hS.pick [0]; rw [List.take_length] at h_; exact h_⟩
end Go.Proofs.YtndnlbinnhdmbaaDoor

/- Lists of leaves: the laws' to and from; the document's Put, Side, Same; few, list. Conditions: keys and values have 256 bits. -/
import Derived.Test.YtndnlbinnhdmbaaDoorJ23
set_option linter.unusedSimpArgs false
set_option linter.unusedVariables false
namespace Go.Proofs.YtndnlbinnhdmbaaDoor
set_option maxHeartbeats 3000000
set_option maxRecDepth 100000
open Go.RowKit
attribute [local irreducible] wpList wpTr wpX
set_option linter.unusedSimpArgs false
theorem take_map {ls : List Lf} {i : Nat} {x : Lf} (h : ls[i]? = some x) : List.map lfl (ls.take i) ++ [lfl x] = List.map lfl (ls.take (i + 1)) := by rw [List.take_add_one, h, List.map_append]; rfl

theorem to_c {ls : List Lf} {u : Value} (hn : ls.length ≤ 1099511627776) (w : World) (hl : RR 64 w u (ls.map lfl)) :
  Calls Tryd.prog 22 #[u] w fun e w' => RRet 30 ls w w' e := by
 obtain ⟨Al, cl, rfl, hlcl, HRl⟩ := hl.op
 have hS := SH.nil [] w
 go_enter Tryd.func22, Tryd.ntmps22
 have hS := hS.rnil 30 64 rfl
 go_wp2_with fail
 go_loopw [3, 4] (fun uv ii wr => ∃ (i : Nat) (u : Value), (i ≤ ls.length) ∧ (u = uv) ∧ (ii = .int .i64 (i : Int)) ∧ SH [] w wr [.r 30 64 u (List.map lfl (List.take i ls))])
  (fun uv ii _ => ls.length - (intOf ii).toNat)
 case atStart => exact ⟨0, (.slice none 0 0), Nat.zero_le _, rfl, rfl, hS⟩
 clear hS
 case round =>
  obtain ⟨i, u, hi, rfl, rfl, hS⟩ := hrel
  by_cases hlt : i < ls.length
  ·
   have _f := hlt
   obtain ⟨x, xh⟩ : ∃ x, ls[i]? = some x := ⟨_, List.getElem?_eq_getElem hlt⟩
   obtain ⟨gl, ol, A0l, c0l⟩ := HRl.out i x xh
   have HAl := Lib.hid A0l
   clear A0l
   go_upto_region 3 with fail
   refine RL hS ?_
   clear hS
   refine MV ?_
   refine MV ?_
   refine MV ?_
   refine MW ?_ (v := .bool true)
   refine MZ fun W hS => ?_
   go_upto_region 5 with fail
   refine RTp [] (.q 0 (.q 1 (.q 2 (.q 3 (.q 4 (.q 5 (.q 6 (.q 7 (.q 8 (.q 9 (.q 10 (.q 11 (.e 12 (.e 13 (.q 14 .z))))))))))))))) hS ?_
   clear hS
   refine TV ?_
   refine TV ?_
   refine TV ?_
   refine TW ?_ (v := .pointer (some ⟨gl, ol + i * 64, none⟩)) (hv := fun _ => run_ixRA HAl.out hlt rfl rfl rfl Tryd.underlying38 (by kernel_rfl))
   refine TW ?_ (v := .pointer (some ⟨gl, ol + i * 64, none⟩))
   refine TF (v := .agg (arrK .u8 32 (byt x.1))) rfl (fun W hS => run_atsub rfl rfl (fun i_ v hv => cell_ext (c0l i_ v (by rw [Array.getElem?_toList]; have h_ := lf_k (k := x.1) (v := x.2) i_ v hv; rw [Nat.zero_add] at h_; exact h_)) hS.ext) (by kernel_rfl) (by rw [arrK_size]; kernel_rfl)) ?_
   refine TV ?_
   refine TV ?_
   refine TW ?_ (v := .pointer (some ⟨gl, ol + i * 64, none⟩)) (hv := fun _ => run_ixRA HAl.out hlt rfl rfl rfl Tryd.underlying38 (by kernel_rfl))
   refine TW ?_ (v := .pointer (some ⟨gl, ol + i * 64 + 32, none⟩))
   refine TF (v := .agg (arrK .u8 32 (byt x.2))) rfl (fun W hS => run_atsub rfl rfl (fun i_ v hv => cell_ext ((by rw [Nat.add_assoc]; exact c0l _ v (by rw [Array.getElem?_toList]; exact lf_v (k := x.1) (v := x.2) i_ v hv))) hS.ext) (by kernel_rfl) (by rw [arrK_size]; kernel_rfl)) ?_
   refine TW ?_ (v := .agg (lf x.1 x.2)) (hv := by intro W; first | rfl | kernel_rfl)
   refine TE (fun _ h => h.pick []) ?_
   refine MB (z := (lf x.1 x.2)) (t := 30) (n := 1) (c := 1) ?_ (hr := fun W _ => run_bsA rfl rfl rfl Tryd.underlying40 (by rw [lf_size]; kernel_rfl) (by rw [lf_size]; kernel_rfl) (by rw [lf_size]; decide) (by rw [lf_size]; decide))
   intro p23_1
   refine TNp [0] [] ?_
   refine TE (fun _ h => h.pick [0]) ?_
   refine MAr 1 0 (tS := 40) (bytes := 64) (es := (List.map lfl (List.take i ls))) (by first | omega | (simp only [List.length_append, List.length_map, List.length_take, List.length_cons, List.length_nil]; omega)) (e := lfl x) (hk := lf_size) (h1 := lf_one) ?_
   intro v24_2
   refine TNp [0, 1] [0] ?_
   refine TV ?_
   refine TZ (fun _ h => h) fun W hS => ?_
   go_wp2
   go_roundw
   case rel => exact ⟨i + 1, v24_2, by omega, rfl, by go_num, (by rw [take_map xh] at hS; exact (hS.pick [1]))⟩
   case measure => simp [intOf]; omega
  ·
   have _f := hlt
   obtain rfl : i = ls.length := by omega
   go_upto_region 3 with fail
   refine RL hS ?_
   clear hS
   refine MV ?_
   refine MV ?_
   refine MV ?_
   refine MW ?_ (v := .bool false)
   refine MZ fun W hS => ?_
   go_wp2
   exact bodyPost_ret (v := u) (by simp only [results, Tryd.results22]; go_simp) rfl ⟨_, rfl, by have h_ := hS.pick [0]; rw [List.take_length] at h_; exact h_⟩
theorem rbitk (k i : Nat) (hi : i < 256) (w : World) : Calls Tryd.prog 62 #[.agg (arrK .u8 32 (byt k)), .int .i64 (i : Int)] w fun e w' => Ret (.int .i64 (kb k i : Int)) w w' e := by
 rw [kb_cast hi]; exact rbit_c (byt k) (byt_b k) i hi w
theorem rlessk (a b : Nat) (r : Bool) (h : kl a b = r) (w : World) : Calls Tryd.prog 58 #[.agg (arrK .u8 32 (byt a)), .agg (arrK .u8 32 (byt b))] w fun e w' => Ret (.bool r) w w' e := by
 subst h; exact rless_c (byt a) (byt b) (byt_b a) (byt_b b) w
theorem Side_c {ls : List Lf} {u : Value} (d b : Nat) (hd : d < 256) (hn : ls.length ≤ 274877906944) (w : World) (hl : RR 64 w u (ls.map lfl)) :
  Calls Tryd.prog 59 #[u, .int .i64 (d : Int), .int .i64 (b : Int)] w fun e w' => RRet 24 (rside ls d b) w w' e := by
 obtain ⟨Al, cl, rfl, hlcl, HRl⟩ := hl.op
 have hS := SH.nil [] w
 go_enter Tryd.func59, Tryd.ntmps59
 go_upto_region 1 with fail
 refine RL hS ?_
 clear hS
 refine MB0 (t := 24) (n := 64) ?_
 intro v9_1
 refine MV ?_
 refine MZ fun W hS => ?_
 go_wp2_with fail
 go_loopw [7, 8] (fun uv ii wr => ∃ (i : Nat) (u : Value), (i ≤ ls.length) ∧ (u = uv) ∧ (ii = .int .i64 (i : Int)) ∧ SH [] w wr [.r 24 64 u (List.map lfl (rside (List.take i ls) d b))])
  (fun uv ii _ => ls.length - (intOf ii).toNat)
 case atStart => exact ⟨0, _, Nat.zero_le _, rfl, rfl, hS⟩
 clear hS
 case round =>
  obtain ⟨i, u, hi, rfl, rfl, hS⟩ := hrel
  have hle_ := rside_le (ls := ls) (i := i) d b
  by_cases hlt : i < ls.length
  ·
   have _f := hlt
   obtain ⟨x, xh⟩ : ∃ x, ls[i]? = some x := ⟨_, List.getElem?_eq_getElem hlt⟩
   obtain ⟨gl, ol, A0l, c0l⟩ := HRl.out i x xh
   have HAl := Lib.hid A0l
   clear A0l
   go_upto_region 3 with fail
   refine RL hS ?_
   clear hS
   refine MV ?_
   refine MV ?_
   refine MV ?_
   refine MW ?_ (v := .bool true)
   refine MZ fun W hS => ?_
   by_cases hb : kb x.1 d = b
   ·
    have _f := hb
    go_upto_region 5 with fail
    refine RL hS ?_
    clear hS
    refine MV ?_
    refine MV ?_
    refine MW ?_ (v := .pointer (some ⟨gl, ol + i * 64, none⟩)) (hv := fun _ => run_ixRA HAl.out hlt rfl rfl rfl Tryd.underlying38 (by kernel_rfl))
    refine MW ?_ (v := .pointer (some ⟨gl, ol + i * 64, none⟩))
    refine MF (v := .agg (arrK .u8 32 (byt x.1))) (fun W hS => run_atsub rfl rfl (fun i_ v hv => cell_ext (c0l i_ v (by rw [Array.getElem?_toList]; have h_ := lf_k (k := x.1) (v := x.2) i_ v hv; rw [Nat.zero_add] at h_; exact h_)) hS.ext) (by kernel_rfl) (by rw [arrK_size]; kernel_rfl)) ?_
    refine MV ?_
    refine MC (v := .int .i64 (kb x.1 d : Int)) (fun W hS => rbitk x.1 d hd W) ?_
    refine MV ?_
    refine MW ?_ (v := .bool true)
    refine MZ fun W hS => ?_
    go_upto_region 6 with fail
    refine RL hS ?_
    clear hS
    refine MV ?_
    refine MV ?_
    refine MV ?_
    refine MW ?_ (v := .pointer (some ⟨gl, ol + i * 64, none⟩)) (hv := fun _ => run_ixRA HAl.out hlt rfl rfl rfl Tryd.underlying38 (by kernel_rfl))
    refine MF (v := .agg (lf x.1 x.2)) (fun W hS => run_atsub rfl rfl (fun i_ v hv => cell_ext (c0l i_ v (by simpa using hv)) hS.ext) (by kernel_rfl) (by rw [lf_size]; kernel_rfl)) ?_
    refine MB (z := (lf x.1 x.2)) (t := 24) (n := 1) (c := 1) ?_ (hr := fun W _ => run_bsA rfl rfl rfl Tryd.underlying38 (by rw [lf_size]; kernel_rfl) (by rw [lf_size]; kernel_rfl) (by rw [lf_size]; decide) (by rw [lf_size]; decide))
    intro p30_2
    refine MAr 1 0 (tS := 38) (bytes := 64) (es := (List.map lfl (rside (List.take i ls) d b))) (by first | omega | (simp only [List.length_append, List.length_map, List.length_take, List.length_cons, List.length_nil]; omega)) (e := lfl x) (hk := lf_size) (h1 := lf_one) ?_
    intro v31_3
    refine MV ?_
    refine MZ fun W hS => ?_
    go_wp2
    go_roundw
    case rel => exact ⟨i + 1, v31_3, by omega, rfl, by go_num, (by rw [show rside (ls.take (i + 1)) d b = rside (ls.take i) d b ++ [x] from by rw [rside_take xh, if_pos hb]]; rw [List.map_append]; exact (hS.pick [1]))⟩
    case measure => simp [intOf]; omega
   ·
    have _f := hb
    go_upto_region 5 with fail
    refine RL hS ?_
    clear hS
    refine MV ?_
    refine MV ?_
    refine MW ?_ (v := .pointer (some ⟨gl, ol + i * 64, none⟩)) (hv := fun _ => run_ixRA HAl.out hlt rfl rfl rfl Tryd.underlying38 (by kernel_rfl))
    refine MW ?_ (v := .pointer (some ⟨gl, ol + i * 64, none⟩))
    refine MF (v := .agg (arrK .u8 32 (byt x.1))) (fun W hS => run_atsub rfl rfl (fun i_ v hv => cell_ext (c0l i_ v (by rw [Array.getElem?_toList]; have h_ := lf_k (k := x.1) (v := x.2) i_ v hv; rw [Nat.zero_add] at h_; exact h_)) hS.ext) (by kernel_rfl) (by rw [arrK_size]; kernel_rfl)) ?_
    refine MV ?_
    refine MC (v := .int .i64 (kb x.1 d : Int)) (fun W hS => rbitk x.1 d hd W) ?_
    refine MV ?_
    refine MW ?_ (v := .bool false)
    refine MZ fun W hS => ?_
    go_wp2
    go_roundw
    case rel => exact ⟨i + 1, u, by omega, rfl, by go_num, (by rw [show rside (ls.take (i + 1)) d b = rside (ls.take i) d b from by rw [rside_take xh, if_neg hb, List.append_nil]]; exact hS)⟩
    case measure => simp [intOf]; omega
  ·
   have _f := hlt
   obtain rfl : i = ls.length := by omega
   go_upto_region 3 with fail
   refine RL hS ?_
   clear hS
   refine MV ?_
   refine MV ?_
   refine MV ?_
   refine MW ?_ (v := .bool false)
   refine MZ fun W hS => ?_
   go_wp2
   exact bodyPost_ret (v := u) (by simp only [results, Tryd.results59]; go_simp) rfl ⟨_, rfl, by have h_ := hS.pick [0]; rw [List.take_length] at h_; exact h_⟩
theorem rPut_c {ls : List Lf} {u : Value} {k v : Nat} (hk : k < 2 ^ 256) (hls : ok256 ls) (hn : ls.length ≤ 274877906944) (w : World) (hl : RR 64 w u (ls.map lfl)) :
  Calls Tryd.prog 25 #[u, .agg (lf k v)] w fun e w' => RRet 24 (rput ls (k, v)) w w' e := by
 obtain ⟨Al, cl, rfl, hlcl, HRl⟩ := hl.op
 have hS := SH.nil [] w
 go_enter Tryd.func25, Tryd.ntmps25
 go_upto_region 0 with fail
 refine RL hS ?_
 clear hS
 refine MN (z := lf k v) (t := 24) ?_
 intro p3_1
 refine MV ?_
 refine MZ fun W hS => ?_
 go_upto_region 1 with fail
 refine RL hS ?_
 clear hS
 refine MB0 (t := 24) (n := 64) ?_
 intro v8_2
 refine MV ?_
 refine MZ fun W hS => ?_
 go_wp2_with fail
 go_loopw [5, 6, 7] (fun uv bv ii wr => ∃ (i : Nat) (dn : Bool) (acc : List Lf) (u : Value), (i ≤ ls.length) ∧ (acc.length ≤ 2 * i) ∧ (acc ++ rputF (k, v) dn (ls.drop i) = rput ls (k, v)) ∧ (u = uv) ∧ (bv = .bool dn) ∧ (ii = .int .i64 (i : Int)) ∧ SH [] w wr [.r 24 64 u (List.map lfl acc), .b p3_1 (lf k v) 24])
  (fun uv bv ii _ => ls.length - (intOf ii).toNat)
 case atStart => exact ⟨0, false, [], _, Nat.zero_le _, Nat.zero_le _, rfl, rfl, rfl, rfl, hS⟩
 clear hS
 case round =>
  obtain ⟨i, dn, acc, u, hi, hal, hE, rfl, rfl, rfl, hS⟩ := hrel
  by_cases hlt : i < ls.length
  ·
   have _f := hlt
   obtain ⟨y, yh⟩ : ∃ x, ls[i]? = some x := ⟨_, List.getElem?_eq_getElem hlt⟩
   obtain ⟨gl, ol, A0l, c0l⟩ := HRl.out i y yh
   have HAl := Lib.hid A0l
   clear A0l
   go_upto_region 4 with fail
   refine RL hS ?_
   clear hS
   refine MV ?_
   refine MV ?_
   refine MV ?_
   refine MW ?_ (v := .bool true)
   refine MZ fun W hS => ?_
   rcases dn with _ | _
   ·
    have _f := True.intro
    rcases hkl : kl y.1 k with _ | _
    ·
     have _f := True.intro
     go_upto_region 6 with fail
     refine RTh (.q 0 (.q 1 (.q 2 (.q 3 (.q 4 (.q 5 (.q 6 (.q 7 (.q 8 (.q 9 (.e 10 (.q 11 (.q 12 .z))))))))))))) hS ?_
     clear hS
     refine TW ?_ (v := .bool false)
     refine TW ?_ (v := .bool true)
     refine TW ?_ (v := .bool true)
     refine TV ?_
     refine TV ?_
     refine TW ?_ (v := .pointer (some ⟨gl, ol + i * 64, none⟩)) (hv := fun _ => run_ixRA HAl.out hlt rfl rfl rfl Tryd.underlying38 (by kernel_rfl))
     refine TW ?_ (v := .pointer (some ⟨gl, ol + i * 64, none⟩))
     refine TF (v := .agg (arrK .u8 32 (byt y.1))) rfl (fun W hS => run_atsub rfl rfl (fun i_ v hv => cell_ext (c0l i_ v (by rw [Array.getElem?_toList]; have h_ := lf_k (k := y.1) (v := y.2) i_ v hv; rw [Nat.zero_add] at h_; exact h_)) hS.ext) (by kernel_rfl) (by rw [arrK_size]; kernel_rfl)) ?_
     refine TV ?_
     refine Tl 1 lf_k ?_
     refine TE (fun _ h => h) ?_
     refine MC (v := .bool false) (fun W hS => rlessk y.1 k _ hkl W) ?_
     refine TNh (fun W hS => hS) ?_
     refine TW ?_ (v := .bool true)
     refine TW ?_ (v := .bool true)
     refine TZ (fun _ h => h) fun W hS => ?_
     go_upto_region 7 with fail
     refine RL hS ?_
     clear hS
     refine MV ?_
     refine ML 1 ?_ (hs := by rw [lf_size]; kernel_rfl)
     refine MB (z := (lf k v)) (t := 24) (n := 1) (c := 1) ?_ (hr := fun W _ => run_bsA rfl rfl rfl Tryd.underlying38 (by rw [lf_size]; kernel_rfl) (by rw [lf_size]; kernel_rfl) (by rw [lf_size]; decide) (by rw [lf_size]; decide))
     intro p30_3
     refine MAr 1 0 (tS := 38) (bytes := 64) (es := (List.map lfl acc)) (by first | omega | (simp only [List.length_append, List.length_map, List.length_take, List.length_cons, List.length_nil]; omega)) (e := lfl (k, v)) (hk := lf_size) (h1 := lf_one) ?_
     intro v31_4
     refine MV ?_
     refine MZ fun W hS => ?_
     by_cases he : y.1 = k
     ·
      have _f := he
      go_upto_region 9 with fail
      refine RTh (.q 0 (.q 1 (.q 2 (.q 3 (.q 4 (.q 5 (.q 6 (.q 7 .z)))))))) hS ?_
      clear hS
      refine TV ?_
      refine TV ?_
      refine TW ?_ (v := .pointer (some ⟨gl, ol + i * 64, none⟩)) (hv := fun _ => run_ixRA HAl.out hlt rfl rfl rfl Tryd.underlying38 (by kernel_rfl))
      refine TW ?_ (v := .pointer (some ⟨gl, ol + i * 64, none⟩))
      refine TF (v := .agg (arrK .u8 32 (byt y.1))) rfl (fun W hS => run_atsub rfl rfl (fun i_ v hv => cell_ext (c0l i_ v (by rw [Array.getElem?_toList]; have h_ := lf_k (k := y.1) (v := y.2) i_ v hv; rw [Nat.zero_add] at h_; exact h_)) hS.ext) (by kernel_rfl) (by rw [arrK_size]; kernel_rfl)) ?_
      refine TV ?_
      refine Tl 2 lf_k ?_
      refine TW ?_ (v := .bool false) (hv := fun _ => run_neqA ((fun w => (eqV32 y.1 k (hls _ (List.mem_of_getElem? yh)).1 hk w).trans (by rw [decide_eq_true he])) _) (by kernel_rfl) rfl rfl rfl)
      refine TZ (fun _ h => h) fun W hS => ?_
      go_wp2
      go_roundw
      case rel => exact ⟨i + 1, true, acc ++ [(k, v)], v31_4, by omega, by first | omega | (simp only [List.length_append, List.length_cons, List.length_nil]; omega), by rw [← hE, rput_step yh]; simp only [hkl]; simp [he], rfl, rfl, by go_num, (by rw [show List.map lfl (acc ++ [(k, v)]) = (List.map lfl acc) ++ [lfl (k, v)] from by first | rfl | simp only [List.map_append, List.map_cons, List.map_nil]]; exact (hS.pick [1, 2]))⟩
      case measure => simp [intOf]; omega
     ·
      have _f := he
      go_upto_region 9 with fail
      refine RTh (.q 0 (.q 1 (.q 2 (.q 3 (.q 4 (.q 5 (.q 6 (.q 7 .z)))))))) hS ?_
      clear hS
      refine TV ?_
      refine TV ?_
      refine TW ?_ (v := .pointer (some ⟨gl, ol + i * 64, none⟩)) (hv := fun _ => run_ixRA HAl.out hlt rfl rfl rfl Tryd.underlying38 (by kernel_rfl))
      refine TW ?_ (v := .pointer (some ⟨gl, ol + i * 64, none⟩))
      refine TF (v := .agg (arrK .u8 32 (byt y.1))) rfl (fun W hS => run_atsub rfl rfl (fun i_ v hv => cell_ext (c0l i_ v (by rw [Array.getElem?_toList]; have h_ := lf_k (k := y.1) (v := y.2) i_ v hv; rw [Nat.zero_add] at h_; exact h_)) hS.ext) (by kernel_rfl) (by rw [arrK_size]; kernel_rfl)) ?_
      refine TV ?_
      refine Tl 2 lf_k ?_
      refine TW ?_ (v := .bool true) (hv := fun _ => run_neqA ((fun w => (eqV32 y.1 k (hls _ (List.mem_of_getElem? yh)).1 hk w).trans (by rw [decide_eq_false he])) _) (by kernel_rfl) rfl rfl rfl)
      refine TZ (fun _ h => h) fun W hS => ?_
      go_upto_region 10 with fail
      refine RL hS ?_
      clear hS
      refine MV ?_
      refine MV ?_
      refine MV ?_
      refine MW ?_ (v := .pointer (some ⟨gl, ol + i * 64, none⟩)) (hv := fun _ => run_ixRA HAl.out hlt rfl rfl rfl Tryd.underlying38 (by kernel_rfl))
      refine MF (v := .agg (lf y.1 y.2)) (fun W hS => run_atsub rfl rfl (fun i_ v hv => cell_ext (c0l i_ v (by simpa using hv)) hS.ext) (by kernel_rfl) (by rw [lf_size]; kernel_rfl)) ?_
      refine MB (z := (lf y.1 y.2)) (t := 24) (n := 1) (c := 1) ?_ (hr := fun W _ => run_bsA rfl rfl rfl Tryd.underlying38 (by rw [lf_size]; kernel_rfl) (by rw [lf_size]; kernel_rfl) (by rw [lf_size]; decide) (by rw [lf_size]; decide))
      intro p45_5
      refine MAr 2 0 (tS := 38) (bytes := 64) (es := ((List.map lfl acc) ++ [lfl (k, v)])) (by first | omega | (simp only [List.length_append, List.length_map, List.length_take, List.length_cons, List.length_nil]; omega)) (e := lfl y) (hk := lf_size) (h1 := lf_one) ?_
      intro v46_6
      refine MV ?_
      refine MZ fun W hS => ?_
      go_wp2
      go_roundw
      case rel => exact ⟨i + 1, true, acc ++ [(k, v)] ++ [y], v46_6, by omega, by first | omega | (simp only [List.length_append, List.length_cons, List.length_nil]; omega), by rw [← hE, rput_step yh]; simp only [hkl]; simp [he], rfl, rfl, by go_num, (by rw [show List.map lfl (acc ++ [(k, v)] ++ [y]) = ((List.map lfl acc) ++ [lfl (k, v)]) ++ [lfl y] from by first | rfl | simp only [List.map_append, List.map_cons, List.map_nil]]; exact (hS.pick [2, 3]))⟩
      case measure => simp [intOf]; omega
    ·
     have _f := True.intro
     go_upto_region 6 with fail
     refine RTh (.q 0 (.q 1 (.q 2 (.q 3 (.q 4 (.q 5 (.q 6 (.q 7 (.q 8 (.q 9 (.e 10 (.q 11 (.q 12 .z))))))))))))) hS ?_
     clear hS
     refine TW ?_ (v := .bool false)
     refine TW ?_ (v := .bool true)
     refine TW ?_ (v := .bool true)
     refine TV ?_
     refine TV ?_
     refine TW ?_ (v := .pointer (some ⟨gl, ol + i * 64, none⟩)) (hv := fun _ => run_ixRA HAl.out hlt rfl rfl rfl Tryd.underlying38 (by kernel_rfl))
     refine TW ?_ (v := .pointer (some ⟨gl, ol + i * 64, none⟩))
     refine TF (v := .agg (arrK .u8 32 (byt y.1))) rfl (fun W hS => run_atsub rfl rfl (fun i_ v hv => cell_ext (c0l i_ v (by rw [Array.getElem?_toList]; have h_ := lf_k (k := y.1) (v := y.2) i_ v hv; rw [Nat.zero_add] at h_; exact h_)) hS.ext) (by kernel_rfl) (by rw [arrK_size]; kernel_rfl)) ?_
     refine TV ?_
     refine Tl 1 lf_k ?_
     refine TE (fun _ h => h) ?_
     refine MC (v := .bool true) (fun W hS => rlessk y.1 k _ hkl W) ?_
     refine TNh (fun W hS => hS) ?_
     refine TW ?_ (v := .bool false)
     refine TW ?_ (v := .bool false)
     refine TZ (fun _ h => h) fun W hS => ?_
     by_cases he : y.1 = k
     ·
      have _f := he
      go_upto_region 9 with fail
      refine RTh (.q 0 (.q 1 (.q 2 (.q 3 (.q 4 (.q 5 (.q 6 (.q 7 .z)))))))) hS ?_
      clear hS
      refine TV ?_
      refine TV ?_
      refine TW ?_ (v := .pointer (some ⟨gl, ol + i * 64, none⟩)) (hv := fun _ => run_ixRA HAl.out hlt rfl rfl rfl Tryd.underlying38 (by kernel_rfl))
      refine TW ?_ (v := .pointer (some ⟨gl, ol + i * 64, none⟩))
      refine TF (v := .agg (arrK .u8 32 (byt y.1))) rfl (fun W hS => run_atsub rfl rfl (fun i_ v hv => cell_ext (c0l i_ v (by rw [Array.getElem?_toList]; have h_ := lf_k (k := y.1) (v := y.2) i_ v hv; rw [Nat.zero_add] at h_; exact h_)) hS.ext) (by kernel_rfl) (by rw [arrK_size]; kernel_rfl)) ?_
      refine TV ?_
      refine Tl 1 lf_k ?_
      refine TW ?_ (v := .bool false) (hv := fun _ => run_neqA ((fun w => (eqV32 y.1 k (hls _ (List.mem_of_getElem? yh)).1 hk w).trans (by rw [decide_eq_true he])) _) (by kernel_rfl) rfl rfl rfl)
      refine TZ (fun _ h => h) fun W hS => ?_
      go_wp2
      go_roundw
      case rel => exact ⟨i + 1, false, acc, u, by omega, by first | omega | (simp only [List.length_append, List.length_cons, List.length_nil]; omega), by rw [← hE, rput_step yh]; simp only [hkl]; simp [he], rfl, rfl, by go_num, (by rw [show List.map lfl (acc) = List.map lfl acc from by first | rfl | simp only [List.map_append, List.map_cons, List.map_nil]]; exact hS)⟩
      case measure => simp [intOf]; omega
     ·
      have _f := he
      go_upto_region 9 with fail
      refine RTh (.q 0 (.q 1 (.q 2 (.q 3 (.q 4 (.q 5 (.q 6 (.q 7 .z)))))))) hS ?_
      clear hS
      refine TV ?_
      refine TV ?_
      refine TW ?_ (v := .pointer (some ⟨gl, ol + i * 64, none⟩)) (hv := fun _ => run_ixRA HAl.out hlt rfl rfl rfl Tryd.underlying38 (by kernel_rfl))
      refine TW ?_ (v := .pointer (some ⟨gl, ol + i * 64, none⟩))
      refine TF (v := .agg (arrK .u8 32 (byt y.1))) rfl (fun W hS => run_atsub rfl rfl (fun i_ v hv => cell_ext (c0l i_ v (by rw [Array.getElem?_toList]; have h_ := lf_k (k := y.1) (v := y.2) i_ v hv; rw [Nat.zero_add] at h_; exact h_)) hS.ext) (by kernel_rfl) (by rw [arrK_size]; kernel_rfl)) ?_
      refine TV ?_
      refine Tl 1 lf_k ?_
      refine TW ?_ (v := .bool true) (hv := fun _ => run_neqA ((fun w => (eqV32 y.1 k (hls _ (List.mem_of_getElem? yh)).1 hk w).trans (by rw [decide_eq_false he])) _) (by kernel_rfl) rfl rfl rfl)
      refine TZ (fun _ h => h) fun W hS => ?_
      go_upto_region 10 with fail
      refine RL hS ?_
      clear hS
      refine MV ?_
      refine MV ?_
      refine MV ?_
      refine MW ?_ (v := .pointer (some ⟨gl, ol + i * 64, none⟩)) (hv := fun _ => run_ixRA HAl.out hlt rfl rfl rfl Tryd.underlying38 (by kernel_rfl))
      refine MF (v := .agg (lf y.1 y.2)) (fun W hS => run_atsub rfl rfl (fun i_ v hv => cell_ext (c0l i_ v (by simpa using hv)) hS.ext) (by kernel_rfl) (by rw [lf_size]; kernel_rfl)) ?_
      refine MB (z := (lf y.1 y.2)) (t := 24) (n := 1) (c := 1) ?_ (hr := fun W _ => run_bsA rfl rfl rfl Tryd.underlying38 (by rw [lf_size]; kernel_rfl) (by rw [lf_size]; kernel_rfl) (by rw [lf_size]; decide) (by rw [lf_size]; decide))
      intro p45_7
      refine MAr 1 0 (tS := 38) (bytes := 64) (es := (List.map lfl acc)) (by first | omega | (simp only [List.length_append, List.length_map, List.length_take, List.length_cons, List.length_nil]; omega)) (e := lfl y) (hk := lf_size) (h1 := lf_one) ?_
      intro v46_8
      refine MV ?_
      refine MZ fun W hS => ?_
      go_wp2
      go_roundw
      case rel => exact ⟨i + 1, false, acc ++ [y], v46_8, by omega, by first | omega | (simp only [List.length_append, List.length_cons, List.length_nil]; omega), by rw [← hE, rput_step yh]; simp only [hkl]; simp [he], rfl, rfl, by go_num, (by rw [show List.map lfl (acc ++ [y]) = (List.map lfl acc) ++ [lfl y] from by first | rfl | simp only [List.map_append, List.map_cons, List.map_nil]]; exact (hS.pick [1, 2]))⟩
      case measure => simp [intOf]; omega
   ·
    have _f := True.intro
    go_upto_region 6 with fail
    refine RTh (.q 0 (.q 1 (.q 2 (.q 3 (.q 4 (.q 5 (.q 6 (.q 7 (.q 8 (.q 9 (.e 10 (.q 11 (.q 12 .z))))))))))))) hS ?_
    clear hS
    refine TW ?_ (v := .bool true)
    refine TW ?_ (v := .bool false)
    refine TW ?_ (v := .bool false)
    refine TS ?_
    refine TS ?_
    refine TS ?_
    refine TS ?_
    refine TS ?_
    refine TS ?_
    refine TS ?_
    refine TE (fun _ h => h) ?_
    refine MS ?_
    refine TNh (fun W hS => hS) ?_
    refine TS ?_
    refine TW ?_ (v := .bool false)
    refine TZ (fun _ h => h) fun W hS => ?_
    by_cases he : y.1 = k
    ·
     have _f := he
     go_upto_region 9 with fail
     refine RTh (.q 0 (.q 1 (.q 2 (.q 3 (.q 4 (.q 5 (.q 6 (.q 7 .z)))))))) hS ?_
     clear hS
     refine TV ?_
     refine TV ?_
     refine TW ?_ (v := .pointer (some ⟨gl, ol + i * 64, none⟩)) (hv := fun _ => run_ixRA HAl.out hlt rfl rfl rfl Tryd.underlying38 (by kernel_rfl))
     refine TW ?_ (v := .pointer (some ⟨gl, ol + i * 64, none⟩))
     refine TF (v := .agg (arrK .u8 32 (byt y.1))) rfl (fun W hS => run_atsub rfl rfl (fun i_ v hv => cell_ext (c0l i_ v (by rw [Array.getElem?_toList]; have h_ := lf_k (k := y.1) (v := y.2) i_ v hv; rw [Nat.zero_add] at h_; exact h_)) hS.ext) (by kernel_rfl) (by rw [arrK_size]; kernel_rfl)) ?_
     refine TV ?_
     refine Tl 1 lf_k ?_
     refine TW ?_ (v := .bool false) (hv := fun _ => run_neqA ((fun w => (eqV32 y.1 k (hls _ (List.mem_of_getElem? yh)).1 hk w).trans (by rw [decide_eq_true he])) _) (by kernel_rfl) rfl rfl rfl)
     refine TZ (fun _ h => h) fun W hS => ?_
     go_wp2
     go_roundw
     case rel => exact ⟨i + 1, true, acc, u, by omega, by first | omega | (simp only [List.length_append, List.length_cons, List.length_nil]; omega), by rw [← hE, rput_step yh]; simp [he], rfl, rfl, by go_num, (by rw [show List.map lfl (acc) = List.map lfl acc from by first | rfl | simp only [List.map_append, List.map_cons, List.map_nil]]; exact hS)⟩
     case measure => simp [intOf]; omega
    ·
     have _f := he
     go_upto_region 9 with fail
     refine RTh (.q 0 (.q 1 (.q 2 (.q 3 (.q 4 (.q 5 (.q 6 (.q 7 .z)))))))) hS ?_
     clear hS
     refine TV ?_
     refine TV ?_
     refine TW ?_ (v := .pointer (some ⟨gl, ol + i * 64, none⟩)) (hv := fun _ => run_ixRA HAl.out hlt rfl rfl rfl Tryd.underlying38 (by kernel_rfl))
     refine TW ?_ (v := .pointer (some ⟨gl, ol + i * 64, none⟩))
     refine TF (v := .agg (arrK .u8 32 (byt y.1))) rfl (fun W hS => run_atsub rfl rfl (fun i_ v hv => cell_ext (c0l i_ v (by rw [Array.getElem?_toList]; have h_ := lf_k (k := y.1) (v := y.2) i_ v hv; rw [Nat.zero_add] at h_; exact h_)) hS.ext) (by kernel_rfl) (by rw [arrK_size]; kernel_rfl)) ?_
     refine TV ?_
     refine Tl 1 lf_k ?_
     refine TW ?_ (v := .bool true) (hv := fun _ => run_neqA ((fun w => (eqV32 y.1 k (hls _ (List.mem_of_getElem? yh)).1 hk w).trans (by rw [decide_eq_false he])) _) (by kernel_rfl) rfl rfl rfl)
     refine TZ (fun _ h => h) fun W hS => ?_
     go_upto_region 10 with fail
     refine RL hS ?_
     clear hS
     refine MV ?_
     refine MV ?_
     refine MV ?_
     refine MW ?_ (v := .pointer (some ⟨gl, ol + i * 64, none⟩)) (hv := fun _ => run_ixRA HAl.out hlt rfl rfl rfl Tryd.underlying38 (by kernel_rfl))
     refine MF (v := .agg (lf y.1 y.2)) (fun W hS => run_atsub rfl rfl (fun i_ v hv => cell_ext (c0l i_ v (by simpa using hv)) hS.ext) (by kernel_rfl) (by rw [lf_size]; kernel_rfl)) ?_
     refine MB (z := (lf y.1 y.2)) (t := 24) (n := 1) (c := 1) ?_ (hr := fun W _ => run_bsA rfl rfl rfl Tryd.underlying38 (by rw [lf_size]; kernel_rfl) (by rw [lf_size]; kernel_rfl) (by rw [lf_size]; decide) (by rw [lf_size]; decide))
     intro p45_9
     refine MAr 1 0 (tS := 38) (bytes := 64) (es := (List.map lfl acc)) (by first | omega | (simp only [List.length_append, List.length_map, List.length_take, List.length_cons, List.length_nil]; omega)) (e := lfl y) (hk := lf_size) (h1 := lf_one) ?_
     intro v46_10
     refine MV ?_
     refine MZ fun W hS => ?_
     go_wp2
     go_roundw
     case rel => exact ⟨i + 1, true, acc ++ [y], v46_10, by omega, by first | omega | (simp only [List.length_append, List.length_cons, List.length_nil]; omega), by rw [← hE, rput_step yh]; simp [he], rfl, rfl, by go_num, (by rw [show List.map lfl (acc ++ [y]) = (List.map lfl acc) ++ [lfl y] from by first | rfl | simp only [List.map_append, List.map_cons, List.map_nil]]; exact (hS.pick [1, 2]))⟩
     case measure => simp [intOf]; omega
  ·
   have _f := hlt
   obtain rfl : i = ls.length := by omega
   go_upto_region 4 with fail
   refine RL hS ?_
   clear hS
   refine MV ?_
   refine MV ?_
   refine MV ?_
   refine MW ?_ (v := .bool false)
   refine MZ fun W hS => ?_
   rcases dn with _ | _
   ·
    have _f := True.intro
    rw [List.drop_length] at hE
    go_upto_region 12 with fail
    refine RL hS ?_
    clear hS
    refine MV ?_
    refine ML 1 ?_ (hs := by rw [lf_size]; kernel_rfl)
    refine MB (z := (lf k v)) (t := 24) (n := 1) (c := 1) ?_ (hr := fun W _ => run_bsA rfl rfl rfl Tryd.underlying38 (by rw [lf_size]; kernel_rfl) (by rw [lf_size]; kernel_rfl) (by rw [lf_size]; decide) (by rw [lf_size]; decide))
    intro p51_11
    refine MAr 1 0 (tS := 38) (bytes := 64) (es := (List.map lfl acc)) (by first | omega | (simp only [List.length_append, List.length_map, List.length_take, List.length_cons, List.length_nil]; omega)) (e := lfl (k, v)) (hk := lf_size) (h1 := lf_one) ?_
    intro v52_12
    refine MV ?_
    refine MZ fun W hS => ?_
    go_wp2
    have e_ : (List.map lfl acc) ++ [lfl (k, v)] = List.map lfl (rput ls (k, v)) := by rw [← hE]; simp [rputF]
    exact bodyPost_ret (v := v52_12) (by simp only [results, Tryd.results25]; go_simp) rfl ⟨_, rfl, by have h_ := hS.pick [1]; rw [e_] at h_; exact h_⟩
   ·
    have _f := True.intro
    rw [List.drop_length] at hE
    go_wp2
    have e_ : List.map lfl acc = List.map lfl (rput ls (k, v)) := by rw [← hE]; simp [rputF]
    exact bodyPost_ret (v := u) (by simp only [results, Tryd.results25]; go_simp) rfl ⟨_, rfl, by have h_ := hS.pick [0]; rw [e_] at h_; exact h_⟩
end Go.Proofs.YtndnlbinnhdmbaaDoor

/- The document's sums beside a key's way. Conditions: keys and values have 256 bits; the tables hold their numbers. Proofs, the plain law: what is summed up on a way; what is proved is taken; two proofs that say unlike things bear two texts of one sum. No conditions. -/
import Derived.Test.YtndnlbinnhdmbaaDoorTsZ
import Derived.Test.YtndnlbinnhdmbaaDoorJ8
set_option linter.unusedSimpArgs false
set_option linter.unusedVariables false
namespace Go.Proofs.YtndnlbinnhdmbaaDoor
set_option maxHeartbeats 3000000
set_option maxRecDepth 100000
open Go.RowKit
attribute [local irreducible] wpList wpTr wpX
set_option linter.unusedSimpArgs false
theorem len64 {ls : List Lf} : ∀ e ∈ ls.map lfl, e.length = 64 := fun e he => (lfl_all e he).1
theorem two_lt {f d : Nat} {ws : List Lf} (h : f + d = 256) (hs : Srt ws) (hp : Pre ws d) (h2 : 1 < ws.length) : ∃ f', f = f' + 1 := by
 cases f with
 | succ f => exact ⟨f, rfl⟩
 | zero =>
  obtain rfl : d = 256 := by omega
  match ws, h2 with
  | x :: y :: r, _ => exact (no_256 hs hp).elim
abbrev strl (x : Nat) : List Value := [str (lb 32 x)]
theorem bsd_step {f d k : Nat} {ws : List Lf} (h2 : 1 < ws.length) {b : Nat} (hb : kb k d = b) (hb2 : b = 0 ∨ b = 1) : bsd (can (f + 1) ws d) k d = rs (can f (rside ws d (1 - b)) (d + 1)) :: bsd (can f (rside ws d b) (d + 1)) k (d + 1) ∧ wayE (can (f + 1) ws d) k d = wayE (can f (rside ws d b) (d + 1)) k (d + 1) := by
 rw [can_two h2]
 show (if kb k d = 0 then _ else _) = _ ∧ (if kb k d = 0 then _ else _) = _
 rcases hb2 with rfl | rfl
 ·
  rw [if_pos hb, if_pos hb]; exact ⟨rfl, rfl⟩
 ·
  rw [if_neg (by rw [hb]; decide), if_neg (by rw [hb]; decide)]; exact ⟨rfl, rfl⟩
attribute [local irreducible] hs4 sE sL sN

theorem run_lenRR {P : Program} {a : Act} {o : Oper} {x : Operand} {tS t : TypeId} {k : Nat} {W : World} {v : Value} {ls : List Lf} (h : RR k W v (ls.map lfl)) (ho : o.op = .call { callee := .builtin .len, args := #[x], argTypes := #[tS] }) (hx : a.eval x = v) (ht : P.underlying tS = some (.slice t)) : (execOp a.eval o).run P W = .ok (.value (.int .i64 (ls.length : Int))) W := by
 obtain ⟨A, c, rfl, _⟩ := h
 unfold execOp
 simp only [ho, resolve, invoke, builtin, Sem.run_bind, Sem.run_pure, Result.andThen_ok, List.map_toArray, List.map_cons, List.map_nil, hx]
 simp [Builtin.len_, run_underlying ht, goInt, Sem.run_bind]
theorem le_one {ws : List Lf} (h : ¬ 1 < ws.length) : ws = [] ∨ ∃ x, ws = [x] := by
 match ws, h with
 | [], _ => exact .inl rfl
 | [x], _ => exact .inr ⟨x, rfl⟩
 | x :: y :: r, h => exact absurd (show 1 < (x :: y :: r).length by simp) h
theorem rBeside_c {q : Prop} (hr : q) {ls : List Lf} {u : Value} {k : Nat} (hs0 : Srt ls) (hn : ls.length ≤ 1000) (w : World) (hG : GT q w) (hl : RR 64 w u (ls.map lfl)) :
  Calls Tryd.prog 36 #[u, .agg (arrK .u8 32 (byt k))] w fun e w' => ∃ v, e = .returned (.tuple #[v, .agg (lf (endR (wayE (can 256 ls 0) k 0)).1 (endR (wayE (can 256 ls 0) k 0)).2.1), .bool (endR (wayE (can 256 ls 0) k 0)).2.2]) ∧ SH [] w w' [.r 9 1 v ((bsd (can 256 ls 0) k 0).map strl)] := by
 have hS := SH.nil [] w
 go_enter Tryd.func36, Tryd.ntmps36
 go_upto_region 0 with fail
 refine RL hS ?_
 clear hS
 refine MN (z := arrK .u8 32 (byt k)) (t := 22) ?_
 intro p3_1
 refine MV ?_
 refine MN (z := lf 0 0) (t := 24) ?_
 intro p5_2
 refine MW ?_ (v := .bool false)
 refine MZ fun W hS => ?_
 go_upto_region 1 with fail
 refine RL hS ?_
 clear hS
 refine MB0 (t := 9) (n := 1) ?_
 intro v10_3
 refine MV ?_
 refine MZ fun W hS => ?_
 have hS := SH.entp hS (RR.pholds (by decide) len64 hl)
 go_wp2_with fail
 go_loopw [0, 7, 8, 9] (fun uu ww ii x1 wr => ∃ (f : Nat) (d : Nat) (ws : List Lf) (u : Value) (sv : Value) (ss : List Nat), (f + d = 256) ∧ (Srt ws) ∧ (Pre ws d) ∧ (ws.length ≤ 1000) ∧ (ss.length ≤ d) ∧ (ss ++ bsd (can f ws d) k d = bsd (can 256 ls 0) k 0) ∧ (wayE (can f ws d) k d = wayE (can 256 ls 0) k 0) ∧ (u = uu) ∧ (sv = ww) ∧ (ii = .int .i64 (d : Int)) ∧ SH [] w wr [.r 9 1 sv (List.map strl ss), .p (fbR u (List.map lfl ws)) (fun W => RR 64 W u (List.map lfl ws)), .b p5_2 (lf 0 0) 24, .b p3_1 (arrK .u8 32 (byt k)) 22])
  (fun uu ww ii x1 _ => 256 - (intOf ii).toNat)
 case atStart => exact ⟨256, 0, ls, _, _, [], rfl, hs0, pre_0 _, hn, Nat.le_refl _, rfl, rfl, rfl, rfl, rfl, (hS.pick [1, 0, 2, 3])⟩
 clear hS
 case round =>
  obtain ⟨f, d, ws, u, sv, ss, hfd, hs, hp, hwn, hsl, hB, hE, rfl, rfl, rfl, hS⟩ := hrel
  by_cases hlt : 1 < ws.length
  ·
   have _f := hlt
   obtain ⟨f, rfl⟩ := two_lt hfd hs hp hlt
   go_upto_region 3 with fail
   refine RL hS ?_
   clear hS
   refine MV ?_
   refine MF (v := .int .i64 (ws.length : Int)) (fun W hS => run_lenRR (hS.pp (i := 1) rfl) rfl rfl Tryd.underlying38) ?_
   refine MW ?_ (v := .bool true)
   refine MZ fun W hS => ?_
   rcases kb_01 k d with hb | hb
   ·
    have _f := True.intro
    go_upto_region 5 with fail
    refine RL hS ?_
    clear hS
    refine ML 3 ?_
    refine MV ?_
    refine MC (v := .int .i64 0) (fun W hS => (by have h_ := rbitk k d (by omega) W; rw [hb] at h_; exact h_)) ?_
    refine MW ?_ (v := .int .i64 0)
    refine MZ fun W hS => ?_
    go_upto_region 6 with fail
    refine RL hS ?_
    clear hS
    refine MV ?_
    refine MV ?_
    refine MV ?_
    refine MW ?_ (v := .int .i64 0)
    refine MW ?_ (v := .int .i64 1)
    refine ME (fun W hS => rcall (ls := rside ws d 1) hS (Side_c d 1 (by omega) (by omega) W (hS.pp (i := 1) rfl)) rfl) ?_
    intro u_rs4
    refine MV ?_
    refine MW ?_ (v := .int .i64 ((d + 1 : Nat) : Int)) (hv := by intro W; go_simp; (try simp only [IntKind.wrap_i64]); omega)
    refine MC (v := str (lb 32 (rs (can f (rside ws d 1) (d + 1))))) (fun W hS => rSum_c hr f (d + 1) (by omega) (srt_side hs) (pre_side hp) (by have h_ := rside_len ws d 1; omega) W (GT_ext hG hS.ext) (hS.row (i := 0) rfl).rr) ?_
    refine MB (z := #[str (lb 32 (rs (can f (rside ws d 1) (d + 1))))]) (t := 9) (n := 1) (c := 1) ?_ (hr := fun W hS => run_bsv [str (lb 32 (rs (can f (rside ws d 1) (d + 1))))] rfl rfl (vsc rfl vs0) Tryd.underlying61 (by kernel_rfl) (by kernel_rfl) rfl (by decide) (by decide))
    intro p28_5
    refine MAr 2 0 (tS := 61) (bytes := 16) (es := (List.map strl ss)) (by first | omega | (simp only [List.length_append, List.length_map, List.length_take, List.length_drop, List.length_reverse, List.length_cons, List.length_nil]; omega)) (e := ([str (lb 32 (rs (can f (rside ws d 1) (d + 1))))] : List Value)) ?_
    intro v29_6
    refine MV ?_
    refine MZ fun W hS => ?_
    go_upto_region 7 with fail
    refine RL hS ?_
    clear hS
    refine MV ?_
    refine MV ?_
    refine MW ?_ (v := .int .i64 0)
    refine ME (fun W hS => rcall (ls := rside ws d 0) hS (Side_c d 0 (by omega) (by omega) W (hS.pp (i := 3) rfl)) rfl) ?_
    intro u_rs7
    refine MV ?_
    refine MZ fun W hS => ?_
    have hS := hS.r2p (i := 0) rfl (by decide)
    go_wp2
    go_roundw
    case rel => exact ⟨f, (d + 1), (rside ws d 0), u_rs7, v29_6, (ss ++ [rs (can f (rside ws d 1) (d + 1))]), by omega, srt_side hs, pre_side hp, Nat.le_trans (rside_len _ _ _) hwn, by rw [List.length_append, List.length_singleton]; omega, by rw [← hB, (bsd_step hlt hb (by decide)).1, List.append_assoc]; rfl, by rw [← hE, (bsd_step hlt hb (by decide)).2], rfl, rfl, by go_num, (by rw [List.map_append]; exact (hS.pick [3, 0, 5, 6]))⟩
    case measure => simp [intOf]; omega
   ·
    have _f := True.intro
    go_upto_region 5 with fail
    refine RL hS ?_
    clear hS
    refine ML 3 ?_
    refine MV ?_
    refine MC (v := .int .i64 1) (fun W hS => (by have h_ := rbitk k d (by omega) W; rw [hb] at h_; exact h_)) ?_
    refine MW ?_ (v := .int .i64 1)
    refine MZ fun W hS => ?_
    go_upto_region 6 with fail
    refine RL hS ?_
    clear hS
    refine MV ?_
    refine MV ?_
    refine MV ?_
    refine MW ?_ (v := .int .i64 1)
    refine MW ?_ (v := .int .i64 0)
    refine ME (fun W hS => rcall (ls := rside ws d 0) hS (Side_c d 0 (by omega) (by omega) W (hS.pp (i := 1) rfl)) rfl) ?_
    intro u_rs8
    refine MV ?_
    refine MW ?_ (v := .int .i64 ((d + 1 : Nat) : Int)) (hv := by intro W; go_simp; (try simp only [IntKind.wrap_i64]); omega)
    refine MC (v := str (lb 32 (rs (can f (rside ws d 0) (d + 1))))) (fun W hS => rSum_c hr f (d + 1) (by omega) (srt_side hs) (pre_side hp) (by have h_ := rside_len ws d 0; omega) W (GT_ext hG hS.ext) (hS.row (i := 0) rfl).rr) ?_
    refine MB (z := #[str (lb 32 (rs (can f (rside ws d 0) (d + 1))))]) (t := 9) (n := 1) (c := 1) ?_ (hr := fun W hS => run_bsv [str (lb 32 (rs (can f (rside ws d 0) (d + 1))))] rfl rfl (vsc rfl vs0) Tryd.underlying61 (by kernel_rfl) (by kernel_rfl) rfl (by decide) (by decide))
    intro p28_9
    refine MAr 2 0 (tS := 61) (bytes := 16) (es := (List.map strl ss)) (by first | omega | (simp only [List.length_append, List.length_map, List.length_take, List.length_drop, List.length_reverse, List.length_cons, List.length_nil]; omega)) (e := ([str (lb 32 (rs (can f (rside ws d 0) (d + 1))))] : List Value)) ?_
    intro v29_10
    refine MV ?_
    refine MZ fun W hS => ?_
    go_upto_region 7 with fail
    refine RL hS ?_
    clear hS
    refine MV ?_
    refine MV ?_
    refine MW ?_ (v := .int .i64 1)
    refine ME (fun W hS => rcall (ls := rside ws d 1) hS (Side_c d 1 (by omega) (by omega) W (hS.pp (i := 3) rfl)) rfl) ?_
    intro u_rs11
    refine MV ?_
    refine MZ fun W hS => ?_
    have hS := hS.r2p (i := 0) rfl (by decide)
    go_wp2
    go_roundw
    case rel => exact ⟨f, (d + 1), (rside ws d 1), u_rs11, v29_10, (ss ++ [rs (can f (rside ws d 0) (d + 1))]), by omega, srt_side hs, pre_side hp, Nat.le_trans (rside_len _ _ _) hwn, by rw [List.length_append, List.length_singleton]; omega, by rw [← hB, (bsd_step hlt hb (by decide)).1, List.append_assoc]; rfl, by rw [← hE, (bsd_step hlt hb (by decide)).2], rfl, rfl, by go_num, (by rw [List.map_append]; exact (hS.pick [3, 0, 5, 6]))⟩
    case measure => simp [intOf]; omega
  ·
   have _f := hlt
   go_upto_region 3 with fail
   refine RL hS ?_
   clear hS
   refine MV ?_
   refine MF (v := .int .i64 (ws.length : Int)) (fun W hS => run_lenRR (hS.pp (i := 1) rfl) rfl rfl Tryd.underlying38) ?_
   refine MW ?_ (v := .bool false)
   refine MZ fun W hS => ?_
   rcases le_one hlt with rfl | ⟨x, rfl⟩
   ·
    have _f := True.intro
    go_upto_region 8 with fail
    refine RL hS ?_
    clear hS
    refine MV ?_
    refine MF (v := .int .i64 ([].length : Int)) (fun W hS => run_lenRR (hS.pp (i := 1) rfl) rfl rfl Tryd.underlying38) ?_
    refine MW ?_ (v := .bool true)
    refine MZ fun W hS => ?_
    go_upto_region 9 with fail
    refine RL hS ?_
    clear hS
    refine MV ?_
    refine MW ?_ (v := .agg (lf 0 0)) (hv := by intro W; first | rfl | kernel_rfl)
    refine MV ?_
    refine MR 2 ?_ (hz := by rw [lf_size]; kernel_rfl) (hs := by first | rw [lf_size, lf_size] | rw [lf_size] | kernel_rfl) (h1 := lf_one)
    refine MW ?_ (v := .bool false)
    refine MZ fun W hS => ?_
    go_wp2
    exact bodyPost_ret (res_m3 rfl rfl rfl rfl (hS.blk (i := 2) rfl) (by kernel_rfl) (by rw [lf_size]; kernel_rfl)) rfl ⟨_, by rw [← hE, can_nil]; rfl, by have h_ := hS.pick [0]; rw [show ss = bsd (can 256 ls 0) k 0 from by rw [← hB, can_nil]; exact (List.append_nil _).symm] at h_; exact h_⟩
   ·
    have _f := True.intro
    obtain ⟨A1, c1, hv1, hlc1, HR1⟩ := RR.op (ls := [x]) (hS.pp (i := 1) rfl)
    subst hv1
    obtain ⟨g1, o1, A10, _⟩ := HR1.out 0 x rfl
    have HA1 := Lib.hid A10
    clear A10 HR1
    go_upto_region 8 with fail
    refine RL hS ?_
    clear hS
    refine MV ?_
    refine MF (v := .int .i64 ([x].length : Int)) (fun W hS => run_lenRR (hS.pp (i := 1) rfl) rfl rfl Tryd.underlying38) ?_
    refine MW ?_ (v := .bool false)
    refine MZ fun W hS => ?_
    go_upto_region 10 with fail
    refine RTp [0, 1, 3] (.q 0 (.q 1 (.q 2 (.q 3 (.q 4 (.e 5 (.q 6 .z))))))) hS ?_
    clear hS
    refine TV ?_
    refine TV ?_
    refine TW ?_ (v := .pointer (some ⟨g1, o1 + 0 * 64, none⟩)) (hv := fun _ => run_ixRA HA1.out (Nat.lt_succ_self 0) rfl rfl rfl Tryd.underlying38 (by kernel_rfl))
    refine TF (v := .agg (lf x.1 x.2)) rfl (fun W hS => run_atsub rfl rfl (fun i_ v hv => (RR.cellat (hS.pp (i := 1) rfl) (j := 0) (e := lfl x) rfl HA1.out) i_ v (by simpa using hv)) (by kernel_rfl) (by rw [lf_size]; kernel_rfl)) ?_
    refine TV ?_
    refine TE (fun _ h => h.pick [0, 1, 3]) ?_
    refine MR 2 ?_ (hz := by rw [lf_size]; kernel_rfl) (hs := by first | rw [lf_size, lf_size] | rw [lf_size] | kernel_rfl) (h1 := lf_one)
    refine TNp [0, 1, 3] [0, 1, 2] ?_
    refine TW ?_ (v := .bool true)
    refine TZ (fun _ h => h.pick [0, 1, 3]) fun W hS => ?_
    go_wp2
    exact bodyPost_ret (res_m3 rfl rfl rfl rfl (hS.blk (i := 2) rfl) (by kernel_rfl) (by rw [lf_size]; kernel_rfl)) rfl ⟨_, by rw [← hE, can_one]; rfl, by have h_ := hS.pick [0]; rw [show ss = bsd (can 256 ls 0) k 0 from by rw [← hB, can_one]; exact (List.append_nil _).symm] at h_; exact h_⟩
end Go.Proofs.YtndnlbinnhdmbaaDoor

set_option linter.unusedSimpArgs false
set_option linter.unusedVariables false
namespace Go.Proofs.YtndnlbinnhdmbaaDoor
/-- the key of what a way ends at begins us the way's key does -/
theorem under_can {k : Nat} : ∀ (f d : Nat) {ws : List Lf} {a x : Nat}, f + d = 256 → Srt ws → Pre ws d → wayE (can f ws d) k d = .leaf a x →
    (a, x) ∈ ws ∧ ∀ i, d ≤ i → i < d + (bsd (can f ws d) k d).length → kb a i = kb k i
  | f, d, [], _, _, _, _, _, h => by rw [can_nil] at h; cases h
  | f, d, [y], a, x, _, _, _, h => by
    rw [can_one] at h ⊢
    have h : TR.leaf y.1 y.2 = .leaf a x := h
    injection h with h1 h2
    subst h1; subst h2
    exact ⟨by simp, fun i h1 h2 => by have : i < d + 0 := h2; omega⟩
  | 0, d, x :: y :: r, _, _, hd, hs, hp, _ => by
    obtain rfl : d = 256 := by omega
    exact (no_256 hs hp).elim
  | f + 1, d, y :: z :: r, a, x, hd, hs, hp, h => by
    rw [can_two (by simp)] at h ⊢
    have h0 := under_can (k := k) f (d + 1) (a := a) (x := x) (by omega) (srt_side (d := d) (b := 0) hs) (pre_side hp)
    have h1 := under_can (k := k) f (d + 1) (a := a) (x := x) (by omega) (srt_side (d := d) (b := 1) hs) (pre_side hp)
    generalize can f (rside (y :: z :: r) d 0) (d + 1) = L at *
    generalize can f (rside (y :: z :: r) d 1) (d + 1) = R at *
    have h : (if kb k d = 0 then wayE L k (d + 1) else wayE R k (d + 1)) = .leaf a x := h
    show _ ∧ ∀ i, d ≤ i → i < d + (if kb k d = 0 then rs R :: bsd L k (d + 1) else rs L :: bsd R k (d + 1)).length → _
    have hb := kb_le k d
    by_cases hz : kb k d = 0
    · rw [if_pos hz] at h
      obtain ⟨h2, h3⟩ := h0 h
      obtain ⟨h4, h5⟩ := mem_rside.1 h2
      refine ⟨h4, fun i hi hlt => ?_⟩
      rw [if_pos hz, List.length_cons] at hlt
      rcases Nat.lt_or_ge d i with h6 | h6
      · exact h3 i h6 (by omega)
      · obtain rfl : i = d := by omega
        rw [hz]; exact h5
    · rw [if_neg hz] at h
      obtain ⟨h2, h3⟩ := h1 h
      obtain ⟨h4, h5⟩ := mem_rside.1 h2
      refine ⟨h4, fun i hi hlt => ?_⟩
      rw [if_neg hz, List.length_cons] at hlt
      rcases Nat.lt_or_ge d i with h6 | h6
      · exact h3 i h6 (by omega)
      · obtain rfl : i = d := by omega
        rw [show kb k i = 1 by omega]; exact h5
theorem bsd_can_len {k : Nat} : ∀ (f d : Nat) {ws : List Lf}, f + d = 256 → Srt ws → Pre ws d → (bsd (can f ws d) k d).length ≤ f
  | f, d, [], _, _, _ => by rw [can_nil]; exact Nat.zero_le _
  | f, d, [y], _, _, _ => by rw [can_one]; exact Nat.zero_le _
  | 0, d, x :: y :: r, hd, hs, hp => by
    obtain rfl : d = 256 := by omega
    exact (no_256 hs hp).elim
  | f + 1, d, y :: z :: r, hd, hs, hp => by
    rw [can_two (by simp)]
    have h0 := bsd_can_len (k := k) f (d + 1) (by omega) (srt_side (d := d) (b := 0) hs) (pre_side hp)
    have h1 := bsd_can_len (k := k) f (d + 1) (by omega) (srt_side (d := d) (b := 1) hs) (pre_side hp)
    show (if kb k d = 0 then _ :: _ else _ :: _ : List Nat).length ≤ f + 1
    split <;> (rw [List.length_cons]; omega)
attribute [local irreducible] hs4 sN sE sL lb
end Go.Proofs.YtndnlbinnhdmbaaDoor

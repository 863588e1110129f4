/- The document's sums beside a key's way. Conditions: keys and values have 256 bits; the tables hold their numbers. TreeStays. Conditions: keys and values have 256 bits; the tables hold their numbers. Proofs, the plain law: what is summed up on a way; what is proved is taken; two proofs that say unlike things bear two texts of one sum. No conditions. TreeGets. Conditions: keys and values have 256 bits; the tables hold their numbers. -/
import Derived.Test.YtejkmhgkkibafaaGreatDoorJ33
import Derived.Test.YtejkmhgkkibafaaGreatDoorJ6
set_option linter.unusedSimpArgs false
set_option linter.unusedVariables false
namespace Go.Proofs.YtejkmhgkkibafaaGreatDoor
section
set_option maxHeartbeats 3000000
set_option maxRecDepth 100000
open Go.RowKit
attribute [local irreducible] wpList J0k wpX
theorem V4o {ls : List Lf} : ∀ e ∈ ls.map lfl, e.length = 64 := fun e he => (Y4h e he).1
theorem V0o {f d : Nat} {ws : List Lf} (h : f + d = 256) (hs : Srt ws) (hp : Pre ws d) (h2 : 1 < ws.length) : ∃ f', f = f' + 1 := by
 cases f with
 | succ f => exact ⟨f, rfl⟩
 | zero =>
  obtain rfl : d = 256 := by omega
  match ws, h2 with
  | x :: y :: r, _ => exact (Q23 hs hp).elim
abbrev Q59 (x : Nat) : List Value := [str (lb 32 x)]
theorem Q1n {f d k : Nat} {ws : List Lf} (h2 : 1 < ws.length) {b : Nat} (hb : kb k d = b) (hb2 : b = 0 ∨ b = 1) : bsd (can (f + 1) ws d) k d = rs (can f (V9 ws d (1 - b)) (d + 1)) :: bsd (can f (V9 ws d b) (d + 1)) k (d + 1) ∧ J0g (can (f + 1) ws d) k d = J0g (can f (V9 ws d b) (d + 1)) k (d + 1) := by
 rw [J6v h2]
 show (if kb k d = 0 then _ else _) = _ ∧ (if kb k d = 0 then _ else _) = _
 rcases hb2 with rfl | rfl
 ·
  rw [if_pos hb, if_pos hb]; exact ⟨rfl, rfl⟩
 rw [if_neg (by rw [hb]; decide), if_neg (by rw [hb]; decide)]; exact ⟨rfl, rfl⟩
attribute [local irreducible] hs4 sE sL sN

theorem Q03 {P : Program} {a : Act} {o : Oper} {x : Operand} {tS t : TypeId} {k : Nat} {W : World} {v : Value} {ls : List Lf} (h : RR k W v (ls.map lfl)) (ho : o.op = .call { callee := .builtin .len, args := #[x], argTypes := #[tS] }) (hx : a.eval x = v) (ht : P.underlying tS = some (.slice t)) : (execOp a.eval o).run P W = .ok (.value (.int .i64 (ls.length : Int))) W := by
 obtain ⟨A, c, rfl, _⟩ := h
 unfold execOp
 simp only [ho, resolve, invoke, builtin, Sem.run_bind, Sem.run_pure, Result.andThen_ok, List.map_toArray, List.map_cons, List.map_nil, hx]
 simp [Builtin.len_, run_underlying ht, goInt, Sem.run_bind]
theorem V0p {ws : List Lf} (h : ¬ 1 < ws.length) : ws = [] ∨ ∃ x, ws = [x] := by
 match ws, h with
 | [], _ => exact .inl rfl
 | [x], _ => exact .inr ⟨x, rfl⟩
 | x :: y :: r, h => exact absurd (show 1 < (x :: y :: r).length by simp) h
theorem Z6b {q : Prop} (hr : q) {ls : List Lf} {u : Value} {k : Nat} (hs0 : Srt ls) (hn : ls.length ≤ 1000) (w : World) (hG : GT q w) (hl : RR 64 w u (ls.map lfl)) :
  Calls Tryz.prog 23 #[u, .agg (J0 .u8 32 (Q5 k))] w fun e w' => ∃ v, e = .returned (.tuple #[v, .agg (lf (J2i (J0g (can 256 ls 0) k 0)).1 (J2i (J0g (can 256 ls 0) k 0)).2.1), .bool (J2i (J0g (can 256 ls 0) k 0)).2.2]) ∧ SH [] w w' [.r 9 1 v ((bsd (can 256 ls 0) k 0).map Q59)] := by
 have hS := SH.nil [] w
 go_enter Tryz.func23, Tryz.ntmps23
 go_upto_region 0 with fail
 refine RL hS ?_
 clear hS
 refine MN (z := J0 .u8 32 (Q5 k)) (t := 23) ?_
 intro J0c
 refine MV ?_
 refine MN (z := lf 0 0) (t := 60) ?_
 intro J37
 refine MW ?_ (v := .bool false)
 refine MZ fun W hS => ?_
 go_upto_region 1 with fail
 refine RL hS ?_
 clear hS
 refine MB0 (t := 9) (n := 1) ?_
 intro V7d
 refine MV ?_
 refine MZ fun W hS => ?_
 have hS := SH.entp hS (RR.pholds (by decide) V4o hl)
 go_wp2_with fail
 go_loopw [0, 7, 8, 9] (fun uu ww ii x1 wr => ∃ (f : Nat) (d : Nat) (ws : List Lf) (u : Value) (sv : Value) (ss : List Nat), (f + d = 256) ∧ (Srt ws) ∧ (Pre ws d) ∧ (ws.length ≤ 1000) ∧ (ss.length ≤ d) ∧ (ss ++ bsd (can f ws d) k d = bsd (can 256 ls 0) k 0) ∧ (J0g (can f ws d) k d = J0g (can 256 ls 0) k 0) ∧ (u = uu) ∧ (sv = ww) ∧ (ii = .int .i64 (d : Int)) ∧ SH [] w wr [.r 9 1 sv (List.map Q59 ss), .p (fbR u (List.map lfl ws)) (fun W => RR 64 W u (List.map lfl ws)), .b J37 (lf 0 0) 60, .b J0c (J0 .u8 32 (Q5 k)) 23])
  (fun uu ww ii x1 _ => 256 - (intOf ii).toNat)
 case atStart => exact ⟨256, 0, ls, _, _, [], rfl, hs0, Q47 _, hn, Nat.le_refl _, rfl, rfl, rfl, rfl, rfl, (hS.pick [1, 0, 2, 3])⟩
 clear hS
 case round =>
  obtain ⟨f, d, ws, u, sv, ss, hfd, hs, hp, hwn, hsl, hB, hE, rfl, rfl, rfl, hS⟩ := hrel
  by_cases hlt : 1 < ws.length
  ·
   have _f := hlt
   obtain ⟨f, rfl⟩ := V0o hfd hs hp hlt
   go_upto_region 3 with fail
   refine RL hS ?_
   clear hS
   refine MV ?_
   refine MF (v := .int .i64 (ws.length : Int)) (fun W hS => Q03 (hS.pp (i := 1) rfl) rfl rfl Tryz.underlying63) ?_
   refine MW ?_ (v := .bool true)
   refine MZ fun W hS => ?_
   rcases Q62 k d with hb | hb
   ·
    have _f := True.intro
    go_upto_region 5 with fail
    refine RL hS ?_
    clear hS
    refine ML 3 ?_
    refine MV ?_
    refine MC (v := .int .i64 0) (fun W hS => (by have h_ := Z4b k d (by omega) W; rw [hb] at h_; exact h_)) ?_
    refine MW ?_ (v := .int .i64 0)
    refine MZ fun W hS => ?_
    go_upto_region 6 with fail
    refine RL hS ?_
    clear hS
    refine MV ?_
    refine MV ?_
    refine MV ?_
    refine MW ?_ (v := .int .i64 0)
    refine MW ?_ (v := .int .i64 1)
    refine ME (fun W hS => Q0d (ls := V9 ws d 1) hS (Q2e d 1 (by omega) (by omega) W (hS.pp (i := 1) rfl)) rfl) ?_
    intro u_rs4
    refine MV ?_
    refine MW ?_ (v := .int .i64 ((d + 1 : Nat) : Int)) (hv := by intro W; go_simp; (try simp only [IntKind.wrap_i64]); omega)
    refine MC (v := str (lb 32 (rs (can f (V9 ws d 1) (d + 1))))) (fun W hS => Q8k hr f (d + 1) (by omega) (J21 hs) (J2b hp) (by have h_ := J52 ws d 1; omega) W (V6 hG hS.ext) (hS.row (i := 0) rfl).rr) ?_
    refine MB (z := #[str (lb 32 (rs (can f (V9 ws d 1) (d + 1))))]) (t := 9) (n := 1) (c := 1) ?_ (hr := fun W hS => J0h [str (lb 32 (rs (can f (V9 ws d 1) (d + 1))))] rfl rfl (vsc rfl vs0) Tryz.underlying58 (by kernel_rfl) (by kernel_rfl) rfl (by decide) (by decide))
    intro V7e
    refine MAr 2 0 (tS := 58) (bytes := 16) (es := (List.map Q59 ss)) (by first | omega | (simp only [List.length_append, List.length_map, List.length_take, List.length_drop, List.length_reverse, List.length_cons, List.length_nil]; omega)) (e := ([str (lb 32 (rs (can f (V9 ws d 1) (d + 1))))] : List Value)) ?_
    intro V4p
    refine MV ?_
    refine MZ fun W hS => ?_
    go_upto_region 7 with fail
    refine RL hS ?_
    clear hS
    refine MV ?_
    refine MV ?_
    refine MW ?_ (v := .int .i64 0)
    refine ME (fun W hS => Q0d (ls := V9 ws d 0) hS (Q2e d 0 (by omega) (by omega) W (hS.pp (i := 3) rfl)) rfl) ?_
    intro u_rs7
    refine MV ?_
    refine MZ fun W hS => ?_
    have hS := hS.r2p (i := 0) rfl (by decide)
    go_wp2
    go_roundw
    case rel => exact ⟨f, (d + 1), (V9 ws d 0), u_rs7, V4p, (ss ++ [rs (can f (V9 ws d 1) (d + 1))]), by omega, J21 hs, J2b hp, Nat.le_trans (J52 _ _ _) hwn, by rw [List.length_append, List.length_singleton]; omega, by rw [← hB, (Q1n hlt hb (by decide)).1, List.append_assoc]; rfl, by rw [← hE, (Q1n hlt hb (by decide)).2], rfl, rfl, by go_num, (by rw [List.map_append]; exact (hS.pick [3, 0, 5, 6]))⟩
    case measure => simp [intOf]; omega
   have _f := True.intro
   go_upto_region 5 with fail
   refine RL hS ?_
   clear hS
   refine ML 3 ?_
   refine MV ?_
   refine MC (v := .int .i64 1) (fun W hS => (by have h_ := Z4b k d (by omega) W; rw [hb] at h_; exact h_)) ?_
   refine MW ?_ (v := .int .i64 1)
   refine MZ fun W hS => ?_
   go_upto_region 6 with fail
   refine RL hS ?_
   clear hS
   refine MV ?_
   refine MV ?_
   refine MV ?_
   refine MW ?_ (v := .int .i64 1)
   refine MW ?_ (v := .int .i64 0)
   refine ME (fun W hS => Q0d (ls := V9 ws d 0) hS (Q2e d 0 (by omega) (by omega) W (hS.pp (i := 1) rfl)) rfl) ?_
   intro u_rs8
   refine MV ?_
   refine MW ?_ (v := .int .i64 ((d + 1 : Nat) : Int)) (hv := by intro W; go_simp; (try simp only [IntKind.wrap_i64]); omega)
   refine MC (v := str (lb 32 (rs (can f (V9 ws d 0) (d + 1))))) (fun W hS => Q8k hr f (d + 1) (by omega) (J21 hs) (J2b hp) (by have h_ := J52 ws d 0; omega) W (V6 hG hS.ext) (hS.row (i := 0) rfl).rr) ?_
   refine MB (z := #[str (lb 32 (rs (can f (V9 ws d 0) (d + 1))))]) (t := 9) (n := 1) (c := 1) ?_ (hr := fun W hS => J0h [str (lb 32 (rs (can f (V9 ws d 0) (d + 1))))] rfl rfl (vsc rfl vs0) Tryz.underlying58 (by kernel_rfl) (by kernel_rfl) rfl (by decide) (by decide))
   intro V7f
   refine MAr 2 0 (tS := 58) (bytes := 16) (es := (List.map Q59 ss)) (by first | omega | (simp only [List.length_append, List.length_map, List.length_take, List.length_drop, List.length_reverse, List.length_cons, List.length_nil]; omega)) (e := ([str (lb 32 (rs (can f (V9 ws d 0) (d + 1))))] : List Value)) ?_
   intro V0q
   refine MV ?_
   refine MZ fun W hS => ?_
   go_upto_region 7 with fail
   refine RL hS ?_
   clear hS
   refine MV ?_
   refine MV ?_
   refine MW ?_ (v := .int .i64 1)
   refine ME (fun W hS => Q0d (ls := V9 ws d 1) hS (Q2e d 1 (by omega) (by omega) W (hS.pp (i := 3) rfl)) rfl) ?_
   intro u_rs11
   refine MV ?_
   refine MZ fun W hS => ?_
   have hS := hS.r2p (i := 0) rfl (by decide)
   go_wp2
   go_roundw
   case rel => exact ⟨f, (d + 1), (V9 ws d 1), u_rs11, V0q, (ss ++ [rs (can f (V9 ws d 0) (d + 1))]), by omega, J21 hs, J2b hp, Nat.le_trans (J52 _ _ _) hwn, by rw [List.length_append, List.length_singleton]; omega, by rw [← hB, (Q1n hlt hb (by decide)).1, List.append_assoc]; rfl, by rw [← hE, (Q1n hlt hb (by decide)).2], rfl, rfl, by go_num, (by rw [List.map_append]; exact (hS.pick [3, 0, 5, 6]))⟩
   case measure => simp [intOf]; omega
  have _f := hlt
  go_upto_region 3 with fail
  refine RL hS ?_
  clear hS
  refine MV ?_
  refine MF (v := .int .i64 (ws.length : Int)) (fun W hS => Q03 (hS.pp (i := 1) rfl) rfl rfl Tryz.underlying63) ?_
  refine MW ?_ (v := .bool false)
  refine MZ fun W hS => ?_
  rcases V0p hlt with rfl | ⟨x, rfl⟩
  ·
   have _f := True.intro
   go_upto_region 8 with fail
   refine RL hS ?_
   clear hS
   refine MV ?_
   refine MF (v := .int .i64 ([].length : Int)) (fun W hS => Q03 (hS.pp (i := 1) rfl) rfl rfl Tryz.underlying63) ?_
   refine MW ?_ (v := .bool true)
   refine MZ fun W hS => ?_
   go_upto_region 9 with fail
   refine RL hS ?_
   clear hS
   refine MV ?_
   refine MW ?_ (v := .agg (lf 0 0)) (hv := by intro W; first | rfl | kernel_rfl)
   refine MV ?_
   refine MR 2 ?_ (hz := by rw [Q8]; kernel_rfl) (hs := by first | rw [Q8, Q8] | rw [Q8] | kernel_rfl) (h1 := J34)
   refine MW ?_ (v := .bool false)
   refine MZ fun W hS => ?_
   go_wp2
   exact bodyPost_ret (Q7d rfl rfl rfl rfl (hS.blk (i := 2) rfl) (by kernel_rfl) (by rw [Q8]; kernel_rfl)) rfl ⟨_, by rw [← hE, J4h]; rfl, by have h_ := hS.pick [0]; rw [show ss = bsd (can 256 ls 0) k 0 from by rw [← hB, J4h]; exact (List.append_nil _).symm] at h_; exact h_⟩
  have _f := True.intro
  obtain ⟨A1, c1, hv1, hlc1, HR1⟩ := RR.op (ls := [x]) (hS.pp (i := 1) rfl)
  subst hv1
  obtain ⟨g1, o1, A10, _⟩ := HR1.out 0 x rfl
  have HA1 := Lib.hid A10
  clear A10 HR1
  go_upto_region 8 with fail
  refine RL hS ?_
  clear hS
  refine MV ?_
  refine MF (v := .int .i64 ([x].length : Int)) (fun W hS => Q03 (hS.pp (i := 1) rfl) rfl rfl Tryz.underlying63) ?_
  refine MW ?_ (v := .bool false)
  refine MZ fun W hS => ?_
  go_upto_region 10 with fail
  refine RTp [0, 1, 3] (.q 0 (.q 1 (.q 2 (.q 3 (.q 4 (.e 5 (.q 6 .z))))))) hS ?_
  clear hS
  refine TV ?_
  refine TV ?_
  refine TW ?_ (v := .pointer (some ⟨g1, o1 + 0 * 64, none⟩)) (hv := fun _ => V0 HA1.out (Nat.lt_succ_self 0) rfl rfl rfl Tryz.underlying63 (by kernel_rfl))
  refine TF (v := .agg (lf x.1 x.2)) rfl (fun W hS => K4 rfl rfl (fun i_ v hv => (RR.cellat (hS.pp (i := 1) rfl) (j := 0) (e := lfl x) rfl HA1.out) i_ v (by simpa using hv)) (by kernel_rfl) (by rw [Q8]; kernel_rfl)) ?_
  refine TV ?_
  refine TE (fun _ h => h.pick [0, 1, 3]) ?_
  refine MR 2 ?_ (hz := by rw [Q8]; kernel_rfl) (hs := by first | rw [Q8, Q8] | rw [Q8] | kernel_rfl) (h1 := J34)
  refine TNp [0, 1, 3] [0, 1, 2] ?_
  refine TW ?_ (v := .bool true)
  refine TZ (fun _ h => h.pick [0, 1, 3]) fun W hS => ?_
  go_wp2
  exact bodyPost_ret (Q7d rfl rfl rfl rfl (hS.blk (i := 2) rfl) (by kernel_rfl) (by rw [Q8]; kernel_rfl)) rfl ⟨_, by rw [← hE, J3y]; rfl, by have h_ := hS.pick [0]; rw [show ss = bsd (can 256 ls 0) k 0 from by rw [← hB, J3y]; exact (List.append_nil _).symm] at h_; exact h_⟩
end

section
open Go.RowKit
attribute [local irreducible] wpList J0k wpX
theorem Y4j {X : List Lf} (h : X.length ≤ 1000) : tsz (ofT X) ≤ 1099511627775 := by have := (Q8h X.length X).1; rw [List.take_length] at this; omega
attribute [local irreducible] hs4 sE sL sN

end

section
def tE (th : Bool) (a x : Nat) : List UInt8 := if th then [0] ++ lb 32 a ++ lb 32 x else [2]
def tN (d : Int) (b s o : Nat) : List UInt8 := if b = 0 then [1] ++ db d ++ lb 32 s ++ lb 32 o else [1] ++ db d ++ lb 32 o ++ lb 32 s
def tT (k : Nat) : List Nat → Nat → List UInt8 → List UInt8
  | [], _, e => e
  | o :: ss, d, e => tN (d : Int) (kb k d) (hs4 (tT k ss (d + 1) e)) o
def tA (k : Nat) : List Nat → Nat → List UInt8 → List (List UInt8)
  | [], _, e => [e]
  | o :: ss, d, e => tA k ss (d + 1) e ++ [tT k (o :: ss) d e]
theorem J93 (k : Nat) (e : List UInt8) : ∀ (ss : List Nat) (d : Nat), (tA k ss d e).length = ss.length + 1
  | [], _ => rfl
  | o :: ss, d => by show (tA k ss (d + 1) e ++ [_]).length = _; rw [List.length_append, J93 k e ss (d + 1)]; rfl
theorem J1i (k : Nat) (e : List UInt8) : ∀ (ss : List Nat) (d : Nat), (tA k ss d e)[ss.length]? = some (tT k ss d e)
  | [], _ => rfl
  | o :: ss, d => by
    show (tA k ss (d + 1) e ++ [tT k (o :: ss) d e])[ss.length + 1]? = _
    rw [List.getElem?_append_right (by rw [J93]; exact Nat.le_refl _), J93, Nat.sub_self]; rfl
theorem Q44 (th : Bool) (a x : Nat) : (tE th a x).length ≤ 65 := by unfold tE; split <;> simp [Q2]
theorem Y7n (d : Int) (b s o : Nat) : (tN d b s o).length = 67 := by unfold tN; split <;> simp [Q2, dbl]
theorem Q45 (k : Nat) {e : List UInt8} (he : e.length ≤ 65) : ∀ (ss : List Nat) (d : Nat), (tT k ss d e).length ≤ 67
  | [], _ => by show e.length ≤ 67; omega
  | _ :: _, _ => Nat.le_of_eq (Y7n ..)
theorem Q46 {k : Nat} : ∀ (f d : Nat) {ws : List Lf}, f + d = 256 → Srt ws → Pre ws d →
    hs4 (tT k (bsd (can f ws d) k d) d (tE (J2i (J0g (can f ws d) k d)).2.2 (J2i (J0g (can f ws d) k d)).1 (J2i (J0g (can f ws d) k d)).2.1)) = rs (can f ws d)
  | f, d, [], _, _, _ => by rw [J4h]; rfl
  | f, d, [x], _, _, _ => by rw [J3y]; rfl
  | 0, d, x :: y :: r, hd, hs, hp => by
    obtain rfl : d = 256 := by omega
    exact (Q23 hs hp).elim
  | f + 1, d, x :: y :: r, hd, hs, hp => by
    rw [J6v (by simp)]
    have h0 := Q46 (k := k) f (d + 1) (by omega) (J21 (d := d) (b := 0) hs) (J2b hp)
    have h1 := Q46 (k := k) f (d + 1) (by omega) (J21 (d := d) (b := 1) hs) (J2b hp)
    generalize can f (V9 (x :: y :: r) d 0) (d + 1) = L at *
    generalize can f (V9 (x :: y :: r) d 1) (d + 1) = R at *
    show hs4 (tT k (if kb k d = 0 then rs R :: bsd L k (d + 1) else rs L :: bsd R k (d + 1)) d (tE (J2i (if kb k d = 0 then J0g L k (d + 1) else J0g R k (d + 1))).2.2 (J2i (if kb k d = 0 then J0g L k (d + 1) else J0g R k (d + 1))).1 (J2i (if kb k d = 0 then J0g L k (d + 1) else J0g R k (d + 1))).2.1)) = sN (d : Int) (rs L) (rs R)
    have hb := Q18 k d
    by_cases hz : kb k d = 0
    · simp only [if_pos hz]
      show hs4 (tN (d : Int) (kb k d) (hs4 (tT k (bsd L k (d + 1)) (d + 1) _)) (rs R)) = _
      rw [h0, hz]; rfl
    · simp only [if_neg hz]
      show hs4 (tN (d : Int) (kb k d) (hs4 (tT k (bsd R k (d + 1)) (d + 1) _)) (rs L)) = _
      rw [h1, show kb k d = 1 by omega]; rfl
theorem J9s {k : Nat} : ∀ (f d : Nat) {ws : List Lf} {a x : Nat}, f + d = 256 → Srt ws → Pre ws d → J0g (can f ws d) k d = .leaf a x →
    (a, x) ∈ ws ∧ ∀ i, d ≤ i → i < d + (bsd (can f ws d) k d).length → kb a i = kb k i
  | f, d, [], _, _, _, _, _, h => by rw [J4h] at h; cases h
  | f, d, [y], a, x, _, _, _, h => by
    rw [J3y] at h ⊢
    have h : TR.leaf y.1 y.2 = .leaf a x := h
    injection h with h1 h2
    subst h1; subst h2
    exact ⟨by simp, fun i h1 h2 => by have : i < d + 0 := h2; omega⟩
  | 0, d, x :: y :: r, _, _, hd, hs, hp, _ => by
    obtain rfl : d = 256 := by omega
    exact (Q23 hs hp).elim
  | f + 1, d, y :: z :: r, a, x, hd, hs, hp, h => by
    rw [J6v (by simp)] at h ⊢
    have h0 := J9s (k := k) f (d + 1) (a := a) (x := x) (by omega) (J21 (d := d) (b := 0) hs) (J2b hp)
    have h1 := J9s (k := k) f (d + 1) (a := a) (x := x) (by omega) (J21 (d := d) (b := 1) hs) (J2b hp)
    generalize can f (V9 (y :: z :: r) d 0) (d + 1) = L at *
    generalize can f (V9 (y :: z :: r) d 1) (d + 1) = R at *
    have h : (if kb k d = 0 then J0g L k (d + 1) else J0g R k (d + 1)) = .leaf a x := h
    show _ ∧ ∀ i, d ≤ i → i < d + (if kb k d = 0 then rs R :: bsd L k (d + 1) else rs L :: bsd R k (d + 1)).length → _
    have hb := Q18 k d
    by_cases hz : kb k d = 0
    · rw [if_pos hz] at h
      obtain ⟨h2, h3⟩ := h0 h
      obtain ⟨h4, h5⟩ := mem_rside.1 h2
      refine ⟨h4, fun i hi hlt => ?_⟩
      rw [if_pos hz, List.length_cons] at hlt
      rcases Nat.lt_or_ge d i with h6 | h6
      · exact h3 i h6 (by omega)
      · obtain rfl : i = d := by omega
        rw [hz]; exact h5
    · rw [if_neg hz] at h
      obtain ⟨h2, h3⟩ := h1 h
      obtain ⟨h4, h5⟩ := mem_rside.1 h2
      refine ⟨h4, fun i hi hlt => ?_⟩
      rw [if_neg hz, List.length_cons] at hlt
      rcases Nat.lt_or_ge d i with h6 | h6
      · exact h3 i h6 (by omega)
      · obtain rfl : i = d := by omega
        rw [show kb k i = 1 by omega]; exact h5
theorem J6w {k : Nat} : ∀ (f d : Nat) {ws : List Lf}, f + d = 256 → Srt ws → Pre ws d → (bsd (can f ws d) k d).length ≤ f
  | f, d, [], _, _, _ => by rw [J4h]; exact Nat.zero_le _
  | f, d, [y], _, _, _ => by rw [J3y]; exact Nat.zero_le _
  | 0, d, x :: y :: r, hd, hs, hp => by
    obtain rfl : d = 256 := by omega
    exact (Q23 hs hp).elim
  | f + 1, d, y :: z :: r, hd, hs, hp => by
    rw [J6v (by simp)]
    have h0 := J6w (k := k) f (d + 1) (by omega) (J21 (d := d) (b := 0) hs) (J2b hp)
    have h1 := J6w (k := k) f (d + 1) (by omega) (J21 (d := d) (b := 1) hs) (J2b hp)
    show (if kb k d = 0 then _ :: _ else _ :: _ : List Nat).length ≤ f + 1
    split <;> (rw [List.length_cons]; omega)
def chk (R k : Nat) (ss : List Nat) (th : Bool) (a x : Nat) : Nat × Bool × Nat :=
  if 256 < ss.length ∨ th = true ∧ J06 (Q5 a) (Q5 k) < ss.length then (0, false, 17)
  else if hs4 (tT k ss 0 (tE th a x)) = R then (if th = true ∧ a = k then (x, true, 0) else (0, false, 0))
  else (0, false, 17)
theorem Y2e {a k n : Nat} (hn : n ≤ 256) (h : ∀ i, i < n → kb a i = kb k i) : n ≤ J06 (Q5 a) (Q5 k) := by
  rcases Nat.lt_or_ge (J06 (Q5 a) (Q5 k)) n with h1 | h1
  · exact absurd (h _ h1) ((J2u a k).2 (by omega))
  exact h1
theorem Z7p {ls : List Lf} {k : Nat} (h : J2x ls) :
    chk (rs (ofT ls)) k (bsd (ofT ls) k 0) (J2i (J0g (ofT ls) k 0)).2.2 (J2i (J0g (ofT ls) k 0)).1 (J2i (J0g (ofT ls) k 0)).2.1 =
      ((V1v (J0g (ofT ls) k 0) (J4q (ofT ls) k 0).length k).1, (V1v (J0g (ofT ls) k 0) (J4q (ofT ls) k 0).length k).2.1, 0) := by
  obtain ⟨h1, h2⟩ := J6d h
  rw [Q3b h]
  have hb := Q46 (k := k) 256 0 rfl h2 (Q47 _)
  have hl := J6w (k := k) 256 0 rfl h2 (Q47 (J2j ls))
  unfold chk
  rw [if_neg, if_pos hb]
  · rcases J9t (can 256 (J2j ls) 0) k 0 with e | ⟨a, x, e⟩
    · rw [e]; rfl
    rw [e]
    show (if true = true ∧ a = k then (x, true, 0) else (0, false, 0)) = ((if a = k then (x, true, _) else (0, false, _) : Nat × Bool × Nat).1, (if a = k then (x, true, _) else (0, false, _) : Nat × Bool × Nat).2.1, 0)
    by_cases hk : a = k
    · rw [if_pos ⟨rfl, hk⟩, if_pos hk]
    rw [if_neg (fun h => hk h.2), if_neg hk]
  rintro (h3 | ⟨h3, h4⟩)
  · omega
  rcases J9t (can 256 (J2j ls) 0) k 0 with e | ⟨a, x, e⟩
  · rw [e] at h3; cases h3
  have h5 := (J9s 256 0 rfl h2 (Q47 _) e).2
  rw [e] at h4
  have h6 : _ ≤ J06 (Q5 a) (Q5 k) := Y2e (n := (bsd (can 256 (J2j ls) 0) k 0).length) (by omega) fun i hi => h5 i (Nat.zero_le _) (by omega)
  have h4 : J06 (Q5 a) (Q5 k) < _ := h4
  omega
attribute [local irreducible] hs4 sN sE sL lb
end

section
open Go.RowKit
attribute [local irreducible] wpList J0k wpX
theorem Z21 {L : List Lf} {k : Nat} (h : J2x L) : (bsd (ofT L) k 0).length ≤ 256 := by
 rw [Q3b h]; exact J6w 256 0 rfl (J6d h).2 (Q47 _)
attribute [local irreducible] hs4 sE sL sN

theorem Q6m {P : Program} {a : Act} {o : Oper} {x : Operand} {tS t : TypeId} {k n : Nat} {W : World} {v : Value} {es : List (List Value)} (h : Row t k W v es) (hn : es.length = n) (ho : o.op = .call { callee := .builtin .len, args := #[x], argTypes := #[tS] }) (hx : a.eval x = v) (ht : P.underlying tS = some (.slice t)) : (execOp a.eval o).run P W = .ok (.value (.int .i64 (n : Int))) W := by
 subst hn; exact J6b h ho hx ht
end
end Go.Proofs.YtejkmhgkkibafaaGreatDoor

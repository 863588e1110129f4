/- Contracts and plain laws that superChecks_holds rests on. Conditions: the variables' cells hold the numbers of the program's text. -/
import Derived.Test.YtejkmhgkkibafaaGreatDoorJ37
import Derived.Test.YtejkmhgkkibafaaGreatDoorJ33
import Derived.Test.YtejkmhgkkibafaaGreatDoorJ6
import Derived.Test.YtejkmhgkkibafaaGreatDoorJ29
import Derived.Test.YtejkmhgkkibafaaGreatDoorUc
import Derived.Test.YtejkmhgkkibafaaGreatDoorJ35
open Go.RowKit
set_option maxRecDepth 100000
set_option linter.unusedSimpArgs false
set_option linter.unusedVariables false
namespace Go.Proofs.YtejkmhgkkibafaaGreatDoor
section
attribute [local irreducible] wpList U0 wpX
def clb : List Nat → Nat → Nat → Nat → Option Nat
 | [], _, b, x => if b = 0 then some x else none
 | s :: p, a, b, x => if b = 0 then none else if a % 2 = 1 ∨ a = b then clb p (upn a b).1 (upn a b).2 (nN s x) else clb p (a / 2) (b / 2) (nN x s)
theorem Z2i {a b x R : Nat} (h : clb [] a b x = some R) : b = 0 ∧ x = R := by
 unfold clb at h
 split at h
 ·
  exact ⟨by assumption, Option.some.inj h⟩
 cases h
theorem Q68 {s a b x R : Nat} {p : List Nat} (h : clb (s :: p) a b x = some R) : b ≠ 0 := fun e => by
 unfold clb at h; rw [if_pos e] at h; cases h
theorem Z4k {s a b x R : Nat} {p : List Nat} (h : clb (s :: p) a b x = some R) (hr : a % 2 = 1 ∨ a = b) : clb p (upn a b).1 (upn a b).2 (nN s x) = some R := by
 have h0 := Q68 h
 rw [clb, if_neg h0, if_pos hr] at h; exact h
theorem Z9e {s a b x R : Nat} {p : List Nat} (h : clb (s :: p) a b x = some R) (hr : ¬ (a % 2 = 1 ∨ a = b)) : clb p (a / 2) (b / 2) (nN x s) = some R := by
 have h0 := Q68 h
 rw [clb, if_neg h0, if_neg hr] at h; exact h
def mtf : Nat → List Nat → Nat
 | 0, l => mth l
 | f + 1, l => match l with
  | [] => hs4 []
  | [a] => a
  | l => nN (mtf f (l.take (hfn l.length))) (mtf f (l.drop (hfn l.length)))
theorem J5o : ∀ (f : Nat) (l : List Nat), mtf f l = mth l
 | 0, l => rfl
 | f + 1, [] => mth_nil.symm
 | f + 1, [a] => (Z2a a).symm
 | f + 1, a :: b :: l => by
  rw [Z2b (by simp)]
  show nN (mtf f _) (mtf f _) = _
  rw [J5o f, J5o f]
def ptf : Nat → List Nat → Nat → List Nat
 | 0, l, i => pth l i
 | f + 1, l, i => if 2 ≤ l.length then (if i < hfn l.length then ptf f (l.take (hfn l.length)) i ++ [mtf 3 (l.drop (hfn l.length))] else ptf f (l.drop (hfn l.length)) (i - hfn l.length) ++ [mtf 3 (l.take (hfn l.length))]) else []
theorem J1e : ∀ (f : Nat) (l : List Nat) (i : Nat), ptf f l i = pth l i
 | 0, l, i => rfl
 | f + 1, l, i => by
  unfold ptf
  by_cases h : 2 ≤ l.length
  ·
   rw [if_pos h]
   by_cases hi : i < hfn l.length
   ·
    rw [if_pos hi, J1e f, J5o, Q9y h hi]
   ·
    rw [if_neg hi, J1e f, J5o, Q9z h hi]
  ·
   rw [if_neg h, Q66 h]
attribute [local irreducible] eI be8 hs4 lb nN
def InL (us : List Nat) (i : Nat) : Prop := ∀ e, us[i]? = some e → clb (pth us i) i (us.length - 1) e = some (mth us)
theorem V2p (a : Nat) : mth [a] = a := by rw [← J5o 4]; rfl
theorem Y30 (a : Nat) : pth [a] 0 = [] := by rw [← J1e 4]; rfl
theorem Y31 (a : Nat) : InL [a] 0 := fun y hy => by
 obtain rfl : a = y := Option.some.inj hy
 rw [Y30, V2p]; simp [clb, upn, upl]
theorem Y5n (a b : Nat) : mth [a, b] = nN a b := by rw [← J5o 4]; rfl
theorem Y32 (a b : Nat) : pth [a, b] 0 = [b] := by rw [← J1e 4]; rfl
theorem Y33 (a b : Nat) : InL [a, b] 0 := fun y hy => by
 obtain rfl : a = y := Option.some.inj hy
 rw [Y32, Y5n]; simp [clb, upn, upl]
theorem Y34 (a b : Nat) : pth [a, b] 1 = [a] := by rw [← J1e 4]; rfl
theorem Y35 (a b : Nat) : InL [a, b] 1 := fun y hy => by
 obtain rfl : b = y := Option.some.inj hy
 rw [Y34, Y5n]; simp [clb, upn, upl]
theorem Z9f (a b c : Nat) : mth [a, b, c] = nN (nN a b) c := by rw [← J5o 4]; rfl
theorem Y36 (a b c : Nat) : pth [a, b, c] 0 = [b, c] := by rw [← J1e 4]; rfl
theorem Y37 (a b c : Nat) : InL [a, b, c] 0 := fun y hy => by
 obtain rfl : a = y := Option.some.inj hy
 rw [Y36, Z9f]; simp [clb, upn, upl]
theorem Y38 (a b c : Nat) : pth [a, b, c] 1 = [a, c] := by rw [← J1e 4]; rfl
theorem Y39 (a b c : Nat) : InL [a, b, c] 1 := fun y hy => by
 obtain rfl : b = y := Option.some.inj hy
 rw [Y38, Z9f]; simp [clb, upn, upl]
theorem Y3a (a b c : Nat) : pth [a, b, c] 2 = [nN a b] := by rw [← J1e 4]; rfl
theorem Y3b (a b c : Nat) : InL [a, b, c] 2 := fun y hy => by
 obtain rfl : c = y := Option.some.inj hy
 rw [Y3a, Z9f]; simp [clb, upn, upl]
theorem Z2j (a b c d : Nat) : mth [a, b, c, d] = nN (nN a b) (nN c d) := by rw [← J5o 4]; rfl
theorem Y3c (a b c d : Nat) : pth [a, b, c, d] 0 = [b, nN c d] := by rw [← J1e 4]; rfl
theorem Y3d (a b c d : Nat) : InL [a, b, c, d] 0 := fun y hy => by
 obtain rfl : a = y := Option.some.inj hy
 rw [Y3c, Z2j]; simp [clb, upn, upl]
theorem Y3e (a b c d : Nat) : pth [a, b, c, d] 1 = [a, nN c d] := by rw [← J1e 4]; rfl
theorem Y3f (a b c d : Nat) : InL [a, b, c, d] 1 := fun y hy => by
 obtain rfl : b = y := Option.some.inj hy
 rw [Y3e, Z2j]; simp [clb, upn, upl]
theorem Y3g (a b c d : Nat) : pth [a, b, c, d] 2 = [d, nN a b] := by rw [← J1e 4]; rfl
theorem Y3h (a b c d : Nat) : InL [a, b, c, d] 2 := fun y hy => by
 obtain rfl : c = y := Option.some.inj hy
 rw [Y3g, Z2j]; simp [clb, upn, upl]
theorem Y3i (a b c d : Nat) : pth [a, b, c, d] 3 = [c, nN a b] := by rw [← J1e 4]; rfl
theorem Y3j (a b c d : Nat) : InL [a, b, c, d] 3 := fun y hy => by
 obtain rfl : d = y := Option.some.inj hy
 rw [Y3i, Z2j]; simp [clb, upn, upl]
theorem Q8e (a b c d e : Nat) : mth [a, b, c, d, e] = nN (nN (nN a b) (nN c d)) e := by rw [← J5o 4]; rfl
theorem Y3k (a b c d e : Nat) : pth [a, b, c, d, e] 0 = [b, nN c d, e] := by rw [← J1e 4]; rfl
theorem Y3l (a b c d e : Nat) : InL [a, b, c, d, e] 0 := fun y hy => by
 obtain rfl : a = y := Option.some.inj hy
 rw [Y3k, Q8e]; simp [clb, upn, upl]
theorem Y3m (a b c d e : Nat) : pth [a, b, c, d, e] 1 = [a, nN c d, e] := by rw [← J1e 4]; rfl
theorem Y3n (a b c d e : Nat) : InL [a, b, c, d, e] 1 := fun y hy => by
 obtain rfl : b = y := Option.some.inj hy
 rw [Y3m, Q8e]; simp [clb, upn, upl]
theorem Y3o (a b c d e : Nat) : pth [a, b, c, d, e] 2 = [d, nN a b, e] := by rw [← J1e 4]; rfl
theorem Y3p (a b c d e : Nat) : InL [a, b, c, d, e] 2 := fun y hy => by
 obtain rfl : c = y := Option.some.inj hy
 rw [Y3o, Q8e]; simp [clb, upn, upl]
theorem Y3q (a b c d e : Nat) : pth [a, b, c, d, e] 3 = [c, nN a b, e] := by rw [← J1e 4]; rfl
theorem Y3r (a b c d e : Nat) : InL [a, b, c, d, e] 3 := fun y hy => by
 obtain rfl : d = y := Option.some.inj hy
 rw [Y3q, Q8e]; simp [clb, upn, upl]
theorem Y3s (a b c d e : Nat) : pth [a, b, c, d, e] 4 = [nN (nN a b) (nN c d)] := by rw [← J1e 4]; rfl
theorem Y3t (a b c d e : Nat) : InL [a, b, c, d, e] 4 := fun y hy => by
 obtain rfl : e = y := Option.some.inj hy
 rw [Y3s, Q8e]; simp [clb, upn, upl]
theorem Q4d (a b c d e f : Nat) : mth [a, b, c, d, e, f] = nN (nN (nN a b) (nN c d)) (nN e f) := by rw [← J5o 4]; rfl
theorem Y3u (a b c d e f : Nat) : pth [a, b, c, d, e, f] 0 = [b, nN c d, nN e f] := by rw [← J1e 4]; rfl
theorem Y3v (a b c d e f : Nat) : InL [a, b, c, d, e, f] 0 := fun y hy => by
 obtain rfl : a = y := Option.some.inj hy
 rw [Y3u, Q4d]; simp [clb, upn, upl]
theorem Y3w (a b c d e f : Nat) : pth [a, b, c, d, e, f] 1 = [a, nN c d, nN e f] := by rw [← J1e 4]; rfl
theorem Y3x (a b c d e f : Nat) : InL [a, b, c, d, e, f] 1 := fun y hy => by
 obtain rfl : b = y := Option.some.inj hy
 rw [Y3w, Q4d]; simp [clb, upn, upl]
theorem Y3y (a b c d e f : Nat) : pth [a, b, c, d, e, f] 2 = [d, nN a b, nN e f] := by rw [← J1e 4]; rfl
theorem Y3z (a b c d e f : Nat) : InL [a, b, c, d, e, f] 2 := fun y hy => by
 obtain rfl : c = y := Option.some.inj hy
 rw [Y3y, Q4d]; simp [clb, upn, upl]
theorem Y40 (a b c d e f : Nat) : pth [a, b, c, d, e, f] 3 = [c, nN a b, nN e f] := by rw [← J1e 4]; rfl
theorem Y41 (a b c d e f : Nat) : InL [a, b, c, d, e, f] 3 := fun y hy => by
 obtain rfl : d = y := Option.some.inj hy
 rw [Y40, Q4d]; simp [clb, upn, upl]
theorem Y42 (a b c d e f : Nat) : pth [a, b, c, d, e, f] 4 = [f, nN (nN a b) (nN c d)] := by rw [← J1e 4]; rfl
theorem Y43 (a b c d e f : Nat) : InL [a, b, c, d, e, f] 4 := fun y hy => by
 obtain rfl : e = y := Option.some.inj hy
 rw [Y42, Q4d]; simp [clb, upn, upl]
theorem Y44 (a b c d e f : Nat) : pth [a, b, c, d, e, f] 5 = [e, nN (nN a b) (nN c d)] := by rw [← J1e 4]; rfl
theorem Y45 (a b c d e f : Nat) : InL [a, b, c, d, e, f] 5 := fun y hy => by
 obtain rfl : f = y := Option.some.inj hy
 rw [Y44, Q4d]; simp [clb, upn, upl]
theorem Y46 : ∀ (us : List Nat) (i : Nat), us.length ≤ 6 → i < us.length → InL us i
 | [], i, _, h => absurd h (Nat.not_lt_zero _)
 | [a], 0, _, _ => Y31 a
 | [a], i + 1, _, h => absurd h (by simp only [List.length_cons, List.length_nil]; omega)
 | [a, b], 0, _, _ => Y33 a b
 | [a, b], 1, _, _ => Y35 a b
 | [a, b], i + 2, _, h => absurd h (by simp only [List.length_cons, List.length_nil]; omega)
 | [a, b, c], 0, _, _ => Y37 a b c
 | [a, b, c], 1, _, _ => Y39 a b c
 | [a, b, c], 2, _, _ => Y3b a b c
 | [a, b, c], i + 3, _, h => absurd h (by simp only [List.length_cons, List.length_nil]; omega)
 | [a, b, c, d], 0, _, _ => Y3d a b c d
 | [a, b, c, d], 1, _, _ => Y3f a b c d
 | [a, b, c, d], 2, _, _ => Y3h a b c d
 | [a, b, c, d], 3, _, _ => Y3j a b c d
 | [a, b, c, d], i + 4, _, h => absurd h (by simp only [List.length_cons, List.length_nil]; omega)
 | [a, b, c, d, e], 0, _, _ => Y3l a b c d e
 | [a, b, c, d, e], 1, _, _ => Y3n a b c d e
 | [a, b, c, d, e], 2, _, _ => Y3p a b c d e
 | [a, b, c, d, e], 3, _, _ => Y3r a b c d e
 | [a, b, c, d, e], 4, _, _ => Y3t a b c d e
 | [a, b, c, d, e], i + 5, _, h => absurd h (by simp only [List.length_cons, List.length_nil]; omega)
 | [a, b, c, d, e, f], 0, _, _ => Y3v a b c d e f
 | [a, b, c, d, e, f], 1, _, _ => Y3x a b c d e f
 | [a, b, c, d, e, f], 2, _, _ => Y3z a b c d e f
 | [a, b, c, d, e, f], 3, _, _ => Y41 a b c d e f
 | [a, b, c, d, e, f], 4, _, _ => Y43 a b c d e f
 | [a, b, c, d, e, f], 5, _, _ => Y45 a b c d e f
 | [a, b, c, d, e, f], i + 6, _, h => absurd h (by simp only [List.length_cons, List.length_nil]; omega)
 | a :: b :: c :: d :: e :: f :: g :: l, i, h, _ => absurd h (by simp only [List.length_cons]; omega)
end

section
set_option maxHeartbeats 3000000
attribute [local irreducible] wpList U0 wpX
theorem Z9g : ∀ (f a b : Nat), (upl f a b).1 ≤ a ∧ (upl f a b).2 ≤ b
 | 0, a, b => ⟨Nat.le_refl _, Nat.le_refl _⟩
 | f + 1, a, b => by
  unfold upl
  split
  ·
   have h := Z9g f (a / 2) (b / 2); omega
  ·
   exact ⟨Nat.le_refl _, Nat.le_refl _⟩
theorem Z9h (a b : Nat) : (upn a b).1 ≤ a ∧ (upn a b).2 ≤ b := by
 have h := Z9g a a b
 unfold upn
 constructor
 ·
  show (upl a a b).1 / 2 ≤ a; omega
 show (upl a a b).2 / 2 ≤ b; omega
theorem Q69 {l : List Nat} {k y : Nat} (h : l[k]? = some y) : l.drop k = y :: l.drop (k + 1) := by
 obtain ⟨hk, e⟩ := List.getElem?_eq_some_iff.1 h
 rw [← e]; exact List.drop_eq_getElem_cons hk
attribute [local irreducible] eI be8 hs4 lb kTx vTx sTx eS rs ofT sE sL sN nN pkf clb upn

theorem Z03 {q : Prop} {v vp : Value} {l : List UInt8} {i n R : Nat} {P : List Nat} (hi : i < n) (hn : n ≤ 1000000) (hP : P.length ≤ 1000000) (hl : l.length ≤ 100000000) (hc0 : clb P i (n - 1) (eS l) = some R) (w : World) (hG : GT q w) (hid : Sl w v l) (hp : RR 32 w vp (P.map J0f)) :
  Calls Tryz.prog 31 #[v, .int .i64 (i : Int), .int .i64 (n : Int), vp, .agg (J0 .u8 32 (Q3 R))] w fun e w' => K7 (.int .i64 0) w w' e := by
 obtain ⟨Ap, cp, rfl, γ, V⟩ := RR.opf hp
 have hS := SH.nil [] w
 go_enter Tryz.func31, Tryz.ntmps31
 go_upto_region 0 with fail
 refine RL hS ?_
 clear hS
 refine MN (z := J0 .u8 32 (Q3 R)) (t := 23) ?_
 intro β
 refine MW ?_ (v := .int .i64 0)
 refine MZ fun W hS => ?_
 go_upto_region 1 with fail
 refine RL hS ?_
 clear hS
 refine MV ?_
 refine MW ?_ (v := .bool false) (hv := by intro W; go_simp; first | done | omega)
 refine MW ?_ (v := .bool false)
 refine MV ?_
 refine MW ?_ (v := .bool false) (hv := by intro W; go_simp; first | done | omega)
 refine MW ?_ (v := .bool false)
 refine MW ?_ (v := .bool false)
 refine MV ?_
 refine MV ?_
 refine MW ?_ (v := .bool false) (hv := by intro W; go_simp; first | done | omega)
 refine MW ?_ (v := .bool false)
 refine MZ fun W hS => ?_
 go_upto_region 3 with fail
 refine RL hS ?_
 clear hS
 refine MV ?_
 refine MV ?_
 refine MW ?_ (v := .int .i64 ((n - 1 : Nat) : Int)) (hv := by intro W; go_simp; (try simp only [IntKind.wrap_i64]); omega)
 refine MF (v := .agg (agF [.c (.int .i64 (i : Int)), .c (.int .i64 ((n - 1 : Nat) : Int))])) (fun W hS => J2m rfl rfl J1c J1d (J11 (J11 J3q (l' := [.c (.int .i64 (i : Int)), .c (.int .i64 ((n - 1 : Nat) : Int))]) (m := [.c (.int .i64 ((n - 1 : Nat) : Int))]) (hv := rfl) (hs := X9 (off := 1) 1 1) (hp := rfl) (hn := rfl) (hb := by show 1 + 1 ≤ 2; decide)) (l' := [.c (.int .i64 (i : Int)), .c (.int .i64 0)]) (m := [.c (.int .i64 (i : Int))]) (hv := rfl) (hs := X9 (off := 0) 0 1) (hp := rfl) (hn := rfl) (hb := by show 0 + 1 ≤ 2; decide))) ?_
 refine MN (z := agF [.c (.int .i64 0), .c (.int .i64 0)]) (t := 135) ?_
 intro X
 refine MR 0 ?_ (hz := by rw [J4]; kernel_rfl) (hs := by first | (rw [J4, J4]; simp only [J38, J37, J36]; done) | (rw [J4, J4]; rfl) | rfl) (h1 := by exact (J0a ⟨rfl, rfl, trivial⟩))
 refine MZ fun W hS => ?_
 go_upto_region 4 with fail
 refine RL hS ?_
 clear hS
 refine MV ?_
 refine MC (v := .agg (J0 .u8 32 (Q3 (eS l)))) (fun W hS => Q9u W (J08 hG hS.ext) (J5j hid hS.ext) (by first | omega | (simp only [lA, lM, lT, lD, lC, lN, J8, K8, V9, V5]; omega))) ?_
 refine MN (z := J0 .u8 32 (Q3 0)) (t := 23) ?_
 intro Z
 refine MR 0 ?_ 
 refine MZ fun W hS => ?_
 go_upto_region 5 with fail
 refine RL hS ?_
 clear hS
 refine MV ?_
 refine MV ?_
 refine MW ?_ (v := .int .i64 0)
 refine MZ fun W hS => ?_
 go_wp2_with fail
 go_loopw [34] (fun kk wr => ∃ (k : Nat) (a : Nat) (b : Nat) (x : Nat), (k ≤ P.length) ∧ (a ≤ 1000000) ∧ (b ≤ 1000000) ∧ (RowKit.Hid (clb (P.drop k) a b x = some R)) ∧ (kk = .int .i64 (k : Int)) ∧ SH [] w wr [.b β (J0 .u8 32 (Q3 R)) 23, .b X (agF [.c (.int .i64 (a : Int)), .c (.int .i64 (b : Int))]) 135, .b Z (J0 .u8 32 (Q3 x)) 23])
  (fun kk _ => P.length - (intOf kk).toNat)
 case atStart => exact ⟨0, i, (n - 1), (eS l), Nat.zero_le _, by omega, by omega, Lib.hid hc0, rfl, (hS.pick [2, 1, 0])⟩
 clear hS
 case round =>
  obtain ⟨k, a, b, x, hk, ha, hb, hc, rfl, hS⟩ := hrel
  by_cases D : k < P.length
  ·
   obtain ⟨y, yh⟩ : ∃ x, P[k]? = some x := ⟨_, List.getElem?_eq_getElem D⟩
   obtain ⟨gp, op, G, Y⟩ := V.out k y yh
   have T := Lib.hid G
   clear G
   go_upto_region 6 with fail
   refine RL hS ?_
   clear hS
   refine MW ?_ (v := .bool true) (hv := by intro W; go_simp; first | done | omega)
   refine MZ fun W hS => ?_
   go_upto_region 7 with fail
   refine RL hS ?_
   clear hS
   refine MW ?_ (v := .pointer (some ⟨gp, op + k * 32, none⟩)) (hv := fun _ => J17 T.out D rfl rfl rfl Tryz.underlying49 (by kernel_rfl))
   refine MF (v := .agg (J0 .u8 32 (Q3 y))) (fun W hS => J1j rfl rfl (fun i_ v hv => J24 (Y i_ v (by simpa using hv)) hS.ext) (by kernel_rfl) (by rw [J1]; kernel_rfl)) ?_
   refine MN (z := J0 .u8 32 (Q3 0)) (t := 23) ?_
   intro δ
   refine MR 0 ?_ 
   refine MZ fun W hS => ?_
   go_upto_region 10 with fail
   refine RL hS ?_
   clear hS
   refine MV ?_
   refine MG 2 ?_ (v := .int .i64 (b : Int)) (hj := (Y3 (off := 1) 1))
   refine MW ?_ (v := .bool false) (hv := by intro W; have h_ := Q68 (Q69 yh ▸ hc.out); go_simp; (try omega))
   refine MW ?_ (v := .bool false)
   refine MZ fun W hS => ?_
   by_cases hr : a % 2 = 1 ∨ a = b
   ·
    go_upto_region 12 with fail
    refine RL hS ?_
    clear hS
    refine ML 2 ?_ (hs := by rw [J4]; kernel_rfl)
    refine MC (v := .bool true) (fun W hS => Y2y (by omega) hr W) ?_
    refine MW ?_ (v := .bool true)
    refine MZ fun W hS => ?_
    go_upto_region 13 with fail
    refine RL hS ?_
    clear hS
    refine ML 0 ?_
    refine ML 3 ?_
    obtain ⟨U1, J⟩ := V3 (nN y x)
    have N := Lib.hid J
    clear J
    refine MC (v := .agg (J0 .u8 32 (Q3 U1))) (fun W hS => (by rw [N.out]; exact J63 y x W (J08 hG hS.ext))) ?_
    refine MR 3 ?_ 
    refine MZ fun W hS => ?_
    go_upto_region 14 with fail
    refine RL hS ?_
    clear hS
    refine ML 2 ?_ (hs := by rw [J4]; kernel_rfl)
    refine MC (v := .agg (agF [.c (.int .i64 ((upn a b).1 : Int)), .c (.int .i64 ((upn a b).2 : Int))])) (fun W hS => V4j (by omega) (by omega) W) ?_
    refine MR 2 ?_ (hz := by rw [J4]; kernel_rfl) (hs := by first | (rw [J4, J4]; simp only [J38, J37, J36]; done) | (rw [J4, J4]; rfl) | rfl) (h1 := by exact (J0a ⟨rfl, rfl, trivial⟩))
    refine MZ fun W hS => ?_
    go_wp2
    go_roundw
    case rel => exact ⟨(k + 1), (upn a b).1, (upn a b).2, U1, by omega, Nat.le_trans (Z9h a b).1 ha, Nat.le_trans (Z9h a b).2 hb, Lib.hid (by rw [N.out]; exact Z4k (Q69 yh ▸ hc.out) hr), by go_num, (hS.pick [1, 2, 3])⟩
    case measure => simp [intOf]; omega
   go_upto_region 12 with fail
   refine RL hS ?_
   clear hS
   refine ML 2 ?_ (hs := by rw [J4]; kernel_rfl)
   refine MC (v := .bool false) (fun W hS => Y2z (by omega) (fun h_ => hr (.inl h_)) (fun h_ => hr (.inr h_)) W) ?_
   refine MW ?_ (v := .bool false)
   refine MZ fun W hS => ?_
   go_upto_region 8 with fail
   refine RL hS ?_
   clear hS
   refine ML 3 ?_
   refine ML 0 ?_
   obtain ⟨U2, S⟩ := V3 (nN x y)
   have M := Lib.hid S
   clear S
   refine MC (v := .agg (J0 .u8 32 (Q3 U2))) (fun W hS => (by rw [M.out]; exact J63 x y W (J08 hG hS.ext))) ?_
   refine MR 3 ?_ 
   refine MZ fun W hS => ?_
   go_upto_region 9 with fail
   refine RL hS ?_
   clear hS
   refine MV ?_
   refine MG 2 ?_ (v := .int .i64 (a : Int)) (hj := (Y3 (off := 0) 0))
   refine MW ?_ (v := .int .i64 ((a / 2 : Nat) : Int)) (hv := by intro W; go_simp; first | done | omega)
   refine MV ?_
   refine MG 2 ?_ (v := .int .i64 (b : Int)) (hj := (Y3 (off := 1) 1))
   refine MW ?_ (v := .int .i64 ((b / 2 : Nat) : Int)) (hv := by intro W; go_simp; first | done | omega)
   refine MF (v := .agg (agF [.c (.int .i64 ((a / 2 : Nat) : Int)), .c (.int .i64 ((b / 2 : Nat) : Int))])) (fun W hS => J2m rfl rfl J1c J1d (J11 (J11 J3q (l' := [.c (.int .i64 ((a / 2 : Nat) : Int)), .c (.int .i64 ((b / 2 : Nat) : Int))]) (m := [.c (.int .i64 ((b / 2 : Nat) : Int))]) (hv := rfl) (hs := X9 (off := 1) 1 1) (hp := rfl) (hn := rfl) (hb := by show 1 + 1 ≤ 2; decide)) (l' := [.c (.int .i64 ((a / 2 : Nat) : Int)), .c (.int .i64 0)]) (m := [.c (.int .i64 ((a / 2 : Nat) : Int))]) (hv := rfl) (hs := X9 (off := 0) 0 1) (hp := rfl) (hn := rfl) (hb := by show 0 + 1 ≤ 2; decide))) ?_
   refine MR 2 ?_ (hz := by rw [J4]; kernel_rfl) (hs := by first | (rw [J4, J4]; simp only [J38, J37, J36]; done) | (rw [J4, J4]; rfl) | rfl) (h1 := by exact (J0a ⟨rfl, rfl, trivial⟩))
   refine MZ fun W hS => ?_
   go_wp2
   go_roundw
   case rel => exact ⟨(k + 1), (a / 2), (b / 2), U2, by omega, by omega, by omega, Lib.hid (by rw [M.out]; exact Z9e (Q69 yh ▸ hc.out) hr), by go_num, (hS.pick [1, 2, 3])⟩
   case measure => simp [intOf]; omega
  obtain rfl : k = P.length := by omega
  have α : b = 0 := (Z2i (List.drop_length ▸ hc.out)).1
  have U := Lib.hid (Z2i (List.drop_length ▸ hc.out)).2
  go_upto_region 6 with fail
  refine RL hS ?_
  clear hS
  refine MW ?_ (v := .bool false) (hv := by intro W; go_simp; first | done | omega)
  refine MZ fun W hS => ?_
  go_upto_region 16 with fail
  refine RL hS ?_
  clear hS
  refine MV ?_
  refine MG 1 ?_ (v := .int .i64 (b : Int)) (hj := (Y3 (off := 1) 1))
  refine MW ?_ (v := .bool false) (hv := by intro W; have h_ := α; go_simp; (try omega))
  refine MW ?_ (v := .bool false)
  refine ML 2 ?_
  refine ML 0 ?_
  refine MW ?_ (v := .bool false) (hv := fun _ => J3f ((fun w => Y4f U.out w) _) (by kernel_rfl) rfl rfl rfl)
  refine MW ?_ (v := .bool false)
  refine MZ fun W hS => ?_
  go_wp2
  exact bodyPost_ret (v := .int .i64 0) (by simp only [results, Tryz.results31]; go_simp) rfl ⟨rfl, hS.ext⟩
end

section
set_option maxHeartbeats 3000000
attribute [local irreducible] wpList U0 wpX
attribute [local irreducible] hs4 sE sL sN

end

section
attribute [local irreducible] wpList U0 wpX
attribute [local irreducible] hs4 sE sL sN

end

section
attribute [local irreducible] hs4 sN sE sL lb
end

section
attribute [local irreducible] wpList U0 wpX
attribute [local irreducible] hs4 sE sL sN

end

section
set_option maxHeartbeats 3000000
attribute [local irreducible] wpList U0 wpX
attribute [local irreducible] hs4 sE sL sN

end

section
set_option maxHeartbeats 3000000
attribute [local irreducible] wpList U0 wpX
attribute [local irreducible] hs4 sE sL sN lb
end

section
set_option maxHeartbeats 3000000
attribute [local irreducible] wpList U0 wpX
attribute [local irreducible] hs4 sE sL sN lb
end

section
end

section
set_option maxHeartbeats 3000000
attribute [local irreducible] wpList U0 wpX
attribute [local irreducible] hs4 sE sL sN lb
end

section
set_option maxHeartbeats 3000000
attribute [local irreducible] wpList U0 wpX
attribute [local irreducible] lb
end

section
attribute [local irreducible] wpList U0 wpX
attribute [local irreducible] hs4 sE sL sN lb
end

section
attribute [local irreducible] wpList U0 wpX
attribute [local irreducible] hs4 sE sL sN lb

end

section
set_option maxHeartbeats 3000000
attribute [local irreducible] wpList U0 wpX
open S8 (Kn GA kP sig vfy)
theorem kP_lt (S : Nat) : kP S < 2 ^ 256 := S8.kP_lt S
theorem sig_lt (S : Nat) (L : List UInt8) : sig S L < 2 ^ (256 + 256) := S8.sig_lt S L
theorem Z91 {V S X : Nat} {L : List UInt8} (hV : V = kP S) (hX : X = sig S L) : vfy V L X = 0 := by rw [hV, hX]; exact S8.sign_back S L
theorem MbR.nil (W : World) : MbR nSl [] W := ⟨Y5z 35 W, fun y hy => by cases hy⟩
theorem Z92 {p S : Nat} {vt vl vs : Value} (w : World) (h_ : SH (SH.feet (suL p S .nil [] [] vt vl vs ++ [gx, mbT nSl []])) w w (suL p S .nil [] [] vt vl vs ++ [gx, mbT nSl []])) :
  Calls Tryz.prog 20 #[.pointer (some ⟨p, 0, none⟩), nSl] w fun e w' => ∃ y : Value × Value × Value, e = .returned (.agg (sgF ⟨0, sE, sig S (sTx 0 sE)⟩)) ∧ SH (SH.feet (suL p S .nil [] [] vt vl vs ++ [gx, mbT nSl []])) w w' (suL p S .nil [⟨0, sE, sig S (sTx 0 sE)⟩] [eS (sTx 0 sE)] y.1 y.2.1 y.2.2 ++ [gx, mbT nSl []]) :=
 Z27 (ms := []) (by simp) (by simp) (by simp) w h_
attribute [local irreducible] eI be8 hs4 lb kTx vTx sTx eS rs ofT sE sL sN S8.sig S8.vfy S8.kP S8.kN S8.kD

theorem Z93 (w : World) (hX : GX w) :
  Calls Tryz.prog 10 #[] w fun e w' => K7 (.bool true) w w' e := by
 have hS := SH.nil [] w
 have hS := hS.entp (Q8b hX)
 go_enter Tryz.func10, Tryz.ntmps10
 go_upto_region 1 with fail
 refine RL hS ?_
 clear hS
 refine MW ?_ (v := .agg (J0 .u8 32 (Q3 1))) (hv := by intro W; kernel_rfl)
 refine ME (V := fun p => .pointer (some ⟨p, 0, none⟩)) (fun W hS => J58 hS (Z26 1 W) (fun _ => ⟨rfl, rfl⟩)) ?_
 intro p1
 refine MT (fun W hS => ((hS.rnil 23 32 rfl).rnil 47 97 rfl).fact (TA.holds (show TA _ .nil nlp from rfl)) rfl) ?_
 refine MV ?_
 refine MZ fun W hS => ?_
 go_upto_region 2 with fail
 refine RL hS ?_
 clear hS
 refine MV ?_
 refine MT (fun W hS => hS.addp (Q4b (MbR.nil W)) (fun k hk => by cases hk)) ?_
 refine ME (V := fun _ => .agg (sgF ⟨0, sE, sig 1 (sTx 0 sE)⟩)) (fun W hS => Y5m [4, 2, 3, 1, 5, 0] [] hS (fun hT => Z92 W hT) (fun _ => ⟨.inr (.inl ⟨rfl, rfl⟩), .inr (.inl ⟨rfl, rfl⟩), .inr (.inl ⟨rfl, rfl⟩), .inr (.inr ⟨_, _, rfl, rfl⟩), .inl (by simp), .inl (by simp), trivial⟩)) ?_
 rintro ⟨M, D, R⟩
 dsimp only
 refine J78 (fun W hS => Row.form (ls := [⟨0, sE, sig 1 (sTx 0 sE)⟩]) (f := sgC) (hS.row (i := 1) rfl)) ?_
 rintro ⟨N, G, rfl⟩
 refine MN (z := agF [.c (.int .i64 0), .a 32 0, .a 64 0]) (t := 47) ?_
 intro J
 refine MR 0 ?_ (hz := by rw [J4]; kernel_rfl) (hs := by first | (rw [J4, J4]; simp only [J38, J37, J36]; done) | (rw [J4, J4]; rfl) | rfl) (h1 := by exact (J0a ⟨rfl, trivial⟩))
 refine MZ fun W hS => ?_
 go_upto_region 3 with fail
 refine RTh (.q 0 (.q 1 (.q 2 (.q 3 (.q 4 (.q 5 (.e 6 (.q 7 (.q 8 (.q 9 (.q 10 (.q 12 (.e 11 (.e 13 (.q 14 (.q 15 (.q 16 (.q 17 (.e 18 (.q 19 (.q 20 (.q 21 .z)))))))))))))))))))))) hS ?_
 clear hS
 refine TV ?_
 refine TG 0 ?_ (v := .int .i64 0) (hj := (Y3 (off := 0) 0))
 refine TW ?_ (v := .bool true)
 refine TW ?_ (v := .bool true)
 refine TV ?_
 refine Tk 0 ?_ (sub := J0 .u8 32 (Q3 sE)) (hs := (J1g (off := 1) 1))
 refine TE (fun _ h => h) ?_
 refine MC (v := .agg (J0 .u8 32 (Q3 sE))) (fun W hS => Z1y W (hS.pp (i := 5) rfl : GX W).gt) ?_
 refine TNh (fun W hS => hS) ?_
 refine TW ?_ (v := .bool true) (hv := fun _ => J0t ((fun w => Y4f rfl w) _) (by kernel_rfl) rfl rfl rfl)
 refine TW ?_ (v := .bool true)
 refine TW ?_ (v := .bool true)
 refine TV ?_
 refine TL 0 ?_ (hs := by rw [J4]; kernel_rfl)
 refine TE (fun _ h => h) ?_
 refine MC (v := .agg (J0 .u8 32 (Q3 (kP 1)))) (fun W hS => Z4g W (hS.blk (i := 1) rfl) (hS.pp (i := 5) rfl : GX W)) ?_
 refine TNh (fun W hS => hS) ?_
 refine TE (fun _ h => h) ?_
 refine MC (v := .int .i64 ((0 : Nat) : Int)) (fun W hS => (by have h_ := Q8a (V := kP 1) (x := ⟨0, sE, sig 1 (sTx 0 sE)⟩) (kP_lt _) (sig_lt _ _) W (hS.pp (i := 5) rfl : GX W); rw [Z91 rfl rfl] at h_; exact h_)) ?_
 refine TNh (fun W hS => hS) ?_
 refine TW ?_ (v := .bool true)
 refine TW ?_ (v := .bool true)
 refine TW ?_ (v := .bool true)
 refine TV ?_
 refine TE (fun _ h => h) ?_
 refine MC (v := .int .i64 ([⟨0, sE, sig 1 (sTx 0 sE)⟩].length : Int)) (fun W hS => Z4h W (hS.blk (i := 1) rfl)) ?_
 refine TNh (fun W hS => hS) ?_
 refine TV ?_
 refine TV ?_
 refine TV ?_
 refine TZ (fun _ h => h) fun W hS => ?_
 go_wp2
 exact bodyPost_ret (v := .bool true) (by simp only [results, Tryz.results10]; go_simp) rfl ⟨rfl, hS.ext⟩
end

section
set_option maxHeartbeats 3000000
attribute [local irreducible] wpList U0 wpX
open S8 (Kn GA kP sig vfy)
theorem Y2s {W : World} {b : Nat} {m : Mb} {t : TypeId} (h : Blk W b (mbF m) t) : RR 35 W (.slice (some ⟨b, 0, none⟩) 1 1) ([m].map mbC) :=
 (Z0j (t := t) (es := [mbC m]) h (by show fcs _ = fcs _ ++ []; rw [List.append_nil]) (fun e he => Q65 (ms := [m]) e he) (by show 1 ≤ maxLen; decide)).rr
theorem V4g {W : World} {m : Mb} (h : Sl W m.u m.id) (hl : m.id.length ≤ 100000000) : mbK [m] W := fun y hy => by rw [List.mem_singleton.1 hy]; exact ⟨h, hl⟩
attribute [local irreducible] eI be8 hs4 lb kTx vTx sTx eS rs ofT sE sL sN S8.sig S8.vfy S8.kP S8.kN S8.kD

end

section
set_option maxHeartbeats 3000000
attribute [local irreducible] wpList U0 wpX
open S8 (Kn GA kP sig vfy)
attribute [local irreducible] eI be8 hs4 lb kTx vTx sTx eS rs ofT sE sL sN S8.sig S8.vfy S8.kP S8.kN S8.kD

theorem Q08 : zer Tryz.prog 25 = some (some (agF [.c (.slice none 0 0), .c (.bool false), .c (.int .i64 0), .a 32 0])) := by kernel_rfl
theorem Q09 : plc Tryz.prog 25 = some [(0, 1), (1, 1), (2, 1), (3, 32)] := by kernel_rfl
end
end Go.Proofs.YtejkmhgkkibafaaGreatDoor

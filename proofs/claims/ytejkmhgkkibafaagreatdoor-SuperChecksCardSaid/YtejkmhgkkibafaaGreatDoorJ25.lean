/- Contracts and plain laws that superChecks_holds rests on. Conditions: the variables' cells hold the numbers of the program's text. -/
import Derived.Test.YtejkmhgkkibafaaGreatDoorJ5
import Derived.Test.YtejkmhgkkibafaaGreatDoorJ6
import Derived.Test.YtejkmhgkkibafaaGreatDoorJ3
import Derived.Test.YtejkmhgkkibafaaGreatDoorJ8
import Derived.Test.YtejkmhgkkibafaaGreatDoorJ24
import Derived.Test.YtejkmhgkkibafaaGreatDoorJ21
import Derived.Test.YtejkmhgkkibafaaGreatDoorS8Ei
import Derived.Test.YtejkmhgkkibafaaGreatDoorJ19
open Go.RowKit
set_option maxRecDepth 100000
set_option linter.unusedSimpArgs false
set_option linter.unusedVariables false
namespace Go.Proofs.YtejkmhgkkibafaaGreatDoor
section
variable {ops : Array Oper} {Q : Exit → Act → World → Prop} {w : World} {r : List Oper} {o : Oper} {a a' : Act} {F : List Nat} {H H' : List As} {k : Wk}
theorem Z5u {ty t : TypeId} {x y : Operand} {b j : Nat} {cs : Array Value} {fz : Nat × Nat} {v : Value} (hv : v.cells = #[v] ∧ v.oneCell' = true) (hw : Region.wanted o (yielded ops a.tmps) = true) (ho : o.op = .store ty x y) (hx : a.eval x = .pointer (some ⟨b, j, none⟩)) (hy : a.eval y = v)
    (hB : w.heap[b]? = some (.cells cs t fz)) (hf : fz.1 = fz.2 ∨ cs.size ≤ fz.1) (hs : j < cs.size) (hi : (Tryz.prog.info? ty).map (·.size) = some 1)
    (h : ∀ W, Off [b] w W → W.heap[b]? = some (.cells (cs.setIfInBounds j v) t fz) → wpList Tryz.prog ops Q r (a.put o.dst undef) W) : wpList Tryz.prog ops Q (o :: r) a w := by
  unfold wpList; rw [if_pos hw]
  refine .inl ?_
  unfold Oper.wp
  have hc : (w.cell? ⟨b, j, none⟩).isSome = true := by rw [cell_of_row w b j cs t fz hB, Array.getElem?_eq_getElem hs]; rfl
  have hf : w.frozen? ⟨b, j, none⟩ = false := by
    simp [World.frozen?, hB]
    omega
  have := run_storeCells_cells (P := Tryz.prog) b j [v] 0 w (fun k hk => by
      have : k = 0 := by simpa using hk
      subst this; simpa using hc) (fun k hk => by
      have : k = 0 := by simpa using hk
      subst this; simpa using hf) (fun u hu => by rw [List.mem_singleton.1 hu]; exact hv.2)
  have hr : (execOp a.eval o).run Tryz.prog w = .ok .skip (w.setCell ⟨b, j, none⟩ v) := by
    cases hq : Tryz.prog.info? ty with
    | none => simp [hq] at hi
    | some i =>
      have G : i.size = 1 := by simpa [hq] using hi
      simp only [Nat.add_zero, World.setCells] at this
      simp [execOp, ho, hx, hy, Sem.run_bind, Instr.storeAt, Instr.sureAddr, storeVar, sizeOf, typeInfo, hq, G, hv.1, this]
  rw [hr]
  refine h _ ⟨rfl, rfl, rfl, by simp [World.setCell], fun k _ hk => Below.heap_setCell w ⟨b, j, none⟩ v k (by simpa using hk)⟩ ?_
  have D := lt_of_block hB
  have h' : w.heap[b] = .cells cs t fz := by simpa [Array.getElem?_eq_getElem D] using hB
  show (w.heap.modify b _)[b]? = _
  rw [Array.getElem?_eq_getElem (by simpa using D), Array.getElem_modify_self, h']
  rfl
theorem MIw (i j : Nat) {x y : Operand} {v : Value} {l : List UInt8} {kk : IntKind} {a' : Nat → Act} (hj : j < l.length) (h : ∀ g c, RowKit.Hid (v = .slice (some ⟨g, 0, none⟩) l.length c) → wpM Tryz.prog ops k F w H r (a' g)) (hi : H[i]? = some (.w v l) := by exact rfl) (hw : Region.wanted o (yielded ops a.tmps) = true := by exact rfl)
    (ho : o.op = .indexAddr 22 x y := by exact rfl) (hx : a.eval x = v := by exact rfl) (hy : a.eval y = .int kk (j : Int) := by exact rfl)
    (hp : ∀ g, a.put o.dst (.pointer (some ⟨g, 0 + j, none⟩)) = a' g := by intro b; first | exact pl (by dsimp only [mB, mC]; first | done | exact rfl) | exact pn | exact rfl) : wpM Tryz.prog ops k F w H (o :: r) a := by
  intro W hS
  obtain ⟨g, G, cs, fz, hv, _⟩ := (hS.at_ hi : Owz W v l)
  have D : ∀ W, (execOp a.eval o).run Tryz.prog W = .ok (.value (.pointer (some ⟨g, 0 + j, none⟩))) W := fun W => by rw [Q0x hj ho (hx.trans hv) hy, Addr.add_mid]
  cases k with
  | L Q => exact J2a hw (D W) (by rw [hp]; exact h g G (Lib.hid hv) W hS)
  | X E => exact J3d hw (fun W' _ => D W') (by rw [hp]; exact h g G (Lib.hid hv) W hS)
theorem MPw (i : Nat) {ty : TypeId} {x y : Operand} {g j n c : Nat} {u v : Value} {l l' : List UInt8} (hj : j < l.length) (hv : v = .slice (some ⟨g, 0, none⟩) n c) (hl : (bs8 l).set j u = bs8 l') (hn : l'.length = l.length) (h : wpM Tryz.prog ops (.L Q) F w H' r a') (hi : H[i]? = some (.w v l) := by exact rfl) (hw : Region.wanted o (yielded ops a.tmps) = true := by exact rfl)
    (ho : o.op = .store ty x y := by exact rfl) (hx : a.eval x = .pointer (some ⟨g, 0 + j, none⟩) := by exact rfl) (hy : a.eval y = u := by exact rfl) (hu : u.cells = #[u] ∧ u.oneCell' = true := by exact ⟨rfl, rfl⟩) (hz : (Tryz.prog.info? ty).map (·.size) = some 1 := by kernel_rfl)
    (hH : H.set i (.w v l') = H' := by dsimp only [sB, sC]; first | done | exact rfl) (hp : a.put o.dst undef = a' := by first | exact pl (by dsimp only [mB, mC]; first | done | exact rfl) | exact pn | exact rfl) : wpM Tryz.prog ops (.L Q) F w H (o :: r) a := by
  subst hp hH
  intro W hS
  obtain ⟨g', D, cs, fz, e, hh, hf, hc, hm, hs, ht⟩ := (hS.at_ hi : Owz W v l)
  rw [hv] at e
  injection e with e1 e2 e3
  injection e1 with e1
  injection e1 with e1
  subst e1 e3
  refine Z5u hu hw ho (hx.trans (by rw [Nat.zero_add])) hy hh hf (by omega) hz fun W' hO hB => h W' (hS.setw hi (by rw [hv]; exact hO) ⟨g, c, _, fz, by rw [hn, hv, e2], hB, by rw [Array.size_setIfInBounds]; exact hf, by rw [hn]; exact hc, hm, by rw [Array.size_setIfInBounds]; exact hs, by rw [hn, Array.toList_setIfInBounds, List.take_set, ht, hl]⟩ (fun k hk _ => by rw [hk]; simp))
end
end Go.Proofs.YtejkmhgkkibafaaGreatDoor

namespace Go.Proofs.YtejkmhgkkibafaaGreatDoor.S8
section
set_option maxHeartbeats 1500000
attribute [local irreducible] wpList U0 wpX
theorem J4t (X : Nat) (w : World) : Calls Tryz.prog 111 #[A16 X] w fun e w' => K7 (str (lb 32 X)) w w' e := by
 rw [← Q0y]; exact rbytes_c X w
theorem Z18 (V : Nat) (w : World) : Calls Tryz.prog 110 #[str (lb 32 V)] w fun e w' => K7 (A16 (V % 2 ^ 255 % PP)) w w' e := by
 rw [← Q0y]; exact Y0x V w
theorem Y6r {X Y Z i x y : Nat} {a : Pr} (r : RD X Y Z a) (ei : i = pw Z (PP - 2)) (ex : x = X * i % PP) (ey : y = Y * i % PP) (ho : x % 2 = 1) : enc a = y + 2 ^ 255 := by
 obtain ⟨h1, h2⟩ := Q5g r ei ex ey
 unfold enc
 rw [← h1, ← h2, ho]
theorem Y6s {X Y Z i x y : Nat} {a : Pr} (r : RD X Y Z a) (ei : i = pw Z (PP - 2)) (ex : x = X * i % PP) (ey : y = Y * i % PP) (ho : ¬ x % 2 = 1) : enc a = y := by
 obtain ⟨h1, h2⟩ := Q5g r ei ex ey
 have : x % 2 = 0 := by omega
 unfold enc
 rw [← h1, ← h2, this, Nat.mul_zero, Nat.add_zero]
theorem Y6t {V : Nat} (hV : V < 2 ^ 255) : (J0 .u8 32 (Q3 V)).setIfInBounds 31 (.int .u8 (bits .or .u8 (Q3 V 31) 128)) = J0 .u8 32 (Q3 (V + 2 ^ 255)) := by rw [V4]; exact Y4q hV
theorem Q5i {V : Nat} (hV : V < 2 ^ 256) : (J0 .u8 32 (Q3 V)).setIfInBounds 31 (.int .u8 (bits .and .u8 (Q3 V 31) 127)) = J0 .u8 32 (Q3 (V % 2 ^ 255)) := by rw [V4]; exact Q7b (Z6m hV)
theorem Q16 {V : Nat} (hV : V < 2 ^ 256) (b : Bool) (h : top V = b) : decide ((128 : Int) ≤ Q3 V 31) = b := by
 obtain ⟨h1, h2⟩ := Q2m hV
 rw [h1, ← h, Bool.eq_iff_iff, decide_eq_true_iff, Q5j]
 omega
theorem Q7d (y : Nat) {n2 n3 : Nat} (h2 : n2 = y * y % PP) (h3 : n3 = (n2 + (PP - 1) % PP) % PP) : n3 = dU y := by
 unfold dU
 rw [h3, h2, show (PP - 1) % PP = PP - 1 % PP by decide +kernel]
theorem Q2n {V V' : Nat} {v : Value} (he : (J0 .u8 32 (Q3 V)).setIfInBounds 31 v = J0 .u8 32 (Q3 V')) : (bs8 (lb 32 V)).set 31 v = bs8 (lb 32 V') := by
 rw [J6u, J6u, ← J26, ← J26, ← he, Array.toList_setIfInBounds]
theorem zat {W : World} {v : Value} {V g n c : Nat} (hv : v = .slice (some ⟨g, 0, none⟩) n c) (h : Sl W v (lb 32 V)) : W.cell? ⟨g, 0 + 31, none⟩ = some (.int .u8 (Q3 V 31)) := by
 subst hv
 have h1 := Q6o (j := 31) h (Q22 (by decide))
 rw [J9x, Addr.add_mid] at h1
 exact h1

theorem Y6u {X1 Y1 Z1 : Nat} {p1 : Pr} (h1 : RD X1 Y1 Z1 p1) :
  ∀ w, Calls Tryz.prog 70 #[.agg (p3 X1 Y1 Z1)] w fun e w' => K7 (str (lb 32 (enc p1))) w w' e := by
 have S := Y6v Z1 (Z0 h1.z)
 obtain ⟨N1, G⟩ := V3 (pw Z1 (PP - 2))
 rw [← G] at S
 have β := bpp G
 have Y := Z0 β
 have U := Lib.hid G
 clear G
 have N := J0h X1 N1 (Z0 h1.x) Y
 obtain ⟨N2, J⟩ := V3 (X1 * N1 % PP)
 rw [← J] at N
 have Z := bpp J
 have ξ := Z0 Z
 have X := Lib.hid J
 clear J
 have R := J0h Y1 N1 (Z0 h1.y) Y
 obtain ⟨N3, M⟩ := V3 (Y1 * N1 % PP)
 rw [← M] at R
 have V := bpp M
 have ε := Z0 V
 have T := Lib.hid M
 clear M
 intro w
 have hS := SH.nil [] w
 go_enter Tryz.func70, Tryz.ntmps70
 go_upto_region 0 with fail
 refine RL hS ?_
 clear hS
 refine MN (z := p3 X1 Y1 Z1) (t := 126) ?_
 intro κ
 refine MV ?_
 refine MZ fun W hS => ?_
 go_upto_region 1 with fail
 refine RL hS ?_
 clear hS
 refine MV ?_
 refine Ml 0 Y0y ?_
 refine MC (v := .agg (J0 .i64 16 (Q6 N1))) (fun W hS => S W) ?_
 refine MN (z := J0 .i64 16 (Q6 0)) (t := 124) ?_
 intro θ
 refine MR 0 ?_ 
 refine MZ fun W hS => ?_
 go_upto_region 2 with fail
 refine RXn 8 [⟨8, 4, J0 .i64 16 (Q6 0), 124⟩, ⟨9, 5, J0 .i64 16 (Q6 0), 124⟩] hS ?_ (by simp only [List.forall_mem_cons]; exact ⟨⟨_, rfl, rfl, rfl, fun _ _ => by kernel_rfl⟩, ⟨_, rfl, rfl, rfl, fun _ _ => by kernel_rfl⟩, fun _ h => by cases h⟩)
 clear hS
 refine MV ?_
 refine Ml 1 Z35 ?_
 refine ML 0 ?_
 refine MC (v := .agg (J0 .i64 16 (Q6 N2))) (fun W hS => N W) ?_
 refine MV ?_
 refine Ml 1 Z36 ?_
 refine ML 0 ?_
 refine MC (v := .agg (J0 .i64 16 (Q6 N3))) (fun W hS => R W) ?_
 refine MZB fun α => ?_
 refine MR 0 ?_ 
 refine MR 1 ?_ 
 refine MZn fun W hS => ?_
 go_upto_region 3 with fail
 refine RL hS ?_
 clear hS
 refine ML 1 ?_
 refine MC (v := str (lb 32 N3)) (fun W hS => J4t N3 W) ?_
 refine MY (m := (lb 32 N3)) (by first | omega | (rw [J8]; decide)) ?_
 intro ζ
 refine MV ?_
 refine MZ fun W hS => ?_
 by_cases ho : N2 % 2 = 1
 ·
  have D := Lib.hid ho
  clear ho
  go_upto_region 4 with fail
  refine RL hS ?_
  clear hS
  refine MW ?_ (v := .pointer (some ⟨(α 8), 0 + 0, none⟩)) (hv := fun _ => J5 (m := 16) (by decide) (by decide) Tryz.underlying124 (by kernel_rfl) rfl rfl rfl)
  refine MG 1 ?_ (j := 0 + 0) (v := .int .i64 ((Q6 N2) 0)) (hj := by rw [Nat.zero_add]; exact J3 _ _ _ _ (by decide))
  refine MW ?_ (v := .int .i64 1) (hv := by intro W; exact J39 D.out rfl rfl rfl)
  refine MW ?_ (v := .bool true)
  refine MZ fun W hS => ?_
  go_upto_region 5 with fail
  refine RL hS ?_
  clear hS
  refine MV ?_
  refine MV ?_
  refine MIw 0 31 (l := lb 32 N3) (by rw [J8]; decide) ?_
  intro μ ν γ
  refine MF (v := .int .u8 (Q3 N3 31)) (fun W hS => X8 rfl rfl (zat γ.out (hS.ozl (i := 0) rfl)) (by kernel_rfl)) ?_
  refine MW ?_ (v := .int .u8 (bits .or .u8 (Q3 N3 31) 128)) (hv := by intro W; exact Z11 rfl rfl rfl rfl)
  refine MIw 0 31 (l := lb 32 N3) (by rw [J8]; decide) ?_
  intro η ρ δ
  refine MPw 0 (j := 31) (l := lb 32 N3) (l' := lb 32 (N3 + 2 ^ 255)) (by rw [J8]; decide) δ.out (Q2n (Y6t (Nat.lt_trans V Q5h))) (by rw [J8, J8]) ?_
  refine MZ fun W hS => ?_
  go_upto_region 6 with fail
  refine RL hS ?_
  clear hS
  refine MV ?_
  refine MF (v := str (lb 32 (N3 + 2 ^ 255))) (fun W hS => J2j (hS.ozl (i := 0) rfl) rfl rfl) ?_
  refine MV ?_
  refine MZ fun W hS => ?_
  go_wp2
  rw [Y6r h1 U.out X.out T.out D.out]
  exact bodyPost_ret (v := str (lb 32 (N3 + 2 ^ 255))) (by simp only [results, Tryz.results70]; go_simp) rfl ⟨rfl, hS.ext⟩
 have D := Lib.hid ho
 clear ho
 go_upto_region 4 with fail
 refine RL hS ?_
 clear hS
 refine MW ?_ (v := .pointer (some ⟨(α 8), 0 + 0, none⟩)) (hv := fun _ => J5 (m := 16) (by decide) (by decide) Tryz.underlying124 (by kernel_rfl) rfl rfl rfl)
 refine MG 1 ?_ (j := 0 + 0) (v := .int .i64 ((Q6 N2) 0)) (hj := by rw [Nat.zero_add]; exact J3 _ _ _ _ (by decide))
 refine MW ?_ (v := .int .i64 0) (hv := by intro W; exact J39 (show N2 % 2 = 0 by have := D.out; omega) rfl rfl rfl)
 refine MW ?_ (v := .bool false)
 refine MZ fun W hS => ?_
 go_upto_region 6 with fail
 refine RL hS ?_
 clear hS
 refine MV ?_
 refine MF (v := str (lb 32 N3)) (fun W hS => J2j (hS.ozl (i := 0) rfl) rfl rfl) ?_
 refine MV ?_
 refine MZ fun W hS => ?_
 go_wp2
 rw [Y6s h1 U.out X.out T.out D.out]
 exact bodyPost_ret (v := str (lb 32 N3)) (by simp only [results, Tryz.results70]; go_simp) rfl ⟨rfl, hS.ext⟩
end

section
set_option maxHeartbeats 1500000
attribute [local irreducible] wpList U0 wpX
abbrev T3 := Nat × Nat × Nat
def qc (s : T3) : Array Value := p3 s.1 s.2.1 s.2.2
def RQ (s : T3) (a : Pr) : Prop := RD s.1 s.2.1 s.2.2 a
theorem J1s {s : T3} : (qc s).size = 48 := Q7
theorem Q93 {s : T3} : (qc s).all (·.oneCell') = true := J1x
structure DStep (P : T3) (n j : Nat) (s g s' : T3) : Prop where
 tw : ∀ w, Calls Tryz.prog 66 #[.agg (qc s), .agg (qc s)] w fun e w' => K7 (.agg (qc g)) w w' e
 ad : n / 2 ^ j % 2 = 1 → ∀ w, Calls Tryz.prog 66 #[.agg (qc g), .agg (qc P)] w fun e w' => K7 (.agg (qc s')) w w' e
 no : ¬ n / 2 ^ j % 2 = 1 → s' = g
theorem V08 {P s : T3} {a : Pr} {n j : Nat} (hP : RQ P a) (hs : RQ s (pm a (n / 2 ^ (j + 1)))) : ∃ g s', DStep P n j s g s' ∧ RQ s' (pm a (n / 2 ^ j)) := by
 obtain ⟨x, y, z, r, c⟩ := Q5k hs hs
 by_cases h : n / 2 ^ j % 2 = 1
 ·
  obtain ⟨x', y', z', r', c'⟩ := Q5k r hP
  exact ⟨(x, y, z), (x', y', z'), ⟨c, fun _ => c', fun h0 => absurd h h0⟩, by rw [Q7c hP.on h]; exact r'⟩
 exact ⟨(x, y, z), (x, y, z), ⟨c, fun h0 => absurd h0 h, fun _ => rfl⟩, by rw [Z16 hP.on (by omega)]; exact r⟩
theorem V09 {P s0 : T3} {a : Pr} {n J : Nat} (hP : RQ P a) (h0 : RQ s0 (pm a (n / 2 ^ J))) : ∀ m, m ≤ J → ∃ f g : Nat → T3, f J = s0 ∧ (∀ j, J - m ≤ j → j ≤ J → RQ (f j) (pm a (n / 2 ^ j))) ∧ ∀ j, J - m ≤ j → j < J → DStep P n j (f (j + 1)) (g j) (f j)
 | 0, _ => ⟨fun _ => s0, fun _ => s0, rfl, fun j h1 h2 => by rw [show j = J by omega]; exact h0, fun j h1 h2 => by omega⟩
 | m + 1, hm => by
  obtain ⟨f, g, e0, e1, e2⟩ := V09 hP h0 m (by omega)
  obtain ⟨k, hk⟩ : ∃ k, k = J - 1 - m := ⟨_, rfl⟩
  obtain ⟨x, s', st, hr⟩ := V08 (j := k) hP (e1 (k + 1) (by omega) (by omega))
  refine ⟨fun j => if j = k then s' else f j, fun j => if j = k then x else g j, ?_, fun j h1 h2 => ?_, fun j h1 h2 => ?_⟩
  ·
   show (if J = k then s' else f J) = s0
   rw [if_neg (by omega)]; exact e0
  ·
   show RQ (if j = k then s' else f j) _
   by_cases h : j = k
   ·
    rw [if_pos h, h]; exact hr
   ·
    rw [if_neg h]; exact e1 j (by omega) h2
  ·
   show DStep P n j (if j + 1 = k then s' else f (j + 1)) (if j = k then x else g j) (if j = k then s' else f j)
   rw [if_neg (by omega)]
   by_cases h : j = k
   ·
    rw [if_pos h, if_pos h, h]; exact st
   ·
    rw [if_neg h, if_neg h]; exact e2 j (by omega) h2

theorem Q7e {w : World} {o : Oper} {a : Act} {x y : Operand} {t t' : TypeId} {p r : Nat} (h : p % 2 = r) (hp : p < 256) (ho : o.op = .binOp .rem t x y t') (hx : a.eval x = .int .u8 (p : Int)) (hy : a.eval y = .int .u8 2) : (execOp a.eval o).run Tryz.prog w = .ok (.value (.int .u8 (r : Int))) w := by
 rw [← h]; exact Z5d (P := Tryz.prog) (q := 2) (by decide) hp ho hx hy
theorem Q7f {X1 Y1 Z1 : Nat} {p1 : Pr} (h1 : RD X1 Y1 Z1 p1) (l : List UInt8) (hl : l.length < 1099511627776) :
  ∃ X Y Z, RD X Y Z (pm p1 (le l)) ∧ ∀ w, Calls Tryz.prog 67 #[.agg (p3 X1 Y1 Z1), str l] w fun e w' => K7 (.agg (p3 X Y Z)) w w' e := by
 obtain ⟨f, gg, β, ε, δ⟩ := V09 (P := (X1, Y1, Z1)) (s0 := (0, 1, 1)) (n := le l) (J := 8 * l.length) h1 (by rw [Nat.div_eq_of_lt (Q6f l)]; exact Y12) (8 * l.length) (Nat.le_refl _)
 have ζ := Lib.hid β
 clear β
 refine ⟨(f 0).1, (f 0).2.1, (f 0).2.2, (by have := ε 0 (by omega) (Nat.zero_le _); rw [Nat.pow_zero, Nat.div_one] at this; exact this), fun w => ?_⟩
 have hS := SH.nil [] w
 go_enter Tryz.func67, Tryz.ntmps67
 go_upto_region 0 with fail
 refine RL hS ?_
 clear hS
 refine MN (z := p3 X1 Y1 Z1) (t := 126) ?_
 intro X5
 refine MN (z := p3 0 0 0) (t := 126) ?_
 intro α
 refine MZ fun W hS => ?_
 go_upto_region 1 with fail
 refine RL hS ?_
 clear hS
 refine MC (v := .agg (p3 0 1 1)) (fun W hS => Y10 W) ?_
 refine MN (z := p3 0 0 0) (t := 126) ?_
 intro γ
 refine MR 0 ?_ (hz := by rw [Q7]; kernel_rfl) (hs := by first | rw [Q7, Q7] | rw [Q7] | kernel_rfl) (h1 := J1x)
 refine MZ fun W hS => ?_
 go_upto_region 2 with fail
 refine RL hS ?_
 clear hS
 refine MV ?_
 refine MW ?_ (v := .int .i64 (l.length : Int)) (hv := fun _ => Q6m (l := l) rfl rfl)
 refine MW ?_ (v := .int .i64 ((l.length : Int) - 1)) (hv := by intro W; exact Z6o (by omega) rfl rfl rfl)
 refine MV ?_
 refine MZ fun W hS => ?_
 go_wp2_with fail
 go_loopw [6] (fun si wr => ∃ (m : Nat), (m ≤ l.length) ∧ (si = .int .i64 ((m : Int) - 1)) ∧ SH [] w wr [.b γ (qc (f (8 * m))) 126, .b α (p3 0 0 0) 126, .b X5 (p3 X1 Y1 Z1) 126])
  (fun si _ => (intOf si + 1).toNat)
 case atStart => exact ⟨l.length, Nat.le_refl _, rfl, (by rw [ζ.out]; exact hS)⟩
 clear hS
 case round =>
  obtain ⟨m, hm, rfl, hS⟩ := hrel
  by_cases hz : m = 0
  ·
   subst hz
   go_upto_region 3 with fail
   refine RL hS ?_
   clear hS
   refine MV ?_
   refine MW ?_ (v := .bool false)
   refine MZ fun W hS => ?_
   go_upto_region 11 with fail
   refine RL hS ?_
   clear hS
   refine ML 0 ?_ (hs := by rw [J1s]; kernel_rfl)
   refine MR 1 ?_ (hz := by rw [J1s]; kernel_rfl) (hs := by first | rw [Q7, J1s] | rw [J1s] | kernel_rfl) (h1 := Q93)
   refine MZ fun W hS => ?_
   go_wp2
   exact bodyPost_ret (Z6 rfl rfl (hS.blk (i := 1) rfl) (by kernel_rfl) (by rw [J1s]; kernel_rfl)) rfl ⟨rfl, hS.ext⟩
  obtain ⟨i, rfl⟩ : ∃ i, m = i + 1 := ⟨m - 1, by omega⟩
  rw [show ((i + 1 : Nat) : Int) - 1 = (i : Int) by omega]
  go_upto_region 3 with fail
  refine RL hS ?_
  clear hS
  refine MV ?_
  refine MW ?_ (v := .bool true)
  refine MZ fun W hS => ?_
  go_wp2_with fail
  go_loopw [7] (fun sk wr => ∃ (r : Nat), (r ≤ 8) ∧ (sk = .int .i64 ((r : Int) - 1)) ∧ SH [] w wr [.b γ (qc (f (8 * i + r))) 126, .b α (p3 0 0 0) 126, .b X5 (p3 X1 Y1 Z1) 126])
   (fun sk _ => (intOf sk + 1).toNat)
  case atStart => exact ⟨8, Nat.le_refl _, rfl, (by rw [show 8 * i + 8 = 8 * (i + 1) by omega]; exact hS)⟩
  clear hS
  case round =>
   obtain ⟨r, hr, rfl, hS⟩ := hrel
   by_cases V : r = 0
   ·
    subst V
    go_upto_region 6 with fail
    refine RL hS ?_
    clear hS
    refine MV ?_
    refine MW ?_ (v := .bool false)
    refine MZ fun W hS => ?_
    go_wp2
    go_roundw
    case rel => exact ⟨i, by omega, by go_num, hS⟩
    case measure => first | (simp [intOf]; done) | (simp [intOf]; omega)
   obtain ⟨q, rfl⟩ : ∃ q, r = q + 1 := ⟨r - 1, by omega⟩
   have U := δ (8 * i + q) (by omega) (by omega)
   rw [show ((q + 1 : Nat) : Int) - 1 = (q : Int) by omega]
   go_upto_region 6 with fail
   refine RL hS ?_
   clear hS
   refine MV ?_
   refine MW ?_ (v := .bool true)
   refine MZ fun W hS => ?_
   go_upto_region 8 with fail
   refine RL hS ?_
   clear hS
   refine ML 0 ?_ (hs := by rw [J1s]; kernel_rfl)
   refine ML 0 ?_ (hs := by rw [J1s]; kernel_rfl)
   refine MC (v := .agg (qc (gg (8 * i + q)))) (fun W hS => U.tw W) ?_
   refine MR 0 ?_ (hz := by rw [J1s]; kernel_rfl) (hs := by first | rw [J1s, J1s] | rw [J1s] | kernel_rfl) (h1 := Q93)
   refine MZ fun W hS => ?_
   by_cases D : le l / 2 ^ (8 * i + q) % 2 = 1
   ·
    obtain ⟨cc, M⟩ : ∃ c, l[i]? = some c := ⟨_, List.getElem?_eq_getElem (by omega)⟩
    have T : cc.toNat / 2 ^ q < 256 := Nat.lt_of_le_of_lt (Nat.div_le_self _ _) (UInt8.toNat_lt _)
    have S := Lib.hid M
    have N : cc.toNat / 2 ^ q % 2 = 1 := by rw [Z6p M (by omega)]; exact D
    have R := Lib.hid N
    clear N M
    have G := Lib.hid D
    clear D
    go_upto_region 9 with fail
    refine RL hS ?_
    clear hS
    refine MV ?_
    refine MV ?_
    refine MW ?_ (v := .int .u8 (cc.toNat : Int)) (hv := by intro W; exact J7d S.out rfl rfl rfl)
    refine MV ?_
    refine MW ?_ (v := .int .u8 ((cc.toNat / 2 ^ q : Nat) : Int)) (hv := by intro W; exact Q7g (by omega) rfl rfl rfl)
    refine MW ?_ (v := .int .u8 1) (hv := by intro W; exact Q7e R.out T rfl rfl rfl)
    refine MW ?_ (v := .bool true)
    refine MZ fun W hS => ?_
    go_upto_region 10 with fail
    refine RL hS ?_
    clear hS
    refine ML 0 ?_ (hs := by rw [J1s]; kernel_rfl)
    refine ML 2 ?_ (hs := by rw [Q7]; kernel_rfl)
    refine MC (v := .agg (qc (f (8 * i + q)))) (fun W hS => U.ad G.out W) ?_
    refine MR 0 ?_ (hz := by rw [J1s]; kernel_rfl) (hs := by first | rw [J1s, J1s] | rw [J1s] | kernel_rfl) (h1 := Q93)
    refine MZ fun W hS => ?_
    go_wp2
    go_roundw
    case rel => exact ⟨q, by omega, by go_num, hS⟩
    case measure => first | (simp [intOf]; done) | (simp [intOf]; omega)
   obtain ⟨cc, M⟩ : ∃ c, l[i]? = some c := ⟨_, List.getElem?_eq_getElem (by omega)⟩
   have T : cc.toNat / 2 ^ q < 256 := Nat.lt_of_le_of_lt (Nat.div_le_self _ _) (UInt8.toNat_lt _)
   have S := Lib.hid M
   have N : cc.toNat / 2 ^ q % 2 = 0 := by rw [Z6p M (by omega)]; omega
   have R := Lib.hid N
   clear N M
   have G := Lib.hid D
   clear D
   go_upto_region 9 with fail
   refine RL hS ?_
   clear hS
   refine MV ?_
   refine MV ?_
   refine MW ?_ (v := .int .u8 (cc.toNat : Int)) (hv := by intro W; exact J7d S.out rfl rfl rfl)
   refine MV ?_
   refine MW ?_ (v := .int .u8 ((cc.toNat / 2 ^ q : Nat) : Int)) (hv := by intro W; exact Q7g (by omega) rfl rfl rfl)
   refine MW ?_ (v := .int .u8 0) (hv := by intro W; exact Q7e R.out T rfl rfl rfl)
   refine MW ?_ (v := .bool false)
   refine MZ fun W hS => ?_
   go_wp2
   go_roundw
   case rel => exact ⟨q, by omega, by go_num, (by rw [U.no G.out]; exact hS)⟩
   case measure => first | (simp [intOf]; done) | (simp [intOf]; omega)
end

section
set_option maxHeartbeats 1500000
attribute [local irreducible] wpList U0 wpX

theorem Y6y {V : Nat} (hV : V < 2 ^ 256) (hok : dOk V = false) :
  ∀ w, Calls Tryz.prog 64 #[str (lb 32 V)] w fun e w' => K7 (.tuple #[.agg (p3 0 0 0), .int .i64 15]) w w' e := by
 have ξ := Z18 V
 obtain ⟨Y, hY⟩ := V3 (V % 2 ^ 255 % PP)
 rw [← hY] at ξ
 have lY := bpp hY
 have HY := Lib.hid hY
 clear hY
 have γ := J0h Y Y (Z0 lY) (Z0 lY)
 obtain ⟨N1, θ⟩ := V3 (Y * Y % PP)
 rw [← θ] at γ
 have Ξ := bpp θ
 have σ := Z0 Ξ
 have S := Lib.hid θ
 clear θ
 have X := Q5c N1 1 σ (Nat.le_of_lt (by decide))
 obtain ⟨N2, κ⟩ := V3 ((N1 + (PP - 1) % PP) % PP)
 rw [← κ] at X
 have ρ := bpp κ
 have G1 := Z0 ρ
 have ε := Lib.hid κ
 clear κ
 have Z := J0h DD N1 Q7a σ
 obtain ⟨N3, δ⟩ := V3 (DD * N1 % PP)
 rw [← δ] at Z
 have ω := bpp δ
 have Δ := Z0 ω
 have η := Lib.hid δ
 clear δ
 have T := J7b N3 1 Δ (by decide)
 obtain ⟨N4, μ⟩ := V3 ((N3 + 1) % PP)
 rw [← μ] at T
 have Θ := bpp μ
 have ψ := Z0 Θ
 have ζ := Lib.hid μ
 clear μ
 have M := Z19 N2 N4 ρ ψ
 obtain ⟨R, hR⟩ := V3 (rtR N2 N4)
 rw [← hR] at M
 have lR : R < PP := by rw [hR]; exact J9f _ _
 have HR := Lib.hid hR
 clear hR
 obtain ⟨B, hB⟩ := V3 (rtB N2 N4)
 rw [← hB] at M
 have HB := Lib.hid hB
 clear hB
 have N := Z37 R 0 (Z0 lR) (by decide)
 intro w
 have hS := SH.nil [] w
 go_enter Tryz.func64, Tryz.ntmps64
 go_upto_region 0 with fail
 refine RL hS ?_
 clear hS
 refine MN (z := p3 0 0 0) (t := 126) ?_
 intro X5
 refine MW ?_ (v := .int .i64 0)
 refine MZ fun W hS => ?_
 by_cases ht : top V = true
 ·
  have U := Lib.hid ht
  clear ht
  go_upto_region 1 with fail
  refine RL hS ?_
  clear hS
  refine MV ?_
  refine MW ?_ (v := .int .u8 (Q3 V 31)) (hv := by intro W; exact J9h (by decide) rfl rfl rfl)
  refine MW ?_ (v := .bool true) (hv := by intro W; exact J9i (Q16 hV true U.out) rfl rfl rfl)
  refine MW ?_ (v := .bool true)
  refine MZ fun W hS => ?_
  go_upto_region 2 with fail
  refine RL hS ?_
  clear hS
  refine MV ?_
  refine MC (v := .agg (J0 .i64 16 (Q6 Y))) (fun W hS => ξ W) ?_
  refine MN (z := J0 .i64 16 (Q6 0)) (t := 124) ?_
  intro D7
  refine MR 0 ?_ 
  refine MZ fun W hS => ?_
  go_upto_region 3 with fail
  refine RL hS ?_
  clear hS
  refine MV ?_
  refine MY (m := (lb 32 V)) (by first | omega | (rw [J8]; decide)) ?_
  intro D4
  refine MV ?_
  refine MZ fun W hS => ?_
  go_upto_region 4 with fail
  refine RL hS ?_
  clear hS
  refine MV ?_
  refine MV ?_
  refine MIw 0 31 (l := lb 32 V) (by rw [J8]; decide) ?_
  intro D3 D9 Ψ
  refine MF (v := .int .u8 (Q3 V 31)) (fun W hS => X8 rfl rfl (zat Ψ.out (hS.ozl (i := 0) rfl)) (by kernel_rfl)) ?_
  refine MW ?_ (v := .int .u8 (bits .and .u8 (Q3 V 31) 127)) (hv := by intro W; exact J2r rfl rfl rfl rfl)
  refine MIw 0 31 (l := lb 32 V) (by rw [J8]; decide) ?_
  intro D6 G4 Γ
  refine MPw 0 (j := 31) (l := lb 32 V) (l' := lb 32 (V % 2 ^ 255)) (by rw [J8]; decide) Γ.out (Q2n (Q5i hV)) (by rw [J8, J8]) ?_
  refine MZ fun W hS => ?_
  by_cases hc : Y = V % 2 ^ 255
  ·
   have D := Lib.hid hc
   clear hc
   go_upto_region 5 with fail
   refine RS hS ?_
   clear hS
   refine ML 1 ?_
   refine MC (v := str (lb 32 Y)) (fun W hS => J4t Y W) ?_
   refine MV ?_
   refine MF (v := str (lb 32 (V % 2 ^ 255))) (fun W hS => J2j (hS.ozl (i := 0) rfl) rfl rfl) ?_
   refine MW ?_ (v := .bool false) (hv := fun _ => J18 (l := (lb 32 Y)) (m := (lb 32 (V % 2 ^ 255))) (b := true) (decide_eq_true (by rw [D.out])) rfl rfl rfl)
   refine MZx fun W hS => ?_
   go_upto_region 7 with fail
   refine RL hS ?_
   clear hS
   refine ML 1 ?_
   refine ML 1 ?_
   refine MC (v := .agg (J0 .i64 16 (Q6 N1))) (fun W hS => γ W) ?_
   refine MN (z := J0 .i64 16 (Q6 0)) (t := 124) ?_
   intro G3
   refine MR 0 ?_ 
   refine MZ fun W hS => ?_
   have α : R = dX Y := by unfold dX; rw [HR.out, Q7d Y S.out ε.out]; unfold dV; rw [ζ.out, η.out, S.out]
   have β : B = dB Y := by unfold dB; rw [HB.out, Q7d Y S.out ε.out]; unfold dV; rw [ζ.out, η.out, S.out]
   have τ := Lib.hid α
   have ν := Lib.hid β
   clear α β
   by_cases hb : B = true
   ·
    have G := Lib.hid hb
    clear hb
    go_upto_region 8 with fail
    refine RXn 12 [⟨12, 8, J0 .i64 16 (Q6 0), 124⟩] hS ?_ (by simp only [List.forall_mem_cons]; exact ⟨⟨_, rfl, rfl, rfl, fun _ _ => by kernel_rfl⟩, fun _ h => by cases h⟩)
    clear hS
    refine ML 0 ?_
    refine MW ?_ (v := .agg (J0 .i64 16 (Q6 1))) (hv := by intro W; kernel_rfl)
    refine MC (v := .agg (J0 .i64 16 (Q6 N2))) (fun W hS => X W) ?_
    refine MC (v := .agg (J0 .i64 16 (Q6 DD))) (fun W hS => Q92 W) ?_
    refine ML 0 ?_
    refine MC (v := .agg (J0 .i64 16 (Q6 N3))) (fun W hS => Z W) ?_
    refine MW ?_ (v := .agg (J0 .i64 16 (Q6 1))) (hv := by intro W; kernel_rfl)
    refine MC (v := .agg (J0 .i64 16 (Q6 N4))) (fun W hS => T W) ?_
    rw [G.out] at M
    refine MC (v := .tuple #[.agg (J0 .i64 16 (Q6 R)), .bool true]) (fun W hS => M W) ?_
    refine MV ?_
    refine MV ?_
    refine MW ?_ (v := .bool true)
    refine MZB fun G7 => ?_
    refine MR 0 ?_ 
    refine MW ?_ (v := .bool true)
    refine MZn fun W hS => ?_
    by_cases h0 : R = 0
    ·
     have J := Lib.hid h0
     clear h0
     go_upto_region 9 with fail
     refine RL hS ?_
     clear hS
     refine MW ?_ (v := .bool true)
     refine MW ?_ (v := .bool false)
     refine MW ?_ (v := .bool false)
     refine ML 0 ?_
     refine MW ?_ (v := .agg (J0 .i64 16 (Q6 0))) (hv := by intro W; kernel_rfl)
     rw [decide_eq_true J.out] at N
     refine MW ?_ (v := .bool true) (hv := fun _ => J0t ((N) _) (by kernel_rfl) rfl rfl rfl)
     refine MW ?_ (v := .bool true)
     refine MW ?_ (v := .bool true)
     refine MW ?_ (v := .bool true)
     refine MW ?_ (v := .bool true)
     refine MZ fun W hS => ?_
     go_upto_region 10 with fail
     refine RL hS ?_
     clear hS
     refine MW ?_ (v := .agg (p3 0 0 0)) (hv := by intro W; kernel_rfl)
     refine MR 4 ?_ (hz := by rw [Q7]; kernel_rfl) (hs := by first | rw [Q7, Q7] | rw [Q7] | kernel_rfl) (h1 := J1x)
     refine MW ?_ (v := .int .i64 15)
     refine MZ fun W hS => ?_
     go_wp2
     exact bodyPost_ret (J01 rfl rfl rfl (hS.blk (i := 4) rfl) (by kernel_rfl) (by rw [Q7]; kernel_rfl)) rfl ⟨rfl, hS.ext⟩
    have J := Lib.hid h0
    clear h0
    go_upto_region 9 with fail
    refine RL hS ?_
    clear hS
    refine MW ?_ (v := .bool true)
    refine MW ?_ (v := .bool false)
    refine MW ?_ (v := .bool false)
    refine ML 0 ?_
    refine MW ?_ (v := .agg (J0 .i64 16 (Q6 0))) (hv := by intro W; kernel_rfl)
    rw [decide_eq_false J.out] at N
    refine MW ?_ (v := .bool false) (hv := fun _ => J0t ((N) _) (by kernel_rfl) rfl rfl rfl)
    refine MW ?_ (v := .bool false)
    refine MS ?_
    refine MW ?_ (v := .bool false)
    refine MW ?_ (v := .bool false)
    refine MZ fun W hS => ?_
    exact absurd (J9c (D.out ▸ lY) (by rw [← D.out, ← ν.out]; exact G.out) (fun h => J.out (by rw [τ.out, D.out]; exact h.2))) (by rw [hok]; decide)
   rw [Bool.not_eq_true] at hb
   have G := Lib.hid hb
   clear hb
   go_upto_region 8 with fail
   refine RXn 12 [⟨12, 8, J0 .i64 16 (Q6 0), 124⟩] hS ?_ (by simp only [List.forall_mem_cons]; exact ⟨⟨_, rfl, rfl, rfl, fun _ _ => by kernel_rfl⟩, fun _ h => by cases h⟩)
   clear hS
   refine ML 0 ?_
   refine MW ?_ (v := .agg (J0 .i64 16 (Q6 1))) (hv := by intro W; kernel_rfl)
   refine MC (v := .agg (J0 .i64 16 (Q6 N2))) (fun W hS => X W) ?_
   refine MC (v := .agg (J0 .i64 16 (Q6 DD))) (fun W hS => Q92 W) ?_
   refine ML 0 ?_
   refine MC (v := .agg (J0 .i64 16 (Q6 N3))) (fun W hS => Z W) ?_
   refine MW ?_ (v := .agg (J0 .i64 16 (Q6 1))) (hv := by intro W; kernel_rfl)
   refine MC (v := .agg (J0 .i64 16 (Q6 N4))) (fun W hS => T W) ?_
   rw [G.out] at M
   refine MC (v := .tuple #[.agg (J0 .i64 16 (Q6 R)), .bool false]) (fun W hS => M W) ?_
   refine MV ?_
   refine MV ?_
   refine MW ?_ (v := .bool false)
   refine MZB fun G6 => ?_
   refine MR 0 ?_ 
   refine MW ?_ (v := .bool false)
   refine MZn fun W hS => ?_
   go_upto_region 9 with fail
   refine RL hS ?_
   clear hS
   refine MW ?_ (v := .bool false)
   refine MW ?_ (v := .bool true)
   refine MW ?_ (v := .bool true)
   refine MS ?_
   refine MS ?_
   refine MS ?_
   refine MS ?_
   refine MS ?_
   refine MS ?_
   refine MW ?_ (v := .bool true)
   refine MZ fun W hS => ?_
   go_upto_region 10 with fail
   refine RL hS ?_
   clear hS
   refine MW ?_ (v := .agg (p3 0 0 0)) (hv := by intro W; kernel_rfl)
   refine MR 4 ?_ (hz := by rw [Q7]; kernel_rfl) (hs := by first | rw [Q7, Q7] | rw [Q7] | kernel_rfl) (h1 := J1x)
   refine MW ?_ (v := .int .i64 15)
   refine MZ fun W hS => ?_
   go_wp2
   exact bodyPost_ret (J01 rfl rfl rfl (hS.blk (i := 4) rfl) (by kernel_rfl) (by rw [Q7]; kernel_rfl)) rfl ⟨rfl, hS.ext⟩
  have D := Lib.hid hc
  clear hc
  go_upto_region 5 with fail
  refine RS hS ?_
  clear hS
  refine ML 1 ?_
  refine MC (v := str (lb 32 Y)) (fun W hS => J4t Y W) ?_
  refine MV ?_
  refine MF (v := str (lb 32 (V % 2 ^ 255))) (fun W hS => J2j (hS.ozl (i := 0) rfl) rfl rfl) ?_
  refine MW ?_ (v := .bool true) (hv := fun _ => J18 (l := (lb 32 Y)) (m := (lb 32 (V % 2 ^ 255))) (b := false) (decide_eq_false (fun e => D.out (Q4u (Q13 lY) (J9d V) e))) rfl rfl rfl)
  refine MZx fun W hS => ?_
  go_upto_region 6 with fail
  refine RL hS ?_
  clear hS
  refine MW ?_ (v := .agg (p3 0 0 0)) (hv := by intro W; kernel_rfl)
  refine MR 2 ?_ (hz := by rw [Q7]; kernel_rfl) (hs := by first | rw [Q7, Q7] | rw [Q7] | kernel_rfl) (h1 := J1x)
  refine MW ?_ (v := .int .i64 15)
  refine MZ fun W hS => ?_
  go_wp2
  exact bodyPost_ret (J01 rfl rfl rfl (hS.blk (i := 2) rfl) (by kernel_rfl) (by rw [Q7]; kernel_rfl)) rfl ⟨rfl, hS.ext⟩
 have U := Lib.hid ht
 clear ht
 go_upto_region 1 with fail
 refine RL hS ?_
 clear hS
 refine MV ?_
 refine MW ?_ (v := .int .u8 (Q3 V 31)) (hv := by intro W; exact J9h (by decide) rfl rfl rfl)
 refine MW ?_ (v := .bool false) (hv := by intro W; exact J9i (Q16 hV false (Bool.eq_false_iff.2 U.out)) rfl rfl rfl)
 refine MW ?_ (v := .bool false)
 refine MZ fun W hS => ?_
 go_upto_region 2 with fail
 refine RL hS ?_
 clear hS
 refine MV ?_
 refine MC (v := .agg (J0 .i64 16 (Q6 Y))) (fun W hS => ξ W) ?_
 refine MN (z := J0 .i64 16 (Q6 0)) (t := 124) ?_
 intro D5
 refine MR 0 ?_ 
 refine MZ fun W hS => ?_
 go_upto_region 3 with fail
 refine RL hS ?_
 clear hS
 refine MV ?_
 refine MY (m := (lb 32 V)) (by first | omega | (rw [J8]; decide)) ?_
 intro G5
 refine MV ?_
 refine MZ fun W hS => ?_
 go_upto_region 4 with fail
 refine RL hS ?_
 clear hS
 refine MV ?_
 refine MV ?_
 refine MIw 0 31 (l := lb 32 V) (by rw [J8]; decide) ?_
 intro Ω D0 χ
 refine MF (v := .int .u8 (Q3 V 31)) (fun W hS => X8 rfl rfl (zat χ.out (hS.ozl (i := 0) rfl)) (by kernel_rfl)) ?_
 refine MW ?_ (v := .int .u8 (bits .and .u8 (Q3 V 31) 127)) (hv := by intro W; exact J2r rfl rfl rfl rfl)
 refine MIw 0 31 (l := lb 32 V) (by rw [J8]; decide) ?_
 intro D1 D2 φ
 refine MPw 0 (j := 31) (l := lb 32 V) (l' := lb 32 (V % 2 ^ 255)) (by rw [J8]; decide) φ.out (Q2n (Q5i hV)) (by rw [J8, J8]) ?_
 refine MZ fun W hS => ?_
 by_cases hc : Y = V % 2 ^ 255
 ·
  have D := Lib.hid hc
  clear hc
  go_upto_region 5 with fail
  refine RS hS ?_
  clear hS
  refine ML 1 ?_
  refine MC (v := str (lb 32 Y)) (fun W hS => J4t Y W) ?_
  refine MV ?_
  refine MF (v := str (lb 32 (V % 2 ^ 255))) (fun W hS => J2j (hS.ozl (i := 0) rfl) rfl rfl) ?_
  refine MW ?_ (v := .bool false) (hv := fun _ => J18 (l := (lb 32 Y)) (m := (lb 32 (V % 2 ^ 255))) (b := true) (decide_eq_true (by rw [D.out])) rfl rfl rfl)
  refine MZx fun W hS => ?_
  go_upto_region 7 with fail
  refine RL hS ?_
  clear hS
  refine ML 1 ?_
  refine ML 1 ?_
  refine MC (v := .agg (J0 .i64 16 (Q6 N1))) (fun W hS => γ W) ?_
  refine MN (z := J0 .i64 16 (Q6 0)) (t := 124) ?_
  intro G0
  refine MR 0 ?_ 
  refine MZ fun W hS => ?_
  have α : R = dX Y := by unfold dX; rw [HR.out, Q7d Y S.out ε.out]; unfold dV; rw [ζ.out, η.out, S.out]
  have β : B = dB Y := by unfold dB; rw [HB.out, Q7d Y S.out ε.out]; unfold dV; rw [ζ.out, η.out, S.out]
  have τ := Lib.hid α
  have ν := Lib.hid β
  clear α β
  by_cases hb : B = true
  ·
   have G := Lib.hid hb
   clear hb
   go_upto_region 8 with fail
   refine RXn 12 [⟨12, 8, J0 .i64 16 (Q6 0), 124⟩] hS ?_ (by simp only [List.forall_mem_cons]; exact ⟨⟨_, rfl, rfl, rfl, fun _ _ => by kernel_rfl⟩, fun _ h => by cases h⟩)
   clear hS
   refine ML 0 ?_
   refine MW ?_ (v := .agg (J0 .i64 16 (Q6 1))) (hv := by intro W; kernel_rfl)
   refine MC (v := .agg (J0 .i64 16 (Q6 N2))) (fun W hS => X W) ?_
   refine MC (v := .agg (J0 .i64 16 (Q6 DD))) (fun W hS => Q92 W) ?_
   refine ML 0 ?_
   refine MC (v := .agg (J0 .i64 16 (Q6 N3))) (fun W hS => Z W) ?_
   refine MW ?_ (v := .agg (J0 .i64 16 (Q6 1))) (hv := by intro W; kernel_rfl)
   refine MC (v := .agg (J0 .i64 16 (Q6 N4))) (fun W hS => T W) ?_
   rw [G.out] at M
   refine MC (v := .tuple #[.agg (J0 .i64 16 (Q6 R)), .bool true]) (fun W hS => M W) ?_
   refine MV ?_
   refine MV ?_
   refine MW ?_ (v := .bool true)
   refine MZB fun D8 => ?_
   refine MR 0 ?_ 
   refine MW ?_ (v := .bool true)
   refine MZn fun W hS => ?_
   by_cases h0 : R = 0
   ·
    have J := Lib.hid h0
    clear h0
    go_upto_region 9 with fail
    refine RL hS ?_
    clear hS
    refine MW ?_ (v := .bool true)
    refine MW ?_ (v := .bool false)
    refine MW ?_ (v := .bool false)
    refine ML 0 ?_
    refine MW ?_ (v := .agg (J0 .i64 16 (Q6 0))) (hv := by intro W; kernel_rfl)
    rw [decide_eq_true J.out] at N
    refine MW ?_ (v := .bool true) (hv := fun _ => J0t ((N) _) (by kernel_rfl) rfl rfl rfl)
    refine MW ?_ (v := .bool true)
    refine MW ?_ (v := .bool false)
    refine MW ?_ (v := .bool false)
    refine MW ?_ (v := .bool false)
    refine MZ fun W hS => ?_
    exact absurd (J9c (D.out ▸ lY) (by rw [← D.out, ← ν.out]; exact G.out) (fun h => U.out h.1)) (by rw [hok]; decide)
   have J := Lib.hid h0
   clear h0
   go_upto_region 9 with fail
   refine RL hS ?_
   clear hS
   refine MW ?_ (v := .bool true)
   refine MW ?_ (v := .bool false)
   refine MW ?_ (v := .bool false)
   refine ML 0 ?_
   refine MW ?_ (v := .agg (J0 .i64 16 (Q6 0))) (hv := by intro W; kernel_rfl)
   rw [decide_eq_false J.out] at N
   refine MW ?_ (v := .bool false) (hv := fun _ => J0t ((N) _) (by kernel_rfl) rfl rfl rfl)
   refine MW ?_ (v := .bool false)
   refine MS ?_
   refine MW ?_ (v := .bool false)
   refine MW ?_ (v := .bool false)
   refine MZ fun W hS => ?_
   exact absurd (J9c (D.out ▸ lY) (by rw [← D.out, ← ν.out]; exact G.out) (fun h => U.out h.1)) (by rw [hok]; decide)
  rw [Bool.not_eq_true] at hb
  have G := Lib.hid hb
  clear hb
  go_upto_region 8 with fail
  refine RXn 12 [⟨12, 8, J0 .i64 16 (Q6 0), 124⟩] hS ?_ (by simp only [List.forall_mem_cons]; exact ⟨⟨_, rfl, rfl, rfl, fun _ _ => by kernel_rfl⟩, fun _ h => by cases h⟩)
  clear hS
  refine ML 0 ?_
  refine MW ?_ (v := .agg (J0 .i64 16 (Q6 1))) (hv := by intro W; kernel_rfl)
  refine MC (v := .agg (J0 .i64 16 (Q6 N2))) (fun W hS => X W) ?_
  refine MC (v := .agg (J0 .i64 16 (Q6 DD))) (fun W hS => Q92 W) ?_
  refine ML 0 ?_
  refine MC (v := .agg (J0 .i64 16 (Q6 N3))) (fun W hS => Z W) ?_
  refine MW ?_ (v := .agg (J0 .i64 16 (Q6 1))) (hv := by intro W; kernel_rfl)
  refine MC (v := .agg (J0 .i64 16 (Q6 N4))) (fun W hS => T W) ?_
  rw [G.out] at M
  refine MC (v := .tuple #[.agg (J0 .i64 16 (Q6 R)), .bool false]) (fun W hS => M W) ?_
  refine MV ?_
  refine MV ?_
  refine MW ?_ (v := .bool false)
  refine MZB fun G2 => ?_
  refine MR 0 ?_ 
  refine MW ?_ (v := .bool false)
  refine MZn fun W hS => ?_
  go_upto_region 9 with fail
  refine RL hS ?_
  clear hS
  refine MW ?_ (v := .bool false)
  refine MW ?_ (v := .bool true)
  refine MW ?_ (v := .bool true)
  refine MS ?_
  refine MS ?_
  refine MS ?_
  refine MS ?_
  refine MS ?_
  refine MS ?_
  refine MW ?_ (v := .bool true)
  refine MZ fun W hS => ?_
  go_upto_region 10 with fail
  refine RL hS ?_
  clear hS
  refine MW ?_ (v := .agg (p3 0 0 0)) (hv := by intro W; kernel_rfl)
  refine MR 4 ?_ (hz := by rw [Q7]; kernel_rfl) (hs := by first | rw [Q7, Q7] | rw [Q7] | kernel_rfl) (h1 := J1x)
  refine MW ?_ (v := .int .i64 15)
  refine MZ fun W hS => ?_
  go_wp2
  exact bodyPost_ret (J01 rfl rfl rfl (hS.blk (i := 4) rfl) (by kernel_rfl) (by rw [Q7]; kernel_rfl)) rfl ⟨rfl, hS.ext⟩
 have D := Lib.hid hc
 clear hc
 go_upto_region 5 with fail
 refine RS hS ?_
 clear hS
 refine ML 1 ?_
 refine MC (v := str (lb 32 Y)) (fun W hS => J4t Y W) ?_
 refine MV ?_
 refine MF (v := str (lb 32 (V % 2 ^ 255))) (fun W hS => J2j (hS.ozl (i := 0) rfl) rfl rfl) ?_
 refine MW ?_ (v := .bool true) (hv := fun _ => J18 (l := (lb 32 Y)) (m := (lb 32 (V % 2 ^ 255))) (b := false) (decide_eq_false (fun e => D.out (Q4u (Q13 lY) (J9d V) e))) rfl rfl rfl)
 refine MZx fun W hS => ?_
 go_upto_region 6 with fail
 refine RL hS ?_
 clear hS
 refine MW ?_ (v := .agg (p3 0 0 0)) (hv := by intro W; kernel_rfl)
 refine MR 2 ?_ (hz := by rw [Q7]; kernel_rfl) (hs := by first | rw [Q7, Q7] | rw [Q7] | kernel_rfl) (h1 := J1x)
 refine MW ?_ (v := .int .i64 15)
 refine MZ fun W hS => ?_
 go_wp2
 exact bodyPost_ret (J01 rfl rfl rfl (hS.blk (i := 2) rfl) (by kernel_rfl) (by rw [Q7]; kernel_rfl)) rfl ⟨rfl, hS.ext⟩
end
end Go.Proofs.YtejkmhgkkibafaaGreatDoor.S8

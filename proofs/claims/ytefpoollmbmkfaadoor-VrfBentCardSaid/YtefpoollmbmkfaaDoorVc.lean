/- The document's point, challenge and Sum (vrf). Conditions: the sums' tables hold their numbers. The document's Sum, Prove, Check (vrf). Conditions: the sums' tables hold their numbers. -/
import Derived.Test.YtefpoollmbmkfaaDoorGc
import Derived.Test.YtefpoollmbmkfaaDoorVb
import Derived.Test.YtefpoollmbmkfaaDoorSgD
set_option linter.unusedSimpArgs false
set_option linter.unusedVariables false
namespace Go.Proofs.YtefpoollmbmkfaaDoor
set_option maxHeartbeats 2000000
set_option maxRecDepth 100000
open Go.RowKit
attribute [local irreducible] wpList
open Sc (LL J21)
variable {kn : Kn}
attribute [local irreducible] hs
theorem Q2l {A B : Nat} {v : Value} {w : World} (h : A = B) (c : Calls Tryd.prog 57 #[str (lb 32 B)] w fun e w' => Ret v w w' e) : Calls Tryd.prog 57 #[str (lb 32 A)] w fun e w' => Ret v w w' e := h ▸ c
theorem Q9a {n k V : Nat} (h : k ≤ n) : List.take k (lb n V) = lb k V := by
  rw [show n = k + (n - k) by omega, Q3c, List.take_left' (J8 _ _)]
theorem Z5d {n k m V : Nat} (h : n = k + m) : List.drop k (lb n V) = lb m (V / 2 ^ (8 * k)) := by
  rw [h, Q3c, List.drop_left' (J8 _ _)]
theorem V41 (P : Nat) : lb 32 P = lb 32 (pG P) := (Q3b 32 P).symm
theorem Y61 {n A B : Nat} (h : ∀ j, Q6 A j = Q6 B j) : lb n A = lb n B := by
  unfold lb
  refine List.map_congr_left fun j _ => ?_
  have h1 : A / 2 ^ (8 * j) % 256 = B / 2 ^ (8 * j) % 256 := Int.ofNat.inj (h j)
  rw [h1]
theorem V42 (P k : Nat) (hk : k = 48) : lb 32 (P / 2 ^ (8 * k)) = lb 32 (pN P) := Y61 fun j => by rw [Q4n, Y20, hk]
theorem V43 (P : Nat) : lb 16 (P / 2 ^ (8 * 32)) = lb 16 (pC P) := by
  unfold pC
  rw [show J28 = 2 ^ (8 * 16) from rfl, Q3b]
section
variable {w : World} {o : Oper} {a : Act} {x y z : Operand} {t : TypeId}
theorem Y2f {l : List UInt8} {m n : Nat} (hm : m ≤ n) (hn : n ≤ l.length) (ho : o.op = .slice t x (some y) (some z) none) (ht : Tryd.prog.underlying t = some .string) (hx : a.eval x = str l) (hy : a.eval y = .int .i64 (m : Int)) (hz : a.eval z = .int .i64 (n : Int)) : (execOp a.eval o).run Tryd.prog w = .ok (.value (str ((l.take n).drop m))) w := by
  have h1 := J7e l
  have h2 := Q1c l m n
  unfold execOp
  simp only [ho, hx, hy, hz, str, Option.map]
  simp [Instr.sliceAt, Instr.slice, Instr.sliceBounds, Instr.sliceBound, asIntOf, run_underlying ht, Sem.run_bind, h1, h2, hn, hm]
theorem Y62 {V C : Nat} (hC : C = V % J28) (ho : o.op = .slice t x none (some y) none) (ht : Tryd.prog.underlying t = some .string) (hx : a.eval x = str (lb 64 V)) (hy : a.eval y = .int .i64 16) : (execOp a.eval o).run Tryd.prog w = .ok (.value (str (lb 16 C))) w := by
  have h := Q35 (w := w) (n := 16) (by rw [J8]; decide) ho ht hx hy
  rw [Q9a (by decide), ← Q3b] at h
  rw [hC]; exact h
theorem Q08 {V : Nat} (ho : o.op = .slice t x none (some y) none) (ht : Tryd.prog.underlying t = some .string) (hx : a.eval x = str (lb 80 V)) (hy : a.eval y = .int .i64 32) : (execOp a.eval o).run Tryd.prog w = .ok (.value (str (lb 32 (pG V)))) w := by
  have h := Q35 (w := w) (n := 32) (by rw [J8]; decide) ho ht hx hy
  rw [Q9a (by decide), V41] at h
  exact h
theorem J5c {V : Nat} (ho : o.op = .slice t x (some y) none none) (ht : Tryd.prog.underlying t = some .string) (hx : a.eval x = str (lb 80 V)) (hy : a.eval y = .int .i64 48) : (execOp a.eval o).run Tryd.prog w = .ok (.value (str (lb 32 (pN V)))) w := by
  have h := Z6r (w := w) (n := 48) (by rw [J8]; decide) ho ht hx hy
  rw [Z5d (m := 32) rfl, V42 _ _ rfl] at h
  exact h
theorem Y2g {V : Nat} (ho : o.op = .slice t x (some y) (some z) none) (ht : Tryd.prog.underlying t = some .string) (hx : a.eval x = str (lb 80 V)) (hy : a.eval y = .int .i64 32) (hz : a.eval z = .int .i64 48) : (execOp a.eval o).run Tryd.prog w = .ok (.value (str (lb 16 (pC V)))) w := by
  have h := Y2f (w := w) (m := 32) (n := 48) (by decide) (by rw [J8]; decide) ho ht hx hy hz
  rw [Q9a (by decide), Z5d (m := 16) rfl, V43] at h
  exact h
end
theorem Q0q (n : Nat) : List.replicate n (0 : UInt8) = lb n 0 := by
  induction n with
  | zero => rfl
  | succ n ih => rw [J8t, List.replicate_succ, ih]; rfl

theorem Z0u {V : Nat} {L : List UInt8} (hL : L.length ≤ 1099511627776) (c0 : Nat) (h256 : c0 < 256) (hok : J2a V L c0 = true) (hlow : ∀ i, i < c0 → J2a V L i = false) :
  ∃ X Y Z, RD X Y Z (J22 V L c0) ∧ ∀ w, GR w → Calls Tryd.prog 62 #[str (lb 32 V), str L] w fun e w' => Ret (.tuple #[.agg (p3 X Y Z), .bool true]) w w' e := by
 obtain ⟨dx0, dr0, dc0⟩ := J6h (J5z V L c0) (candOk_iff.1 hok).1
 obtain ⟨dy0, hdy0⟩ := V2 (J3w V L c0 % 2 ^ 255)
 rw [← hdy0] at dr0 dc0
 clear hdy0
 obtain ⟨ex0, ey0, ez0, er0, ec0⟩ := J56 dr0
 replace er0 : RD ex0 ey0 ez0 (J22 V L c0) := er0
 refine ⟨ex0, ey0, ez0, er0, fun w hG => ?_⟩
 have off0 : Off [] w w := Off.refl _ _
 go_enter Tryd.func62, Tryd.ntmps62
 go_upto_region 0 with fail
 refine wp_region_lit ?_
 refine Ln ?_ (z := p3 0 0 0) (t := 78)
 intro Z7i W1 J10 hO h_
 have J2d := fbn off0 J10
 replace off0 := off0.o hO
 have k_t4 := h_
 clear hO h_ J10
 refine Lw ?_ (v := .bool false)
 refine J0 ?_
 go_wp2_with fail
 go_loopw [6] (fun ii wr => ∃ (i : Nat), (i ≤ c0) ∧ (ii = .int .i64 (i : Int)) ∧ Off [] w wr ∧ Blk wr Z7i (p3 0 0 0) 78)
  (fun ii _ => (256 - intOf ii).toNat)
 case atStart => exact ⟨0, Nat.zero_le _, rfl, off0, k_t4⟩
 case round =>
  obtain ⟨i, hi, rfl, off0, k_t4⟩ := hrel
  obtain ⟨W2, eW_⟩ := J3r off0
  subst eW_
  go_upto_region 2 with fail
  refine wp_region_lit ?_
  refine Lv ?_
  refine Lw ?_ (v := .bool true) (hv := by exact Q3e (i := i) (n := 256) (decide_eq_true (by omega)) rfl rfl rfl)
  refine J0 ?_
  by_cases hi0 : i = c0
  ·
   have _f := hi0
   subst hi0
   have hdo := (candOk_iff.1 hok).1
   have hne := (candOk_iff.1 hok).2
   go_upto_region 4 with fail
   refine wp_region_lit ?_
   refine Lv ?_
   refine J3m (l := [3, 1]) (m := (lb 32 V)) (by first | omega | (simp only [List.length_append, List.length_cons, List.length_nil, J8]; omega)) (by rfl) rfl rfl rfl ?_
   (try simp only [Act.put, mA, mB, mC])
   refine Lv ?_
   refine J3m (l := ([3, 1] ++ (lb 32 V))) (m := L) (by first | omega | (simp only [List.length_append, List.length_cons, List.length_nil, J8]; omega)) (by rfl) rfl rfl rfl ?_
   (try simp only [Act.put, mA, mB, mC])
   refine Lv ?_
   refine Lw ?_ (v := .int .u8 ((UInt8.ofNat i).toNat : Int)) (hv := by exact Q3f rfl rfl)
   refine LnS ?_ (z := #[.int .u8 ((UInt8.ofNat i).toNat : Int)]) (t := 5) (n := 1) (c := 1)
   intro Q7o W3 Q3v hO h_
   have Z7j : Value.ownBlock (.slice (some ⟨Q7o, 0, none⟩) 1 1) ≠ some Z7i := obn k_t4 Q3v
   replace k_t4 := k_t4.o hO
   replace off0 := off0.o hO
   have ow_s20 : Own W3 (.slice (some ⟨Q7o, 0, none⟩) 1 1) [UInt8.ofNat i] := V7 h_ (by rfl) (by show 1 ≤ maxLen; decide)
   clear hO h_ Q3v
   refine J2l (l := [UInt8.ofNat i]) (ow_s20.sl) (by rfl) rfl rfl ?_
   (try simp only [Act.put, mA, mB, mC])
   refine J3m (l := (([3, 1] ++ (lb 32 V)) ++ L)) (m := [UInt8.ofNat i]) (by first | omega | (simp only [List.length_append, List.length_cons, List.length_nil, J8]; omega)) (by rfl) rfl rfl rfl ?_
   (try simp only [Act.put, mA, mB, mC])
   refine J3m (l := ((([3, 1] ++ (lb 32 V)) ++ L) ++ [UInt8.ofNat i])) (m := [0]) (by first | omega | (simp only [List.length_append, List.length_cons, List.length_nil, J8]; omega)) (by rfl) rfl rfl rfl ?_
   (try simp only [Act.put, mA, mB, mC])
   obtain ⟨U1, hU1⟩ := V2 (hs (((([3, 1] ++ (lb 32 V)) ++ L) ++ [UInt8.ofNat i]) ++ [0]))
   have HU1 := Lib.hid hU1
   clear hU1
   refine Lr ?_ (Q2c HU1.out (by first | omega | (simp only [List.length_append, List.length_cons, List.length_nil, J8]; omega)) W3 (J59 hG off0.ext))
   intro W4 hO
   replace k_t4 := k_t4.o hO
   replace ow_s20 := Own.off ow_s20 hO f0
   replace off0 := off0.o hO
   clear hO
   refine Lv ?_
   refine J0 ?_
   go_upto_region 5 with fail
   refine wp_region_lit ?_
   refine Lv ?_
   refine Lw ?_ (v := str (lb 32 (lo U1))) (hv := by exact Q2b rfl Tryd.underlying9 rfl rfl)
   have hcb4 : lo U1 = J3w V L i := by rw [HU1.out]; exact congrArg (fun l => lo (hs l)) (by simp only [List.append_assoc, List.cons_append, List.nil_append] <;> rfl)
   refine Lr ?_ (Q2l hcb4 (dc0 W4))
   intro W5 hO
   replace k_t4 := k_t4.o hO
   replace ow_s20 := Own.off ow_s20 hO f0
   replace off0 := off0.o hO
   clear hO
   refine Lv ?_
   refine Lv ?_
   refine Lw ?_ (v := .int .i64 0)
   refine LnP ?_ (z := p3 0 0 0) (t := 78) (cells := p3 dx0 dy0 1) (hi := by rw [J3]; kernel_rfl) (hs := by first | rw [J3, J3] | rw [J3] | kernel_rfl) (h1 := by exact J0h)
   intro Z2u W7 V6 hO h_
   have nq_t4_t8 := bn k_t4 V6
   have Z7k := J0m (Own.lt ow_s20) V6
   have J1v := fbn off0 V6
   replace k_t4 := k_t4.o hO
   replace ow_s20 := Own.off ow_s20 hO f0
   replace off0 := off0.o hO
   have k_t8 := h_
   clear hO h_ V6
   refine Lw ?_ (v := .int .i64 0)
   refine J0 ?_
   go_upto_region 7 with fail
   refine wp_region_lit ?_
   refine L0 ?_ k_t8 (hi := by rw [J3]; kernel_rfl)
   refine Lr ?_ (ec0 W7)
   intro W8 hO
   replace k_t4 := k_t4.o hO
   replace k_t8 := k_t8.o hO
   replace ow_s20 := Own.off ow_s20 hO f0
   replace off0 := off0.o hO
   clear hO
   refine Lp ?_ k_t8 (cells := p3 ex0 ey0 ez0) (hi := by rw [J3]; kernel_rfl) (hs := by first | rw [J3, J3] | rw [J3] | kernel_rfl) (h1 := by exact J0h)
   intro W9 hO h_
   replace k_t8 : Blk W9 Z2u (p3 ex0 ey0 ez0) 78 := h_
   clear h_
   replace k_t4 := k_t4.p hO nq_t4_t8
   replace ow_s20 := Own.off ow_s20 hO (f1 Z7k)
   replace off0 := off0.p hO J1v
   clear hO
   refine J0 ?_
   go_upto_region 8 with fail
   refine Rx 4 ?_
   refine Xl ?_ k_t8 (hi := by rw [J3]; kernel_rfl)
   refine Xf ?_ (fun W hW => J6p W)
   have cs_ := J7c er0 J6q
   rw [show decide (J22 V L i = p0) = false from decide_eq_false hne] at cs_
   refine Xf ?_ (fun W hW => cs_ W)
   refine Xv ?_
   refine Q3 fun W10 hE => ?_
   have hO := Z6 hE
   replace k_t4 := k_t4.o hO
   replace k_t8 := k_t8.o hO
   replace ow_s20 := Own.off ow_s20 hO f0
   replace off0 := off0.o hO
   clear hO hE
   refine LN ?_
   go_upto_region 9 with fail
   refine wp_region_lit ?_
   refine L0 ?_ k_t8 (hi := by rw [J3]; kernel_rfl)
   refine Lp ?_ k_t4 (cells := p3 ex0 ey0 ez0) (hi := by rw [J3]; kernel_rfl) (hs := by first | rw [J3, J3] | rw [J3] | kernel_rfl) (h1 := by exact J0h)
   intro W11 hO h_
   replace k_t4 : Blk W11 Z7i (p3 ex0 ey0 ez0) 78 := h_
   clear h_
   replace k_t8 := k_t8.p hO nq_t4_t8.symm
   replace ow_s20 := Own.off ow_s20 hO (f1 Z7j)
   replace off0 := off0.p hO J2d
   clear hO
   refine Lw ?_ (v := .bool true)
   refine J0 ?_
   go_wp2
   exact bodyPost_ret (V8 rfl rfl rfl k_t4 (by kernel_rfl) (by rw [J3]; kernel_rfl)) rfl ⟨rfl, off0.ext⟩
  ·
   have _f := hi0
   have hbad := hlow i (by omega)
   go_upto_region 4 with fail
   refine wp_region_lit ?_
   refine Lv ?_
   refine J3m (l := [3, 1]) (m := (lb 32 V)) (by first | omega | (simp only [List.length_append, List.length_cons, List.length_nil, J8]; omega)) (by rfl) rfl rfl rfl ?_
   (try simp only [Act.put, mA, mB, mC])
   refine Lv ?_
   refine J3m (l := ([3, 1] ++ (lb 32 V))) (m := L) (by first | omega | (simp only [List.length_append, List.length_cons, List.length_nil, J8]; omega)) (by rfl) rfl rfl rfl ?_
   (try simp only [Act.put, mA, mB, mC])
   refine Lv ?_
   refine Lw ?_ (v := .int .u8 ((UInt8.ofNat i).toNat : Int)) (hv := by exact Q3f rfl rfl)
   refine LnS ?_ (z := #[.int .u8 ((UInt8.ofNat i).toNat : Int)]) (t := 5) (n := 1) (c := 1)
   intro Q7o W3 Q3v hO h_
   replace k_t4 := k_t4.o hO
   replace off0 := off0.o hO
   have ow_s20 : Own W3 (.slice (some ⟨Q7o, 0, none⟩) 1 1) [UInt8.ofNat i] := V7 h_ (by rfl) (by show 1 ≤ maxLen; decide)
   clear hO h_ Q3v
   refine J2l (l := [UInt8.ofNat i]) (ow_s20.sl) (by rfl) rfl rfl ?_
   (try simp only [Act.put, mA, mB, mC])
   refine J3m (l := (([3, 1] ++ (lb 32 V)) ++ L)) (m := [UInt8.ofNat i]) (by first | omega | (simp only [List.length_append, List.length_cons, List.length_nil, J8]; omega)) (by rfl) rfl rfl rfl ?_
   (try simp only [Act.put, mA, mB, mC])
   refine J3m (l := ((([3, 1] ++ (lb 32 V)) ++ L) ++ [UInt8.ofNat i])) (m := [0]) (by first | omega | (simp only [List.length_append, List.length_cons, List.length_nil, J8]; omega)) (by rfl) rfl rfl rfl ?_
   (try simp only [Act.put, mA, mB, mC])
   obtain ⟨U2, hU2⟩ := V2 (hs (((([3, 1] ++ (lb 32 V)) ++ L) ++ [UInt8.ofNat i]) ++ [0]))
   have HU2 := Lib.hid hU2
   clear hU2
   refine Lr ?_ (Q2c HU2.out (by first | omega | (simp only [List.length_append, List.length_cons, List.length_nil, J8]; omega)) W3 (J59 hG off0.ext))
   intro W4 hO
   replace k_t4 := k_t4.o hO
   replace off0 := off0.o hO
   clear hO
   refine Lv ?_
   refine J0 ?_
   by_cases hdo : dOk (J3w V L i) = true
   ·
    have _f := hdo
    go_upto_region 5 with fail
    refine wp_region_lit ?_
    refine Lv ?_
    refine Lw ?_ (v := str (lb 32 (lo U2))) (hv := by exact Q2b rfl Tryd.underlying9 rfl rfl)
    have hcb4 : lo U2 = J3w V L i := by rw [HU2.out]; exact congrArg (fun l => lo (hs l)) (by simp only [List.append_assoc, List.cons_append, List.nil_append] <;> rfl)
    obtain ⟨dx, dr, dc⟩ := J6h (J5z V L i) hdo
    obtain ⟨dy, hdy⟩ := V2 (J3w V L i % 2 ^ 255)
    rw [← hdy] at dr dc
    clear hdy
    refine Lr ?_ (Q2l hcb4 (dc W4))
    intro W5 hO
    replace k_t4 := k_t4.o hO
    replace off0 := off0.o hO
    clear hO
    refine Lv ?_
    refine Lv ?_
    refine Lw ?_ (v := .int .i64 0)
    refine LnP ?_ (z := p3 0 0 0) (t := 78) (cells := p3 dx dy 1) (hi := by rw [J3]; kernel_rfl) (hs := by first | rw [J3, J3] | rw [J3] | kernel_rfl) (h1 := by exact J0h)
    intro Z2u W7 V6 hO h_
    have nq_t4_t8 := bn k_t4 V6
    have J1v := fbn off0 V6
    replace k_t4 := k_t4.o hO
    replace off0 := off0.o hO
    have k_t8 := h_
    clear hO h_ V6
    refine Lw ?_ (v := .int .i64 0)
    refine J0 ?_
    go_upto_region 7 with fail
    refine wp_region_lit ?_
    refine L0 ?_ k_t8 (hi := by rw [J3]; kernel_rfl)
    obtain ⟨ex, ey, ez, er, ec⟩ := J56 dr
    refine Lr ?_ (ec W7)
    intro W8 hO
    replace k_t4 := k_t4.o hO
    replace k_t8 := k_t8.o hO
    replace off0 := off0.o hO
    clear hO
    refine Lp ?_ k_t8 (cells := p3 ex ey ez) (hi := by rw [J3]; kernel_rfl) (hs := by first | rw [J3, J3] | rw [J3] | kernel_rfl) (h1 := by exact J0h)
    intro W9 hO h_
    replace k_t8 : Blk W9 Z2u (p3 ex ey ez) 78 := h_
    clear h_
    replace k_t4 := k_t4.p hO nq_t4_t8
    replace off0 := off0.p hO J1v
    clear hO
    refine J0 ?_
    go_upto_region 8 with fail
    refine Rx 4 ?_
    refine Xl ?_ k_t8 (hi := by rw [J3]; kernel_rfl)
    refine Xf ?_ (fun W hW => J6p W)
    have cs_ := J7c er J6q
    rw [show decide (pm (dPt (J3w V L i)) 8 = p0) = true from decide_eq_true (Q2h hbad hdo)] at cs_
    refine Xf ?_ (fun W hW => cs_ W)
    refine Xv ?_
    refine Q3 fun W10 hE => ?_
    have hO := Z6 hE
    replace k_t4 := k_t4.o hO
    replace off0 := off0.o hO
    clear hO hE
    refine LN ?_
    go_upto_region 3 with fail
    refine wp_region_lit ?_
    refine Lv ?_
    refine Lw ?_ (v := .int .i64 (((i + 1 : Nat) : Int))) (hv := by go_simp; (try simp only [IntKind.wrap_i64]); (try omega))
    refine Lv ?_
    refine J0 ?_
    go_wp2
    go_roundw
    case rel => exact ⟨i + 1, by omega, by go_num, off0, k_t4⟩
    case measure => simp [intOf]; omega
   ·
    have _f := hdo
    replace hdo : dOk (J3w V L i) = false := by simpa using hdo
    go_upto_region 5 with fail
    refine wp_region_lit ?_
    refine Lv ?_
    refine Lw ?_ (v := str (lb 32 (lo U2))) (hv := by exact Q2b rfl Tryd.underlying9 rfl rfl)
    have hcb4 : lo U2 = J3w V L i := by rw [HU2.out]; exact congrArg (fun l => lo (hs l)) (by simp only [List.append_assoc, List.cons_append, List.nil_append] <;> rfl)
    refine Lr ?_ (Q2l hcb4 (Q8g (J5z V L i) hdo W4))
    intro W5 hO
    replace k_t4 := k_t4.o hO
    replace off0 := off0.o hO
    clear hO
    refine Lv ?_
    refine Lv ?_
    refine Lw ?_ (v := .int .i64 15)
    refine LnP ?_ (z := p3 0 0 0) (t := 78) (cells := p3 0 0 0) (hi := by rw [J3]; kernel_rfl) (hs := by first | rw [J3, J3] | rw [J3] | kernel_rfl) (h1 := by exact J0h)
    intro Z2u W7 V6 hO h_
    replace k_t4 := k_t4.o hO
    replace off0 := off0.o hO
    clear hO h_ V6
    refine Lw ?_ (v := .int .i64 15)
    refine J0 ?_
    go_upto_region 3 with fail
    refine wp_region_lit ?_
    refine Lv ?_
    refine Lw ?_ (v := .int .i64 (((i + 1 : Nat) : Int))) (hv := by go_simp; (try simp only [IntKind.wrap_i64]); (try omega))
    refine Lv ?_
    refine J0 ?_
    go_wp2
    go_roundw
    case rel => exact ⟨i + 1, by omega, by go_num, off0, k_t4⟩
    case measure => simp [intOf]; omega
theorem Z0v {V : Nat} {L : List UInt8} (hL : L.length ≤ 1099511627776) (hlow : ∀ i, i < 256 → J2a V L i = false) :
  ∀ w, GR w → Calls Tryd.prog 62 #[str (lb 32 V), str L] w fun e w' => Ret (.tuple #[.agg (p3 0 0 0), .bool false]) w w' e := by
 intro w hG
 have off0 : Off [] w w := Off.refl _ _
 go_enter Tryd.func62, Tryd.ntmps62
 go_upto_region 0 with fail
 refine wp_region_lit ?_
 refine Ln ?_ (z := p3 0 0 0) (t := 78)
 intro Z7i W1 J10 hO h_
 have J2d := fbn off0 J10
 replace off0 := off0.o hO
 have k_t4 := h_
 clear hO h_ J10
 refine Lw ?_ (v := .bool false)
 refine J0 ?_
 go_wp2_with fail
 go_loopw [6] (fun ii wr => ∃ (i : Nat), (i ≤ 256) ∧ (ii = .int .i64 (i : Int)) ∧ Off [] w wr ∧ Blk wr Z7i (p3 0 0 0) 78)
  (fun ii _ => (256 - intOf ii).toNat)
 case atStart => exact ⟨0, Nat.zero_le _, rfl, off0, k_t4⟩
 case round =>
  obtain ⟨i, hi, rfl, off0, k_t4⟩ := hrel
  obtain ⟨W2, eW_⟩ := J3r off0
  subst eW_
  by_cases h256 : i < 256
  ·
   have _f := h256
   have hbad := hlow i h256
   go_upto_region 2 with fail
   refine wp_region_lit ?_
   refine Lv ?_
   refine Lw ?_ (v := .bool true) (hv := by exact Q3e (i := i) (n := 256) (decide_eq_true h256) rfl rfl rfl)
   refine J0 ?_
   go_upto_region 4 with fail
   refine wp_region_lit ?_
   refine Lv ?_
   refine J3m (l := [3, 1]) (m := (lb 32 V)) (by first | omega | (simp only [List.length_append, List.length_cons, List.length_nil, J8]; omega)) (by rfl) rfl rfl rfl ?_
   (try simp only [Act.put, mA, mB, mC])
   refine Lv ?_
   refine J3m (l := ([3, 1] ++ (lb 32 V))) (m := L) (by first | omega | (simp only [List.length_append, List.length_cons, List.length_nil, J8]; omega)) (by rfl) rfl rfl rfl ?_
   (try simp only [Act.put, mA, mB, mC])
   refine Lv ?_
   refine Lw ?_ (v := .int .u8 ((UInt8.ofNat i).toNat : Int)) (hv := by exact Q3f rfl rfl)
   refine LnS ?_ (z := #[.int .u8 ((UInt8.ofNat i).toNat : Int)]) (t := 5) (n := 1) (c := 1)
   intro Q7o W3 Q3v hO h_
   replace k_t4 := k_t4.o hO
   replace off0 := off0.o hO
   have ow_s20 : Own W3 (.slice (some ⟨Q7o, 0, none⟩) 1 1) [UInt8.ofNat i] := V7 h_ (by rfl) (by show 1 ≤ maxLen; decide)
   clear hO h_ Q3v
   refine J2l (l := [UInt8.ofNat i]) (ow_s20.sl) (by rfl) rfl rfl ?_
   (try simp only [Act.put, mA, mB, mC])
   refine J3m (l := (([3, 1] ++ (lb 32 V)) ++ L)) (m := [UInt8.ofNat i]) (by first | omega | (simp only [List.length_append, List.length_cons, List.length_nil, J8]; omega)) (by rfl) rfl rfl rfl ?_
   (try simp only [Act.put, mA, mB, mC])
   refine J3m (l := ((([3, 1] ++ (lb 32 V)) ++ L) ++ [UInt8.ofNat i])) (m := [0]) (by first | omega | (simp only [List.length_append, List.length_cons, List.length_nil, J8]; omega)) (by rfl) rfl rfl rfl ?_
   (try simp only [Act.put, mA, mB, mC])
   obtain ⟨U1, hU1⟩ := V2 (hs (((([3, 1] ++ (lb 32 V)) ++ L) ++ [UInt8.ofNat i]) ++ [0]))
   have HU1 := Lib.hid hU1
   clear hU1
   refine Lr ?_ (Q2c HU1.out (by first | omega | (simp only [List.length_append, List.length_cons, List.length_nil, J8]; omega)) W3 (J59 hG off0.ext))
   intro W4 hO
   replace k_t4 := k_t4.o hO
   replace off0 := off0.o hO
   clear hO
   refine Lv ?_
   refine J0 ?_
   by_cases hdo : dOk (J3w V L i) = true
   ·
    have _f := hdo
    go_upto_region 5 with fail
    refine wp_region_lit ?_
    refine Lv ?_
    refine Lw ?_ (v := str (lb 32 (lo U1))) (hv := by exact Q2b rfl Tryd.underlying9 rfl rfl)
    have hcb4 : lo U1 = J3w V L i := by rw [HU1.out]; exact congrArg (fun l => lo (hs l)) (by simp only [List.append_assoc, List.cons_append, List.nil_append] <;> rfl)
    obtain ⟨dx, dr, dc⟩ := J6h (J5z V L i) hdo
    obtain ⟨dy, hdy⟩ := V2 (J3w V L i % 2 ^ 255)
    rw [← hdy] at dr dc
    clear hdy
    refine Lr ?_ (Q2l hcb4 (dc W4))
    intro W5 hO
    replace k_t4 := k_t4.o hO
    replace off0 := off0.o hO
    clear hO
    refine Lv ?_
    refine Lv ?_
    refine Lw ?_ (v := .int .i64 0)
    refine LnP ?_ (z := p3 0 0 0) (t := 78) (cells := p3 dx dy 1) (hi := by rw [J3]; kernel_rfl) (hs := by first | rw [J3, J3] | rw [J3] | kernel_rfl) (h1 := by exact J0h)
    intro Z2u W7 V6 hO h_
    have nq_t4_t8 := bn k_t4 V6
    have J1v := fbn off0 V6
    replace k_t4 := k_t4.o hO
    replace off0 := off0.o hO
    have k_t8 := h_
    clear hO h_ V6
    refine Lw ?_ (v := .int .i64 0)
    refine J0 ?_
    go_upto_region 7 with fail
    refine wp_region_lit ?_
    refine L0 ?_ k_t8 (hi := by rw [J3]; kernel_rfl)
    obtain ⟨ex, ey, ez, er, ec⟩ := J56 dr
    refine Lr ?_ (ec W7)
    intro W8 hO
    replace k_t4 := k_t4.o hO
    replace k_t8 := k_t8.o hO
    replace off0 := off0.o hO
    clear hO
    refine Lp ?_ k_t8 (cells := p3 ex ey ez) (hi := by rw [J3]; kernel_rfl) (hs := by first | rw [J3, J3] | rw [J3] | kernel_rfl) (h1 := by exact J0h)
    intro W9 hO h_
    replace k_t8 : Blk W9 Z2u (p3 ex ey ez) 78 := h_
    clear h_
    replace k_t4 := k_t4.p hO nq_t4_t8
    replace off0 := off0.p hO J1v
    clear hO
    refine J0 ?_
    go_upto_region 8 with fail
    refine Rx 4 ?_
    refine Xl ?_ k_t8 (hi := by rw [J3]; kernel_rfl)
    refine Xf ?_ (fun W hW => J6p W)
    have cs_ := J7c er J6q
    rw [show decide (pm (dPt (J3w V L i)) 8 = p0) = true from decide_eq_true (Q2h hbad hdo)] at cs_
    refine Xf ?_ (fun W hW => cs_ W)
    refine Xv ?_
    refine Q3 fun W10 hE => ?_
    have hO := Z6 hE
    replace k_t4 := k_t4.o hO
    replace off0 := off0.o hO
    clear hO hE
    refine LN ?_
    go_upto_region 3 with fail
    refine wp_region_lit ?_
    refine Lv ?_
    refine Lw ?_ (v := .int .i64 (((i + 1 : Nat) : Int))) (hv := by go_simp; (try simp only [IntKind.wrap_i64]); (try omega))
    refine Lv ?_
    refine J0 ?_
    go_wp2
    go_roundw
    case rel => exact ⟨i + 1, by omega, by go_num, off0, k_t4⟩
    case measure => simp [intOf]; omega
   ·
    have _f := hdo
    replace hdo : dOk (J3w V L i) = false := by simpa using hdo
    go_upto_region 5 with fail
    refine wp_region_lit ?_
    refine Lv ?_
    refine Lw ?_ (v := str (lb 32 (lo U1))) (hv := by exact Q2b rfl Tryd.underlying9 rfl rfl)
    have hcb4 : lo U1 = J3w V L i := by rw [HU1.out]; exact congrArg (fun l => lo (hs l)) (by simp only [List.append_assoc, List.cons_append, List.nil_append] <;> rfl)
    refine Lr ?_ (Q2l hcb4 (Q8g (J5z V L i) hdo W4))
    intro W5 hO
    replace k_t4 := k_t4.o hO
    replace off0 := off0.o hO
    clear hO
    refine Lv ?_
    refine Lv ?_
    refine Lw ?_ (v := .int .i64 15)
    refine LnP ?_ (z := p3 0 0 0) (t := 78) (cells := p3 0 0 0) (hi := by rw [J3]; kernel_rfl) (hs := by first | rw [J3, J3] | rw [J3] | kernel_rfl) (h1 := by exact J0h)
    intro Z2u W7 V6 hO h_
    replace k_t4 := k_t4.o hO
    replace off0 := off0.o hO
    clear hO h_ V6
    refine Lw ?_ (v := .int .i64 15)
    refine J0 ?_
    go_upto_region 3 with fail
    refine wp_region_lit ?_
    refine Lv ?_
    refine Lw ?_ (v := .int .i64 (((i + 1 : Nat) : Int))) (hv := by go_simp; (try simp only [IntKind.wrap_i64]); (try omega))
    refine Lv ?_
    refine J0 ?_
    go_wp2
    go_roundw
    case rel => exact ⟨i + 1, by omega, by go_num, off0, k_t4⟩
    case measure => simp [intOf]; omega
  ·
   have _f := h256
   go_upto_region 2 with fail
   refine wp_region_lit ?_
   refine Lv ?_
   refine Lw ?_ (v := .bool false) (hv := by exact Q3e (i := i) (n := 256) (decide_eq_false h256) rfl rfl rfl)
   refine J0 ?_
   go_upto_region 10 with fail
   refine wp_region_lit ?_
   refine Lw ?_ (v := .agg (p3 0 0 0)) (hv := by kernel_rfl)
   refine Lp ?_ k_t4 (cells := p3 0 0 0) (hi := by rw [J3]; kernel_rfl) (hs := by first | rw [J3, J3] | rw [J3] | kernel_rfl) (h1 := by exact J0h)
   intro W3 hO h_
   replace k_t4 : Blk W3 Z7i (p3 0 0 0) 78 := h_
   clear h_
   replace off0 := off0.p hO J2d
   clear hO
   refine Lw ?_ (v := .bool false)
   refine J0 ?_
   go_wp2
   exact bodyPost_ret (V8 rfl rfl rfl k_t4 (by kernel_rfl) (by rw [J3]; kernel_rfl)) rfl ⟨rfl, off0.ext⟩
theorem Y7p {V C : Nat} {X1 Y1 Z1 : Nat} {a1 : Pr} (h1 : RD X1 Y1 Z1 a1) {X2 Y2 Z2 : Nat} {a2 : Pr} (h2 : RD X2 Y2 Z2 a2) {X3 Y3 Z3 : Nat} {a3 : Pr} (h3 : RD X3 Y3 Z3 a3) {X4 Y4 Z4 : Nat} {a4 : Pr} (h4 : RD X4 Y4 Z4 a4) (hC : C = ch V a1 a2 a3 a4) :
  ∀ w, GR w → Calls Tryd.prog 63 #[str (lb 32 V), .agg (p3 X1 Y1 Z1), .agg (p3 X2 Y2 Z2), .agg (p3 X3 Y3 Z3), .agg (p3 X4 Y4 Z4)] w fun e w' => Ret (str (lb 16 C)) w w' e := by
 obtain ⟨U1, hU1⟩ := V2 (enc a1)
 have bU1 : U1 < 2 ^ 256 := by rw [hU1]; exact J4r _
 have HU1 := Lib.hid hU1
 clear hU1
 obtain ⟨U2, hU2⟩ := V2 (enc a2)
 have bU2 : U2 < 2 ^ 256 := by rw [hU2]; exact J4r _
 have HU2 := Lib.hid hU2
 clear hU2
 obtain ⟨U3, hU3⟩ := V2 (enc a3)
 have bU3 : U3 < 2 ^ 256 := by rw [hU3]; exact J4r _
 have HU3 := Lib.hid hU3
 clear hU3
 obtain ⟨U4, hU4⟩ := V2 (enc a4)
 have bU4 : U4 < 2 ^ 256 := by rw [hU4]; exact J4r _
 have HU4 := Lib.hid hU4
 clear hU4
 obtain ⟨U5, hU5⟩ := V2 (hs (((((([3, 2] ++ (lb 32 V)) ++ (lb 32 U1)) ++ (lb 32 U2)) ++ (lb 32 U3)) ++ (lb 32 U4)) ++ [0]))
 have HU5 := Lib.hid hU5
 clear hU5
 obtain ⟨U6, hU6⟩ := V2 (U5 % J28)
 have qU6 : U6 < J28 := by rw [hU6]; exact Nat.mod_lt _ (by decide)
 have HU6 := Lib.hid hU6
 clear hU6
 intro w hG
 have off0 : Off [] w w := Off.refl _ _
 go_enter Tryd.func63, Tryd.ntmps63
 go_upto_region 0 with fail
 refine wp_region_lit ?_
 refine Ln ?_ (z := p3 X1 Y1 Z1) (t := 78)
 intro Z5l W1 J1c hO h_
 replace off0 := off0.o hO
 have k_t6 := h_
 clear hO h_ J1c
 refine Ln ?_ (z := p3 X2 Y2 Z2) (t := 78)
 intro V7i W2 J03 hO h_
 replace k_t6 := k_t6.o hO
 replace off0 := off0.o hO
 have k_t7 := h_
 clear hO h_ J03
 refine Ln ?_ (z := p3 X3 Y3 Z3) (t := 78)
 intro Z5y W3 V6 hO h_
 replace k_t6 := k_t6.o hO
 replace k_t7 := k_t7.o hO
 replace off0 := off0.o hO
 have k_t8 := h_
 clear hO h_ V6
 refine Ln ?_ (z := p3 X4 Y4 Z4) (t := 78)
 intro V7j W4 J2o hO h_
 replace k_t6 := k_t6.o hO
 replace k_t7 := k_t7.o hO
 replace k_t8 := k_t8.o hO
 replace off0 := off0.o hO
 have k_t9 := h_
 clear hO h_ J2o
 refine Lv ?_
 refine J0 ?_
 go_upto_region 1 with fail
 refine Rx 18 ?_
 refine Xv ?_
 refine Q0m (l := [3, 2]) (m := (lb 32 V)) (by first | omega | (simp only [List.length_append, List.length_cons, List.length_nil, J8]; omega)) (by rfl) rfl rfl rfl ?_
 (try simp only [Act.put, mA, mB, mC])
 refine Xl ?_ k_t6 (hi := by rw [J3]; kernel_rfl)
 refine Xf ?_ (fun W hW => Q2d h1 HU1.out W)
 refine Q0m (l := ([3, 2] ++ (lb 32 V))) (m := (lb 32 U1)) (by first | omega | (simp only [List.length_append, List.length_cons, List.length_nil, J8]; omega)) (by rfl) rfl rfl rfl ?_
 (try simp only [Act.put, mA, mB, mC])
 refine Xl ?_ k_t7 (hi := by rw [J3]; kernel_rfl)
 refine Xf ?_ (fun W hW => Q2d h2 HU2.out W)
 refine Q0m (l := (([3, 2] ++ (lb 32 V)) ++ (lb 32 U1))) (m := (lb 32 U2)) (by first | omega | (simp only [List.length_append, List.length_cons, List.length_nil, J8]; omega)) (by rfl) rfl rfl rfl ?_
 (try simp only [Act.put, mA, mB, mC])
 refine Xl ?_ k_t8 (hi := by rw [J3]; kernel_rfl)
 refine Xf ?_ (fun W hW => Q2d h3 HU3.out W)
 refine Q0m (l := ((([3, 2] ++ (lb 32 V)) ++ (lb 32 U1)) ++ (lb 32 U2))) (m := (lb 32 U3)) (by first | omega | (simp only [List.length_append, List.length_cons, List.length_nil, J8]; omega)) (by rfl) rfl rfl rfl ?_
 (try simp only [Act.put, mA, mB, mC])
 refine Xl ?_ k_t9 (hi := by rw [J3]; kernel_rfl)
 refine Xf ?_ (fun W hW => Q2d h4 HU4.out W)
 refine Q0m (l := (((([3, 2] ++ (lb 32 V)) ++ (lb 32 U1)) ++ (lb 32 U2)) ++ (lb 32 U3))) (m := (lb 32 U4)) (by first | omega | (simp only [List.length_append, List.length_cons, List.length_nil, J8]; omega)) (by rfl) rfl rfl rfl ?_
 (try simp only [Act.put, mA, mB, mC])
 refine Q0m (l := ((((([3, 2] ++ (lb 32 V)) ++ (lb 32 U1)) ++ (lb 32 U2)) ++ (lb 32 U3)) ++ (lb 32 U4))) (m := [0]) (by first | omega | (simp only [List.length_append, List.length_cons, List.length_nil, J8]; omega)) (by rfl) rfl rfl rfl ?_
 (try simp only [Act.put, mA, mB, mC])
 refine Xf ?_ (fun W hW => Q2c HU5.out (by first | omega | (simp only [List.length_append, List.length_cons, List.length_nil, J8]; omega)) W (J59 (J59 hG off0.ext) hW))
 refine Xw ?_ (v := str (lb 16 U6)) (hv := fun _ _ => by exact Y62 HU6.out rfl Tryd.underlying9 rfl rfl)
 refine Xv ?_
 refine Q3 fun W5 hE => ?_
 have hO := Z6 hE
 replace off0 := off0.o hO
 clear hO hE
 refine LN ?_
 go_wp2
 rw [show C = U6 by rw [hC, HU6.out, HU5.out, HU4.out, HU3.out, HU2.out, HU1.out]; exact congrArg (fun l => hs l % J28) (by simp only [List.append_assoc, List.cons_append, List.nil_append] <;> rfl)]
 exact bodyPost_ret (v := str (lb 16 U6)) (by simp only [results, Tryd.results63]; go_simp) rfl ⟨rfl, off0.ext⟩
end Go.Proofs.YtefpoollmbmkfaaDoor

namespace Go.Proofs.YtefpoollmbmkfaaDoor
set_option maxHeartbeats 2000000
set_option maxRecDepth 100000
open Go.RowKit
attribute [local irreducible] wpList
open Sc (LL J21)
variable {kn : Kn}
attribute [local irreducible] hs
theorem Y2h {V c0 : Nat} {L : List UInt8} (hL : L.length ≤ 1099511627776) (hv : vpt V L = some c0) {h : Pr} (hh : h = J22 V L c0) :
    ∃ X Y Z, RD X Y Z h ∧ ∀ w, GR w → Calls Tryd.prog 62 #[str (lb 32 V), str L] w fun e w' => Ret (.tuple #[.agg (p3 X Y Z), .bool true]) w w' e := by
  obtain ⟨h1, h2, h3⟩ := Q2j hv
  subst hh
  exact Z0u hL c0 h1 h2 h3
theorem Y2i {V : Nat} {L : List UInt8} (hL : L.length ≤ 1099511627776) (hv : vpt V L = none) (w : World) (hG : GR w) :
    Calls Tryd.prog 62 #[str (lb 32 V), str L] w fun e w' => Ret (.tuple #[.agg (p3 0 0 0), .bool false]) w w' e := Z0v hL (Z0q hv) w hG
theorem V44 (V : Nat) (a b c d : Pr) : ch V a b c d < J28 := Nat.mod_lt _ (by decide)
theorem Y63 {P X : Nat} (hok : dOk (pG P) = true) (hX : X = Q6a P) :
  ∀ w, GR w → Calls Tryd.prog 29 #[str (lb 80 P)] w fun e w' => Ret (.tuple #[str (lb 64 X), .int .i64 0]) w w' e := by
 obtain ⟨dx1, dr2, dc3⟩ := J6h (V := (pG P)) (Q11 P) hok
 obtain ⟨dy4, hy5⟩ := V2 ((pG P) % 2 ^ 255)
 rw [← hy5] at dr2 dc3
 clear hy5
 obtain ⟨x6, y7, z8, r9, c10⟩ := J56 dr2
 obtain ⟨U1, hU1⟩ := V2 (enc (pm (dPt (pG P)) 8))
 have bU1 : U1 < 2 ^ 256 := by rw [hU1]; exact J4r _
 have HU1 := Lib.hid hU1
 clear hU1
 obtain ⟨U2, hU2⟩ := V2 (hs (([3, 3] ++ (lb 32 U1)) ++ [0]))
 have HU2 := Lib.hid hU2
 clear hU2
 intro w hG
 have off0 : Off [] w w := Off.refl _ _
 go_enter Tryd.func29, Tryd.ntmps29
 go_upto_region 1 with fail
 refine wp_region_lit ?_
 refine Lv ?_
 refine Lw ?_ (v := str (lb 32 (pG P))) (hv := by exact Q08 rfl Tryd.underlying9 rfl rfl)
 refine Lr ?_ (dc3 w)
 intro W1 hO
 replace off0 := off0.o hO
 clear hO
 refine Lv ?_
 refine Lv ?_
 refine Lw ?_ (v := .int .i64 0)
 refine LnP ?_ (z := p3 0 0 0) (t := 78) (cells := p3 dx1 dy4 1) (hi := by rw [J3]; kernel_rfl) (hs := by first | rw [J3, J3] | rw [J3] | kernel_rfl) (h1 := by exact J0h)
 intro J6r W3 J10 hO h_
 replace off0 := off0.o hO
 have k_t4 := h_
 clear hO h_ J10
 refine Lw ?_ (v := .int .i64 0)
 refine J0 ?_
 go_upto_region 4 with fail
 refine wp_region_lit ?_
 refine L0 ?_ k_t4 (hi := by rw [J3]; kernel_rfl)
 refine Lr ?_ (c10 W3)
 intro W4 hO
 replace off0 := off0.o hO
 clear hO
 refine Lr ?_ (Q2d r9 HU1.out W4)
 intro W5 hO
 replace off0 := off0.o hO
 clear hO
 refine J3m (l := [3, 3]) (m := (lb 32 U1)) (by first | omega | (simp only [List.length_append, List.length_cons, List.length_nil, J8]; omega)) (by rfl) rfl rfl rfl ?_
 (try simp only [Act.put, mA, mB, mC])
 refine J3m (l := ([3, 3] ++ (lb 32 U1))) (m := [0]) (by first | omega | (simp only [List.length_append, List.length_cons, List.length_nil, J8]; omega)) (by rfl) rfl rfl rfl ?_
 (try simp only [Act.put, mA, mB, mC])
 refine Lr ?_ (Q2c HU2.out (by first | omega | (simp only [List.length_append, List.length_cons, List.length_nil, J8]; omega)) W5 (J59 hG off0.ext))
 intro W6 hO
 replace off0 := off0.o hO
 clear hO
 refine Lv ?_
 refine Lw ?_ (v := .int .i64 0)
 refine J0 ?_
 go_wp2
 rw [hX, show Q6a P = U2 by rw [HU2.out, HU1.out]; first | rfl | exact congrArg hs (by simp only [List.append_assoc, List.cons_append, List.nil_append] <;> rfl)]
 exact bodyPost_ret (v := .tuple #[str (lb 64 U2), .int .i64 0]) (by simp only [results, Tryd.results29]; go_simp) rfl ⟨rfl, off0.ext⟩
theorem Y2j {V P : Nat} (hV : V < 2 ^ 256) (hP : B80 P) (L : List UInt8) (hL : L.length ≤ 1099511627776) (hk1 : dOk V = false) :
  ∀ w, GR w → Calls Tryd.prog 28 #[str (lb 32 V), str L, str (lb 80 P)] w fun e w' => Ret (.tuple #[str (lb 64 0), .int .i64 15]) w w' e := by
 have dc := Q8g (V := V) hV hk1
 intro w hG
 have off0 : Off [] w w := Off.refl _ _
 go_enter Tryd.func28, Tryd.ntmps28
 go_upto_region 1 with fail
 refine wp_region_lit ?_
 refine J8a (n := 64) (by first | omega | (simp only [List.length_append, List.length_cons, List.length_nil, J8]; omega)) (by rfl) rfl rfl rfl ?_
 (try simp only [Act.put, mA, mB, mC])
 intro Q09 W1 Q0a hO h_
 replace off0 := off0.o hO
 have ow_k18 : Own W1 (.slice (some ⟨Q09, 0, none⟩) 64 64) (List.replicate 64 0) := h_
 clear hO h_ Q0a
 refine J2l (l := (List.replicate 64 0)) (ow_k18.sl) (by rfl) rfl rfl ?_
 (try simp only [Act.put, mA, mB, mC])
 refine Lv ?_
 refine J0 ?_
 go_upto_region 2 with fail
 refine wp_region_lit ?_
 refine Lv ?_
 refine Lr ?_ (dc W1)
 intro W2 hO
 replace off0 := off0.o hO
 clear hO
 refine Lv ?_
 refine Lv ?_
 refine Lw ?_ (v := .int .i64 15)
 refine LnP ?_ (z := p3 0 0 0) (t := 78) (cells := p3 0 0 0) (hi := by rw [J3]; kernel_rfl) (hs := by first | rw [J3, J3] | rw [J3] | kernel_rfl) (h1 := by exact J0h)
 intro Y2k W4 J2o hO h_
 replace off0 := off0.o hO
 clear hO h_ J2o
 refine Lw ?_ (v := .int .i64 15)
 refine J0 ?_
 go_upto_region 3 with fail
 refine wp_region_lit ?_
 refine Lw ?_ (v := .int .i64 15)
 refine Lw ?_ (v := .bool true)
 refine Lw ?_ (v := .bool true)
 refine Ls ?_
 refine Ls ?_
 refine Ls ?_
 refine Ls ?_
 refine Lw ?_ (v := .bool true)
 refine J0 ?_
 go_wp2
 rw [← Q0q]
 exact bodyPost_ret (v := .tuple #[str (List.replicate 64 0), .int .i64 15]) (by simp only [results, Tryd.results28]; go_simp) rfl ⟨rfl, off0.ext⟩
theorem Y2l {V P : Nat} (hV : V < 2 ^ 256) (hP : B80 P) (L : List UInt8) (hL : L.length ≤ 1099511627776) (hk1 : dOk V = true) (hk2 : pm (dPt V) 8 = p0) :
  ∀ w, GR w → Calls Tryd.prog 28 #[str (lb 32 V), str L, str (lb 80 P)] w fun e w' => Ret (.tuple #[str (lb 64 0), .int .i64 15]) w w' e := by
 obtain ⟨dx1, dr2, dc3⟩ := J6h (V := V) hV hk1
 obtain ⟨dy4, hy5⟩ := V2 (V % 2 ^ 255)
 rw [← hy5] at dr2 dc3
 clear hy5
 obtain ⟨x6, y7, z8, r9, c10⟩ := J56 dr2
 have cs_ := J7c r9 J6q
 rw [decide_eq_true hk2] at cs_
 intro w hG
 have off0 : Off [] w w := Off.refl _ _
 go_enter Tryd.func28, Tryd.ntmps28
 go_upto_region 1 with fail
 refine wp_region_lit ?_
 refine J8a (n := 64) (by first | omega | (simp only [List.length_append, List.length_cons, List.length_nil, J8]; omega)) (by rfl) rfl rfl rfl ?_
 (try simp only [Act.put, mA, mB, mC])
 intro Q09 W1 Q0a hO h_
 replace off0 := off0.o hO
 have ow_k18 : Own W1 (.slice (some ⟨Q09, 0, none⟩) 64 64) (List.replicate 64 0) := h_
 clear hO h_ Q0a
 refine J2l (l := (List.replicate 64 0)) (ow_k18.sl) (by rfl) rfl rfl ?_
 (try simp only [Act.put, mA, mB, mC])
 refine Lv ?_
 refine J0 ?_
 go_upto_region 2 with fail
 refine wp_region_lit ?_
 refine Lv ?_
 refine Lr ?_ (dc3 W1)
 intro W2 hO
 replace off0 := off0.o hO
 clear hO
 refine Lv ?_
 refine Lv ?_
 refine Lw ?_ (v := .int .i64 0)
 refine LnP ?_ (z := p3 0 0 0) (t := 78) (cells := p3 dx1 dy4 1) (hi := by rw [J3]; kernel_rfl) (hs := by first | rw [J3, J3] | rw [J3] | kernel_rfl) (h1 := by exact J0h)
 intro Y2k W4 J2o hO h_
 replace off0 := off0.o hO
 have k_t9 := h_
 clear hO h_ J2o
 refine Lw ?_ (v := .int .i64 0)
 refine J0 ?_
 go_upto_region 3 with fail
 refine wp_region_lit ?_
 refine Lw ?_ (v := .int .i64 0)
 refine Lw ?_ (v := .bool false)
 refine Lw ?_ (v := .bool false)
 refine L0 ?_ k_t9 (hi := by rw [J3]; kernel_rfl)
 refine Lr ?_ (c10 W4)
 intro W5 hO
 replace off0 := off0.o hO
 clear hO
 refine Lr ?_ (J6p W5)
 intro W6 hO
 replace off0 := off0.o hO
 clear hO
 refine Lr ?_ (cs_ W6)
 intro W7 hO
 replace off0 := off0.o hO
 clear hO
 refine Lw ?_ (v := .bool true)
 refine J0 ?_
 go_wp2
 rw [← Q0q]
 exact bodyPost_ret (v := .tuple #[str (List.replicate 64 0), .int .i64 15]) (by simp only [results, Tryd.results28]; go_simp) rfl ⟨rfl, off0.ext⟩
theorem Z7l {V P : Nat} (hV : V < 2 ^ 256) (hP : B80 P) (L : List UInt8) (hL : L.length ≤ 1099511627776) (hk1 : dOk V = true) (hk2 : ¬ pm (dPt V) 8 = p0) (hok : dOk (pG P) = false) :
  ∀ w, GR w → Calls Tryd.prog 28 #[str (lb 32 V), str L, str (lb 80 P)] w fun e w' => Ret (.tuple #[str (lb 64 0), .int .i64 17]) w w' e := by
 obtain ⟨dx1, dr2, dc3⟩ := J6h (V := V) hV hk1
 obtain ⟨dy4, hy5⟩ := V2 (V % 2 ^ 255)
 rw [← hy5] at dr2 dc3
 clear hy5
 obtain ⟨x6, y7, z8, r9, c10⟩ := J56 dr2
 have cs_ := J7c r9 J6q
 rw [decide_eq_false hk2] at cs_
 have dc11 := Q8g (V := (pG P)) (Q11 P) hok
 obtain ⟨U1, hU1⟩ := V2 ((pN P) % LL)
 have lU1 : U1 < LL := by rw [hU1]; exact mLL _
 have bU1 : U1 < 2 ^ 256 := Nat.lt_trans lU1 J2w
 have HU1 := Lib.hid hU1
 clear hU1
 intro w hG
 have off0 : Off [] w w := Off.refl _ _
 go_enter Tryd.func28, Tryd.ntmps28
 go_upto_region 1 with fail
 refine wp_region_lit ?_
 refine J8a (n := 64) (by first | omega | (simp only [List.length_append, List.length_cons, List.length_nil, J8]; omega)) (by rfl) rfl rfl rfl ?_
 (try simp only [Act.put, mA, mB, mC])
 intro Q09 W1 Q0a hO h_
 replace off0 := off0.o hO
 have ow_k18 : Own W1 (.slice (some ⟨Q09, 0, none⟩) 64 64) (List.replicate 64 0) := h_
 clear hO h_ Q0a
 refine J2l (l := (List.replicate 64 0)) (ow_k18.sl) (by rfl) rfl rfl ?_
 (try simp only [Act.put, mA, mB, mC])
 refine Lv ?_
 refine J0 ?_
 go_upto_region 2 with fail
 refine wp_region_lit ?_
 refine Lv ?_
 refine Lr ?_ (dc3 W1)
 intro W2 hO
 replace off0 := off0.o hO
 clear hO
 refine Lv ?_
 refine Lv ?_
 refine Lw ?_ (v := .int .i64 0)
 refine LnP ?_ (z := p3 0 0 0) (t := 78) (cells := p3 dx1 dy4 1) (hi := by rw [J3]; kernel_rfl) (hs := by first | rw [J3, J3] | rw [J3] | kernel_rfl) (h1 := by exact J0h)
 intro Y2k W4 J2o hO h_
 replace off0 := off0.o hO
 have k_t9 := h_
 clear hO h_ J2o
 refine Lw ?_ (v := .int .i64 0)
 refine J0 ?_
 go_upto_region 3 with fail
 refine wp_region_lit ?_
 refine Lw ?_ (v := .int .i64 0)
 refine Lw ?_ (v := .bool false)
 refine Lw ?_ (v := .bool false)
 refine L0 ?_ k_t9 (hi := by rw [J3]; kernel_rfl)
 refine Lr ?_ (c10 W4)
 intro W5 hO
 replace off0 := off0.o hO
 clear hO
 refine Lr ?_ (J6p W5)
 intro W6 hO
 replace off0 := off0.o hO
 clear hO
 refine Lr ?_ (cs_ W6)
 intro W7 hO
 replace off0 := off0.o hO
 clear hO
 refine Lw ?_ (v := .bool false)
 refine J0 ?_
 go_upto_region 5 with fail
 refine wp_region_lit ?_
 refine Lv ?_
 refine Lw ?_ (v := str (lb 32 (pG P))) (hv := by exact Q08 rfl Tryd.underlying9 rfl rfl)
 refine Lr ?_ (dc11 W7)
 intro W8 hO
 replace off0 := off0.o hO
 clear hO
 refine Lv ?_
 refine Lv ?_
 refine Lw ?_ (v := .int .i64 15)
 refine LnP ?_ (z := p3 0 0 0) (t := 78) (cells := p3 0 0 0) (hi := by rw [J3]; kernel_rfl) (hs := by first | rw [J3, J3] | rw [J3] | kernel_rfl) (h1 := by exact J0h)
 intro Q2k W10 K1 hO h_
 replace off0 := off0.o hO
 clear hO h_ K1
 refine Lw ?_ (v := .int .i64 15)
 refine J0 ?_
 go_upto_region 6 with fail
 refine wp_region_lit ?_
 refine Lv ?_
 refine Lw ?_ (v := str (lb 32 (pN P))) (hv := by exact J5c rfl Tryd.underlying9 rfl rfl)
 refine Lr ?_ (Q94 (n := 32) HU1.out hP (by decide) W10)
 intro W11 hO
 replace off0 := off0.o hO
 clear hO
 refine LnA ?_ (z := J1 .i64 16 (Q2 0)) (t := 83) (k := .i64) (n := 16) (f := Q2 U1)
 intro Z2v W13 J24 hO h_
 replace off0 := off0.o hO
 clear hO h_ J24
 refine J0 ?_
 go_upto_region 7 with fail
 refine Rx 9 ?_
 refine Xv ?_
 refine Xv ?_
 refine Xv ?_
 refine Xs ?_
 refine Xs ?_
 refine Xs ?_
 refine Xs ?_
 refine Xs ?_
 refine Xv ?_
 refine Q3 fun W14 hE => ?_
 have hO := Z6 hE
 replace off0 := off0.o hO
 clear hO hE
 refine LN ?_
 go_wp2
 rw [← Q0q]
 exact bodyPost_ret (v := .tuple #[str (List.replicate 64 0), .int .i64 17]) (by simp only [results, Tryd.results28]; go_simp) rfl ⟨rfl, off0.ext⟩
theorem Z7m {V P : Nat} (hV : V < 2 ^ 256) (hP : B80 P) (L : List UInt8) (hL : L.length ≤ 1099511627776) (hk1 : dOk V = true) (hk2 : ¬ pm (dPt V) 8 = p0) (hok : dOk (pG P) = true) (h1 : LL ≤ pN P) :
  ∀ w, GR w → Calls Tryd.prog 28 #[str (lb 32 V), str L, str (lb 80 P)] w fun e w' => Ret (.tuple #[str (lb 64 0), .int .i64 17]) w w' e := by
 obtain ⟨dx1, dr2, dc3⟩ := J6h (V := V) hV hk1
 obtain ⟨dy4, hy5⟩ := V2 (V % 2 ^ 255)
 rw [← hy5] at dr2 dc3
 clear hy5
 obtain ⟨x6, y7, z8, r9, c10⟩ := J56 dr2
 have cs_ := J7c r9 J6q
 rw [decide_eq_false hk2] at cs_
 obtain ⟨dx11, dr12, dc13⟩ := J6h (V := (pG P)) (Q11 P) hok
 obtain ⟨dy14, hy15⟩ := V2 ((pG P) % 2 ^ 255)
 rw [← hy15] at dr12 dc13
 clear hy15
 obtain ⟨U1, hU1⟩ := V2 ((pN P) % LL)
 have lU1 : U1 < LL := by rw [hU1]; exact mLL _
 have bU1 : U1 < 2 ^ 256 := Nat.lt_trans lU1 J2w
 have HU1 := Lib.hid hU1
 clear hU1
 intro w hG
 have off0 : Off [] w w := Off.refl _ _
 go_enter Tryd.func28, Tryd.ntmps28
 go_upto_region 1 with fail
 refine wp_region_lit ?_
 refine J8a (n := 64) (by first | omega | (simp only [List.length_append, List.length_cons, List.length_nil, J8]; omega)) (by rfl) rfl rfl rfl ?_
 (try simp only [Act.put, mA, mB, mC])
 intro Q09 W1 Q0a hO h_
 replace off0 := off0.o hO
 have ow_k18 : Own W1 (.slice (some ⟨Q09, 0, none⟩) 64 64) (List.replicate 64 0) := h_
 clear hO h_ Q0a
 refine J2l (l := (List.replicate 64 0)) (ow_k18.sl) (by rfl) rfl rfl ?_
 (try simp only [Act.put, mA, mB, mC])
 refine Lv ?_
 refine J0 ?_
 go_upto_region 2 with fail
 refine wp_region_lit ?_
 refine Lv ?_
 refine Lr ?_ (dc3 W1)
 intro W2 hO
 replace off0 := off0.o hO
 clear hO
 refine Lv ?_
 refine Lv ?_
 refine Lw ?_ (v := .int .i64 0)
 refine LnP ?_ (z := p3 0 0 0) (t := 78) (cells := p3 dx1 dy4 1) (hi := by rw [J3]; kernel_rfl) (hs := by first | rw [J3, J3] | rw [J3] | kernel_rfl) (h1 := by exact J0h)
 intro Y2k W4 J2o hO h_
 replace off0 := off0.o hO
 have k_t9 := h_
 clear hO h_ J2o
 refine Lw ?_ (v := .int .i64 0)
 refine J0 ?_
 go_upto_region 3 with fail
 refine wp_region_lit ?_
 refine Lw ?_ (v := .int .i64 0)
 refine Lw ?_ (v := .bool false)
 refine Lw ?_ (v := .bool false)
 refine L0 ?_ k_t9 (hi := by rw [J3]; kernel_rfl)
 refine Lr ?_ (c10 W4)
 intro W5 hO
 replace off0 := off0.o hO
 clear hO
 refine Lr ?_ (J6p W5)
 intro W6 hO
 replace off0 := off0.o hO
 clear hO
 refine Lr ?_ (cs_ W6)
 intro W7 hO
 replace off0 := off0.o hO
 clear hO
 refine Lw ?_ (v := .bool false)
 refine J0 ?_
 go_upto_region 5 with fail
 refine wp_region_lit ?_
 refine Lv ?_
 refine Lw ?_ (v := str (lb 32 (pG P))) (hv := by exact Q08 rfl Tryd.underlying9 rfl rfl)
 refine Lr ?_ (dc13 W7)
 intro W8 hO
 replace off0 := off0.o hO
 clear hO
 refine Lv ?_
 refine Lv ?_
 refine Lw ?_ (v := .int .i64 0)
 refine LnP ?_ (z := p3 0 0 0) (t := 78) (cells := p3 dx11 dy14 1) (hi := by rw [J3]; kernel_rfl) (hs := by first | rw [J3, J3] | rw [J3] | kernel_rfl) (h1 := by exact J0h)
 intro Q2k W10 K1 hO h_
 replace off0 := off0.o hO
 clear hO h_ K1
 refine Lw ?_ (v := .int .i64 0)
 refine J0 ?_
 go_upto_region 6 with fail
 refine wp_region_lit ?_
 refine Lv ?_
 refine Lw ?_ (v := str (lb 32 (pN P))) (hv := by exact J5c rfl Tryd.underlying9 rfl rfl)
 refine Lr ?_ (Q94 (n := 32) HU1.out hP (by decide) W10)
 intro W11 hO
 replace off0 := off0.o hO
 clear hO
 refine LnA ?_ (z := J1 .i64 16 (Q2 0)) (t := 83) (k := .i64) (n := 16) (f := Q2 U1)
 intro Z2v W13 J24 hO h_
 replace off0 := off0.o hO
 have k_t12 := h_
 clear hO h_ J24
 refine J0 ?_
 go_upto_region 7 with fail
 refine Rx 9 ?_
 refine Xv ?_
 refine Xv ?_
 refine Xv ?_
 refine XlA ?_ k_t12
 refine Xf ?_ (fun W hW => Q39 U1 W)
 refine Xv ?_
 refine Xw ?_ (v := str (lb 32 (pN P))) (hv := fun _ _ => by exact J5c rfl Tryd.underlying9 rfl rfl)
 refine J40 (l := (lb 32 U1)) (m := (lb 32 (pN P))) (b := true) ((by rw [decide_eq_false fun e => (Nat.not_lt.2 h1) (Z8j (Nat.lt_trans lU1 J2w) hP e ▸ lU1)]; rfl)) (by rfl) rfl rfl rfl ?_
 (try simp only [Act.put, mA, mB, mC])
 refine Xv ?_
 refine Q3 fun W14 hE => ?_
 have hO := Z6 hE
 replace off0 := off0.o hO
 clear hO hE
 refine LN ?_
 go_wp2
 rw [← Q0q]
 exact bodyPost_ret (v := .tuple #[str (List.replicate 64 0), .int .i64 17]) (by simp only [results, Tryd.results28]; go_simp) rfl ⟨rfl, off0.ext⟩
theorem Y2m {V P : Nat} (hV : V < 2 ^ 256) (hP : B80 P) (L : List UInt8) (hL : L.length ≤ 1099511627776) (hk1 : dOk V = true) (hk2 : ¬ pm (dPt V) 8 = p0) (hok : dOk (pG P) = true) (h1 : pN P < LL) (hv : vpt V L = none) :
  ∀ w, GR w → Calls Tryd.prog 28 #[str (lb 32 V), str L, str (lb 80 P)] w fun e w' => Ret (.tuple #[str (lb 64 0), .int .i64 15]) w w' e := by
 obtain ⟨dx1, dr2, dc3⟩ := J6h (V := V) hV hk1
 obtain ⟨dy4, hy5⟩ := V2 (V % 2 ^ 255)
 rw [← hy5] at dr2 dc3
 clear hy5
 obtain ⟨x6, y7, z8, r9, c10⟩ := J56 dr2
 have cs_ := J7c r9 J6q
 rw [decide_eq_false hk2] at cs_
 obtain ⟨dx11, dr12, dc13⟩ := J6h (V := (pG P)) (Q11 P) hok
 obtain ⟨dy14, hy15⟩ := V2 ((pG P) % 2 ^ 255)
 rw [← hy15] at dr12 dc13
 clear hy15
 obtain ⟨U1, hU1⟩ := V2 ((pN P) % LL)
 have lU1 : U1 < LL := by rw [hU1]; exact mLL _
 have bU1 : U1 < 2 ^ 256 := Nat.lt_trans lU1 J2w
 have HU1 := Lib.hid hU1
 clear hU1
 intro w hG
 have off0 : Off [] w w := Off.refl _ _
 go_enter Tryd.func28, Tryd.ntmps28
 go_upto_region 1 with fail
 refine wp_region_lit ?_
 refine J8a (n := 64) (by first | omega | (simp only [List.length_append, List.length_cons, List.length_nil, J8]; omega)) (by rfl) rfl rfl rfl ?_
 (try simp only [Act.put, mA, mB, mC])
 intro Q09 W1 Q0a hO h_
 replace off0 := off0.o hO
 have ow_k18 : Own W1 (.slice (some ⟨Q09, 0, none⟩) 64 64) (List.replicate 64 0) := h_
 clear hO h_ Q0a
 refine J2l (l := (List.replicate 64 0)) (ow_k18.sl) (by rfl) rfl rfl ?_
 (try simp only [Act.put, mA, mB, mC])
 refine Lv ?_
 refine J0 ?_
 go_upto_region 2 with fail
 refine wp_region_lit ?_
 refine Lv ?_
 refine Lr ?_ (dc3 W1)
 intro W2 hO
 replace off0 := off0.o hO
 clear hO
 refine Lv ?_
 refine Lv ?_
 refine Lw ?_ (v := .int .i64 0)
 refine LnP ?_ (z := p3 0 0 0) (t := 78) (cells := p3 dx1 dy4 1) (hi := by rw [J3]; kernel_rfl) (hs := by first | rw [J3, J3] | rw [J3] | kernel_rfl) (h1 := by exact J0h)
 intro Y2k W4 J2o hO h_
 replace off0 := off0.o hO
 have k_t9 := h_
 clear hO h_ J2o
 refine Lw ?_ (v := .int .i64 0)
 refine J0 ?_
 go_upto_region 3 with fail
 refine wp_region_lit ?_
 refine Lw ?_ (v := .int .i64 0)
 refine Lw ?_ (v := .bool false)
 refine Lw ?_ (v := .bool false)
 refine L0 ?_ k_t9 (hi := by rw [J3]; kernel_rfl)
 refine Lr ?_ (c10 W4)
 intro W5 hO
 replace off0 := off0.o hO
 clear hO
 refine Lr ?_ (J6p W5)
 intro W6 hO
 replace off0 := off0.o hO
 clear hO
 refine Lr ?_ (cs_ W6)
 intro W7 hO
 replace off0 := off0.o hO
 clear hO
 refine Lw ?_ (v := .bool false)
 refine J0 ?_
 go_upto_region 5 with fail
 refine wp_region_lit ?_
 refine Lv ?_
 refine Lw ?_ (v := str (lb 32 (pG P))) (hv := by exact Q08 rfl Tryd.underlying9 rfl rfl)
 refine Lr ?_ (dc13 W7)
 intro W8 hO
 replace off0 := off0.o hO
 clear hO
 refine Lv ?_
 refine Lv ?_
 refine Lw ?_ (v := .int .i64 0)
 refine LnP ?_ (z := p3 0 0 0) (t := 78) (cells := p3 dx11 dy14 1) (hi := by rw [J3]; kernel_rfl) (hs := by first | rw [J3, J3] | rw [J3] | kernel_rfl) (h1 := by exact J0h)
 intro Q2k W10 K1 hO h_
 replace off0 := off0.o hO
 clear hO h_ K1
 refine Lw ?_ (v := .int .i64 0)
 refine J0 ?_
 go_upto_region 6 with fail
 refine wp_region_lit ?_
 refine Lv ?_
 refine Lw ?_ (v := str (lb 32 (pN P))) (hv := by exact J5c rfl Tryd.underlying9 rfl rfl)
 refine Lr ?_ (Q94 (n := 32) HU1.out hP (by decide) W10)
 intro W11 hO
 replace off0 := off0.o hO
 clear hO
 refine LnA ?_ (z := J1 .i64 16 (Q2 0)) (t := 83) (k := .i64) (n := 16) (f := Q2 U1)
 intro Z2v W13 J24 hO h_
 replace off0 := off0.o hO
 have k_t12 := h_
 clear hO h_ J24
 refine J0 ?_
 go_upto_region 7 with fail
 refine Rx 9 ?_
 refine Xv ?_
 refine Xv ?_
 refine Xv ?_
 refine XlA ?_ k_t12
 refine Xf ?_ (fun W hW => Q39 U1 W)
 refine Xv ?_
 refine Xw ?_ (v := str (lb 32 (pN P))) (hv := fun _ _ => by exact J5c rfl Tryd.underlying9 rfl rfl)
 refine J40 (l := (lb 32 U1)) (m := (lb 32 (pN P))) (b := false) ((by rw [HU1.out, Nat.mod_eq_of_lt h1]; simp)) (by rfl) rfl rfl rfl ?_
 (try simp only [Act.put, mA, mB, mC])
 refine Xv ?_
 refine Q3 fun W14 hE => ?_
 have hO := Z6 hE
 replace off0 := off0.o hO
 clear hO hE
 refine LN ?_
 go_upto_region 9 with fail
 refine wp_region_lit ?_
 refine Lv ?_
 refine Lv ?_
 refine Lr ?_ (Y2i hL hv W14 (J59 hG off0.ext))
 intro W15 hO
 replace off0 := off0.o hO
 clear hO
 refine Lv ?_
 refine Lv ?_
 refine Lw ?_ (v := .bool false)
 refine LnP ?_ (z := p3 0 0 0) (t := 78) (cells := p3 0 0 0) (hi := by rw [J3]; kernel_rfl) (hs := by first | rw [J3, J3] | rw [J3] | kernel_rfl) (h1 := by exact J0h)
 intro V14 W17 J2x hO h_
 replace off0 := off0.o hO
 clear hO h_ J2x
 refine Lw ?_ (v := .bool false)
 refine J0 ?_
 go_wp2
 rw [← Q0q]
 exact bodyPost_ret (v := .tuple #[str (List.replicate 64 0), .int .i64 15]) (by simp only [results, Tryd.results28]; go_simp) rfl ⟨rfl, off0.ext⟩
theorem Z0w {V P : Nat} (hV : V < 2 ^ 256) (hP : B80 P) (L : List UInt8) (hL : L.length ≤ 1099511627776) (hk1 : dOk V = true) (hk2 : ¬ pm (dPt V) 8 = p0) (hok : dOk (pG P) = true) (h1 : pN P < LL) {c0 : Nat} (hv : vpt V L = some c0) {h : Pr} (hh : h = J22 V L c0) {r k : Nat} (hqq : ((chk V P h = pC P → r = Q6a P ∧ k = 0) ∧ (¬ chk V P h = pC P → r = 0 ∧ k = 17))) :
  ∀ w, GR w → Calls Tryd.prog 28 #[str (lb 32 V), str L, str (lb 80 P)] w fun e w' => Ret (.tuple #[str (lb 64 r), .int .i64 (k : Int)]) w w' e := by
 obtain ⟨dx1, dr2, dc3⟩ := J6h (V := V) hV hk1
 obtain ⟨dy4, hy5⟩ := V2 (V % 2 ^ 255)
 rw [← hy5] at dr2 dc3
 clear hy5
 obtain ⟨x6, y7, z8, r9, c10⟩ := J56 dr2
 have cs_ := J7c r9 J6q
 rw [decide_eq_false hk2] at cs_
 obtain ⟨dx11, dr12, dc13⟩ := J6h (V := (pG P)) (Q11 P) hok
 obtain ⟨dy14, hy15⟩ := V2 ((pG P) % 2 ^ 255)
 rw [← hy15] at dr12 dc13
 clear hy15
 obtain ⟨U1, hU1⟩ := V2 ((pN P) % LL)
 have lU1 : U1 < LL := by rw [hU1]; exact mLL _
 have bU1 : U1 < 2 ^ 256 := Nat.lt_trans lU1 J2w
 have HU1 := Lib.hid hU1
 clear hU1
 obtain ⟨hx, hy, hz, hr, hcl⟩ := Y2h hL hv hh
 obtain ⟨x16, y17, z18, r19, c20⟩ := Q1w Y3s (lb 32 (pN P)) (by rw [J8]; decide)
 rw [Q3n 32 (pN P) hP] at r19
 obtain ⟨x21, y22, z23, r24, c25⟩ := Z3p dr2
 obtain ⟨x26, y27, z28, r29, c30⟩ := Q1w r24 (lb 16 (pC P)) (by rw [J8]; decide)
 rw [Q3n 16 (pC P) (Q69 P)] at r29
 obtain ⟨x31, y32, z33, r34, c35⟩ := J8q r19 r29
 obtain ⟨x36, y37, z38, r39, c40⟩ := Q1w hr (lb 32 (pN P)) (by rw [J8]; decide)
 rw [Q3n 32 (pN P) hP] at r39
 obtain ⟨x41, y42, z43, r44, c45⟩ := Z3p dr12
 obtain ⟨x46, y47, z48, r49, c50⟩ := Q1w r44 (lb 16 (pC P)) (by rw [J8]; decide)
 rw [Q3n 16 (pC P) (Q69 P)] at r49
 obtain ⟨x51, y52, z53, r54, c55⟩ := J8q r39 r49
 obtain ⟨U2, hU2⟩ := V2 (ch V h (dPt (pG P)) (J14 (pm BP (pN P)) (pm (J4c (dPt V)) (pC P))) (J14 (pm h (pN P)) (pm (J4c (dPt (pG P))) (pC P))))
 have qU2 : U2 < J28 := by rw [hU2]; exact V44 _ _ _ _ _
 have HU2 := Lib.hid hU2
 clear hU2
 obtain ⟨U3, hU3⟩ := V2 (Q6a P)
 have HU3 := Lib.hid hU3
 clear hU3
 have HQ := Lib.hid hqq
 clear hqq
 intro w hG
 have off0 : Off [] w w := Off.refl _ _
 go_enter Tryd.func28, Tryd.ntmps28
 go_upto_region 1 with fail
 refine wp_region_lit ?_
 refine J8a (n := 64) (by first | omega | (simp only [List.length_append, List.length_cons, List.length_nil, J8]; omega)) (by rfl) rfl rfl rfl ?_
 (try simp only [Act.put, mA, mB, mC])
 intro Q09 W1 Q0a hO h_
 replace off0 := off0.o hO
 have ow_k18 : Own W1 (.slice (some ⟨Q09, 0, none⟩) 64 64) (List.replicate 64 0) := h_
 clear hO h_ Q0a
 refine J2l (l := (List.replicate 64 0)) (ow_k18.sl) (by rfl) rfl rfl ?_
 (try simp only [Act.put, mA, mB, mC])
 refine Lv ?_
 refine J0 ?_
 go_upto_region 2 with fail
 refine wp_region_lit ?_
 refine Lv ?_
 refine Lr ?_ (dc3 W1)
 intro W2 hO
 replace off0 := off0.o hO
 clear hO
 refine Lv ?_
 refine Lv ?_
 refine Lw ?_ (v := .int .i64 0)
 refine LnP ?_ (z := p3 0 0 0) (t := 78) (cells := p3 dx1 dy4 1) (hi := by rw [J3]; kernel_rfl) (hs := by first | rw [J3, J3] | rw [J3] | kernel_rfl) (h1 := by exact J0h)
 intro Y2k W4 J2o hO h_
 replace off0 := off0.o hO
 have k_t9 := h_
 clear hO h_ J2o
 refine Lw ?_ (v := .int .i64 0)
 refine J0 ?_
 go_upto_region 3 with fail
 refine wp_region_lit ?_
 refine Lw ?_ (v := .int .i64 0)
 refine Lw ?_ (v := .bool false)
 refine Lw ?_ (v := .bool false)
 refine L0 ?_ k_t9 (hi := by rw [J3]; kernel_rfl)
 refine Lr ?_ (c10 W4)
 intro W5 hO
 replace k_t9 := k_t9.o hO
 replace off0 := off0.o hO
 clear hO
 refine Lr ?_ (J6p W5)
 intro W6 hO
 replace k_t9 := k_t9.o hO
 replace off0 := off0.o hO
 clear hO
 refine Lr ?_ (cs_ W6)
 intro W7 hO
 replace k_t9 := k_t9.o hO
 replace off0 := off0.o hO
 clear hO
 refine Lw ?_ (v := .bool false)
 refine J0 ?_
 go_upto_region 5 with fail
 refine wp_region_lit ?_
 refine Lv ?_
 refine Lw ?_ (v := str (lb 32 (pG P))) (hv := by exact Q08 rfl Tryd.underlying9 rfl rfl)
 refine Lr ?_ (dc13 W7)
 intro W8 hO
 replace k_t9 := k_t9.o hO
 replace off0 := off0.o hO
 clear hO
 refine Lv ?_
 refine Lv ?_
 refine Lw ?_ (v := .int .i64 0)
 refine LnP ?_ (z := p3 0 0 0) (t := 78) (cells := p3 dx11 dy14 1) (hi := by rw [J3]; kernel_rfl) (hs := by first | rw [J3, J3] | rw [J3] | kernel_rfl) (h1 := by exact J0h)
 intro Q2k W10 K1 hO h_
 replace k_t9 := k_t9.o hO
 replace off0 := off0.o hO
 have k_t11 := h_
 clear hO h_ K1
 refine Lw ?_ (v := .int .i64 0)
 refine J0 ?_
 go_upto_region 6 with fail
 refine wp_region_lit ?_
 refine Lv ?_
 refine Lw ?_ (v := str (lb 32 (pN P))) (hv := by exact J5c rfl Tryd.underlying9 rfl rfl)
 refine Lr ?_ (Q94 (n := 32) HU1.out hP (by decide) W10)
 intro W11 hO
 replace k_t9 := k_t9.o hO
 replace k_t11 := k_t11.o hO
 replace off0 := off0.o hO
 clear hO
 refine LnA ?_ (z := J1 .i64 16 (Q2 0)) (t := 83) (k := .i64) (n := 16) (f := Q2 U1)
 intro Z2v W13 J24 hO h_
 replace k_t9 := k_t9.o hO
 replace k_t11 := k_t11.o hO
 replace off0 := off0.o hO
 have k_t12 := h_
 clear hO h_ J24
 refine J0 ?_
 go_upto_region 7 with fail
 refine Rx 9 ?_
 refine Xv ?_
 refine Xv ?_
 refine Xv ?_
 refine XlA ?_ k_t12
 refine Xf ?_ (fun W hW => Q39 U1 W)
 refine Xv ?_
 refine Xw ?_ (v := str (lb 32 (pN P))) (hv := fun _ _ => by exact J5c rfl Tryd.underlying9 rfl rfl)
 refine J40 (l := (lb 32 U1)) (m := (lb 32 (pN P))) (b := false) ((by rw [HU1.out, Nat.mod_eq_of_lt h1]; simp)) (by rfl) rfl rfl rfl ?_
 (try simp only [Act.put, mA, mB, mC])
 refine Xv ?_
 refine Q3 fun W14 hE => ?_
 have hO := Z6 hE
 replace k_t9 := k_t9.o hO
 replace k_t11 := k_t11.o hO
 replace off0 := off0.o hO
 clear hO hE
 refine LN ?_
 go_upto_region 9 with fail
 refine wp_region_lit ?_
 refine Lv ?_
 refine Lv ?_
 refine Lr ?_ (hcl W14 (J59 hG off0.ext))
 intro W15 hO
 replace k_t9 := k_t9.o hO
 replace k_t11 := k_t11.o hO
 replace off0 := off0.o hO
 clear hO
 refine Lv ?_
 refine Lv ?_
 refine Lw ?_ (v := .bool true)
 refine LnP ?_ (z := p3 0 0 0) (t := 78) (cells := p3 hx hy hz) (hi := by rw [J3]; kernel_rfl) (hs := by first | rw [J3, J3] | rw [J3] | kernel_rfl) (h1 := by exact J0h)
 intro V14 W17 J2x hO h_
 replace k_t9 := k_t9.o hO
 replace k_t11 := k_t11.o hO
 replace off0 := off0.o hO
 have k_t13 := h_
 clear hO h_ J2x
 refine Lw ?_ (v := .bool true)
 refine J0 ?_
 go_upto_region 12 with fail
 refine wp_region_lit ?_
 refine Lv ?_
 refine Lw ?_ (v := str (lb 16 (pC P))) (hv := by exact Y2g rfl Tryd.underlying9 rfl rfl rfl)
 refine Lv ?_
 refine J0 ?_
 go_upto_region 13 with fail
 refine Rx1 9 16 (z := p3 0 0 0) (t := 78) ?_
 refine Xf ?_ (fun W hW => Y3r W)
 refine Xv ?_
 refine Xw ?_ (v := str (lb 32 (pN P))) (hv := fun _ _ => by exact J5c rfl Tryd.underlying9 rfl rfl)
 refine Xf ?_ (fun W hW => c20 W)
 refine Xl ?_ k_t9 (hi := by rw [J3]; kernel_rfl)
 refine Xf ?_ (fun W hW => c25 W)
 refine Xv ?_
 refine Xf ?_ (fun W hW => c30 W)
 refine Xf ?_ (fun W hW => c35 W)
 refine XN ?_
 intro Y2n W18 J8j hE h_t16
 have hO := Z6 hE
 have Z2w := bn k_t11 J8j
 have Z2x := bn k_t13 J8j
 have Z2s := fbn off0 J8j
 replace k_t11 := k_t11.o hO
 replace k_t13 := k_t13.o hO
 replace off0 := off0.o hO
 clear hO hE J8j
 have k_t16 : Blk W18 Y2n (p3 0 0 0) 78 := h_t16
 clear h_t16
 refine Lp ?_ k_t16 (cells := p3 x31 y32 z33) (hi := by rw [J3]; kernel_rfl) (hs := by first | rw [J3, J3] | rw [J3] | kernel_rfl) (h1 := by exact J0h)
 intro W19 hO h_
 replace k_t16 : Blk W19 Y2n (p3 x31 y32 z33) 78 := h_
 clear h_
 replace k_t11 := k_t11.p hO Z2w
 replace k_t13 := k_t13.p hO Z2x
 replace off0 := off0.p hO Z2s
 clear hO
 refine LN ?_
 go_upto_region 14 with fail
 refine Rx1 9 17 (z := p3 0 0 0) (t := 78) ?_
 refine Xl ?_ k_t13 (hi := by rw [J3]; kernel_rfl)
 refine Xv ?_
 refine Xw ?_ (v := str (lb 32 (pN P))) (hv := fun _ _ => by exact J5c rfl Tryd.underlying9 rfl rfl)
 refine Xf ?_ (fun W hW => c40 W)
 refine Xl ?_ k_t11 (hi := by rw [J3]; kernel_rfl)
 refine Xf ?_ (fun W hW => c45 W)
 refine Xv ?_
 refine Xf ?_ (fun W hW => c50 W)
 refine Xf ?_ (fun W hW => c55 W)
 refine XN ?_
 intro Y2o W20 Z0x hE h_t17
 have hO := Z6 hE
 have Z2y := bn k_t11 Z0x
 have Z2z := bn k_t13 Z0x
 have Z30 := bn k_t16 Z0x
 have V15 := fbn off0 Z0x
 replace k_t11 := k_t11.o hO
 replace k_t13 := k_t13.o hO
 replace k_t16 := k_t16.o hO
 replace off0 := off0.o hO
 clear hO hE Z0x
 have k_t17 : Blk W20 Y2o (p3 0 0 0) 78 := h_t17
 clear h_t17
 refine Lp ?_ k_t17 (cells := p3 x51 y52 z53) (hi := by rw [J3]; kernel_rfl) (hs := by first | rw [J3, J3] | rw [J3] | kernel_rfl) (h1 := by exact J0h)
 intro W21 hO h_
 replace k_t17 : Blk W21 Y2o (p3 x51 y52 z53) 78 := h_
 clear h_
 replace k_t11 := k_t11.p hO Z2y
 replace k_t13 := k_t13.p hO Z2z
 replace k_t16 := k_t16.p hO Z30
 replace off0 := off0.p hO V15
 clear hO
 refine LN ?_
 by_cases htk : chk V P h = pC P
 ·
  have _f := htk
  go_upto_region 15 with fail
  refine wp_region_lit ?_
  refine Lv ?_
  refine L0 ?_ k_t13 (hi := by rw [J3]; kernel_rfl)
  refine L0 ?_ k_t11 (hi := by rw [J3]; kernel_rfl)
  refine L0 ?_ k_t16 (hi := by rw [J3]; kernel_rfl)
  refine L0 ?_ k_t17 (hi := by rw [J3]; kernel_rfl)
  refine Lr ?_ (Y7p hr dr12 r34 r54 HU2.out W21 (J59 hG off0.ext))
  intro W22 hO
  replace k_t11 := k_t11.o hO
  replace k_t13 := k_t13.o hO
  replace k_t16 := k_t16.o hO
  replace k_t17 := k_t17.o hO
  replace off0 := off0.o hO
  clear hO
  refine Lv ?_
  have hc_ : U2 = chk V P h := by rw [HU2.out]; rfl
  refine Lw ?_ (v := .bool false) (hv := by exact J98 (l := (lb 16 U2)) (m := (lb 16 (pC P))) (by rw [decide_eq_true (by rw [hc_, htk])]; rfl) rfl rfl rfl)
  refine J0 ?_
  go_upto_region 17 with fail
  refine wp_region_lit ?_
  refine Lv ?_
  refine Lr ?_ (Y63 hok HU3.out W22 (J59 hG off0.ext))
  intro W23 hO
  replace k_t11 := k_t11.o hO
  replace k_t13 := k_t13.o hO
  replace k_t16 := k_t16.o hO
  replace k_t17 := k_t17.o hO
  replace off0 := off0.o hO
  clear hO
  refine Lv ?_
  refine Lw ?_ (v := .int .i64 0)
  refine Lv ?_
  refine Lw ?_ (v := .int .i64 0)
  refine J0 ?_
  go_wp2
  obtain ⟨er_, ek_⟩ := HQ.out.1 htk
  rw [er_, ek_, ← HU3.out]
  exact bodyPost_ret (v := .tuple #[str (lb 64 U3), .int .i64 (0 : Nat)]) (by simp only [results, Tryd.results28]; go_simp) rfl ⟨rfl, off0.ext⟩
 ·
  have _f := htk
  go_upto_region 15 with fail
  refine wp_region_lit ?_
  refine Lv ?_
  refine L0 ?_ k_t13 (hi := by rw [J3]; kernel_rfl)
  refine L0 ?_ k_t11 (hi := by rw [J3]; kernel_rfl)
  refine L0 ?_ k_t16 (hi := by rw [J3]; kernel_rfl)
  refine L0 ?_ k_t17 (hi := by rw [J3]; kernel_rfl)
  refine Lr ?_ (Y7p hr dr12 r34 r54 HU2.out W21 (J59 hG off0.ext))
  intro W22 hO
  replace off0 := off0.o hO
  clear hO
  refine Lv ?_
  have hc_ : U2 = chk V P h := by rw [HU2.out]; rfl
  refine Lw ?_ (v := .bool true) (hv := by exact J98 (l := (lb 16 U2)) (m := (lb 16 (pC P))) (by rw [decide_eq_false fun e => htk (hc_ ▸ Z0t qU2 (Q69 P) e)]; rfl) rfl rfl rfl)
  refine J0 ?_
  go_wp2
  obtain ⟨er_, ek_⟩ := HQ.out.2 htk
  rw [er_, ek_, ← Q0q]
  exact bodyPost_ret (v := .tuple #[str (List.replicate 64 0), .int .i64 (17 : Nat)]) (by simp only [results, Tryd.results28]; go_simp) rfl ⟨rfl, off0.ext⟩
theorem Y2p {V P : Nat} {X : Nat × Nat} {L : List UInt8} (hX : X = J6a V L P) (hV : V < 2 ^ 256) (hP : B80 P) (hL : L.length ≤ 1099511627776) (w : World) (hG : GR w) :
    Calls Tryd.prog 28 #[str (lb 32 V), str L, str (lb 80 P)] w fun e w' => Ret (.tuple #[str (lb 64 X.1), .int .i64 (X.2 : Int)]) w w' e := by
  subst hX
  unfold J6a
  cases hk1 : dOk V
  · rw [if_pos (Or.inl rfl)]; exact Y2j hV hP L hL hk1 w hG
  by_cases hk2 : pm (dPt V) 8 = p0
  · rw [if_pos (Or.inr hk2)]; exact Y2l hV hP L hL hk1 hk2 w hG
  rw [if_neg (by rintro (h | h); cases h; exact hk2 h)]
  cases hok : dOk (pG P)
  · rw [if_pos (Or.inl rfl)]; exact Z7l hV hP L hL hk1 hk2 hok w hG
  by_cases h1 : LL ≤ pN P
  · rw [if_pos (Or.inr h1)]; exact Z7m hV hP L hL hk1 hk2 hok h1 w hG
  rw [if_neg (by rintro (h | h); cases h; exact h1 h)]
  cases hv : vpt V L with
  | none => exact Y2m hV hP L hL hk1 hk2 hok (Nat.not_le.1 h1) hv w hG
  | some c =>
    by_cases ht : chk V P (J22 V L c) = pC P
    · simp only [if_pos ht]; exact Z0w hV hP L hL hk1 hk2 hok (Nat.not_le.1 h1) hv rfl ⟨fun _ => ⟨rfl, rfl⟩, fun h => absurd ht h⟩ w hG
    · simp only [if_neg ht]; exact Z0w hV hP L hL hk1 hk2 hok (Nat.not_le.1 h1) hv rfl ⟨fun h => absurd h ht, fun _ => ⟨rfl, rfl⟩⟩ w hG
end Go.Proofs.YtefpoollmbmkfaaDoor

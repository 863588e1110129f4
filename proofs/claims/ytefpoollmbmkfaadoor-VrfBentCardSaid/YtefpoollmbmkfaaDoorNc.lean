/- scalar.Canon and Clamp. scalar.Canon: 32 bytes below the order, or none. -/
import Derived.Test.YtefpoollmbmkfaaDoorNb
set_option linter.unusedSimpArgs false
set_option linter.unusedVariables false
namespace Go.Proofs.YtefpoollmbmkfaaDoor.Sc
set_option maxHeartbeats 4000000
set_option maxRecDepth 100000
open Go.RowKit

end Go.Proofs.YtefpoollmbmkfaaDoor.Sc

namespace Go.Proofs.YtefpoollmbmkfaaDoor.Sc
set_option maxHeartbeats 4000000
set_option maxRecDepth 100000
open Go.RowKit

def canonV (n : Nat) : Value := if n < LL then .tuple #[L4 n, .bool true] else .tuple #[L4 0, .bool false]
theorem Q4s (V : Nat) : c4 V = J1 .u64 4 (lim V) := rfl
theorem J9y (i : Nat) : lim 0 i = 0 := by simp [lim]
theorem Y0f : J1 .u64 4 (lim 0) = #[.int .u64 0, .int .u64 0, .int .u64 0, .int .u64 0] := by
  show #[Value.int .u64 (lim 0 0), Value.int .u64 (lim 0 1), Value.int .u64 (lim 0 2), Value.int .u64 (lim 0 3)] = _
  rw [J9y, J9y, J9y, J9y]
theorem Q1i (bs : Nat → Int) (h : ∀ j, J4m (bs j)) (n q r : Nat) (hr : r < 8) :
    (J1 .u64 n (lim (J1f bs (8 * q + r)))).setIfInBounds q (.int .u64 (bits .or .u64 (lim (J1f bs (8 * q + r)) q) (IntKind.wrap .u64 (bs (8 * q + r) * 2 ^ (8 * r))))) = J1 .u64 n (lim (J1f bs (8 * q + r + 1))) := by
  rw [Z3b bs h q r hr, J04]
  apply J0d
  intro j _
  by_cases hj : j = q
  · subst hj; rw [J31]
  · rw [J19 _ _ _ _ hj, J9j bs h (8 * q + r) j (by omega)]

theorem canon_c (bs : Nat → Int) (hbs : ∀ j, J4m (bs j)) (w : World) (hG : GL w) :
    Calls Tryd.prog 55 #[.agg (J1 .u8 32 bs)] w fun e w' => Ret (canonV (J1f bs 32)) w w' e := by
  have HG := Lib.hid hG
  have n0 := hG.2.2.2.2
  clear hG
  have HB := Lib.hid hbs
  clear hbs
  go_enter Tryd.func55, Tryd.ntmps55
  go_wp2_with (refine wpList_load_row rfl 22 (.tmp 1) rfl w.heap.size rfl 22 (J1 .u8 32 bs) (0, 0) _ (V3 (V3 (K0 _ _ rfl) _) _) Tryd.underlying22 rfl (by kernel_rfl) ?_)
  go_loopw [8] (fun ii wr => ∃ k : Nat, k ≤ 32 ∧ ii = .int .i64 k ∧ Below w.heap.size w wr ∧
      Blk wr (w.heap.size + 1) #[.int .u64 0, .int .u64 0, .int .u64 0, .int .u64 0] 42 ∧ Blk wr (w.heap.size + 2) (J1 .u64 4 (lim (J1f bs k))) 42)
    (fun ii _ => (32 - intOf ii).toNat)
  case atStart =>
    refine ⟨0, by omega, rfl, ?_, ?_, ?_⟩
    · exact bz
    · exact V3 (K0 _ _ (World.size_alloc _ _).symm) _
    · rw [show J1f bs 0 = 0 from rfl, Y0f]; exact K0 _ _ (by simp)
  case round =>
    obtain ⟨k, hk, rfl, hbel, b1, b2⟩ := hrel
    by_cases hk32 : k = 32
    · subst hk32
      have hV : J1f bs 32 < Z0 := J5v bs HB.out 32
      rw [← Q4s] at b2
      have HG2 := Lib.hid (J5a HG.out hbel HG.out.2.2.2.2)
      have off0.size := hbel.size
      have sz2 := J5 b2
      have c2 := Q8 b2
      obtain ⟨g0, g1, g2, g3, g4⟩ := HG2.out
      go_wp2_with fail
      refine (Y77 (J1f bs 32) hV _).mono ?_
      rintro e w1 ⟨rfl, hb1⟩
      have c21 := Q8 (J2 b2 hb1)
      have c11 := Q8 (J2 b1 hb1)
      have f11 := K5 (J2 b1 hb1)
      have s1 := hb1.size
      have n1 : w.heap.size + 1 < w.heap.size + 2 := by omega
      clear c2
      by_cases hlt : J1f bs 32 < LL
      · rw [show decide (J1f bs 32 < LL) = true from decide_eq_true hlt]
        have HL := Lib.hid hlt
        clear hlt
        go_wp2
        refine bodyPost_ret (v := .tuple #[L4 (J1f bs 32), .bool true]) (by simp only [results, Tryd.results55]; go_simp) rfl ⟨(by unfold canonV; rw [if_pos HL.out]), ?_⟩
        exact bz
      · rw [show decide (J1f bs 32 < LL) = false from decide_eq_false hlt]
        have HL := Lib.hid hlt
        clear hlt
        go_wp2
        refine bodyPost_ret (v := .tuple #[A4 0 0 0 0, .bool false]) (by simp only [results, Tryd.results55]; go_simp) rfl ⟨(by unfold canonV; rw [if_neg HL.out]; rfl), ?_⟩
        exact bz
    · obtain ⟨q, r, hr, rfl⟩ : ∃ q r, r < 8 ∧ k = 8 * q + r := ⟨k / 8, k % 8, by omega, by omega⟩
      have hix : ∀ W, (Instr.index 22 (.agg (J1 .u8 32 bs)) (.int .i64 (8 * (q : Int) + (r : Int)))).run Tryd.prog W = .ok (.int .u8 (bs (8 * q + r))) W :=
        fun W => J2c W 22 5 32 .u8 .i64 _ (8 * q + r) _ Tryd.underlying22 Tryd.underlying5 (by kernel_rfl) (by omega) (J6 _ _ _ _ (by omega))
      have d1 : IntKind.i64.wrap ((8 * (q : Int) + (r : Int)).tdiv 8) = (q : Int) := by rw [Int.tdiv_eq_ediv_of_nonneg (by omega), IntWalk.i64_in _ (by omega)]; omega
      have d2 : (8 * (q : Int) + (r : Int)).tmod 8 = (r : Int) := by rw [Int.tmod_eq_emod_of_nonneg (by omega)]; omega
      have d3 : IntKind.i64.wrap (8 * (r : Int)) = 8 * (r : Int) := IntWalk.i64_in _ (by omega)
      have d4 : IntKind.u64.wrap (bs (8 * q + r)) = bs (8 * q + r) := by have := HB.out (8 * q + r); unfold J4m at this; rw [IntKind.wrap_u64]; omega
      have hq0 : (0 : Int) ≤ (q : Int) := by omega
      have hq1 : (q : Int) < 4 := by omega
      have hr0 : (0 : Int) ≤ (r : Int) := by omega
      have hr1 : (r : Int) < 8 := by omega
      have c2 := (Q8 b2 q).trans (J6 _ _ _ _ (by omega))
      have f2 := K5 b2
      have hs := fun v => V1 b2 q v
      go_wp2
      go_region
      go_wp2
      have off0.size := hbel.size
      go_roundw
      case rel =>
        refine ⟨8 * q + r + 1, by omega, by go_num, ?_, V4 (J9 b1 (by omega) _ _), ?_⟩
        · exact bz
        · have := hs (.int .u64 (bits .or .u64 (lim (J1f bs (8 * q + r)) q) (IntKind.wrap .u64 (bs (8 * q + r) * 2 ^ (8 * r)))))
          rw [Q1i bs HB.out 4 q r hr] at this
          exact V4 this
      case measure => simp [intOf]; omega
end Go.Proofs.YtefpoollmbmkfaaDoor.Sc

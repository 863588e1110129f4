/- custumallaw24.WireTells: whatever the input, the call returns true, never panics, and the input reads as it did. Conditions: none. -/
import Derived.Test.YtlbgelbhhibikaaRowKitV
import Derived.Test.YtlbgelbhhibikaaYs
set_option linter.unusedSimpArgs false
set_option linter.unusedVariables false
namespace Go.Proofs.Ytlbgelbhhibikaa.wireTells
set_option maxRecDepth 100000
open Go.ChangeShapes Go.WideShapes Go.ChangeAt Go.RowKit

theorem contract (H : Type) (enc : TypeId × Value → H) (W : World) (base : Nat) (args : Array Value) (ds gs : List (DataW H)) (before : List MemPlace)
    (hval : ∀ (j : Nat) t v, Try.f6.params[j]? = some t → args[j]? = some v → Value.okWide Try.prog W .any base t v)
    (hW : DataW.Whole enc Try.prog Try.f6.params.toList Rows.wireTellsSpec.vars false W args.toList ds gs before) (hL : laidMetH Try.prog Rows.wireTellsRow.laid W) :
    Calls Try.prog 6 args W fun e W' => ∃ v, e = .returned v ∧ Rows.wireTellsSpec.post enc Try.prog Try.f6 false true false false W args v W' := by
  have hW' := hW
  obtain ⟨p, q, hAA, hV, rfl, hfz, hnd⟩ := hW
  have hA : DataW.TrodAll enc Try.prog W 0 (fun _ => true) true Try.f6.params.toList args.toList ds p := hAA
  rw [Try.params6] at hA hval
  obtain ⟨v0, vs0, d0, ds0, p0, q0, hargs, rfl, rfl, h0, r0⟩ := trodAll_cons hA
  obtain ⟨v1, vs1, d1, ds1, p1, q1, rfl, rfl, rfl, h1, r1⟩ := trodAll_cons r0
  obtain ⟨rfl, rfl, rfl⟩ := trodAll_nil r1
  obtain rfl : args = #[v0, v1] := by cases args; simp_all
  obtain ⟨rfl, rfl⟩ := trodVars_none hV
  clear hAA
  obtain ⟨n, rfl, rfl, hn⟩ := open_i (hval 1 3 v1 rfl rfl) h1
  (try simp only [List.append_nil, List.nil_append] at hW')
  have hlt0 : ∀ x ∈ p0, x.block < W.heap.size := fun x hx => hW'.lt x (by simp [hx])
  obtain ⟨k, er, nu, ep, ix, vr, pre, ver, val, bo, op, sv, ss, th, a, x, ro, li, ah, rd, sm, uv, us, tv, tb, gone, b0, b1, b2, b3, b4, b5, b6, b7, b8, b9, b10, b11, b12, b13, b14, b15, b16, b17, b18, b19, b20, b21, b22, rfl⟩ := open_custumallaw24_Told (hval 0 74 v0 rfl rfl) h0
  refine (Ww.wireTells_L (d := ⟨ep, ix, vr, pre, ver, val, bo, op, ss, th, a, x, ro, li, ah, rd⟩) n b3 b7 b18 b11.1 b13 b14 b20.1 W b11.2 b20.2 b21.1).mono fun e W' ⟨he, hb⟩ => ?_
  subst he
  exact ⟨_, rfl, _, _, _, [], _, [], hW', trodAll_mk1 (shut_bool Try.underlying4 _), trodAll_cons_mk (Below.trod laidOut (by kernel_rfl) (of_decide_eq_true (by kernel_rfl)) h0 hb hlt0) (trodAll_cons_mk (stays (by kernel_rfl) (of_decide_eq_true (by kernel_rfl)) h1) trodAll_mk0),
    rfl, hb.frame _, fun h => by cases h⟩

theorem reads (os : Os) {H : Type} (enc : TypeId × Value → H) : ∃ places, DataW.whole enc Try.prog ((setWorld os).forCall (fun _ _ => 0) ⟨#[], #[.agg (agF [.c (.int .i64 0), .c (.int .i64 0), .c (.int .i64 0), .c (.int .i64 0), .c (str []), .c (str []), .c (.bool false), .c (.int .i64 0), .c (str []), .c (str []), .c (str []), .c (.slice none 0 0), .c (.bool false), .a 32 0, .a 32 0, .c (str []), .c (str []), .c (str []), .c (.int .i64 0), .a 32 0, .c (.slice none 0 0), .c (.slice none 0 0), .c (.bool false)]), .int .i64 0], []⟩).memory Try.f6.params.toList Rows.wireTellsSpec.vars false (#[.agg (agF [.c (.int .i64 0), .c (.int .i64 0), .c (.int .i64 0), .c (.int .i64 0), .c (str []), .c (str []), .c (.bool false), .c (.int .i64 0), .c (str []), .c (str []), .c (str []), .c (.slice none 0 0), .c (.bool false), .a 32 0, .a 32 0, .c (str []), .c (str []), .c (str []), .c (.int .i64 0), .a 32 0, .c (.slice none 0 0), .c (.slice none 0 0), .c (.bool false)]), .int .i64 0] : Array Value).toList 120 = some ([.agg [.lit (.int .i64 0), .lit (.int .i64 0), .lit (.int .i64 0), .agg [.lit (.int .i64 0), .lit (.string []), .lit (.string []), .lit (.bool false), .lit (.int .i64 0), .lit (.string []), .lit (.string []), .lit (.string []), .agg [.nil, .lit (.bool false), .agg [.agg (List.replicate 32 (.lit (.int .u8 0))), .agg (List.replicate 32 (.lit (.int .u8 0)))]], .lit (.string []), .lit (.string []), .lit (.string []), .lit (.int .i64 0)], .agg (List.replicate 32 (.lit (.int .u8 0))), .nil, .nil, .lit (.bool false)], .lit (.int .i64 0)], [], places) :=
  ⟨[], by kernel_rfl⟩

theorem lifted (os : Os) (started : os.Started) (H : Type) (enc : TypeId × Value → H) (F : Stop.Interp) :
    ReturnsInHanded {} Try.checked os 6 .any ((OpenSpec.ofChange Rows.wireTellsSpec).preRow enc Try.prog Try.f6 Rows.wireTellsRow.domain false Rows.wireTellsRow.laid) (((OpenSpec.ofChange Rows.wireTellsSpec).at F).post enc Try.prog Try.f6 false true false false) := by
  obtain ⟨places, hx⟩ := reads os enc
  refine returnsInHanded_of_row (C := Try.checked) (s := OpenSpec.ofChange Rows.wireTellsSpec) own started (by kernel_rfl) Try.func6
    (witness_row_at (enc := enc) (C := Try.checked) false (setWorld os) #[.agg (agF [.c (.int .i64 0), .c (.int .i64 0), .c (.int .i64 0), .c (.int .i64 0), .c (str []), .c (str []), .c (.bool false), .c (.int .i64 0), .c (str []), .c (str []), .c (str []), .c (.slice none 0 0), .c (.bool false), .a 32 0, .a 32 0, .c (str []), .c (str []), .c (str []), .c (.int .i64 0), .a 32 0, .c (.slice none 0 0), .c (.slice none 0 0), .c (.bool false)]), .int .i64 0] rfl (by kernel_rfl) (by kernel_rfl) (by kernel_rfl)
      (OpenSpec.preRow_of_cond 120 hx (by kernel_rfl) (fun k hk => by cases hk) (by kernel_rfl) (laidMetH_nil _ _))) ?_
  intro W base args ds gs before hval hW _ _ _ hL _ _
  exact contract H enc W base args ds gs before hval hW hL

theorem said : Rows.WireTellsSaid :=
  OpenClaim.holds_of_cond 6 Try.f6 rfl rfl rfl rfl rfl rfl rfl ⟨rfl, rfl, rfl, rfl, rfl⟩ rfl rfl rfl rfl rfl (by kernel_rfl) Try.func6 (by kernel_rfl)
    (of_decide_eq_true (by kernel_rfl)) (by unfold Func.isWrapper; first | (rw [if_pos (by decide +kernel)]; kernel_rfl) | (rw [if_neg (by decide +kernel)]; exact ⟨rfl, rfl⟩))
    (fun os started H enc _ F => by rw [OpenClaim.pre_eq_preRow]; exact lifted os started H enc F)

end Go.Proofs.Ytlbgelbhhibikaa.wireTells
namespace Go.Proofs.Ytlbgelbhhibikaa
set_option maxRecDepth 100000
theorem wireTells_holds : Rows.WireTellsSaid := wireTells.said
#print axioms wireTells_holds
end Go.Proofs.Ytlbgelbhhibikaa

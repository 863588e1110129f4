/- Contracts and plain laws that superChecks_holds rests on. Conditions: the variables' cells hold the numbers of the program's text. -/
import Derived.Test.YtejkmhgkkibafaaGreatDoorJ33
import Derived.Test.YtejkmhgkkibafaaGreatDoorUz
set_option maxRecDepth 100000
set_option linter.unusedSimpArgs false
set_option linter.unusedVariables false
namespace Go.Proofs.YtejkmhgkkibafaaGreatDoor.superChecks
open Go.ChangeShapes Go.WideShapes Go.ChangeAt Go.RowKit

theorem Z61 (H : Type) (enc : TypeId × Value → H) (W : World) (base : Nat) (args : Array Value) (ds gs : List (DataW H)) (before : List MemPlace)
    (hval : ∀ (j : Nat) t v, Tryz.f5.params[j]? = some t → args[j]? = some v → Value.okWide Tryz.prog W .any base t v)
    (hW : DataW.Whole enc Tryz.prog Tryz.f5.params.toList Rows.superChecksSpec.vars false W args.toList ds gs before) (hL : laidMetH Tryz.prog Rows.superChecksRow.laid W) :
    Calls Tryz.prog 5 args W fun e W' => ∃ v, e = .returned v ∧ Rows.superChecksSpec.post enc Tryz.prog Tryz.f5 false true false false W args v W' := by
  have hW' := hW
  obtain ⟨p, q, hAA, hV, rfl, hfz, hnd⟩ := hW
  have hA : DataW.TrodAll enc Tryz.prog W 0 (fun _ => true) true Tryz.f5.params.toList args.toList ds p := hAA
  rw [Tryz.params5] at hA hval
  obtain ⟨v0, vs0, d0, ds0, p0, q0, hargs, rfl, rfl, h0, r0⟩ := trodAll_cons hA
  obtain ⟨v1, vs1, d1, ds1, p1, q1, rfl, rfl, rfl, h1, r1⟩ := trodAll_cons r0
  obtain ⟨v2, vs2, d2, ds2, p2, q2, rfl, rfl, rfl, h2, r2⟩ := trodAll_cons r1
  obtain ⟨rfl, rfl, rfl⟩ := trodAll_nil r2
  obtain rfl : args = #[v0, v1, v2] := by cases args; simp_all
  obtain ⟨rfl, rfl⟩ := trodVars_none hV
  clear hAA
  obtain ⟨n, rfl, rfl, _⟩ := Y64 (hval 2 3 v2 rfl rfl) h2
  (try simp only [List.append_nil, List.nil_append] at hW')
  have hlt0 : ∀ x ∈ p0, x.block < W.heap.size := fun x hx => hW'.lt x (by simp [hx])
  obtain ⟨V, hV, rfl⟩ := Z5z (hval 0 23 v0 rfl rfl) h0
  have hlt1 : ∀ x ∈ p1, x.block < W.heap.size := fun x hx => hW'.lt x (by simp [hx])
  obtain ⟨n1, X2, X3, b0, b1, b2, rfl⟩ := J97 (hval 1 47 v1 rfl rfl) h1
  rw [show 8 * 64 = 256 + 256 from rfl] at b2
  refine (Q3c (x := ⟨n1, X2, X3⟩) (Y4g (by decide) hV) b2 W (Q2b hL) ((J3g hL).2.2.2 trivial)).mono fun e W' ⟨he, hb⟩ => ?_
  subst he
  exact ⟨_, rfl, _, _, _, [], _, [], hW', trodAll_mk1 (shut_bool Tryz.underlying4 _), trodAll_cons_mk (Below.trod Q54 (by kernel_rfl) (of_decide_eq_true (by kernel_rfl)) h0 hb hlt0) (trodAll_cons_mk (Below.trod Q54 (by kernel_rfl) (of_decide_eq_true (by kernel_rfl)) h1 hb hlt1) (trodAll_cons_mk (Y9k (by kernel_rfl) (of_decide_eq_true (by kernel_rfl)) h2) trodAll_mk0)),
    rfl, hb.frame _, fun h => by cases h⟩

theorem Z62 (os : Os) : laidMet Tryz.prog Rows.superChecksRow.laid ((laidWorld os).forCall (fun _ _ => 0) ⟨#[], #[.agg (J0 .u8 32 (Q3 0)), .agg (agF [.c (.int .i64 0), .a 32 0, .a 64 0]), .int .i64 0], []⟩).memory :=
  laidMet_of_run' 80 (by kernel_rfl) (by kernel_rfl)
theorem reads (os : Os) {H : Type} (enc : TypeId × Value → H) : ∃ places, DataW.whole enc Tryz.prog ((laidWorld os).forCall (fun _ _ => 0) ⟨#[], #[.agg (J0 .u8 32 (Q3 0)), .agg (agF [.c (.int .i64 0), .a 32 0, .a 64 0]), .int .i64 0], []⟩).memory Tryz.f5.params.toList Rows.superChecksSpec.vars false (#[.agg (J0 .u8 32 (Q3 0)), .agg (agF [.c (.int .i64 0), .a 32 0, .a 64 0]), .int .i64 0] : Array Value).toList 80 = some ([.agg (List.replicate 32 (.lit (.int .u8 0))), .agg [.lit (.int .i64 0), .agg (List.replicate 32 (.lit (.int .u8 0))), .agg (List.replicate 64 (.lit (.int .u8 0)))], .lit (.int .i64 0)], [], places) :=
  ⟨[], by kernel_rfl⟩

theorem Y6b (os : Os) (started : os.Started) (H : Type) (enc : TypeId × Value → H) (F : Stop.Interp) :
    ReturnsInHanded {} Tryz.checked os 5 .any ((OpenSpec.ofChange Rows.superChecksSpec).preRow enc Tryz.prog Tryz.f5 Rows.superChecksRow.domain false Rows.superChecksRow.laid) (((OpenSpec.ofChange Rows.superChecksSpec).at F).post enc Tryz.prog Tryz.f5 false true false false) := by
  obtain ⟨places, hx⟩ := reads os enc
  refine returnsInHanded_of_row (C := Tryz.checked) (s := OpenSpec.ofChange Rows.superChecksSpec) own started (by kernel_rfl) Tryz.func5
    (witness_row_at (enc := enc) (C := Tryz.checked) false (laidWorld os) #[.agg (J0 .u8 32 (Q3 0)), .agg (agF [.c (.int .i64 0), .a 32 0, .a 64 0]), .int .i64 0] rfl (by kernel_rfl) (by kernel_rfl) (by kernel_rfl)
      (OpenSpec.preRow_of_cond 80 hx (by kernel_rfl) (fun k hk => by cases hk) (by kernel_rfl) (Z62 os))) ?_
  intro W base args ds gs before hval hW _ _ _ hL _ _
  exact Z61 H enc W base args ds gs before hval hW hL

theorem V3e : Rows.SuperChecksSaid :=
  OpenClaim.holds_of_cond 5 Tryz.f5 rfl rfl rfl rfl rfl rfl rfl ⟨rfl, rfl, rfl, rfl, rfl⟩ rfl rfl rfl rfl rfl (by kernel_rfl) Tryz.func5 (by kernel_rfl)
    (of_decide_eq_true (by kernel_rfl)) (by unfold Func.isWrapper; first | (rw [if_pos (by decide +kernel)]; kernel_rfl) | (rw [if_neg (by decide +kernel)]; exact ⟨rfl, rfl⟩))
    (fun os started H enc _ F => by rw [OpenClaim.pre_eq_preRow]; exact Y6b os started H enc F)

theorem plain (f : FuncId) (fn : Func) (hf : Tryz.pinned.checked.prog.funcNamed "custumal/custumallaw23.SuperChecks" = some f) (hfn : Tryz.pinned.checked.prog.funcs[f]? = some fn) :
    false = Tryz.pinned.checked.prog.looks [] ∧ ∀ (j : Nat) t, fn.params[j]? = some t → Tryz.pinned.checked.prog.wantsStandIn t = false := by
  obtain rfl : f = 5 := Option.some.inj ((show Tryz.prog.funcNamed "custumal/custumallaw23.SuperChecks" = some 5 by kernel_rfl).symm.trans hf) |>.symm
  obtain rfl : fn = Tryz.f5 := (Option.some.inj (Tryz.func5.symm.trans hfn)).symm
  refine ⟨by kernel_rfl, fun j t ht => ?_⟩
  rw [Tryz.params5] at ht
  have hm := Array.mem_of_getElem? ht
  simp only [List.mem_toArray, List.mem_cons, List.not_mem_nil, or_false, or_self] at hm
  rcases hm with rfl | rfl | rfl
  · exact (show Tryz.prog.wantsStandIn 23 = false by kernel_rfl)
  · exact (show Tryz.prog.wantsStandIn 47 = false by kernel_rfl)
  · exact (show Tryz.prog.wantsStandIn 3 = false by kernel_rfl)

theorem card : Rows.SuperChecksCardSaid :=
  Claim7.holds_tied_plain_at .later [] _ _ _ _ V3e (fun _ h => by cases h) (by kernel_rfl) (fun _ h => by cases h) superChecks_row_tie rfl ⟨rfl, rfl⟩ (by kernel_rfl) rfl plain (by kernel_rfl)
end Go.Proofs.YtejkmhgkkibafaaGreatDoor.superChecks
namespace Go.Proofs.YtejkmhgkkibafaaGreatDoor
theorem superChecks_holds : Rows.SuperChecksCardSaid := superChecks.card
#print axioms superChecks_holds
end Go.Proofs.YtejkmhgkkibafaaGreatDoor

/- The card of custumallaw09.VrfBent: whatever the input, the call returns true, never panics, and the input reads as it did. Conditions: the variables start as the program's text lays them (the card ties that). -/
import Derived.Test.YtefpoollmbmkfaaDoorRowKitW
import Derived.Test.YtefpoollmbmkfaaDoorVfJ
set_option linter.unusedSimpArgs false
set_option linter.unusedVariables false
namespace Go.Proofs.YtefpoollmbmkfaaDoor.vrfBent
set_option maxRecDepth 100000
open Go.ChangeShapes Go.WideShapes Go.ChangeAt Go.RowKit

theorem Y0p (H : Type) (enc : TypeId × Value → H) (W : World) (base : Nat) (args : Array Value) (ds gs : List (DataW H)) (before : List MemPlace)
    (hval : ∀ (j : Nat) t v, Tryd.f10.params[j]? = some t → args[j]? = some v → Value.okWide Tryd.prog W .any base t v)
    (hW : DataW.Whole enc Tryd.prog Tryd.f10.params.toList Rows.vrfBentSpec.vars false W args.toList ds gs before) (hL : laidMetH Tryd.prog Rows.vrfBentRow.laid W) :
    Calls Tryd.prog 10 args W fun e W' => ∃ v, e = .returned v ∧ Rows.vrfBentSpec.post enc Tryd.prog Tryd.f10 false true false false W args v W' := by
  have hW' := hW
  obtain ⟨p, q, hAA, hV, rfl, hfz, hnd⟩ := hW
  have hA : DataW.TrodAll enc Tryd.prog W 0 (fun _ => true) true Tryd.f10.params.toList args.toList ds p := hAA
  rw [Tryd.params10] at hA hval
  obtain ⟨v0, vs0, d0, ds0, p0, q0, hargs, rfl, rfl, h0, r0⟩ := trodAll_cons hA
  obtain ⟨v1, vs1, d1, ds1, p1, q1, rfl, rfl, rfl, h1, r1⟩ := trodAll_cons r0
  obtain ⟨v2, vs2, d2, ds2, p2, q2, rfl, rfl, rfl, h2, r2⟩ := trodAll_cons r1
  obtain ⟨rfl, rfl, rfl⟩ := trodAll_nil r2
  obtain rfl : args = #[v0, v1, v2] := by cases args; simp_all
  obtain ⟨rfl, rfl⟩ := trodVars_none hV
  clear hAA
  obtain ⟨S, hS, rfl, rfl⟩ := Y0o (hval 0 22 v0 rfl rfl) h0
  obtain ⟨C, rfl, rfl, _⟩ := Y9h (hval 2 3 v2 rfl rfl) h2
  (try simp only [List.append_nil, List.nil_append] at hW')
  have hlt1 : ∀ x ∈ p1, x.block < W.heap.size := fun x hx => hW'.lt x (by simp [hx])
  obtain ⟨L, hl, hm⟩ := Y55 (hval 1 23 v1 rfl rfl) h1
  refine (Z6o (kn := ⟨True, True, True, True⟩) trivial trivial trivial trivial S v1 L _ C (Nat.le_trans hm (by decide)) rfl (V3a 60 L) W (Y9g hL) hl).mono fun e W' ⟨he, hb⟩ => ?_
  subst he
  exact ⟨_, rfl, _, _, _, [], _, [], hW', trodAll_mk1 (shut_bool Tryd.underlying4 _), trodAll_cons_mk (Y7b (by kernel_rfl) (of_decide_eq_true (by kernel_rfl)) h0) (trodAll_cons_mk (Below.trod Z4m (by kernel_rfl) (of_decide_eq_true (by kernel_rfl)) h1 hb hlt1) (trodAll_cons_mk (Y7b (by kernel_rfl) (of_decide_eq_true (by kernel_rfl)) h2) trodAll_mk0)),
    rfl, hb.frame _, fun h => by cases h⟩

theorem Y0q (os : Os) : laidMet Tryd.prog Rows.vrfBentRow.laid ((laidWorld os).forCall (fun _ _ => 0) ⟨#[], #[.agg (J1 .u8 32 (fun _ => 0)), .slice none 0 0, .int .i64 0], []⟩).memory :=
  laidMet_of_run' 80 (by kernel_rfl) (by kernel_rfl)
theorem reads (os : Os) {H : Type} (enc : TypeId × Value → H) : ∃ places, DataW.whole enc Tryd.prog ((laidWorld os).forCall (fun _ _ => 0) ⟨#[], #[.agg (J1 .u8 32 (fun _ => 0)), .slice none 0 0, .int .i64 0], []⟩).memory Tryd.f10.params.toList Rows.vrfBentSpec.vars false (#[.agg (J1 .u8 32 (fun _ => 0)), .slice none 0 0, .int .i64 0] : Array Value).toList 80 = some ([.agg (List.replicate 32 (.lit (.int .u8 0))), .nil, .lit (.int .i64 0)], [], places) :=
  ⟨[], by kernel_rfl⟩

theorem Y9j (os : Os) (started : os.Started) (H : Type) (enc : TypeId × Value → H) (F : Stop.Interp) :
    ReturnsInHanded {} Tryd.checked os 10 .any ((OpenSpec.ofChange Rows.vrfBentSpec).preRow enc Tryd.prog Tryd.f10 Rows.vrfBentRow.domain false Rows.vrfBentRow.laid) (((OpenSpec.ofChange Rows.vrfBentSpec).at F).post enc Tryd.prog Tryd.f10 false true false false) := by
  obtain ⟨places, hx⟩ := reads os enc
  refine returnsInHanded_of_row (C := Tryd.checked) (s := OpenSpec.ofChange Rows.vrfBentSpec) own started (by kernel_rfl) Tryd.func10
    (witness_row_at (enc := enc) (C := Tryd.checked) false (laidWorld os) #[.agg (J1 .u8 32 (fun _ => 0)), .slice none 0 0, .int .i64 0] rfl (by kernel_rfl) (by kernel_rfl) (by kernel_rfl)
      (OpenSpec.preRow_of_cond 80 hx (by kernel_rfl) (fun k hk => by cases hk) (by kernel_rfl) (Y0q os))) ?_
  intro W base args ds gs before hval hW _ _ _ hL _ _
  exact Y0p H enc W base args ds gs before hval hW hL

theorem V5k : Rows.VrfBentSaid :=
  OpenClaim.holds_of_cond 10 Tryd.f10 rfl rfl rfl rfl rfl rfl rfl ⟨rfl, rfl, rfl, rfl, rfl⟩ rfl rfl rfl rfl rfl (by kernel_rfl) Tryd.func10 (by kernel_rfl)
    (of_decide_eq_true (by kernel_rfl)) (by unfold Func.isWrapper; first | (rw [if_pos (by decide +kernel)]; kernel_rfl) | (rw [if_neg (by decide +kernel)]; exact ⟨rfl, rfl⟩))
    (fun os started H enc _ F => by rw [OpenClaim.pre_eq_preRow]; exact Y9j os started H enc F)

theorem plain (f : FuncId) (fn : Func) (hf : Tryd.pinned.checked.prog.funcNamed "custumal/custumallaw09.VrfBent" = some f) (hfn : Tryd.pinned.checked.prog.funcs[f]? = some fn) :
    false = Tryd.pinned.checked.prog.looks [] ∧ ∀ (j : Nat) t, fn.params[j]? = some t → Tryd.pinned.checked.prog.wantsStandIn t = false := by
  obtain rfl : f = 10 := Option.some.inj ((show Tryd.prog.funcNamed "custumal/custumallaw09.VrfBent" = some 10 by kernel_rfl).symm.trans hf) |>.symm
  obtain rfl : fn = Tryd.f10 := (Option.some.inj (Tryd.func10.symm.trans hfn)).symm
  refine ⟨by kernel_rfl, fun j t ht => ?_⟩
  rw [Tryd.params10] at ht
  have hm := Array.mem_of_getElem? ht
  simp only [List.mem_toArray, List.mem_cons, List.not_mem_nil, or_false, or_self] at hm
  rcases hm with rfl | rfl | rfl
  · exact (show Tryd.prog.wantsStandIn 22 = false by kernel_rfl)
  · exact (show Tryd.prog.wantsStandIn 23 = false by kernel_rfl)
  · exact (show Tryd.prog.wantsStandIn 3 = false by kernel_rfl)

theorem card : Rows.VrfBentCardSaid :=
  Claim7.holds_tied_plain_at .later [] _ _ _ _ V5k (fun _ h => by cases h) (by kernel_rfl) (fun _ h => by cases h) vrfBent_row_tie rfl ⟨rfl, rfl⟩ (by kernel_rfl) rfl plain (by kernel_rfl)
end Go.Proofs.YtefpoollmbmkfaaDoor.vrfBent
namespace Go.Proofs.YtefpoollmbmkfaaDoor
set_option maxRecDepth 100000
theorem vrfBent_holds : Rows.VrfBentCardSaid := vrfBent.card
#print axioms vrfBent_holds
end Go.Proofs.YtefpoollmbmkfaaDoor

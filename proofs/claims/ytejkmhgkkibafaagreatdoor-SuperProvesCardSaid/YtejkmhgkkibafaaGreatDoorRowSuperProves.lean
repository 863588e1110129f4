/- The card of custumallaw23.SuperProves: whatever the input, the call returns true, never panics, and the input reads as it did. Conditions: the variables start as the program's text lays them (the card ties that). -/
import Derived.Test.YtejkmhgkkibafaaGreatDoorJ33
import Derived.Test.YtejkmhgkkibafaaGreatDoorUg
set_option linter.unusedSimpArgs false
set_option linter.unusedVariables false
namespace Go.Proofs.YtejkmhgkkibafaaGreatDoor.superProves
set_option maxRecDepth 100000
open Go.ChangeShapes Go.WideShapes Go.ChangeAt Go.RowKit

theorem Z7y (H : Type) (enc : TypeId × Value → H) (W : World) (base : Nat) (args : Array Value) (ds gs : List (DataW H)) (before : List MemPlace)
    (hval : ∀ (j : Nat) t v, Tryz.f4.params[j]? = some t → args[j]? = some v → Value.okWide Tryz.prog W .any base t v)
    (hW : DataW.Whole enc Tryz.prog Tryz.f4.params.toList Rows.superProvesSpec.vars false W args.toList ds gs before) (hL : laidMetH Tryz.prog Rows.superProvesRow.laid W) :
    Calls Tryz.prog 4 args W fun e W' => ∃ v, e = .returned v ∧ Rows.superProvesSpec.post enc Tryz.prog Tryz.f4 false true false false W args v W' := by
  have hW' := hW
  obtain ⟨p, q, hAA, hV, rfl, hfz, hnd⟩ := hW
  have hA : DataW.TrodAll enc Tryz.prog W 0 (fun _ => true) true Tryz.f4.params.toList args.toList ds p := hAA
  rw [Tryz.params4] at hA hval
  obtain ⟨v0, vs0, d0, ds0, p0, q0, hargs, rfl, rfl, h0, r0⟩ := trodAll_cons hA
  obtain ⟨v1, vs1, d1, ds1, p1, q1, rfl, rfl, rfl, h1, r1⟩ := trodAll_cons r0
  obtain ⟨v2, vs2, d2, ds2, p2, q2, rfl, rfl, rfl, h2, r2⟩ := trodAll_cons r1
  obtain ⟨rfl, rfl, rfl⟩ := trodAll_nil r2
  obtain rfl : args = #[v0, v1, v2] := by cases args; simp_all
  obtain ⟨rfl, rfl⟩ := trodVars_none hV
  clear hAA
  (try simp only [List.append_nil, List.nil_append] at hW')
  have hlt0 : ∀ x ∈ p0, x.block < W.heap.size := fun x hx => hW'.lt x (by simp [hx])
  obtain ⟨S, hS, rfl⟩ := Z7v (hval 0 23 v0 rfl rfl) h0
  have hlt1 : ∀ x ∈ p1, x.block < W.heap.size := fun x hx => hW'.lt x (by simp [hx])
  obtain ⟨mi, hk, hp⟩ := Z51 (hval 1 30 v1 rfl rfl) h1
  have hlt2 : ∀ x ∈ p2, x.block < W.heap.size := fun x hx => hW'.lt x (by simp [hx])
  obtain ⟨idl, hid, hidl⟩ := Y2k (hval 2 22 v2 rfl rfl) h2
  refine (Q5l (q := True) trivial rfl (V2h 20 idl) W (Q4a hL) (Q4c hL) hp (fun y hy => (hk y hy).1) hid).mono fun e W' ⟨he, hb⟩ => ?_
  subst he
  exact ⟨_, rfl, _, _, _, [], _, [], hW', trodAll_mk1 (shut_bool Tryz.underlying4 _), trodAll_cons_mk (Below.trod Q7h (by kernel_rfl) (of_decide_eq_true (by kernel_rfl)) h0 hb hlt0) (trodAll_cons_mk (Below.trod Q7h (by kernel_rfl) (of_decide_eq_true (by kernel_rfl)) h1 hb hlt1) (trodAll_cons_mk (Below.trod Q7h (by kernel_rfl) (of_decide_eq_true (by kernel_rfl)) h2 hb hlt2) trodAll_mk0)),
    rfl, hb.frame _, fun h => by cases h⟩

theorem Z7z (os : Os) : laidMet Tryz.prog Rows.superProvesRow.laid ((laidWorld os).forCall (fun _ _ => 0) ⟨#[], #[.agg (J0 .u8 32 (Q5 0)), .slice none 0 0, .slice none 0 0], []⟩).memory :=
  laidMet_of_run' 80 (by kernel_rfl) (by kernel_rfl)
theorem reads (os : Os) {H : Type} (enc : TypeId × Value → H) : ∃ places, DataW.whole enc Tryz.prog ((laidWorld os).forCall (fun _ _ => 0) ⟨#[], #[.agg (J0 .u8 32 (Q5 0)), .slice none 0 0, .slice none 0 0], []⟩).memory Tryz.f4.params.toList Rows.superProvesSpec.vars false (#[.agg (J0 .u8 32 (Q5 0)), .slice none 0 0, .slice none 0 0] : Array Value).toList 80 = some ([.agg (List.replicate 32 (.lit (.int .u8 0))), .nil, .nil], [], places) :=
  ⟨[], by kernel_rfl⟩

theorem Y82 (os : Os) (started : os.Started) (H : Type) (enc : TypeId × Value → H) (F : Stop.Interp) :
    ReturnsInHanded {} Tryz.checked os 4 .any ((OpenSpec.ofChange Rows.superProvesSpec).preRow enc Tryz.prog Tryz.f4 Rows.superProvesRow.domain false Rows.superProvesRow.laid) (((OpenSpec.ofChange Rows.superProvesSpec).at F).post enc Tryz.prog Tryz.f4 false true false false) := by
  obtain ⟨places, hx⟩ := reads os enc
  refine returnsInHanded_of_row (C := Tryz.checked) (s := OpenSpec.ofChange Rows.superProvesSpec) own started (by kernel_rfl) Tryz.func4
    (witness_row_at (enc := enc) (C := Tryz.checked) false (laidWorld os) #[.agg (J0 .u8 32 (Q5 0)), .slice none 0 0, .slice none 0 0] rfl (by kernel_rfl) (by kernel_rfl) (by kernel_rfl)
      (OpenSpec.preRow_of_cond 80 hx (by kernel_rfl) (fun k hk => by cases hk) (by kernel_rfl) (Z7z os))) ?_
  intro W base args ds gs before hval hW _ _ _ hL _ _
  exact Z7y H enc W base args ds gs before hval hW hL

theorem V5k : Rows.SuperProvesSaid :=
  OpenClaim.holds_of_cond 4 Tryz.f4 rfl rfl rfl rfl rfl rfl rfl ⟨rfl, rfl, rfl, rfl, rfl⟩ rfl rfl rfl rfl rfl (by kernel_rfl) Tryz.func4 (by kernel_rfl)
    (of_decide_eq_true (by kernel_rfl)) (by unfold Func.isWrapper; first | (rw [if_pos (by decide +kernel)]; kernel_rfl) | (rw [if_neg (by decide +kernel)]; exact ⟨rfl, rfl⟩))
    (fun os started H enc _ F => by rw [OpenClaim.pre_eq_preRow]; exact Y82 os started H enc F)

theorem plain (f : FuncId) (fn : Func) (hf : Tryz.pinned.checked.prog.funcNamed "custumal/custumallaw23.SuperProves" = some f) (hfn : Tryz.pinned.checked.prog.funcs[f]? = some fn) :
    false = Tryz.pinned.checked.prog.looks [] ∧ ∀ (j : Nat) t, fn.params[j]? = some t → Tryz.pinned.checked.prog.wantsStandIn t = false := by
  obtain rfl : f = 4 := Option.some.inj ((show Tryz.prog.funcNamed "custumal/custumallaw23.SuperProves" = some 4 by kernel_rfl).symm.trans hf) |>.symm
  obtain rfl : fn = Tryz.f4 := (Option.some.inj (Tryz.func4.symm.trans hfn)).symm
  refine ⟨by kernel_rfl, fun j t ht => ?_⟩
  rw [Tryz.params4] at ht
  have hm := Array.mem_of_getElem? ht
  simp only [List.mem_toArray, List.mem_cons, List.not_mem_nil, or_false, or_self] at hm
  rcases hm with rfl | rfl | rfl
  · exact (show Tryz.prog.wantsStandIn 23 = false by kernel_rfl)
  · exact (show Tryz.prog.wantsStandIn 30 = false by kernel_rfl)
  · exact (show Tryz.prog.wantsStandIn 22 = false by kernel_rfl)

theorem card : Rows.SuperProvesCardSaid :=
  Claim7.holds_tied_plain_at .later [] _ _ _ _ V5k (fun _ h => by cases h) (by kernel_rfl) (fun _ h => by cases h) superProves_row_tie rfl ⟨rfl, rfl⟩ (by kernel_rfl) rfl plain (by kernel_rfl)
end Go.Proofs.YtejkmhgkkibafaaGreatDoor.superProves
namespace Go.Proofs.YtejkmhgkkibafaaGreatDoor
set_option maxRecDepth 100000
theorem superProves_holds : Rows.SuperProvesCardSaid := superProves.card
#print axioms superProves_holds
end Go.Proofs.YtejkmhgkkibafaaGreatDoor

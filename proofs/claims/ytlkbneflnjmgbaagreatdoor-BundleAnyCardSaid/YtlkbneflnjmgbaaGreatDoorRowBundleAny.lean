/- Contracts and plain laws for bundleAny_holds. Conditions: the tables hold their numbers. -/
import Derived.Test.YtlkbneflnjmgbaaGreatDoorBng
set_option maxRecDepth 100000
set_option linter.unusedSimpArgs false
set_option linter.unusedVariables false
namespace Go.Proofs.YtlkbneflnjmgbaaGreatDoor.bundleAny
open Go.ChangeShapes Go.WideShapes Go.ChangeAt Go.RowKit

theorem Y2l (H:Type)(enc:TypeId×Value→H)(W:World)(base:Nat)(args:Array Value)(ds gs:List (DataW H))(before:List MemPlace)
    (hval:∀(j:Nat) t v,Tryz.f5.params[j]?=some t→args[j]?=some v→Value.okWide Tryz.prog W .any base t v)
    (hW:DataW.Whole enc Tryz.prog Tryz.f5.params.toList Rows.bundleAnySpec.vars false W args.toList ds gs before) (hL:laidMetH Tryz.prog Rows.bundleAnyRow.laid W):
    Calls Tryz.prog 5 args W fun e W' => ∃v,e=.returned v∧Rows.bundleAnySpec.post enc Tryz.prog Tryz.f5 false true false false W args v W' :=by
  have hW' :=hW;obtain⟨p,q,hAA,hV,rfl,hfz,hnd⟩:=hW;have hA:DataW.TrodAll enc Tryz.prog W 0 (fun _=>true) true Tryz.f5.params.toList args.toList ds p:=hAA;rw[Tryz.params5] at hA hval;obtain⟨v0,vs0,d0,ds0,p0,q0,hargs,rfl,rfl,h0,r0⟩:=trodAll_cons hA;obtain⟨rfl,rfl,rfl⟩:=trodAll_nil r0;obtain rfl:args= #[v0]:=by cases args;simp_all
  obtain⟨rfl,rfl⟩:=trodVars_none hV;clear hAA
  (try simp only[List.append_nil,List.nil_append] at hW')
  have hlt0:∀x∈p0,x.block<W.heap.size:=fun x hx=>hW'.lt x (by simp[hx]);obtain⟨l,hs_,hm_⟩:=Y81 (hval 0 35 v0 rfl rfl) h0;refine(Q9j (Nat.le_trans hm_ (by decide)) W (Q86 hL) hs_).mono fun e W' ⟨he,hb⟩=> ?_;subst he
  exact⟨_,rfl,_,_,_,[],_,[],hW',trodAll_mk1 (shut_bool Tryz.underlying4 _),trodAll_cons_mk (Below.trod Y82 (by kernel_rfl) (of_decide_eq_true (by kernel_rfl)) h0 hb hlt0) trodAll_mk0,
    rfl,hb.frame _,fun h=>by cases h⟩

theorem Y2m (os:Os):laidMet Tryz.prog Rows.bundleAnyRow.laid ((laidWorld os).forCall (fun _ _=>0) ⟨#[],#[.slice none 0 0],[]⟩).memory:=
  laidMet_of_run' 80 (by kernel_rfl) (by kernel_rfl)
theorem reads (os:Os){H:Type}(enc:TypeId×Value→H):∃places,DataW.whole enc Tryz.prog ((laidWorld os).forCall (fun _ _=>0) ⟨#[],#[.slice none 0 0],[]⟩).memory Tryz.f5.params.toList Rows.bundleAnySpec.vars false (#[.slice none 0 0]:Array Value).toList 80=some ([.nil],[],places):=
  ⟨[],by kernel_rfl⟩

theorem V4i (os:Os)(started:os.Started)(H:Type)(enc:TypeId×Value→H)(F:Stop.Interp):
    ReturnsInHanded {} Tryz.checked os 5 .any ((OpenSpec.ofChange Rows.bundleAnySpec).preRow enc Tryz.prog Tryz.f5 Rows.bundleAnyRow.domain false Rows.bundleAnyRow.laid) (((OpenSpec.ofChange Rows.bundleAnySpec).at F).post enc Tryz.prog Tryz.f5 false true false false):=by
  obtain⟨places,hx⟩:=reads os enc
  refine returnsInHanded_of_row (C:=Tryz.checked) (s:=OpenSpec.ofChange Rows.bundleAnySpec) own started (by kernel_rfl) Tryz.func5
    (witness_row_at (enc:=enc) (C:=Tryz.checked) false (laidWorld os) #[.slice none 0 0] rfl (by kernel_rfl) (by kernel_rfl) (by kernel_rfl)
      (OpenSpec.preRow_of_cond 80 hx (by kernel_rfl) (fun k hk=>by cases hk) (by kernel_rfl) (Y2m os))) ?_
  intro W base args ds gs before hval hW _ _ _ hL _ _;exact Y2l H enc W base args ds gs before hval hW hL

theorem K3a:Rows.BundleAnySaid:=
  OpenClaim.holds_of_cond 5 Tryz.f5 rfl rfl rfl rfl rfl rfl rfl ⟨rfl,rfl,rfl,rfl,rfl⟩ rfl rfl rfl rfl rfl (by kernel_rfl) Tryz.func5 (by kernel_rfl)
    (of_decide_eq_true (by kernel_rfl)) (by unfold Func.isWrapper;first|(rw[if_pos (by decide+kernel)];kernel_rfl)|(rw[if_neg (by decide+kernel)];exact⟨rfl,rfl⟩))
    (fun os started H enc _ F=>by rw[OpenClaim.pre_eq_preRow];exact V4i os started H enc F)

theorem plain (f : FuncId) (fn : Func) (hf : Tryz.pinned.checked.prog.funcNamed "custumal/custumallaw25.BundleAny" = some f) (hfn : Tryz.pinned.checked.prog.funcs[f]? = some fn) :
    false=Tryz.pinned.checked.prog.looks []∧∀(j:Nat) t,fn.params[j]?=some t→Tryz.pinned.checked.prog.wantsStandIn t=false:=by
  obtain rfl : f = 5 := Option.some.inj ((show Tryz.prog.funcNamed "custumal/custumallaw25.BundleAny" = some 5 by kernel_rfl).symm.trans hf) |>.symm
  obtain rfl:fn=Tryz.f5:=(Option.some.inj (Tryz.func5.symm.trans hfn)).symm;refine⟨by kernel_rfl,fun j t ht=> ?_⟩;rw[Tryz.params5] at ht;have hm:=Array.mem_of_getElem? ht;simp only[List.mem_toArray,List.mem_cons,List.not_mem_nil,or_false,or_self] at hm;subst hm
  · exact(show Tryz.prog.wantsStandIn 35=false by kernel_rfl)

theorem card:Rows.BundleAnyCardSaid:=
  Claim7.holds_tied_plain_at .later [] _ _ _ _ K3a (fun _ h=>by cases h) (by kernel_rfl) (fun _ h=>by cases h) bundleAny_row_tie rfl ⟨rfl,rfl⟩ (by kernel_rfl) rfl plain (by kernel_rfl)
end Go.Proofs.YtlkbneflnjmgbaaGreatDoor.bundleAny
namespace Go.Proofs.YtlkbneflnjmgbaaGreatDoor
theorem bundleAny_holds:Rows.BundleAnyCardSaid:=bundleAny.card
#print axioms bundleAny_holds
end Go.Proofs.YtlkbneflnjmgbaaGreatDoor

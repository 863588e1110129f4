/- Contracts and plain laws for directHolds_holds. Conditions: the tables hold their numbers. -/
import Derived.Test.YtpljgkofbfeelaaGreatDoorDar
set_option maxRecDepth 100000
set_option linter.unusedSimpArgs false
set_option linter.unusedVariables false
namespace Go.Proofs.YtpljgkofbfeelaaGreatDoor.directHolds
open Go.ChangeShapes Go.WideShapes Go.ChangeAt Go.RowKit

theorem Y1v (H:Type)(enc:TypeId×Value→H)(W:World)(base:Nat)(args:Array Value)(ds gs:List (DataW H))(before:List MemPlace)
    (hval:∀(j:Nat) t v,Tryz.f4.params[j]?=some t→args[j]?=some v→Value.okWide Tryz.prog W .any base t v)
    (hW:DataW.Whole enc Tryz.prog Tryz.f4.params.toList Rows.directHoldsSpec.vars false W args.toList ds gs before) (hL:laidMetH Tryz.prog Rows.directHoldsRow.laid W):
    Calls Tryz.prog 4 args W fun e W' => ∃v,e=.returned v∧Rows.directHoldsSpec.post enc Tryz.prog Tryz.f4 false true false false W args v W' :=by
  have hW' :=hW;obtain⟨p,q,hAA,hV,rfl,hfz,hnd⟩:=hW;have hA:DataW.TrodAll enc Tryz.prog W 0 (fun _=>true) true Tryz.f4.params.toList args.toList ds p:=hAA;rw[Tryz.params4] at hA hval;obtain⟨v0,vs0,d0,ds0,p0,q0,hargs,rfl,rfl,h0,r0⟩:=trodAll_cons hA;obtain⟨v1,vs1,d1,ds1,p1,q1,rfl,rfl,rfl,h1,r1⟩:=trodAll_cons r0;obtain⟨v2,vs2,d2,ds2,p2,q2,rfl,rfl,rfl,h2,r2⟩:=trodAll_cons r1;obtain⟨rfl,rfl,rfl⟩:=trodAll_nil r2;obtain rfl:args= #[v0,v1,v2]:=by cases args;simp_all
  obtain⟨rfl,rfl⟩:=trodVars_none hV;clear hAA;obtain⟨n,rfl,rfl,_⟩:=V3q (hval 2 3 v2 rfl rfl) h2
  (try simp only[List.append_nil,List.nil_append] at hW')
  have hlt0:∀x∈p0,x.block<W.heap.size:=fun x hx=>hW'.lt x (by simp[hx]);obtain⟨iu_,l2,X3,X4,n5,n6,n7,hs_,_,_,_,_,_,rfl⟩:=J6m (hval 0 29 v0 rfl rfl) h0;replace hs_:=hs_.1;have hlt1:∀x∈p1,x.block<W.heap.size:=fun x hx=>hW'.lt x (by simp[hx]);obtain⟨as1,hk1,hp1⟩:=Z7m (hval 1 30 v1 rfl rfl) h1;refine(Q5u W (Q4x hL) (Q4y hL) hs_ hp1 (fun y hy=>(hk1 y hy))).mono fun e W' ⟨he,hb⟩=> ?_;subst he
  exact⟨_,rfl,_,_,_,[],_,[],hW',trodAll_mk1 (shut_bool Tryz.underlying4 _),trodAll_cons_mk (Below.trod Q86 (by kernel_rfl) (of_decide_eq_true (by kernel_rfl)) h0 hb hlt0) (trodAll_cons_mk (Below.trod Q86 (by kernel_rfl) (of_decide_eq_true (by kernel_rfl)) h1 hb hlt1) (trodAll_cons_mk (V8t (by kernel_rfl) (of_decide_eq_true (by kernel_rfl)) h2) trodAll_mk0)),
    rfl,hb.frame _,fun h=>by cases h⟩

theorem Y1w (os:Os):laidMet Tryz.prog Rows.directHoldsRow.laid ((laidWorld os).forCall (fun _ _=>0) ⟨#[],#[.agg (Q2 [.c (.slice none 0 0),.a 32 0,.a 32 0,.c (.int .i64 0),.c (.int .i64 0),.c (.int .i64 0)]),.slice none 0 0,.int .i64 0],[]⟩).memory:=
  laidMet_of_run' 80 (by kernel_rfl) (by kernel_rfl)
theorem reads (os:Os){H:Type}(enc:TypeId×Value→H):∃places,DataW.whole enc Tryz.prog ((laidWorld os).forCall (fun _ _=>0) ⟨#[],#[.agg (Q2 [.c (.slice none 0 0),.a 32 0,.a 32 0,.c (.int .i64 0),.c (.int .i64 0),.c (.int .i64 0)]),.slice none 0 0,.int .i64 0],[]⟩).memory Tryz.f4.params.toList Rows.directHoldsSpec.vars false (#[.agg (Q2 [.c (.slice none 0 0),.a 32 0,.a 32 0,.c (.int .i64 0),.c (.int .i64 0),.c (.int .i64 0)]),.slice none 0 0,.int .i64 0]:Array Value).toList 80=some ([.agg [.nil,.agg [.agg (List.replicate 32 (.lit (.int .u8 0))),.agg (List.replicate 32 (.lit (.int .u8 0)))],.agg [.lit (.int .i64 0),.lit (.int .i64 0),.lit (.int .i64 0)]],.nil,.lit (.int .i64 0)],[],places):=
  ⟨[],by kernel_rfl⟩

theorem V3r (os:Os)(started:os.Started)(H:Type)(enc:TypeId×Value→H)(F:Stop.Interp):
    ReturnsInHanded {} Tryz.checked os 4 .any ((OpenSpec.ofChange Rows.directHoldsSpec).preRow enc Tryz.prog Tryz.f4 Rows.directHoldsRow.domain false Rows.directHoldsRow.laid) (((OpenSpec.ofChange Rows.directHoldsSpec).at F).post enc Tryz.prog Tryz.f4 false true false false):=by
  obtain⟨places,hx⟩:=reads os enc
  refine returnsInHanded_of_row (C:=Tryz.checked) (s:=OpenSpec.ofChange Rows.directHoldsSpec) own started (by kernel_rfl) Tryz.func4
    (witness_row_at (enc:=enc) (C:=Tryz.checked) false (laidWorld os) #[.agg (Q2 [.c (.slice none 0 0),.a 32 0,.a 32 0,.c (.int .i64 0),.c (.int .i64 0),.c (.int .i64 0)]),.slice none 0 0,.int .i64 0] rfl (by kernel_rfl) (by kernel_rfl) (by kernel_rfl)
      (OpenSpec.preRow_of_cond 80 hx (by kernel_rfl) (fun k hk=>by cases hk) (by kernel_rfl) (Y1w os))) ?_
  intro W base args ds gs before hval hW _ _ _ hL _ _;exact Y1v H enc W base args ds gs before hval hW hL

theorem K2x:Rows.DirectHoldsSaid:=
  OpenClaim.holds_of_cond 4 Tryz.f4 rfl rfl rfl rfl rfl rfl rfl ⟨rfl,rfl,rfl,rfl,rfl⟩ rfl rfl rfl rfl rfl (by kernel_rfl) Tryz.func4 (by kernel_rfl)
    (of_decide_eq_true (by kernel_rfl)) (by unfold Func.isWrapper;first|(rw[if_pos (by decide+kernel)];kernel_rfl)|(rw[if_neg (by decide+kernel)];exact⟨rfl,rfl⟩))
    (fun os started H enc _ F=>by rw[OpenClaim.pre_eq_preRow];exact V3r os started H enc F)

theorem plain (f : FuncId) (fn : Func) (hf : Tryz.pinned.checked.prog.funcNamed "custumal/custumallaw19.DirectHolds" = some f) (hfn : Tryz.pinned.checked.prog.funcs[f]? = some fn) :
    false=Tryz.pinned.checked.prog.looks []∧∀(j:Nat) t,fn.params[j]?=some t→Tryz.pinned.checked.prog.wantsStandIn t=false:=by
  obtain rfl : f = 4 := Option.some.inj ((show Tryz.prog.funcNamed "custumal/custumallaw19.DirectHolds" = some 4 by kernel_rfl).symm.trans hf) |>.symm
  obtain rfl:fn=Tryz.f4:=(Option.some.inj (Tryz.func4.symm.trans hfn)).symm;refine⟨by kernel_rfl,fun j t ht=> ?_⟩;rw[Tryz.params4] at ht;have hm:=Array.mem_of_getElem? ht;simp only[List.mem_toArray,List.mem_cons,List.not_mem_nil,or_false,or_self] at hm;rcases hm with rfl|rfl|rfl
  · exact(show Tryz.prog.wantsStandIn 29=false by kernel_rfl)
  · exact(show Tryz.prog.wantsStandIn 30=false by kernel_rfl)
  · exact(show Tryz.prog.wantsStandIn 3=false by kernel_rfl)

theorem card:Rows.DirectHoldsCardSaid:=
  Claim7.holds_tied_plain_at .later [] _ _ _ _ K2x (fun _ h=>by cases h) (by kernel_rfl) (fun _ h=>by cases h) directHolds_row_tie rfl ⟨rfl,rfl⟩ (by kernel_rfl) rfl plain (by kernel_rfl)
end Go.Proofs.YtpljgkofbfeelaaGreatDoor.directHolds
namespace Go.Proofs.YtpljgkofbfeelaaGreatDoor
theorem directHolds_holds:Rows.DirectHoldsCardSaid:=directHolds.card
#print axioms directHolds_holds
end Go.Proofs.YtpljgkofbfeelaaGreatDoor

/- Contracts and plain laws for superSeals_holds. Conditions: the tables hold their numbers. -/
import Derived.Test.YtdjacgmmidbieaaGreatDoorUB
set_option maxRecDepth 100000
set_option linter.unusedSimpArgs false
set_option linter.unusedVariables false
namespace Go.Proofs.YtdjacgmmidbieaaGreatDoor.superSeals
open Go.ChangeShapes Go.WideShapes Go.ChangeAt Go.RowKit

theorem Z8a (H:Type)(enc:TypeId×Value→H)(W:World)(base:Nat)(args:Array Value)(ds gs:List (DataW H))(before:List MemPlace)
    (hval:∀(j:Nat) t v,Tryz.f3.params[j]?=some t→args[j]?=some v→Value.okWide Tryz.prog W .any base t v)
    (hW:DataW.Whole enc Tryz.prog Tryz.f3.params.toList Rows.superSealsSpec.vars false W args.toList ds gs before) (hL:laidMetH Tryz.prog Rows.superSealsRow.laid W):
    Calls Tryz.prog 3 args W fun e W' => ∃v,e=.returned v∧Rows.superSealsSpec.post enc Tryz.prog Tryz.f3 false true false false W args v W' :=by
  have hW' :=hW;obtain⟨p,q,hAA,hV,rfl,hfz,hnd⟩:=hW;have hA:DataW.TrodAll enc Tryz.prog W 0 (fun _=>true) true Tryz.f3.params.toList args.toList ds p:=hAA;rw[Tryz.params3] at hA hval;obtain⟨v0,vs0,d0,ds0,p0,q0,hargs,rfl,rfl,h0,r0⟩:=trodAll_cons hA;obtain⟨v1,vs1,d1,ds1,p1,q1,rfl,rfl,rfl,h1,r1⟩:=trodAll_cons r0;obtain⟨rfl,rfl,rfl⟩:=trodAll_nil r1;obtain rfl:args= #[v0,v1]:=by cases args;simp_all
  obtain⟨rfl,rfl⟩:=trodVars_none hV;clear hAA
  (try simp only[List.append_nil,List.nil_append] at hW')
  have hlt0:∀x∈p0,x.block<W.heap.size:=fun x hx=>hW'.lt x (by simp[hx]);obtain⟨S,hS,rfl⟩:=Z87 (hval 0 22 v0 rfl rfl) h0;have hlt1:∀x∈p1,x.block<W.heap.size:=fun x hx=>hW'.lt x (by simp[hx]);obtain⟨rws,hk,hp⟩:=Z59 (hval 1 23 v1 rfl rfl) h1;refine(Q6p (qd:=True) trivial W (Q4j hL) (Q4k hL) ((J46 hL).2.2.2 trivial) hp hk).mono fun e W' ⟨he,hb⟩=> ?_;subst he
  exact⟨_,rfl,_,_,_,[],_,[],hW',trodAll_mk1 (shut_bool Tryz.underlying4 _),trodAll_cons_mk (Below.trod Z2t (by kernel_rfl) (of_decide_eq_true (by kernel_rfl)) h0 hb hlt0) (trodAll_cons_mk (Below.trod Z2t (by kernel_rfl) (of_decide_eq_true (by kernel_rfl)) h1 hb hlt1) trodAll_mk0),
    rfl,hb.frame _,fun h=>by cases h⟩

theorem Z8b (os:Os):laidMet Tryz.prog Rows.superSealsRow.laid ((laidWorld os).forCall (fun _ _=>0) ⟨#[],#[.agg (J0 .u8 32 (J6 0)),.slice none 0 0],[]⟩).memory:=
  laidMet_of_run' 80 (by kernel_rfl) (by kernel_rfl)
theorem reads (os:Os){H:Type}(enc:TypeId×Value→H):∃places,DataW.whole enc Tryz.prog ((laidWorld os).forCall (fun _ _=>0) ⟨#[],#[.agg (J0 .u8 32 (J6 0)),.slice none 0 0],[]⟩).memory Tryz.f3.params.toList Rows.superSealsSpec.vars false (#[.agg (J0 .u8 32 (J6 0)),.slice none 0 0]:Array Value).toList 80=some ([.agg (List.replicate 32 (.lit (.int .u8 0))),.nil],[],places):=
  ⟨[],by kernel_rfl⟩

theorem Y9c (os:Os)(started:os.Started)(H:Type)(enc:TypeId×Value→H)(F:Stop.Interp):
    ReturnsInHanded {} Tryz.checked os 3 .any ((OpenSpec.ofChange Rows.superSealsSpec).preRow enc Tryz.prog Tryz.f3 Rows.superSealsRow.domain false Rows.superSealsRow.laid) (((OpenSpec.ofChange Rows.superSealsSpec).at F).post enc Tryz.prog Tryz.f3 false true false false):=by
  obtain⟨places,hx⟩:=reads os enc
  refine returnsInHanded_of_row (C:=Tryz.checked) (s:=OpenSpec.ofChange Rows.superSealsSpec) own started (by kernel_rfl) Tryz.func3
    (witness_row_at (enc:=enc) (C:=Tryz.checked) false (laidWorld os) #[.agg (J0 .u8 32 (J6 0)),.slice none 0 0] rfl (by kernel_rfl) (by kernel_rfl) (by kernel_rfl)
      (OpenSpec.preRow_of_cond 80 hx (by kernel_rfl) (fun k hk=>by cases hk) (by kernel_rfl) (Z8b os))) ?_
  intro W base args ds gs before hval hW _ _ _ hL _ _;exact Z8a H enc W base args ds gs before hval hW hL

theorem said:Rows.SuperSealsSaid:=
  OpenClaim.holds_of_cond 3 Tryz.f3 rfl rfl rfl rfl rfl rfl rfl ⟨rfl,rfl,rfl,rfl,rfl⟩ rfl rfl rfl rfl rfl (by kernel_rfl) Tryz.func3 (by kernel_rfl)
    (of_decide_eq_true (by kernel_rfl)) (by unfold Func.isWrapper;first|(rw[if_pos (by decide+kernel)];kernel_rfl)|(rw[if_neg (by decide+kernel)];exact⟨rfl,rfl⟩))
    (fun os started H enc _ F=>by rw[OpenClaim.pre_eq_preRow];exact Y9c os started H enc F)

theorem plain (f : FuncId) (fn : Func) (hf : Tryz.pinned.checked.prog.funcNamed "custumal/custumallaw23.SuperSeals" = some f) (hfn : Tryz.pinned.checked.prog.funcs[f]? = some fn) :
    false=Tryz.pinned.checked.prog.looks []∧∀(j:Nat) t,fn.params[j]?=some t→Tryz.pinned.checked.prog.wantsStandIn t=false:=by
  obtain rfl : f = 3 := Option.some.inj ((show Tryz.prog.funcNamed "custumal/custumallaw23.SuperSeals" = some 3 by kernel_rfl).symm.trans hf) |>.symm
  obtain rfl:fn=Tryz.f3:=(Option.some.inj (Tryz.func3.symm.trans hfn)).symm;refine⟨by kernel_rfl,fun j t ht=> ?_⟩;rw[Tryz.params3] at ht;have hm:=Array.mem_of_getElem? ht;simp only[List.mem_toArray,List.mem_cons,List.not_mem_nil,or_false,or_self] at hm;rcases hm with rfl|rfl
  · exact(show Tryz.prog.wantsStandIn 22=false by kernel_rfl)
  · exact(show Tryz.prog.wantsStandIn 23=false by kernel_rfl)

theorem card:Rows.SuperSealsCardSaid:=
  Claim7.holds_tied_plain_at .later [] _ _ _ _ said (fun _ h=>by cases h) (by kernel_rfl) (fun _ h=>by cases h) superSeals_row_tie rfl ⟨rfl,rfl⟩ (by kernel_rfl) rfl plain (by kernel_rfl)
end Go.Proofs.YtdjacgmmidbieaaGreatDoor.superSeals
namespace Go.Proofs.YtdjacgmmidbieaaGreatDoor
theorem superSeals_holds:Rows.SuperSealsCardSaid:=superSeals.card
#print axioms superSeals_holds
end Go.Proofs.YtdjacgmmidbieaaGreatDoor

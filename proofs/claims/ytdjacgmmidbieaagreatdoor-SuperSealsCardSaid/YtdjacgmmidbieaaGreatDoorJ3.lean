/- Contracts and plain laws for superSeals_holds. Conditions: the tables hold their numbers. -/
import Derived.Test.YtdjacgmmidbieaaGreatDoorGc
import Derived.Great.BuildSlice
open Go renaming World->AA,Value->AB,execOp->AV,wpList->AC,Program->AD,Operand->AW,TypeId->AE,Oper->AF,Exit->AG,maxLen->Ag
open Go.Sem renaming run_bind->Ah
open _root_.List renaming length_append->Ao,length_cons->AY,mem_singleton->Ai,append_nil->Ar,append_assoc->At,length_nil->Av,map_cons->Ac,flatten_cons->Aw,map_nil->Ak
open _root_.Nat renaming le_refl->AM,zero_le->An,zero_add->AP,add_zero->Ax,mul_one->AS
open _root_.Option renaming some.inj->Af
open Go.RowKit
set_option linter.unusedSimpArgs false
set_option linter.unusedVariables false
namespace Go.Proofs.YtdjacgmmidbieaaGreatDoor
section

inductive Tr where
  |z:Tr
  |q:Nat→Tr→Tr
  |e:Nat→Tr→Tr
  |b:Nat→Tr→Nat→Tr→Tr
  |c:Nat→Tr→Nat→Tr→Nat→Tr→Tr
  |vq:Nat→Tr→Tr
  |kq:Nat→Tr→Tr
def Tr.len:Tr→Nat
  | .z=>0
  | .q _ t=>t.len+1
  | .e _ t=>t.len+1
  | .b _ t _ u=>max t.len u.len+1
  | .c _ t _ u _ x=>max (max t.len u.len) x.len+1
  | .vq _ t=>t.len+1
  | .kq _ t=>t.len+1
def Tr.cut:Tr→Option Nat
  | .z=>none
  | .q _ t=>t.cut
  | .e _ t=>t.cut
  | .b _ t _ _=>t.cut
  | .c _ t _ _ _ _=>t.cut
  | .vq _ t=>t.cut
  | .kq i _=>some i
def need (md:Region.Mode)(ops:Array AF):Nat→Nat→Nat→Bool
  |0,_,_=>false
  |f+1,c,i=>match ops[c]? with
    |none=>false
    |some o=>o.after.any fun e=>Region.binds md e &&(e.on==i ||need md ops f e.on i)
def Y8r (md:Region.Mode)(ops:Array AF)(L:Array Bool)(i:Nat):Option Nat→Bool
  |none=>true
  |some c=>need md ops ops.size c i && !(L.getD c false)
def Tr.ok (md:Region.Mode)(ops:Array AF):Tr→Array Bool→Bool
  | .z,L=>(Region.ready md ops L).isEmpty
  | .q i t,L=>(Region.ready md ops L).contains i && Region.free md ops L i && t.ok md ops (L.setIfInBounds i true) && Y8r md ops L i t.cut
  | .e i t,L=>decide (Region.ready md ops L=[i]) && t.ok md ops (L.setIfInBounds i true) && t.cut !=some i
  | .b i t j u,L=>decide (Region.ready md ops L=[i,j]) && t.ok md ops (L.setIfInBounds i true) && u.ok md ops (L.setIfInBounds j true) &&(decide (u.cut=t.cut) &&(t.cut !=some i && t.cut !=some j))
  | .c i t j u k x,L=>decide (Region.ready md ops L=[i,j,k]) && t.ok md ops (L.setIfInBounds i true) && u.ok md ops (L.setIfInBounds j true) && x.ok md ops (L.setIfInBounds k true) &&(decide (u.cut=t.cut) && decide (x.cut=t.cut) &&(t.cut !=some i && t.cut !=some j && t.cut !=some k))
  | .vq i t,L=>(Region.ready md ops L).contains i && Region.free md ops L i && t.ok md ops (L.setIfInBounds i true) && t.cut !=some i
  | .kq i t,L=>decide (Region.ready md ops L=[i]) && t.ok md ops (L.setIfInBounds i true)
def Nml (K:Act→AA→Prop):AG→Act→AA→Prop
  | .normal,a,w=>K a w
  |_,_,_=>False
theorem Z2f {K:Act→AA→Prop}(h:LetsOut (Nml K)):False:=by
  obtain⟨a,w,h⟩:=h;exact h
theorem Y2i {Q:AG→Act→AA→Prop}:∀(e:AG) (a:Act) (w:AA),Nml (Q .normal) e a w→Q e a w:=fun e a w h=>by
  cases e<;>first|exact h|exact(h:False).elim
section
variable {P : AD} {ops : Array AF} {md : Region.Mode}
def K1 (P:AD)(ops:Array AF)(K:Act→AA→Prop):Tr→(AA→Prop)→Act→AA→Prop
  | .z,_,a,w=>K a w
  | .q i t,S,a,w=> ∃o,ops.toList[i]?=some o∧∃v,YieldsIf P ops S o v a∧K1 P ops K t S (a.put o.dst v) w
  | .e i t,S,a,w=> ∃o,ops.toList[i]?=some o∧AC P ops (Nml fun a' w' => ∃S' :AA→Prop,(∀W,S' W→S W)∧S' w' ∧K1 P ops K t S' a' w') [o] a w
  | .b i t j u,S,a,w=>(∃o,ops.toList[i]?=some o∧AC P ops (Nml fun a' w' => ∃S' :AA→Prop,(∀W,S' W→S W)∧S' w' ∧K1 P ops K t S' a' w') [o] a w)∧
      (∃o,ops.toList[j]?=some o∧AC P ops (Nml fun a' w' => ∃S' :AA→Prop,(∀W,S' W→S W)∧S' w' ∧K1 P ops K u S' a' w') [o] a w)
  | .c i t j u k x,S,a,w=>(∃o,ops.toList[i]?=some o∧AC P ops (Nml fun a' w' => ∃S' :AA→Prop,(∀W,S' W→S W)∧S' w' ∧K1 P ops K t S' a' w') [o] a w)∧(∃o,ops.toList[j]?=some o∧AC P ops (Nml fun a' w' => ∃S' :AA→Prop,(∀W,S' W→S W)∧S' w' ∧K1 P ops K u S' a' w') [o] a w)∧(∃o,ops.toList[k]?=some o∧AC P ops (Nml fun a' w' => ∃S' :AA→Prop,(∀W,S' W→S W)∧S' w' ∧K1 P ops K x S' a' w') [o] a w)
  | .vq i t,S,a,w=> ∃o,ops.toList[i]?=some o∧∃v,YieldsIf P ops (fun _=>True) o v a∧K1 P ops K t S (a.put o.dst v) w
  | .kq i t,S,a,w=> ∃o,ops.toList[i]?=some o∧AC P ops (Nml fun a' w' => ∃S' :AA→Prop,S' w' ∧K1 P ops K t S' a' w') [o] a w
theorem J2d {i:Nat}{o:AF}{K K' :Act→AA→Prop}{a:Act}{w:AA}(ho:ops[i]?=some o)(h:AC P ops (Nml K) [o] a w)(hm:∀a w,K a w→K' a w){Q:AG→Act→AA→Prop}:
    wpOp P ops Q i K' a w:=by
  unfold wpOp;simp only[ho];unfold AC at h
  split
  · rename_i hw
    rw[if_pos hw] at h;rcases h with h|⟨_,h⟩
    · refine .inl ?_
      unfold AF.wp at*;generalize (AV a.eval o).run P w=r at*;cases r with
      |ok n w' =>
        cases n<;>simp only[AF.upon] at h⊢
        case value u=>exact hm _ _ h
        case skip=>exact hm _ _ h
        case defer d=>exact hm _ _ h
        case enter f args=>
          refine Calls.mono h fun e D he=> ?_;cases e with
          |returned u=>exact hm _ _ he
          |panicked c=>exact(he:False).elim
          |outgrown=>exact(Z2f he).elim
        case row row args=>exact Rows.mono h fun u D he=>hm _ _ he
      |halt x w' =>
        cases x<;>simp only[AF.upon] at h⊢
        case panic u=>exact(h:False).elim
    exact(Z2f h).elim
  rename_i hw;rw[if_neg hw] at h;exact hm _ _ h
def Zc (c:Option Nat)(L:Array Bool)(S:AA→Prop)(w:AA):Prop:=match c with
  |none=>S w
  |some c=>L.getD c false=false→S w
def J2e (P:AD)(md:Region.Mode)(ops:Array AF)(Q:AG→Act→AA→Prop)(c:Option Nat)(S:AA→Prop):Nat→Array Bool→Act→AA→Prop
  |0,L,a,w=>Region.ready md ops L=[]∧Q .normal a w
  |f+1,L,a,w=>(Region.ready md ops L=[]→Q .normal a w)∧
    ∀i∈Region.ready md ops L,wpOp P ops Q i (fun a' w' =>Zc c (L.setIfInBounds i true) S w' ∧J2e P md ops Q c S f (L.setIfInBounds i true) a' w') a w
def ClL (md:Region.Mode)(ops:Array AF)(L:Array Bool):Prop:=∀j o,L.getD j false=true→ops[j]?=some o→∀e∈o.after,Region.binds md e=true→L.getD e.on false=true
theorem J3y {L:Array Bool}{j:Nat}(h:ClL md ops L)(hj:j∈Region.ready md ops L):ClL md ops (L.setIfInBounds j true):=fun i o hi ho e he hb=>by
  by_cases G:j=i
  · subst G
    obtain⟨_,o',D,J⟩:=mem_ready.1 hj;rw[ho] at D;injection D with D
    subst D;exact getD_set_true (J e he hb)
  · rw[getD_set_ne false G] at hi
    exact getD_set_true (h i o hi ho e he hb)
theorem J7i {L:Array Bool}(h:ClL md ops L){i:Nat}:∀(f c:Nat),need md ops f c i=true→(c∈Region.ready md ops L∨L.getD c false=true)→L.getD i false=true
  |0,_,hn,_=>by cases hn
  |f+1,c,hn,hc=>by
    unfold need at hn;cases ho:ops[c]? with
    |none=>rw[ho] at hn;cases hn
    |some o=>
      rw[ho] at hn;obtain⟨e,he,hb⟩:=Array.any_eq_true'.1 hn;rw[Bool.and_eq_true,Bool.or_eq_true,beq_iff_eq] at hb
      have hl:L.getD e.on false=true:=by
        rcases hc with hc|hc
        · obtain⟨_,o',D,J⟩:=mem_ready.1 hc
          rw[ho] at D;injection D with D
          subst D;exact J e he hb.1
        · exact h c o hc ho e he hb.1
      rcases hb.2 with G|G
      · rw[←G];exact hl
      exact J7i h f e.on G (.inr hl)
theorem Q6d {L:Array Bool}{i:Nat}(h:L.getD i true=false):L.getD i false=false:=by
  rcases Nat.lt_or_ge i L.size with h' |h'
  · simp[h'] at h⊢;exact h
  simp[Array.getElem?_eq_none h'] at h
theorem Z0g {c:Option Nat}{L:Array Bool}{S:AA→Prop}{w:AA}{i:Nat}(hi:c≠some i):Zc c (L.setIfInBounds i true) S w↔Zc c L S w:=by
  cases c with
  |none=>exact Iff.rfl
  |some c=>
    show(_→_)↔(_→_);rw[getD_set_ne false (fun e=>hi (by rw[e]))]
theorem J9q {Q:AG→Act→AA→Prop}{S S1:AA→Prop}{c:Option Nat}{i:Nat}{oi:AF}{v:AB}(hi:ops[i]?=some oi)(hsel:∀(j:Nat) (o:AF) cs b,ops[j]?=some o→o.op≠ .select cs b)
    (hQ:∀c a w,Q (.panic c) (a.put oi.dst v) w→Q (.panic c) a w) (hci:c≠some i) (hS1:∀L w,ClL md ops L→L.getD i true=false→Zc c L S w→S1 w):
    ∀(f:Nat)(L:Array Bool)(a:Act)(w:AA),ClL md ops L→
      (∀j oj,ops[j]?=some oj→j≠i→L.getD j true=false→(∀e∈oj.after,Region.binds md e=true→e.on≠i)→oi.apart ops oj=true)→
      i∈Region.ready md ops L→YieldsIf P ops S1 oi v a→Zc c L S w→
      J2e P md ops Q c S f (L.setIfInBounds i true) (a.put oi.dst v) w→J2e P md ops Q c S (f+1) L a w:=by
  intro f
  induction f with
  |zero=>
    intro L a w M _ hr hy hS H;have G:=(mem_ready.1 hr).1;refine⟨fun h=>(by rw[h] at hr;cases hr),fun j hj=> ?_⟩
    by_cases D:j=i
    · subst D;exact hy.wpOp hi (hS1 L w M G hS) ⟨(Z0g hci).2 hS,H⟩
    · have:=ready_mono hj D
      rw[H.1] at this;cases this
  |succ f ih=>
    intro L a w M J hr hy hS H;have G:=(mem_ready.1 hr).1;refine⟨fun h=>(by rw[h] at hr;cases hr),fun j hj=> ?_⟩
    by_cases D:j=i
    · subst D;exact hy.wpOp hi (hS1 L w M G hS) ⟨(Z0g hci).2 hS,H⟩
    · have h1:=H.2 j (ready_mono hj D)
      obtain⟨N,oj,R,U⟩:=mem_ready.1 hj
      have V:∀e∈oj.after,Region.binds md e=true→e.on≠i:=fun e he hb Y=>by
        have h1:=U e he hb;rw[Y,Q6d G] at h1;cases h1
      have h2:=wpOp_putIf R (J j oj R D N V) (fun cs b=>hsel i oi cs b hi) (fun cs b=>hsel j oj cs b R) hQ hy h1
      have hfree' :∀k ok,ops[k]?=some ok→k≠i→(L.setIfInBounds j true).getD k true=false→(∀e∈ok.after,Region.binds md e=true→e.on≠i)→oi.apart ops ok=true:=fun k ok hk Z G X=>by
        refine J k ok hk Z ?_ X
        by_cases T:j=k
        · subst T;exact N
        · rw[getD_set_ne true T] at G;exact G
      refine wpOp_mono (fun a' w' h3=> ?_) h2;have h5:=h3.2.1;rw[Array.setIfInBounds_comm _ _ (Ne.symm D)] at h5;have h4:Zc c (L.setIfInBounds j true) S w' :=(Z0g hci).1 h5;refine⟨h4,ih (L.setIfInBounds j true) a' w' (J3y M hj) hfree' (ready_mono hr (Ne.symm D)) h3.1 h4 ?_⟩;rw[Array.setIfInBounds_comm _ _ D];exact h3.2.2
theorem J6k {Q:AG→Act→AA→Prop}{S:AA→Prop}{c:Option Nat}{rs:List Nat}{f:Nat}{L:Array Bool}{a:Act}{w:AA}(hr:Region.ready md ops L=rs)(hne:rs≠[])
    (h:∀i∈rs,wpOp P ops Q i (fun a' w' =>Zc c (L.setIfInBounds i true) S w' ∧J2e P md ops Q c S f (L.setIfInBounds i true) a' w') a w):J2e P md ops Q c S (f+1) L a w:=
  ⟨fun h0=>absurd (hr▸h0) hne,hr▸h⟩
theorem Q8b {Q:AG→Act→AA→Prop}{S:AA→Prop}{c:Option Nat}{L:Array Bool}{a:Act}{w:AA}(hr:Region.ready md ops L=[])(h:Q .normal a w):∀f,J2e P md ops Q c S f L a w
  |0=>⟨hr,h⟩
  |_+1=>⟨fun _=>h,by rw[hr];simp⟩
theorem J92 {Q:AG→Act→AA→Prop}{S:AA→Prop}{c:Option Nat}:∀(f:Nat) (L:Array Bool) (a:Act) (w:AA),J2e P md ops Q c S f L a w→wpAny P md ops Q f L a w
  |0,_,_,_,h=>h
  |f+1,_,_,_,h=>⟨h.1,fun i hi=>wpOp_mono (fun a' w' h' =>J92 f _ a' w' h'.2) (h.2 i hi)⟩
theorem Q31 {Q:AG→Act→AA→Prop}{S:AA→Prop}{c:Nat}:∀(f:Nat) (L:Array Bool) (a:Act) (w:AA),L.getD c false=true→wpAny P md ops Q f L a w→J2e P md ops Q (some c) S f L a w
  |0,_,_,_,_,h=>h
  |f+1,L,_,_,hc,h=>⟨h.1,fun i hi=>wpOp_mono (fun a' w' h' =>⟨fun h0=>absurd h0 (by rw[getD_set_true hc];decide),Q31 f _ a' w' (getD_set_true hc) h'⟩) (h.2 i hi)⟩
theorem J1n {Q:AG→Act→AA→Prop}{S S' :AA→Prop}{c:Option Nat}(hS:∀W,S' W→S W):∀(f:Nat) (L:Array Bool) (a:Act) (w:AA),J2e P md ops Q c S' f L a w→J2e P md ops Q c S f L a w
  |0,_,_,_,h=>h
  |f+1,_,_,_,h=>⟨h.1,fun i hi=>wpOp_mono (fun a' w' h' =>⟨by cases c with
    |none=>exact hS _ h'.1
    |some c=>exact fun h0=>hS _ (h'.1 h0),J1n hS f _ a' w' h'.2⟩) (h.2 i hi)⟩
theorem Q17 {c:Option Nat}{L:Array Bool}{S:AA→Prop}{w:AA}(h:S w):Zc c L S w:=by
  cases c with
  |none=>exact h
  |some c=>exact fun _=>h
theorem J1o {Q:AG→Act→AA→Prop}(hs:Region.noSelect ops=true)(hQ:∀c a d v w,Q (.panic c) (a.put d v) w→Q (.panic c) a w):
    ∀(t:Tr)(S:AA→Prop)(f:Nat)(L:Array Bool)(a:Act)(w:AA),t.ok md ops L=true→t.len≤f→ClL md ops L→S w→K1 P ops (Q .normal) t S a w→J2e P md ops Q t.cut S f L a w
  | .z,S,f,L,a,w,hk,_,_,_,h=>Q8b (by simpa[Tr.ok] using hk) h f
  | .q i t,S,0,L,a,w,_,hl,_,_,_=>by simp[Tr.len] at hl
  | .q i t,S,f+1,L,a,w,hk,hl,hcl,hS,h=>by
    simp only[Tr.ok,Bool.and_eq_true] at hk;obtain⟨o,ho,v,hy,h⟩:=h;have hr:i∈Region.ready md ops L:=by simpa using hk.1.1.1
    have T:=(mem_ready.1 hr).1;show J2e P md ops Q t.cut S (f+1) L a w;have G:ops[i]?=some o:=by simpa using ho
    have hc:=hk.2
    have U:t.cut≠some i:=fun e=>by
      rw[e] at hc;simp only[Y8r,Bool.and_eq_true] at hc;have:=J7i hcl _ _ hc.1 (.inl hr);rw[Q6d T] at this;cases this
    refine J9q (S1:=S) G (Region.noSelect_spec hs) (fun c a w h=>hQ c a _ _ w h) U (fun L' w' N R hz=> ?_) f L a w hcl (Region.free_spec G hk.1.1.2) hr hy (Q17 hS) (J1o hs hQ t S f _ _ w hk.1.2 (by simp[Tr.len] at hl;omega) (J3y hcl hr) hS h);cases hcc:t.cut with
    |none=>rw[hcc] at hz;exact hz
    |some c=>
      rw[hcc] at hz hc;simp only[Y8r,Bool.and_eq_true] at hc;refine hz ?_;cases hg:L'.getD c false with
      |false=>rfl
      |true=>
        have:=J7i N _ _ hc.1 (.inr hg);rw[Q6d R] at this;cases this
  | .vq i t,S,0,L,a,w,_,hl,_,_,_=>by simp[Tr.len] at hl
  | .vq i t,S,f+1,L,a,w,hk,hl,hcl,hS,h=>by
    simp only[Tr.ok,Bool.and_eq_true,bne_iff_ne] at hk;obtain⟨o,ho,v,hy,h⟩:=h;have hr:i∈Region.ready md ops L:=by simpa using hk.1.1.1
    have G:ops[i]?=some o:=by simpa using ho
    show J2e P md ops Q t.cut S (f+1) L a w;exact J9q (S1:=fun _=>True) G (Region.noSelect_spec hs) (fun c a w h=>hQ c a _ _ w h) hk.2 (fun _ _ _ _ _=>trivial) f L a w hcl (Region.free_spec G hk.1.1.2) hr hy (Q17 hS) (J1o hs hQ t S f _ _ w hk.1.2 (by simp[Tr.len] at hl;omega) (J3y hcl hr) hS h)
  | .kq i t,S,0,L,a,w,_,hl,_,_,_=>by simp[Tr.len] at hl
  | .kq i t,S,f+1,L,a,w,hk,hl,hcl,hS,h=>by
    simp only[Tr.ok,Bool.and_eq_true,decide_eq_true_eq] at hk;obtain⟨o,ho,h⟩:=h;have hr:i∈Region.ready md ops L:=by rw[hk.1];simp
    have V:i<L.size:=by
      have h0:=(mem_ready.1 hr).1;rcases Nat.lt_or_ge i L.size with h' |h'
      · exact h'
      · simp[Array.getElem?_eq_none h'] at h0
    have J:(L.setIfInBounds i true).getD i false=true:=by simp[V]
    show J2e P md ops Q (some i) S (f+1) L a w;refine J6k hk.1 (by simp) fun k D=> ?_;rw[Ai] at D;subst D;exact J2d (by simpa using ho) h fun a' w' ⟨S',h1,h2⟩=>⟨fun h0=>absurd h0 (by rw[J];decide),Q31 f _ a' w' J (J92 _ _ _ _ (J1o hs hQ t S' f _ _ w' hk.2 (by simp[Tr.len] at hl;omega) (J3y hcl hr) h1 h2))⟩
  | .e i t,S,0,L,a,w,_,hl,_,_,_=>by simp[Tr.len] at hl
  | .e i t,S,f+1,L,a,w,hk,hl,hcl,hS,h=>by
    simp only[Tr.ok,Bool.and_eq_true,decide_eq_true_eq] at hk;obtain⟨o,ho,h⟩:=h;show J2e P md ops Q t.cut S (f+1) L a w;refine J6k hk.1.1 (by simp) fun k D=> ?_;have hr:k∈Region.ready md ops L:=by rw[hk.1.1];exact D
    rw[Ai] at D;subst D;exact J2d (by simpa using ho) h fun a' w' ⟨S',h1,h2,h3⟩=>⟨Q17 (h1 _ h2),J1n h1 _ _ _ _ (J1o hs hQ t S' f _ _ w' hk.1.2 (by simp[Tr.len] at hl;omega) (J3y hcl hr) h2 h3)⟩
  | .b i t j u,S,0,L,a,w,_,hl,_,_,_=>by simp[Tr.len] at hl
  | .b i t j u,S,f+1,L,a,w,hk,hl,hcl,hS,h=>by
    simp only[Tr.ok,Bool.and_eq_true,decide_eq_true_eq] at hk;obtain⟨⟨o,ho,h⟩,⟨o2,M,h2⟩⟩:=h;show J2e P md ops Q t.cut S (f+1) L a w;refine J6k hk.1.1.1 (by simp) fun k D=> ?_;have hr:k∈Region.ready md ops L:=by rw[hk.1.1.1];exact D
    have X:k=i∨k=j:=by simpa using D
    rcases X with e|e
    · subst e
      exact J2d (by simpa using ho) h fun a' w' ⟨S',h1,h2,h3⟩=>⟨Q17 (h1 _ h2),J1n h1 _ _ _ _ (J1o hs hQ t S' f _ _ w' hk.1.1.2 (by simp[Tr.len] at hl;omega) (J3y hcl hr) h2 h3)⟩
    · subst e
      exact J2d (by simpa using M) h2 fun a' w' ⟨S',h1,h2,h3⟩=>⟨Q17 (h1 _ h2),J1n h1 _ _ _ _ (by rw[←hk.2.1];exact J1o hs hQ u S' f _ _ w' hk.1.2 (by simp[Tr.len] at hl;omega) (J3y hcl hr) h2 h3)⟩
  | .c i t j u k x,S,0,L,a,w,_,hl,_,_,_=>by simp[Tr.len] at hl
  | .c i t j u k x,S,f+1,L,a,w,hk,hl,hcl,hS,h=>by
    simp only[Tr.ok,Bool.and_eq_true,decide_eq_true_eq] at hk;simp only[Tr.len] at hl;obtain⟨⟨o,ho,h⟩,⟨o2,M,h2⟩,⟨o3,Z,h3⟩⟩:=h;show J2e P md ops Q t.cut S (f+1) L a w;refine J6k hk.1.1.1.1 (by simp) fun m hm=> ?_;have hr:m∈Region.ready md ops L:=by rw[hk.1.1.1.1];exact hm
    have Y:m=i∨m=j∨m=k:=by simpa using hm
    rcases Y with e|e|e
    · subst e
      exact J2d (by simpa using ho) h fun a' w' ⟨S',h1,h2,h3⟩=>⟨Q17 (h1 _ h2),J1n h1 _ _ _ _ (J1o hs hQ t S' f _ _ w' hk.1.1.1.2 (by omega) (J3y hcl hr) h2 h3)⟩
    · subst e
      exact J2d (by simpa using M) h2 fun a' w' ⟨S',h1,h2,h3⟩=>⟨Q17 (h1 _ h2),J1n h1 _ _ _ _ (by rw[←hk.2.1.1];exact J1o hs hQ u S' f _ _ w' hk.1.1.2 (by omega) (J3y hcl hr) h2 h3)⟩
    · subst e
      exact J2d (by simpa using Z) h3 fun a' w' ⟨S',h1,h2,h3⟩=>⟨Q17 (h1 _ h2),J1n h1 _ _ _ _ (by rw[←hk.2.1.2];exact J1o hs hQ x S' f _ _ w' hk.1.2 (by omega) (J3y hcl hr) h2 h3)⟩
theorem V2u:ClL md ops (Array.replicate ops.size false):=fun j o hj=>by
  simp[Array.getElem?_replicate] at hj
  split at hj<;>simp at hj
theorem Y2j {K:Act→AA→Prop}:∀c (a:Act) d v w,Nml K (.panic c) (a.put d v) w→Nml K (.panic c) a w:=fun _ _ _ _ _ h=>h
theorem Q6e {id:Nat}{a:Act}{w:AA}{Q:AG→Act→AA→Prop}(t:Tr)(S:AA→Prop)(hm:P.follows .mixedOrders=true)
    (hB:(Region.noSelect ops && decide (t.len≤ops.size) && t.ok .any ops (Array.replicate ops.size false))=true)
    (h:∀W,Off [] w W→S W∧K1 P ops (Q .normal) t S a W):(Code.region id ops true).wp P Q a w:=by
  simp only[Bool.and_eq_true,decide_eq_true_eq] at hB;refine Code.wp_mono Y2i (wp_region_any hm ?_);obtain⟨h1,h2⟩:=h {w with drawn:=w.drawn+1} (J1v (Below.refl _ _).drew);exact J92 _ _ _ _ (J1o (Q:=Nml (Q .normal)) hB.1.1 Y2j t S _ _ _ _ hB.2 hB.1.2 V2u h1 h2)
section
variable {K : Act → AA → Prop} {t u : Tr} {S : AA → Prop} {a : Act} {w : AA} {o : AF} {i : Nat}
theorem V2v {v:AB}(ho:ops.toList[i]?=some o)(hw:Region.wanted o (yielded ops a.tmps)=true)(hv:∀W,S W→(AV a.eval o).run P W=.ok (.value v) W)(h:K1 P ops K t S (a.put o.dst v) w):K1 P ops K (.q i t) S a w:=
  ⟨o,ho,v,.inl ⟨hw,hv⟩,h⟩
theorem Z7m (ho:ops.toList[i]?=some o)(hw:Region.wanted o (yielded ops a.tmps)=false)(h:K1 P ops K t S (a.put o.dst undef) w):K1 P ops K (.q i t) S a w:=
  ⟨o,ho,undef,.inr ⟨hw,rfl⟩,h⟩
theorem V2w (ho:ops.toList[i]?=some o)(h:AC P ops (Nml fun a' w' => ∃S' :AA→Prop,(∀W,S' W→S W)∧S' w' ∧K1 P ops K t S' a' w') [o] a w):K1 P ops K (.e i t) S a w:=⟨o,ho,h⟩
theorem V2x {j:Nat}{o2:AF}(ho:ops.toList[i]?=some o)(ho2:ops.toList[j]?=some o2)(h:AC P ops (Nml fun a' w' => ∃S' :AA→Prop,(∀W,S' W→S W)∧S' w' ∧K1 P ops K t S' a' w') [o] a w)
    (h2:AC P ops (Nml fun a' w' => ∃S' :AA→Prop,(∀W,S' W→S W)∧S' w' ∧K1 P ops K u S' a' w') [o2] a w):K1 P ops K (.b i t j u) S a w:=⟨⟨o,ho,h⟩,⟨o2,ho2,h2⟩⟩
theorem V2y (S' :AA→Prop)(h1:∀W,S' W→S W)(h2:S' w)(h:K1 P ops K t S' a w):AC P ops (Nml fun a' w' => ∃S' :AA→Prop,(∀W,S' W→S W)∧S' w' ∧K1 P ops K t S' a' w') [] a w:=⟨S',h1,h2,h⟩
end
/-! ### Loads -/
theorem V6 {a:Act}{W:AA}{o:AF}{ad:Addr}{v:AB}{ty:AE}{x:AW}(ho:o.op=.load ty x)(hx:a.eval x=.pointer (some ad))(hc:W.cell? ad=some v)
    (hk:(P.underlying ty).map TypeDesc.isRow=some false):(AV a.eval o).run P W=.ok (.value v) W:=by
  cases hu:P.underlying ty with
  |none=>simp[hu] at hk
  |some d=>
    have hd:d.isRow=false:=by simpa[hu] using hk
    unfold AV;simp only[ho,hx];cases d<;>simp_all [Instr.loadAt,Instr.sureAddr,Ah,Sem.run_pure,Result.andThen_ok,run_underlying hu,TypeDesc.isRow]
    all_goals simp[loadVar,isAgg,Ah,Sem.run_pure,Result.andThen_ok,run_underlying hu,TypeDesc.isRow,hc]
theorem J0n {a:Act}{W:AA}{o:AF}{b j:Nat}{vs:List AB}{ty:AE}{x:AW}(ho:o.op=.load ty x)(hx:a.eval x=.pointer (some ⟨b,j,none⟩))(hc:∀i v,vs[i]?=some v→W.cell? ⟨b,j+i,none⟩=some v)
    (hk:(P.underlying ty).map TypeDesc.isRow=some true) (hi:(P.info? ty).map (·.size)=some vs.length):(AV a.eval o).run P W=.ok (.value (.agg vs.toArray)) W:=by
  cases hu:P.underlying ty with
  |none=>simp[hu] at hk
  |some d=>
    have hd:d.isRow=true:=by simpa[hu] using hk
    have:=run_loadAt_mid (P:=P) W b j ty vs d hc hu (by cases d<;>simp_all [TypeDesc.isRow]) hi;simp[AV,ho,hx,Ah,this]
theorem Q8c {a:Act}{W:AA}{o:AF}{b:Nat}{cs:Array AB}{t ty:AE}{x:AW}(ho:o.op=.load ty x)(hx:a.eval x=.pointer (some ⟨b,0,none⟩))(hB:Blk W b cs t)
    (hk:(P.underlying ty).map TypeDesc.isRow=some true) (hi:(P.info? ty).map (·.size)=some cs.size):(AV a.eval o).run P W=.ok (.value (.agg cs)) W:=
  J0n (vs:=cs.toList) ho hx (fun i v hv=>by rw[J5 hB,AP];simpa using hv) hk (by simpa using hi)
end
end

section
section
variable {w W : AA} {o : AF} {a : Act} {x y : AW} {v u : AB} {l : List UInt8}
theorem J1j (h:Sl W v l)(ho:o.op=.convert 45 9 x)(hx:a.eval x=v):(AV a.eval o).run Tryz.prog W=.ok (.value (Z9 l)) W:=by
  simp[AV,ho,hx,Ah,Y2g h]
theorem J03 (hs:Sl w v l)(ho:o.op=.call {callee:=.builtin .len,args:= #[x],argTypes:= #[45]})(hx:a.eval x=v):(execOp a.eval o).run Tryz.prog W=.ok (.value (.int .i64 (l.length:Int))) W:=by
  obtain⟨A,c,rfl,_⟩:=hs;unfold AV;simp only[ho,resolve,invoke,builtin,Ah,Sem.run_pure,Result.andThen_ok,List.map_toArray,Ac,Ak,hx];simp[Builtin.len_,run_underlying Tryz.underlying45,goInt,Ah]
end
end

section
def Row (t:AE)(k:Nat)(w:AA)(v:AB)(es:List (List AB)):Prop:=w.ownsRow 0 t k v es.length es.flatten∧∀e∈es,e.length=k
section
variable {t : AE} {k : Nat} {w : AA} {v : AB} {es : List (List AB)}
theorem Row.off {F:List Nat}{w' :AA}(h:Row t k w v es)(q:Off F w w')(hF:∀b∈F,v.ownBlock≠some b):Row t k w' v es:=by
  refine⟨⟨h.1.1,h.1.2.imp id ?_⟩,h.2⟩;rintro⟨g,G,D,rfl,hb,hh,r⟩;exact⟨g,G,D,rfl,hb,by rw[q.block g (lt_of_block hh) (fun hx=>hF g hx rfl)];exact hh,r⟩
theorem Row.lt (h:Row t k w v es):∀g,v.ownBlock=some g→g<w.heap.size:=by
  intro g hg;rcases h.1.2 with⟨rfl,_⟩|⟨g',G,D,rfl,_,hh,_⟩
  · cases hg
  obtain rfl:g' =g:=Af hg;exact lt_of_block hh
theorem Y2k (t:AE)(k:Nat)(w:AA):Row t k w (.slice none 0 0) []:=⟨⟨by simp,.inl ⟨rfl,rfl⟩⟩,by simp⟩
theorem Row.len (h:Row t k w v es):∃A c,v=.slice A es.length c∧es.length≤c:=by
  rcases h.1.2 with⟨rfl,hn⟩|⟨g,G,D,rfl,_,hh,hc,_⟩
  · exact⟨none,0,by rw[hn],by omega⟩
  exact⟨_,_,rfl,hc⟩
theorem Row.cells (h:Row t k w v es):v.cells= #[v]∧v.oneCell' =true:=by
  obtain⟨A,c,rfl,_⟩:=h.len;exact⟨rfl,rfl⟩
theorem Z2g {k:Nat}:∀(es:List (List AB)) (j i:Nat) (e:List AB),(∀e∈es,e.length=k)→es[j]?=some e→i<k→es.flatten[j*k+i]?=e[i]?
  |[],_,_,_,_,h,_=>by simp at h
  |x::es,0,i,e,hl,h,hi=>by
    have hx:=hl x (by simp);have:x=e:=by simpa using h
    subst this;rw[Aw,Nat.zero_mul,AP,List.getElem?_append_left (by omega)]
  |x::es,j+1,i,e,hl,h,hi=>by
    have hx:=hl x (by simp);have:=Z2g es j i e (fun e he=>hl e (by simp[he])) (by simpa using h) hi;rw[Aw,List.getElem?_append_right (by rw[hx,Nat.add_mul];omega),hx,show(j+1)*k+i-k=j*k+i by rw[Nat.add_mul];omega];exact this
theorem Row.at (h:Row t k w v es){j:Nat}{e:List AB}(hj:es[j]?=some e):∃g c,v=.slice (some ⟨g,0,none⟩) es.length c∧∀i x,e[i]?=some x→w.cell? ⟨g,j*k+i,none⟩=some x:=by
  have M:=(List.getElem?_eq_some_iff.1 hj).1;rcases h.1.2 with⟨rfl,hn⟩|⟨g,J,G,rfl,_,hh,hc,hm,hs,ht⟩
  · omega
  refine⟨g,J,rfl,fun i x hx=> ?_⟩;have he:e.length=k:=h.2 e (List.mem_of_getElem? hj);have hi:i<k:=by have:=(List.getElem?_eq_some_iff.1 hx).1;omega
  have hf:=Z2g es j i e h.2 hj hi
  have D:j*k+i<es.length*k:=by
    have:(j+1)*k≤es.length*k:=Nat.mul_le_mul_right k M;rw[Nat.add_mul] at this;omega
  rw[cell_of_row w g _ G _ _ hh];rw[←ht,List.getElem?_take_of_lt D] at hf;rw[←hx,←hf];simp
theorem Z2h {g:Nat}{cs:Array AB}(h:Blk w g cs t)(hc:cs.toList=es.flatten)(hl:∀e∈es,e.length=k)(hm:es.length≤Ag):Row t k w (.slice (some ⟨g,0,none⟩) es.length es.length) es:=by
  have D:es.flatten.length=es.length*k:=by
    clear hc hm
    induction es with
    |nil=>simp
    |cons x r ih=>rw[Aw,Ao,hl x (by simp),ih (fun e he=>hl e (by simp[he])),AY,Nat.add_mul];omega
  have hs:cs.size=es.length*k:=by rw[←Array.length_toList,hc,D]
  exact⟨⟨D,.inr ⟨g,es.length,cs,rfl,An _,h,AM _,hm,hs,by rw[hc,List.take_of_length_le (by omega)]⟩⟩,hl⟩
end
theorem vs0:∀v∈([]:List AB),v.cells= #[v]:=by simp
theorem vsc {x:AB}{r:List AB}(h:x.cells= #[x])(k:∀v∈r,v.cells= #[v]):∀v∈x::r,v.cells= #[v]:=by
  intro v hv;rcases List.mem_cons.1 hv with rfl|hv
  · exact h
  exact k v hv
theorem Z0h {P:AD}{t:AE}{k b:Nat}(h:(P.info? t).map (fun i=>(i.zero.map (·.cells.size),i.size,i.bytes))=some (some k,k,b)):∃i z,P.info? t=some i∧i.zero=some z∧i.size=k∧i.bytes=b∧z.cells.size=k:=by
  cases hi:P.info? t with
  |none=>simp[hi] at h
  |some i=>
    simp only[hi,Option.map_some,Option.some.injEq,Prod.mk.injEq] at h;cases hz:i.zero with
    |none=>simp[hz] at h
    |some z=>exact⟨i,z,rfl,hz,h.2.1,h.2.2,by simpa[hz] using h.1⟩
section
variable {P : AD} {ops : Array AF} {Q : AG → Act → AA → Prop} {w : AA} {l : List AF} {o : AF} {a : Act} {tS t t2 : AE} {k bytes : Nat} {s x : AW} {v u : AB} {es : List (List AB)}
theorem Q8d {g c:Nat}{cs:Array Value}(hw:Region.wanted o (yielded ops a.tmps)=true)(ho:o.op=.call {callee:=.builtin .append,args:= #[s,x],argTypes:= #[tS,tS]})(hs:a.eval s=v)(hx:a.eval x=.slice (some ⟨g,0,none⟩) 1 c)
    (hown:Row t k w v es) (hB:Blk w g cs t2) (hk:cs.size=k) (h1:cs.all (·.oneCell')=true) (hk0:0<k) (ht:P.underlying tS=some (.slice t)) (hi:(P.info? t).map (fun i=>(i.zero.map (·.cells.size),i.size,i.bytes))=some (some k,k,bytes))
    (hlen:(es.length+1)*bytes≤140737488355328) (hl2:es.length+1≤maxLen)
    (h:∀v' W,Row t k W v' (es++[cs.toList])→Off v.ownBlock.toList w W→Of v'.ownBlock v.ownBlock w.heap.size→wpList P ops Q l (a.put o.dst v') W):wpList P ops Q (o::l) a w:=by
  obtain⟨i,z,hi,hz,M,G,J⟩:=Z0h hi
  obtain⟨v',W,D,h2,h3,h4,h5⟩:=run_append_own_at (P:=P) w 0 tS o.type t i z k bytes ht hi hz M G J hk0 v es.length es.flatten hown.1 ⟨g,0,none⟩ 1 c cs.toList (by simp[hk])
    (fun j u hu=>by rw[Addr.add_mid,J5 hB,AP];simpa using hu) (fun u hu=>Array.all_eq_true_iff_forall_mem.1 h1 u (by simpa using hu)) hl2 hlen (An _)
  refine J6h hw (v:=v') (W:=W) ?_ (h v' W ⟨?_,?_⟩ (Q0l h3) (Z2c h5))
  · unfold AV
    simp only[ho,resolve,invoke,builtin,Ah,Sem.run_pure,Result.andThen_ok,List.map_toArray,Ac,Ak,hs,hx,D]
  · rw[Ao,List.flatten_append];simpa using h2
  intro e he;rcases List.mem_append.1 he with he|he
  · exact hown.2 e he
  rw[Ai.1 he];simpa using hk
theorem J0x {W:World}(hs:Row t k w v es)(ho:o.op=.call {callee:=.builtin .len,args:= #[x],argTypes:= #[tS]})(hx:a.eval x=v)(ht:P.underlying tS=some (.slice t)):(execOp a.eval o).run P W=.ok (.value (.int .i64 (es.length:Int))) W:=by
  obtain⟨A,c,rfl,_⟩:=hs.len;unfold AV;simp only[ho,resolve,invoke,builtin,Ah,Sem.run_pure,Result.andThen_ok,List.map_toArray,Ac,Ak,hx];simp[Builtin.len_,run_underlying ht,goInt,Ah]
theorem Q6f {W:AA}{y:AW}{kk:IntKind}{ad:Addr}{n c j:Nat}(hj:j<n)(ho:o.op=.indexAddr tS x y)(hx:a.eval x=.slice (some ad) n c)(hy:a.eval y=.int kk (j:Int))(ht:P.underlying tS=some (.slice t))(hi:(P.info? t).map (·.size)=some k):
    (AV a.eval o).run P W=.ok (.value (.pointer (some (ad.add (j*k))))) W:=by
  cases hq:P.info? t with
  |none=>simp[hq] at hi
  |some i=>
    have hs:i.size=k:=by simpa[hq] using hi
    simp[AV,ho,hx,hy,Instr.indexAt,asIntOf,run_underlying ht,Ah,sizeOf,typeInfo,hq,hs,hj]
theorem J0p {e:AE}{len:Nat}{parts:Array (Nat×AW)}(vs:List AB)(ho:o.op=.buildSlice tS len parts)(hp:parts.toList.map (fun p=>(p.1,a.eval p.2))=(vs.zipIdx 0).map fun x=>(x.2,x.1))(hv:∀v∈vs,v.cells= #[v])
    (hu:P.underlying tS=some (.slice e)) (hsz:(P.info? e).map (·.size)=some 1) (hz:((P.info? e).bind (·.zero)).isSome=true) (hlen:len=vs.length) (hpos:0<len) (hsmall:len≤2^24):
    (AV a.eval o).run P w=.ok (.value (.slice (some ⟨w.heap.size,0,none⟩) len len)) (w.alloc (.cells vs.toArray e)):=by
  cases hie:P.info? e with
  |none=>simp[hie] at hsz
  |some ie=>
    simp only[hie,Option.map_some,Option.some.injEq,Option.bind_some] at hsz hz;obtain⟨z,D⟩:=Option.isSome_iff_exists.1 hz;unfold AV;simp only[ho,Ah];rw[run_buildSlice w tS e len _ vs.toArray ie z hu hie D (by rw[hsz];omega) (by rw[hsz];omega) (by rw[Array.toList_map,hsz];refine Eq.trans (congrArg (Instr.fill _ _) hp) ?_;exact Great.fill_flat _ _ hv (by simp[hlen]))];rfl
theorem J0d {e:AE}{parts:Array (Nat×AW)}{x0:AW}{cs:Array AB}(ho:o.op=.buildSlice tS 1 parts)(hp:parts.toList=[(0,x0)])(hx:a.eval x0=.agg cs)
    (hu:P.underlying tS=some (.slice e)) (hsz:(P.info? e).map (·.size)=some cs.size) (hz:(P.info? e).map (fun i=>i.zero.map (·.cells.size))=some (some cs.size)) (hpos:0<cs.size) (hsmall:cs.size≤2^24):
    (AV a.eval o).run P w=.ok (.value (.slice (some ⟨w.heap.size,0,none⟩) 1 1)) (w.alloc (.cells cs e)):=by
  cases hie:P.info? e with
  |none=>simp[hie] at hsz
  |some ie=>
    simp only[hie,Option.map_some,Option.some.injEq] at hsz hz;cases hzz:ie.zero with
    |none=>simp[hzz] at hz
    |some z=>
      obtain⟨r,hr,J,hk⟩:=Great.fill_dense (s:=cs.size) hpos [.agg cs] 0 ((Array.range (1*cs.size)).map (z.cells[· % z.cells.size]!)) (fun v hv=>by rw[Ai.1 hv];rfl) (by simp)
      have G:r=cs:=by
        apply Array.ext_getElem?;intro k;rw[hk k];simp only[Nat.zero_mul,An,true_and,AY,Av,AP,Nat.one_mul]
        by_cases D:k<cs.size
        · rw[if_pos D,Nat.div_eq_of_lt D,Nat.mod_eq_of_lt D]
          rfl
        · rw[if_neg D,Array.getElem?_eq_none (by simpa using D),Array.getElem?_eq_none (by simpa using D)]
      subst G;unfold AV;simp only[ho,Ah];rw[run_buildSlice w tS e 1 _ _ ie z hu hie hzz (by rw[hsz];omega) (by rw[hsz];omega) (by rw[Array.toList_map,hp,hsz];simp only[Ac,Ak,hx];exact hr)];rfl
end
end

section
def Owz (w:AA)(v:AB)(l:List UInt8):Prop:=
  ∃(g cap:Nat)(cs:Array AB)(fz:Nat×Nat),v=.slice (some ⟨g,0,none⟩) l.length cap∧w.heap[g]?=some (.cells cs 5 fz)∧(fz.1=fz.2∨cs.size≤fz.1)∧l.length≤cap∧cap≤Ag∧cs.size=cap∧cs.toList.take l.length=bs8 l
theorem Owz.lt {w:AA}{v:AB}{l:List UInt8}(h:Owz w v l):∀g,v.ownBlock=some g→g<w.heap.size:=by
  intro x hx;obtain⟨g,D,cs,fz,rfl,hh,_⟩:=h;obtain rfl:g=x:=Af hx;exact lt_of_block hh
theorem Owz.off {F:List Nat}{w w' :AA}{v:AB}{l:List UInt8}(h:Owz w v l)(k:Off F w w')(hF:∀b∈F,v.ownBlock≠some b):Owz w' v l:=by
  obtain⟨g,D,cs,fz,rfl,hh,r⟩:=h;exact⟨g,D,cs,fz,rfl,by rw[k.block g (lt_of_block hh) (fun hx=>hF g hx rfl)];exact hh,r⟩
theorem Owz.cells {w:AA}{g cap:Nat}{l:List UInt8}{cs:Array AB}{fz:Nat×Nat}(hh:w.heap[g]?=some (.cells cs 5 fz))(ht:cs.toList.take l.length=bs8 l):∀j u,(bs8 l)[j]?=some u→w.cell? ((⟨g,0,none⟩:Addr).add j)=some u:=fun j u hu=>by
  rw[Addr.add_mid,cell_of_row w g _ cs _ _ hh,AP];rw[←ht,List.getElem?_take] at hu
  split at hu
  · simpa using hu
  · cases hu
theorem Owz.sl {w:AA}{v:AB}{l:List UInt8}(h:Owz w v l):Sl w v l:=by
  obtain⟨g,cap,cs,fz,rfl,hh,hf,hc,hm,hs,ht⟩:=h;exact⟨some ⟨g,0,none⟩,cap,rfl,hc,hm,(fun h=>by cases h),fun j x hj=>⟨_,rfl,Owz.cells (cap:=cap) hh ht j _ (Q68 hj)⟩⟩
theorem Owz.len {w:AA}{v:AB}{l:List UInt8}(h:Owz w v l):∃A c,v=.slice A l.length c∧l.length≤c:=by
  obtain⟨g,D,cs,fz,rfl,_,_,hc,_⟩:=h;exact⟨_,_,rfl,hc⟩
theorem Y2x {w:AA}{g c:Nat}{l:List UInt8}{cs:Array AB}(h:Blz w g cs 5)(hc:l.length≤c)(hm:c≤Ag)(hs:cs.size=c)(hl:cs.toList.take l.length=bs8 l):Owz w (.slice (some ⟨g,0,none⟩) l.length c) l:=by
  obtain⟨fz,h1,h2⟩:=h;exact⟨g,c,cs,fz,rfl,h1,.inr h2,hc,hm,hs,hl⟩
theorem J66 {P:AD}(g o:Nat)(t:AE)(fz:Nat×Nat):∀(vs:List AB) (i:Nat) (cur:Array AB) (w:AA),w.heap[g]?=some (.cells cur t fz)→(fz.1=fz.2∨cur.size≤fz.1)→o+i+vs.length≤cur.size→(∀v∈vs,v.oneCell' =true)→
    (storeCells ⟨g,o,none⟩ vs i).run P w=.ok () (w.setRow g (cur.toList.take (o+i)++vs++cur.toList.drop (o+i+vs.length)).toArray)
  |[],i,cur,w,hg,_,_,_=>by
    simp only[storeCells,Ar,Av,Ax,List.take_append_drop,Array.toArray_toList];rw[setRow_self w g cur t fz hg];rfl
  |v::rest,i,cur,w,hg,hz,hl,h1=>by
    have hi:o+i<cur.size:=by simp at hl;omega
    have J:(⟨g,o,none⟩:Addr).add i=⟨g,o+i,none⟩:=by unfold Addr.add;split<;>simp_all
    have D:w.cell? ⟨g,o+i,none⟩=some cur[o+i]:=by simp[AA.cell?,hg,hi]
    have G:w.frozen? ⟨g,o+i,none⟩=false:=by simp[AA.frozen?,hg];omega
    have M:(store ((⟨g,o,none⟩:Addr).add i) v).run P w=.ok () (w.setRow g (cur.setIfInBounds (o+i) v)):=by
      rw[J,run_store P w _ v _ (h1 v (by simp)),D];simp[G,setCell_eq_setRow w g (o+i) cur t fz v hg]
    have ih:=J66 (P:=P) g o t fz rest (i+1) (cur.setIfInBounds (o+i) v) (w.setRow g (cur.setIfInBounds (o+i) v)) (setRow_heap w g cur _ t _ hg) (by simpa using hz) (by simp at hl⊢;omega) (fun x hx=>h1 x (by simp[hx]));simp only[storeCells,Ah,M,Result.andThen_ok,ih,setRow_setRow]
    congr 3
    have e:=list_seg_step cur.toList (o+i) v rest (by simp at hl⊢;omega)
    simpa[Array.toList_setIfInBounds,Nat.add_assoc] using e
theorem Q6o (w:AA)(ty:AE){v u:AB}{l m:List UInt8}(hown:Owz w v l)(hs:Sl w u m)(hlen:l.length+m.length≤140737488355328):
    ∃v' W,(Builtin.append_ #[45,45] ty #[v,u]).run Tryz.prog w=.ok v' W∧Owz W v' (l++m)∧Off v.ownBlock.toList w W∧(v'.ownBlock=v.ownBlock∨v'.ownBlock=some w.heap.size):=by
  obtain⟨i,hi,hz,S,U⟩:=info_parts J6i;have ht:=Tryz.underlying45;obtain⟨g,cap,cs,fz,rfl,hh,hf,hc,hm,N,R⟩:=hown;obtain⟨A,c,rfl,_,_,_,G⟩:=hs;rcases A with _|ad
  · have:m=[]:=by
      cases m with
      |nil=>rfl
      |cons x r=>obtain⟨ad,h,_⟩:=G 0 x rfl;cases h
    subst this;refine⟨.slice (some ⟨g,0,none⟩) l.length cap,w,?_,by rw[Ar];exact⟨g,cap,cs,fz,rfl,hh,hf,hc,hm,N,R⟩,Off.refl _ _,.inl rfl⟩;simp[Builtin.append_,run_underlying ht,sizeOf,typeInfo,hi,Builtin.lenOf,Builtin.firstCells,hc,storeCells]
  have J:∀j x,(bs8 m)[j]?=some x→w.cell? (ad.add j)=some x:=fun j x hx=>by
    simp only[bs8,List.getElem?_map,Option.map_eq_some_iff] at hx;obtain⟨y,hy,rfl⟩:=hx;obtain⟨α,h,V⟩:=G j y hy;obtain rfl:=Af h;exact V
  by_cases M:l.length+m.length≤cap
  · have Y:=run_firstCells_some (P:=Tryz.prog) w 1 m.length ad m.length c (bs8 m) (by rw[X8,AS]) J
    have T:=J66 (P:=Tryz.prog) g (l.length*1) 5 fz (bs8 m) 0 cs w hh hf (by rw[X8,N];omega) (Q1w m);simp only[Ax,AS] at T;refine⟨.slice (some ⟨g,0,none⟩) (l.length+m.length) cap,w.setRow g (cs.toList.take l.length++bs8 m++cs.toList.drop (l.length+(bs8 m).length)).toArray,?_,?_,?_,.inl rfl⟩
    · simp[Builtin.append_,run_underlying ht,sizeOf,typeInfo,hi,S,Builtin.lenOf,M,Y,Addr.add_lit,T]
    · have D:((cs.toList.take l.length++bs8 m++cs.toList.drop (l.length+(bs8 m).length)).toArray).size=cs.size:=by
        simp only[List.size_toArray,Ao,List.length_take,List.length_drop,Array.length_toList,X8];omega
      refine⟨g,cap,_,fz,by rw[Ao],setRow_heap w g cs _ 5 fz hh,by rw[D];exact hf,by rw[Ao];exact M,hm,by rw[D];exact N,?_⟩;rw[R,←J56,←X8 (l++m)];exact List.take_left
    exact⟨rfl,rfl,rfl,by simp,fun k hk hn=>setRow_other w g k _ (fun e=>hn (by simp[AB.ownBlock,e]))⟩
  have hr:=run_append_grow (P:=Tryz.prog) w 45 ty 5 i (.int .u8 0) ht hi hz ⟨g,0,none⟩ l.length cap (bs8 l) (by rw[X8,S,AS]) (Owz.cells (cap:=cap) hh R) ad m.length c (bs8 m) (by rw[X8,S,AS]) J (by omega) (by omega)
    (growslice_fits (by omega) (by rw[U];omega))
  have X:=grownCap_ge w (l.length+m.length) cap 5;have Z:grownCap w (l.length+m.length) cap 5≤Ag:=grownCap_le_maxLen w (l.length+m.length) cap 5 (by unfold Ag;omega);refine⟨_,_,hr,⟨w.heap.size,_,_,(0,0),by rw[Ao],heap_alloc_new w.drew _,.inl rfl,by rw[Ao];exact X,Z,?_,?_⟩,J1v ((Below.refl _ _).drew.alloc (AM _) _) |>.mono (fun x hx=>by cases hx),.inr rfl⟩
  · simp only[Array.size_append,List.size_toArray,size_zeroCells,X8,AB.cells]
    simp;omega
  simp only[Array.toList_append,At];rw[←At,←J56,←X8 (l++m)];exact List.take_left
theorem Q8h {ops:Array Oper}{Q:Exit→Act→World→Prop}{w:World}{l:List Oper}{o:Oper}{a:Act}{s x:Operand}{v u:Value}{xs ys:List UInt8}(hw:Region.wanted o (yielded ops a.tmps)=true)
    (ho:o.op=.call {callee:=.builtin .append,args:= #[s,x],argTypes:= #[45,45]}) (hs:a.eval s=v) (hx:a.eval x=u) (hown:Owz w v xs) (hsl:Sl w u ys) (hlen:xs.length+ys.length≤140737488355328)
    (h:∀v' W,Owz W v' (xs++ys)→Off v.ownBlock.toList w W→Of v'.ownBlock v.ownBlock w.heap.size→wpList Tryz.prog ops Q l (a.put o.dst v') W):wpList Tryz.prog ops Q (o::l) a w:=by
  obtain⟨v',W,D,h1,h2,h3⟩:=Q6o w o.type hown hsl hlen;refine J6h hw (v:=v') (W:=W) ?_ (h v' W h1 h2 (Z2c h3));unfold AV;simp only[ho,resolve,invoke,builtin,Ah,Sem.run_pure,Result.andThen_ok,List.map_toArray,Ac,Ak,hs,hx,D]
theorem Z0k {ops:Array AF}{Q:AG→Act→AA→Prop}{w:AA}{r:List AF}{o:AF}{a:Act}{x:AW}{l:List UInt8}(hl:l.length≤140737488355328)(hw:Region.wanted o (yielded ops a.tmps)=true)(ho:o.op=.convert 9 45 x)(hx:a.eval x=Z9 l)
    (h:∀v W,Of v.ownBlock none w.heap.size→Off [] w W→Owz W v l→AC Tryz.prog ops Q r (a.put o.dst v) W):AC Tryz.prog ops Q (o::r) a w:=
  Z51 hl hw ho hx fun b c cs W h1 h2 h3 h4 h5 h6 h7=>h _ W (fun x hx D=>by have e:b=x:=Af hx;omega) h2 (Y2x h3 h4 h5 h6 h7)
end
end Go.Proofs.YtdjacgmmidbieaaGreatDoor

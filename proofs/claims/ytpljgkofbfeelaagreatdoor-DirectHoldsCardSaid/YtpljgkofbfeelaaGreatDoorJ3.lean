/- Contracts and plain laws for directHolds_holds. Conditions: the tables hold their numbers. -/
import Derived.Test.YtpljgkofbfeelaaGreatDoorGc
import Derived.Great.BuildSlice
open Go renaming World->AA,Value->AB,execOp->AQ,wpList->AR,Program->AC,Operand->AS,TypeId->AD,Oper->AT,Exit->AF,maxLen->Ab
open Go.Region renaming wanted->AU
open Go.Sem renaming run_bind->Ad
open _root_.List renaming length_append->Ai,length_cons->AV,mem_singleton->Ae,append_nil->Aj,append_assoc->Ak,length_nil->Al,map_cons->AX,flatten_cons->An,map_nil->Ag
open _root_.Nat renaming le_refl->AJ,zero_le->Ah,zero_add->AL,add_zero->Ao,mul_one->AO
open _root_.Option renaming some.inj->Aa
open Go.RowKit
set_option linter.unusedSimpArgs false
set_option linter.unusedVariables false
namespace Go.Proofs.YtpljgkofbfeelaaGreatDoor
section

inductive Tr where
  |z:Tr
  |q:Nat→Tr→Tr
  |e:Nat→Tr→Tr
  |b:Nat→Tr→Nat→Tr→Tr
  |c:Nat→Tr→Nat→Tr→Nat→Tr→Tr
  |vq:Nat→Tr→Tr
  |kq:Nat→Tr→Tr
def Tr.len:Tr→Nat
  | .z=>0
  | .q _ t=>t.len+1
  | .e _ t=>t.len+1
  | .b _ t _ u=>max t.len u.len+1
  | .c _ t _ u _ x=>max (max t.len u.len) x.len+1
  | .vq _ t=>t.len+1
  | .kq _ t=>t.len+1
def Tr.cut:Tr→Option Nat
  | .z=>none
  | .q _ t=>t.cut
  | .e _ t=>t.cut
  | .b _ t _ _=>t.cut
  | .c _ t _ _ _ _=>t.cut
  | .vq _ t=>t.cut
  | .kq i _=>some i
def need (md:Region.Mode)(ops:Array AT):Nat→Nat→Nat→Bool
  |0,_,_=>false
  |f+1,c,i=>match ops[c]? with
    |none=>false
    |some o=>o.after.any fun e=>Region.binds md e &&(e.on==i ||need md ops f e.on i)
def V37 (md:Region.Mode)(ops:Array AT)(L:Array Bool)(i:Nat):Option Nat→Bool
  |none=>true
  |some c=>need md ops ops.size c i && !(L.getD c false)
def Tr.ok (md:Region.Mode)(ops:Array AT):Tr→Array Bool→Bool
  | .z,L=>(Region.ready md ops L).isEmpty
  | .q i t,L=>(Region.ready md ops L).contains i && Region.free md ops L i && t.ok md ops (L.setIfInBounds i true) && V37 md ops L i t.cut
  | .e i t,L=>decide (Region.ready md ops L=[i]) && t.ok md ops (L.setIfInBounds i true) && t.cut !=some i
  | .b i t j u,L=>decide (Region.ready md ops L=[i,j]) && t.ok md ops (L.setIfInBounds i true) && u.ok md ops (L.setIfInBounds j true) &&(decide (u.cut=t.cut) &&(t.cut !=some i && t.cut !=some j))
  | .c i t j u k x,L=>decide (Region.ready md ops L=[i,j,k]) && t.ok md ops (L.setIfInBounds i true) && u.ok md ops (L.setIfInBounds j true) && x.ok md ops (L.setIfInBounds k true) &&(decide (u.cut=t.cut) && decide (x.cut=t.cut) &&(t.cut !=some i && t.cut !=some j && t.cut !=some k))
  | .vq i t,L=>(Region.ready md ops L).contains i && Region.free md ops L i && t.ok md ops (L.setIfInBounds i true) && t.cut !=some i
  | .kq i t,L=>decide (Region.ready md ops L=[i]) && t.ok md ops (L.setIfInBounds i true)
def Nml (K:Act→AA→Prop):AF→Act→AA→Prop
  | .normal,a,w=>K a w
  |_,_,_=>False
theorem Z5a {K:Act→AA→Prop}(h:LetsOut (Nml K)):False:=by
  obtain⟨a,w,h⟩:=h;exact h
theorem Y61 {Q:AF→Act→AA→Prop}:∀(e:AF) (a:Act) (w:AA),Nml (Q .normal) e a w→Q e a w:=fun e a w h=>by
  cases e<;>first|exact h|exact(h:False).elim
section
variable {P : AC} {ops : Array AT} {md : Region.Mode}
def Z9 (P:AC)(ops:Array AT)(K:Act→AA→Prop):Tr→(AA→Prop)→Act→AA→Prop
  | .z,_,a,w=>K a w
  | .q i t,S,a,w=> ∃o,ops.toList[i]?=some o∧∃v,YieldsIf P ops S o v a∧Z9 P ops K t S (a.put o.dst v) w
  | .e i t,S,a,w=> ∃o,ops.toList[i]?=some o∧AR P ops (Nml fun a' w' => ∃S' :AA→Prop,(∀W,S' W→S W)∧S' w' ∧Z9 P ops K t S' a' w') [o] a w
  | .b i t j u,S,a,w=>(∃o,ops.toList[i]?=some o∧AR P ops (Nml fun a' w' => ∃S' :AA→Prop,(∀W,S' W→S W)∧S' w' ∧Z9 P ops K t S' a' w') [o] a w)∧
      (∃o,ops.toList[j]?=some o∧AR P ops (Nml fun a' w' => ∃S' :AA→Prop,(∀W,S' W→S W)∧S' w' ∧Z9 P ops K u S' a' w') [o] a w)
  | .c i t j u k x,S,a,w=>(∃o,ops.toList[i]?=some o∧AR P ops (Nml fun a' w' => ∃S' :AA→Prop,(∀W,S' W→S W)∧S' w' ∧Z9 P ops K t S' a' w') [o] a w)∧(∃o,ops.toList[j]?=some o∧AR P ops (Nml fun a' w' => ∃S' :AA→Prop,(∀W,S' W→S W)∧S' w' ∧Z9 P ops K u S' a' w') [o] a w)∧(∃o,ops.toList[k]?=some o∧AR P ops (Nml fun a' w' => ∃S' :AA→Prop,(∀W,S' W→S W)∧S' w' ∧Z9 P ops K x S' a' w') [o] a w)
  | .vq i t,S,a,w=> ∃o,ops.toList[i]?=some o∧∃v,YieldsIf P ops (fun _=>True) o v a∧Z9 P ops K t S (a.put o.dst v) w
  | .kq i t,S,a,w=> ∃o,ops.toList[i]?=some o∧AR P ops (Nml fun a' w' => ∃S' :AA→Prop,S' w' ∧Z9 P ops K t S' a' w') [o] a w
theorem J2q {i:Nat}{o:AT}{K K' :Act→AA→Prop}{a:Act}{w:AA}(ho:ops[i]?=some o)(h:AR P ops (Nml K) [o] a w)(hm:∀a w,K a w→K' a w){Q:AF→Act→AA→Prop}:
    wpOp P ops Q i K' a w:=by
  unfold wpOp;simp only[ho];unfold AR at h
  split
  · rename_i hw
    rw[if_pos hw] at h;rcases h with h|⟨_,h⟩
    · refine .inl ?_
      unfold AT.wp at*;generalize (AQ a.eval o).run P w=r at*;cases r with
      |ok n w' =>
        cases n<;>simp only[AT.upon] at h⊢
        case value u=>exact hm _ _ h
        case skip=>exact hm _ _ h
        case defer d=>exact hm _ _ h
        case enter f args=>
          refine Calls.mono h fun e D he=> ?_;cases e with
          |returned u=>exact hm _ _ he
          |panicked c=>exact(he:False).elim
          |outgrown=>exact(Z5a he).elim
        case row row args=>exact Rows.mono h fun u D he=>hm _ _ he
      |halt x w' =>
        cases x<;>simp only[AT.upon] at h⊢
        case panic u=>exact(h:False).elim
    exact(Z5a h).elim
  rename_i hw;rw[if_neg hw] at h;exact hm _ _ h
def Zc (c:Option Nat)(L:Array Bool)(S:AA→Prop)(w:AA):Prop:=match c with
  |none=>S w
  |some c=>L.getD c false=false→S w
def J2r (P:AC)(md:Region.Mode)(ops:Array AT)(Q:AF→Act→AA→Prop)(c:Option Nat)(S:AA→Prop):Nat→Array Bool→Act→AA→Prop
  |0,L,a,w=>Region.ready md ops L=[]∧Q .normal a w
  |f+1,L,a,w=>(Region.ready md ops L=[]→Q .normal a w)∧
    ∀i∈Region.ready md ops L,wpOp P ops Q i (fun a' w' =>Zc c (L.setIfInBounds i true) S w' ∧J2r P md ops Q c S f (L.setIfInBounds i true) a' w') a w
def ClL (md:Region.Mode)(ops:Array AT)(L:Array Bool):Prop:=∀j o,L.getD j false=true→ops[j]?=some o→∀e∈o.after,Region.binds md e=true→L.getD e.on false=true
theorem J4f {L:Array Bool}{j:Nat}(h:ClL md ops L)(hj:j∈Region.ready md ops L):ClL md ops (L.setIfInBounds j true):=fun i o hi ho e he hb=>by
  by_cases G:j=i
  · subst G
    obtain⟨_,o',D,J⟩:=mem_ready.1 hj;rw[ho] at D;injection D with D
    subst D;exact getD_set_true (J e he hb)
  · rw[getD_set_ne false G] at hi
    exact getD_set_true (h i o hi ho e he hb)
theorem J89 {L:Array Bool}(h:ClL md ops L){i:Nat}:∀(f c:Nat),need md ops f c i=true→(c∈Region.ready md ops L∨L.getD c false=true)→L.getD i false=true
  |0,_,hn,_=>by cases hn
  |f+1,c,hn,hc=>by
    unfold need at hn;cases ho:ops[c]? with
    |none=>rw[ho] at hn;cases hn
    |some o=>
      rw[ho] at hn;obtain⟨e,he,hb⟩:=Array.any_eq_true'.1 hn;rw[Bool.and_eq_true,Bool.or_eq_true,beq_iff_eq] at hb
      have hl:L.getD e.on false=true:=by
        rcases hc with hc|hc
        · obtain⟨_,o',D,J⟩:=mem_ready.1 hc
          rw[ho] at D;injection D with D
          subst D;exact J e he hb.1
        · exact h c o hc ho e he hb.1
      rcases hb.2 with G|G
      · rw[←G];exact hl
      exact J89 h f e.on G (.inr hl)
theorem Q7u {L:Array Bool}{i:Nat}(h:L.getD i true=false):L.getD i false=false:=by
  rcases Nat.lt_or_ge i L.size with h' |h'
  · simp[h'] at h⊢;exact h
  simp[Array.getElem?_eq_none h'] at h
theorem Z2g {c:Option Nat}{L:Array Bool}{S:AA→Prop}{w:AA}{i:Nat}(hi:c≠some i):Zc c (L.setIfInBounds i true) S w↔Zc c L S w:=by
  cases c with
  |none=>exact Iff.rfl
  |some c=>
    show(_→_)↔(_→_);rw[getD_set_ne false (fun e=>hi (by rw[e]))]
theorem Q0x {Q:AF→Act→AA→Prop}{S S1:AA→Prop}{c:Option Nat}{i:Nat}{oi:AT}{v:AB}(hi:ops[i]?=some oi)(hsel:∀(j:Nat) (o:AT) cs b,ops[j]?=some o→o.op≠ .select cs b)
    (hQ:∀c a w,Q (.panic c) (a.put oi.dst v) w→Q (.panic c) a w) (hci:c≠some i) (hS1:∀L w,ClL md ops L→L.getD i true=false→Zc c L S w→S1 w):
    ∀(f:Nat)(L:Array Bool)(a:Act)(w:AA),ClL md ops L→
      (∀j oj,ops[j]?=some oj→j≠i→L.getD j true=false→(∀e∈oj.after,Region.binds md e=true→e.on≠i)→oi.apart ops oj=true)→
      i∈Region.ready md ops L→YieldsIf P ops S1 oi v a→Zc c L S w→
      J2r P md ops Q c S f (L.setIfInBounds i true) (a.put oi.dst v) w→J2r P md ops Q c S (f+1) L a w:=by
  intro f
  induction f with
  |zero=>
    intro L a w J _ hr hy hS H;have G:=(mem_ready.1 hr).1;refine⟨fun h=>(by rw[h] at hr;cases hr),fun j hj=> ?_⟩
    by_cases D:j=i
    · subst D;exact hy.wpOp hi (hS1 L w J G hS) ⟨(Z2g hci).2 hS,H⟩
    · have:=ready_mono hj D
      rw[H.1] at this;cases this
  |succ f ih=>
    intro L a w J M hr hy hS H;have G:=(mem_ready.1 hr).1;refine⟨fun h=>(by rw[h] at hr;cases hr),fun j hj=> ?_⟩
    by_cases D:j=i
    · subst D;exact hy.wpOp hi (hS1 L w J G hS) ⟨(Z2g hci).2 hS,H⟩
    · have h1:=H.2 j (ready_mono hj D)
      obtain⟨R,oj,N,V⟩:=mem_ready.1 hj
      have U:∀e∈oj.after,Region.binds md e=true→e.on≠i:=fun e he hb Z=>by
        have h1:=V e he hb;rw[Z,Q7u G] at h1;cases h1
      have h2:=wpOp_putIf N (M j oj N D R U) (fun cs b=>hsel i oi cs b hi) (fun cs b=>hsel j oj cs b N) hQ hy h1
      have hfree' :∀k ok,ops[k]?=some ok→k≠i→(L.setIfInBounds j true).getD k true=false→(∀e∈ok.after,Region.binds md e=true→e.on≠i)→oi.apart ops ok=true:=fun k ok hk X G Y=>by
        refine M k ok hk X ?_ Y
        by_cases T:j=k
        · subst T;exact R
        · rw[getD_set_ne true T] at G;exact G
      refine wpOp_mono (fun a' w' h3=> ?_) h2;have h5:=h3.2.1;rw[Array.setIfInBounds_comm _ _ (Ne.symm D)] at h5;have h4:Zc c (L.setIfInBounds j true) S w' :=(Z2g hci).1 h5;refine⟨h4,ih (L.setIfInBounds j true) a' w' (J4f J hj) hfree' (ready_mono hr (Ne.symm D)) h3.1 h4 ?_⟩;rw[Array.setIfInBounds_comm _ _ D];exact h3.2.2
theorem J7e {Q:AF→Act→AA→Prop}{S:AA→Prop}{c:Option Nat}{rs:List Nat}{f:Nat}{L:Array Bool}{a:Act}{w:AA}(hr:Region.ready md ops L=rs)(hne:rs≠[])
    (h:∀i∈rs,wpOp P ops Q i (fun a' w' =>Zc c (L.setIfInBounds i true) S w' ∧J2r P md ops Q c S f (L.setIfInBounds i true) a' w') a w):J2r P md ops Q c S (f+1) L a w:=
  ⟨fun h0=>absurd (hr▸h0) hne,hr▸h⟩
theorem Q9x {Q:AF→Act→AA→Prop}{S:AA→Prop}{c:Option Nat}{L:Array Bool}{a:Act}{w:AA}(hr:Region.ready md ops L=[])(h:Q .normal a w):∀f,J2r P md ops Q c S f L a w
  |0=>⟨hr,h⟩
  |_+1=>⟨fun _=>h,by rw[hr];simp⟩
theorem Q01 {Q:AF→Act→AA→Prop}{S:AA→Prop}{c:Option Nat}:∀(f:Nat) (L:Array Bool) (a:Act) (w:AA),J2r P md ops Q c S f L a w→wpAny P md ops Q f L a w
  |0,_,_,_,h=>h
  |f+1,_,_,_,h=>⟨h.1,fun i hi=>wpOp_mono (fun a' w' h' =>Q01 f _ a' w' h'.2) (h.2 i hi)⟩
theorem Q4m {Q:AF→Act→AA→Prop}{S:AA→Prop}{c:Nat}:∀(f:Nat) (L:Array Bool) (a:Act) (w:AA),L.getD c false=true→wpAny P md ops Q f L a w→J2r P md ops Q (some c) S f L a w
  |0,_,_,_,_,h=>h
  |f+1,L,_,_,hc,h=>⟨h.1,fun i hi=>wpOp_mono (fun a' w' h' =>⟨fun h0=>absurd h0 (by rw[getD_set_true hc];decide),Q4m f _ a' w' (getD_set_true hc) h'⟩) (h.2 i hi)⟩
theorem J1w {Q:AF→Act→AA→Prop}{S S' :AA→Prop}{c:Option Nat}(hS:∀W,S' W→S W):∀(f:Nat) (L:Array Bool) (a:Act) (w:AA),J2r P md ops Q c S' f L a w→J2r P md ops Q c S f L a w
  |0,_,_,_,h=>h
  |f+1,_,_,_,h=>⟨h.1,fun i hi=>wpOp_mono (fun a' w' h' =>⟨by cases c with
    |none=>exact hS _ h'.1
    |some c=>exact fun h0=>hS _ (h'.1 h0),J1w hS f _ a' w' h'.2⟩) (h.2 i hi)⟩
theorem Q2m {c:Option Nat}{L:Array Bool}{S:AA→Prop}{w:AA}(h:S w):Zc c L S w:=by
  cases c with
  |none=>exact h
  |some c=>exact fun _=>h
theorem J1x {Q:AF→Act→AA→Prop}(hs:Region.noSelect ops=true)(hQ:∀c a d v w,Q (.panic c) (a.put d v) w→Q (.panic c) a w):
    ∀(t:Tr)(S:AA→Prop)(f:Nat)(L:Array Bool)(a:Act)(w:AA),t.ok md ops L=true→t.len≤f→ClL md ops L→S w→Z9 P ops (Q .normal) t S a w→J2r P md ops Q t.cut S f L a w
  | .z,S,f,L,a,w,hk,_,_,_,h=>Q9x (by simpa[Tr.ok] using hk) h f
  | .q i t,S,0,L,a,w,_,hl,_,_,_=>by simp[Tr.len] at hl
  | .q i t,S,f+1,L,a,w,hk,hl,hcl,hS,h=>by
    simp only[Tr.ok,Bool.and_eq_true] at hk;obtain⟨o,ho,v,hy,h⟩:=h;have hr:i∈Region.ready md ops L:=by simpa using hk.1.1.1
    have T:=(mem_ready.1 hr).1;show J2r P md ops Q t.cut S (f+1) L a w;have G:ops[i]?=some o:=by simpa using ho
    have hc:=hk.2
    have X:t.cut≠some i:=fun e=>by
      rw[e] at hc;simp only[V37,Bool.and_eq_true] at hc;have:=J89 hcl _ _ hc.1 (.inl hr);rw[Q7u T] at this;cases this
    refine Q0x (S1:=S) G (Region.noSelect_spec hs) (fun c a w h=>hQ c a _ _ w h) X (fun L' w' N R hz=> ?_) f L a w hcl (Region.free_spec G hk.1.1.2) hr hy (Q2m hS) (J1x hs hQ t S f _ _ w hk.1.2 (by simp[Tr.len] at hl;omega) (J4f hcl hr) hS h);cases hcc:t.cut with
    |none=>rw[hcc] at hz;exact hz
    |some c=>
      rw[hcc] at hz hc;simp only[V37,Bool.and_eq_true] at hc;refine hz ?_;cases hg:L'.getD c false with
      |false=>rfl
      |true=>
        have:=J89 N _ _ hc.1 (.inr hg);rw[Q7u R] at this;cases this
  | .vq i t,S,0,L,a,w,_,hl,_,_,_=>by simp[Tr.len] at hl
  | .vq i t,S,f+1,L,a,w,hk,hl,hcl,hS,h=>by
    simp only[Tr.ok,Bool.and_eq_true,bne_iff_ne] at hk;obtain⟨o,ho,v,hy,h⟩:=h;have hr:i∈Region.ready md ops L:=by simpa using hk.1.1.1
    have G:ops[i]?=some o:=by simpa using ho
    show J2r P md ops Q t.cut S (f+1) L a w;exact Q0x (S1:=fun _=>True) G (Region.noSelect_spec hs) (fun c a w h=>hQ c a _ _ w h) hk.2 (fun _ _ _ _ _=>trivial) f L a w hcl (Region.free_spec G hk.1.1.2) hr hy (Q2m hS) (J1x hs hQ t S f _ _ w hk.1.2 (by simp[Tr.len] at hl;omega) (J4f hcl hr) hS h)
  | .kq i t,S,0,L,a,w,_,hl,_,_,_=>by simp[Tr.len] at hl
  | .kq i t,S,f+1,L,a,w,hk,hl,hcl,hS,h=>by
    simp only[Tr.ok,Bool.and_eq_true,decide_eq_true_eq] at hk;obtain⟨o,ho,h⟩:=h;have hr:i∈Region.ready md ops L:=by rw[hk.1];simp
    have Z:i<L.size:=by
      have h0:=(mem_ready.1 hr).1;rcases Nat.lt_or_ge i L.size with h' |h'
      · exact h'
      · simp[Array.getElem?_eq_none h'] at h0
    have M:(L.setIfInBounds i true).getD i false=true:=by simp[Z]
    show J2r P md ops Q (some i) S (f+1) L a w;refine J7e hk.1 (by simp) fun k D=> ?_;rw[Ae] at D;subst D;exact J2q (by simpa using ho) h fun a' w' ⟨S',h1,h2⟩=>⟨fun h0=>absurd h0 (by rw[M];decide),Q4m f _ a' w' M (Q01 _ _ _ _ (J1x hs hQ t S' f _ _ w' hk.2 (by simp[Tr.len] at hl;omega) (J4f hcl hr) h1 h2))⟩
  | .e i t,S,0,L,a,w,_,hl,_,_,_=>by simp[Tr.len] at hl
  | .e i t,S,f+1,L,a,w,hk,hl,hcl,hS,h=>by
    simp only[Tr.ok,Bool.and_eq_true,decide_eq_true_eq] at hk;obtain⟨o,ho,h⟩:=h;show J2r P md ops Q t.cut S (f+1) L a w;refine J7e hk.1.1 (by simp) fun k D=> ?_;have hr:k∈Region.ready md ops L:=by rw[hk.1.1];exact D
    rw[Ae] at D;subst D;exact J2q (by simpa using ho) h fun a' w' ⟨S',h1,h2,h3⟩=>⟨Q2m (h1 _ h2),J1w h1 _ _ _ _ (J1x hs hQ t S' f _ _ w' hk.1.2 (by simp[Tr.len] at hl;omega) (J4f hcl hr) h2 h3)⟩
  | .b i t j u,S,0,L,a,w,_,hl,_,_,_=>by simp[Tr.len] at hl
  | .b i t j u,S,f+1,L,a,w,hk,hl,hcl,hS,h=>by
    simp only[Tr.ok,Bool.and_eq_true,decide_eq_true_eq] at hk;obtain⟨⟨o,ho,h⟩,⟨o2,J,h2⟩⟩:=h;show J2r P md ops Q t.cut S (f+1) L a w;refine J7e hk.1.1.1 (by simp) fun k D=> ?_;have hr:k∈Region.ready md ops L:=by rw[hk.1.1.1];exact D
    have U:k=i∨k=j:=by simpa using D
    rcases U with e|e
    · subst e
      exact J2q (by simpa using ho) h fun a' w' ⟨S',h1,h2,h3⟩=>⟨Q2m (h1 _ h2),J1w h1 _ _ _ _ (J1x hs hQ t S' f _ _ w' hk.1.1.2 (by simp[Tr.len] at hl;omega) (J4f hcl hr) h2 h3)⟩
    · subst e
      exact J2q (by simpa using J) h2 fun a' w' ⟨S',h1,h2,h3⟩=>⟨Q2m (h1 _ h2),J1w h1 _ _ _ _ (by rw[←hk.2.1];exact J1x hs hQ u S' f _ _ w' hk.1.2 (by simp[Tr.len] at hl;omega) (J4f hcl hr) h2 h3)⟩
  | .c i t j u k x,S,0,L,a,w,_,hl,_,_,_=>by simp[Tr.len] at hl
  | .c i t j u k x,S,f+1,L,a,w,hk,hl,hcl,hS,h=>by
    simp only[Tr.ok,Bool.and_eq_true,decide_eq_true_eq] at hk;simp only[Tr.len] at hl;obtain⟨⟨o,ho,h⟩,⟨o2,J,h2⟩,⟨o3,V,h3⟩⟩:=h;show J2r P md ops Q t.cut S (f+1) L a w;refine J7e hk.1.1.1.1 (by simp) fun m hm=> ?_;have hr:m∈Region.ready md ops L:=by rw[hk.1.1.1.1];exact hm
    have Y:m=i∨m=j∨m=k:=by simpa using hm
    rcases Y with e|e|e
    · subst e
      exact J2q (by simpa using ho) h fun a' w' ⟨S',h1,h2,h3⟩=>⟨Q2m (h1 _ h2),J1w h1 _ _ _ _ (J1x hs hQ t S' f _ _ w' hk.1.1.1.2 (by omega) (J4f hcl hr) h2 h3)⟩
    · subst e
      exact J2q (by simpa using J) h2 fun a' w' ⟨S',h1,h2,h3⟩=>⟨Q2m (h1 _ h2),J1w h1 _ _ _ _ (by rw[←hk.2.1.1];exact J1x hs hQ u S' f _ _ w' hk.1.1.2 (by omega) (J4f hcl hr) h2 h3)⟩
    · subst e
      exact J2q (by simpa using V) h3 fun a' w' ⟨S',h1,h2,h3⟩=>⟨Q2m (h1 _ h2),J1w h1 _ _ _ _ (by rw[←hk.2.1.2];exact J1x hs hQ x S' f _ _ w' hk.1.2 (by omega) (J4f hcl hr) h2 h3)⟩
theorem V84:ClL md ops (Array.replicate ops.size false):=fun j o hj=>by
  simp[Array.getElem?_replicate] at hj
  split at hj<;>simp at hj
theorem Y62 {K:Act→AA→Prop}:∀c (a:Act) d v w,Nml K (.panic c) (a.put d v) w→Nml K (.panic c) a w:=fun _ _ _ _ _ h=>h
theorem Q7v {id:Nat}{a:Act}{w:AA}{Q:AF→Act→AA→Prop}(t:Tr)(S:AA→Prop)(hm:P.follows .mixedOrders=true)
    (hB:(Region.noSelect ops && decide (t.len≤ops.size) && t.ok .any ops (Array.replicate ops.size false))=true)
    (h:∀W,Off [] w W→S W∧Z9 P ops (Q .normal) t S a W):(Code.region id ops true).wp P Q a w:=by
  simp only[Bool.and_eq_true,decide_eq_true_eq] at hB;refine Code.wp_mono Y61 (wp_region_any hm ?_);obtain⟨h1,h2⟩:=h {w with drawn:=w.drawn+1} (J1t (Below.refl _ _).drew);exact Q01 _ _ _ _ (J1x (Q:=Nml (Q .normal)) hB.1.1 Y62 t S _ _ _ _ hB.2 hB.1.2 V84 h1 h2)
section
variable {K : Act → AA → Prop} {t u : Tr} {S : AA → Prop} {a : Act} {w : AA} {o : AT} {i : Nat}
theorem V85 {v:AB}(ho:ops.toList[i]?=some o)(hw:AU o (yielded ops a.tmps)=true)(hv:∀W,S W→(AQ a.eval o).run P W=.ok (.value v) W)(h:Z9 P ops K t S (a.put o.dst v) w):Z9 P ops K (.q i t) S a w:=
  ⟨o,ho,v,.inl ⟨hw,hv⟩,h⟩
theorem Y19 (ho:ops.toList[i]?=some o)(hw:AU o (yielded ops a.tmps)=false)(h:Z9 P ops K t S (a.put o.dst undef) w):Z9 P ops K (.q i t) S a w:=
  ⟨o,ho,undef,.inr ⟨hw,rfl⟩,h⟩
theorem V86 (ho:ops.toList[i]?=some o)(h:AR P ops (Nml fun a' w' => ∃S' :AA→Prop,(∀W,S' W→S W)∧S' w' ∧Z9 P ops K t S' a' w') [o] a w):Z9 P ops K (.e i t) S a w:=⟨o,ho,h⟩
theorem V87 {j:Nat}{o2:AT}(ho:ops.toList[i]?=some o)(ho2:ops.toList[j]?=some o2)(h:AR P ops (Nml fun a' w' => ∃S' :AA→Prop,(∀W,S' W→S W)∧S' w' ∧Z9 P ops K t S' a' w') [o] a w)
    (h2:AR P ops (Nml fun a' w' => ∃S' :AA→Prop,(∀W,S' W→S W)∧S' w' ∧Z9 P ops K u S' a' w') [o2] a w):Z9 P ops K (.b i t j u) S a w:=⟨⟨o,ho,h⟩,⟨o2,ho2,h2⟩⟩
theorem V88 {v:AB}(ho:ops.toList[i]?=some o)(hw:AU o (yielded ops a.tmps)=true)(hv:∀W,(AQ a.eval o).run P W=.ok (.value v) W)(h:Z9 P ops K t S (a.put o.dst v) w):Z9 P ops K (.vq i t) S a w:=
  ⟨o,ho,v,.inl ⟨hw,fun W _=>hv W⟩,h⟩
theorem V89 (ho:ops.toList[i]?=some o)(h:AR P ops (Nml fun a' w' => ∃S' :AA→Prop,S' w' ∧Z9 P ops K t S' a' w') [o] a w):Z9 P ops K (.kq i t) S a w:=⟨o,ho,h⟩
theorem V8a (S' :AA→Prop)(h1:∀W,S' W→S W)(h2:S' w)(h:Z9 P ops K t S' a w):AR P ops (Nml fun a' w' => ∃S' :AA→Prop,(∀W,S' W→S W)∧S' w' ∧Z9 P ops K t S' a' w') [] a w:=⟨S',h1,h2,h⟩
end
/-! ### Loads -/
theorem Q6 {a:Act}{W:AA}{o:AT}{ad:Addr}{v:AB}{ty:AD}{x:AS}(ho:o.op=.load ty x)(hx:a.eval x=.pointer (some ad))(hc:W.cell? ad=some v)
    (hk:(P.underlying ty).map TypeDesc.isRow=some false):(AQ a.eval o).run P W=.ok (.value v) W:=by
  cases hu:P.underlying ty with
  |none=>simp[hu] at hk
  |some d=>
    have hd:d.isRow=false:=by simpa[hu] using hk
    unfold AQ;simp only[ho,hx];cases d<;>simp_all [Instr.loadAt,Instr.sureAddr,Ad,Sem.run_pure,Result.andThen_ok,run_underlying hu,TypeDesc.isRow]
    all_goals simp[loadVar,isAgg,Ad,Sem.run_pure,Result.andThen_ok,run_underlying hu,TypeDesc.isRow,hc]
theorem J0s {a:Act}{W:AA}{o:AT}{b j:Nat}{vs:List AB}{ty:AD}{x:AS}(ho:o.op=.load ty x)(hx:a.eval x=.pointer (some ⟨b,j,none⟩))(hc:∀i v,vs[i]?=some v→W.cell? ⟨b,j+i,none⟩=some v)
    (hk:(P.underlying ty).map TypeDesc.isRow=some true) (hi:(P.info? ty).map (·.size)=some vs.length):(AQ a.eval o).run P W=.ok (.value (.agg vs.toArray)) W:=by
  cases hu:P.underlying ty with
  |none=>simp[hu] at hk
  |some d=>
    have hd:d.isRow=true:=by simpa[hu] using hk
    have:=run_loadAt_mid (P:=P) W b j ty vs d hc hu (by cases d<;>simp_all [TypeDesc.isRow]) hi;simp[AQ,ho,hx,Ad,this]
theorem Q9y {a:Act}{W:AA}{o:AT}{b:Nat}{cs:Array AB}{t ty:AD}{x:AS}(ho:o.op=.load ty x)(hx:a.eval x=.pointer (some ⟨b,0,none⟩))(hB:Blk W b cs t)
    (hk:(P.underlying ty).map TypeDesc.isRow=some true) (hi:(P.info? ty).map (·.size)=some cs.size):(AQ a.eval o).run P W=.ok (.value (.agg cs)) W:=
  J0s (vs:=cs.toList) ho hx (fun i v hv=>by rw[J3 hB,AL];simpa using hv) hk (by simpa using hi)
end
end

section
section
variable {w W : AA} {o : AT} {a : Act} {x y : AS} {v u : AB} {l : List UInt8}
theorem J01 (h:Sl W v l)(ho:o.op=.convert 22 9 x)(hx:a.eval x=v):(AQ a.eval o).run Tryz.prog W=.ok (.value (V3 l)) W:=by
  simp[AQ,ho,hx,Ad,Y5z h]
theorem Q8 (hs:Sl w v l)(ho:o.op=.call {callee:=.builtin .len,args:= #[x],argTypes:= #[22]})(hx:a.eval x=v):(execOp a.eval o).run Tryz.prog W=.ok (.value (.int .i64 (l.length:Int))) W:=by
  obtain⟨A,c,rfl,_⟩:=hs;unfold AQ;simp only[ho,resolve,invoke,builtin,Ad,Sem.run_pure,Result.andThen_ok,List.map_toArray,AX,Ag,hx];simp[Builtin.len_,run_underlying Tryz.underlying22,goInt,Ad]
theorem Z2c {t:AD}{l m:List UInt8}{b:Bool}(hb:decide (l=m)=b)(ho:o.op=.binOp .eql 9 x y t)(hx:a.eval x=V3 l)(hy:a.eval y=V3 m):(AQ a.eval o).run Tryz.prog W=.ok (.value (.bool b)) W:=hb▸Z7h ho hx hy
end
end

section
def Row (t:AD)(k:Nat)(w:AA)(v:AB)(es:List (List AB)):Prop:=w.ownsRow 0 t k v es.length es.flatten∧∀e∈es,e.length=k
section
variable {t : AD} {k : Nat} {w : AA} {v : AB} {es : List (List AB)}
theorem Row.off {F:List Nat}{w' :AA}(h:Row t k w v es)(q:Off F w w')(hF:∀b∈F,v.ownBlock≠some b):Row t k w' v es:=by
  refine⟨⟨h.1.1,h.1.2.imp id ?_⟩,h.2⟩;rintro⟨g,G,D,rfl,hb,hh,r⟩;exact⟨g,G,D,rfl,hb,by rw[q.block g (lt_of_block hh) (fun hx=>hF g hx rfl)];exact hh,r⟩
theorem Row.lt (h:Row t k w v es):∀g,v.ownBlock=some g→g<w.heap.size:=by
  intro g hg;rcases h.1.2 with⟨rfl,_⟩|⟨g',G,D,rfl,_,hh,_⟩
  · cases hg
  obtain rfl:g' =g:=Aa hg;exact lt_of_block hh
theorem Z4b (t:AD)(k:Nat)(w:AA):Row t k w (.slice none 0 0) []:=⟨⟨by simp,.inl ⟨rfl,rfl⟩⟩,by simp⟩
theorem Row.len (h:Row t k w v es):∃A c,v=.slice A es.length c∧es.length≤c:=by
  rcases h.1.2 with⟨rfl,hn⟩|⟨g,G,D,rfl,_,hh,hc,_⟩
  · exact⟨none,0,by rw[hn],by omega⟩
  exact⟨_,_,rfl,hc⟩
theorem Row.cells (h:Row t k w v es):v.cells= #[v]∧v.oneCell' =true:=by
  obtain⟨A,c,rfl,_⟩:=h.len;exact⟨rfl,rfl⟩
theorem Z5b {k:Nat}:∀(es:List (List AB)) (j i:Nat) (e:List AB),(∀e∈es,e.length=k)→es[j]?=some e→i<k→es.flatten[j*k+i]?=e[i]?
  |[],_,_,_,_,h,_=>by simp at h
  |x::es,0,i,e,hl,h,hi=>by
    have hx:=hl x (by simp);have:x=e:=by simpa using h
    subst this;rw[An,Nat.zero_mul,AL,List.getElem?_append_left (by omega)]
  |x::es,j+1,i,e,hl,h,hi=>by
    have hx:=hl x (by simp);have:=Z5b es j i e (fun e he=>hl e (by simp[he])) (by simpa using h) hi;rw[An,List.getElem?_append_right (by rw[hx,Nat.add_mul];omega),hx,show(j+1)*k+i-k=j*k+i by rw[Nat.add_mul];omega];exact this
theorem Row.at (h:Row t k w v es){j:Nat}{e:List AB}(hj:es[j]?=some e):∃g c,v=.slice (some ⟨g,0,none⟩) es.length c∧∀i x,e[i]?=some x→w.cell? ⟨g,j*k+i,none⟩=some x:=by
  have M:=(List.getElem?_eq_some_iff.1 hj).1;rcases h.1.2 with⟨rfl,hn⟩|⟨g,J,G,rfl,_,hh,hc,hm,hs,ht⟩
  · omega
  refine⟨g,J,rfl,fun i x hx=> ?_⟩;have he:e.length=k:=h.2 e (List.mem_of_getElem? hj);have hi:i<k:=by have:=(List.getElem?_eq_some_iff.1 hx).1;omega
  have hf:=Z5b es j i e h.2 hj hi
  have D:j*k+i<es.length*k:=by
    have:(j+1)*k≤es.length*k:=Nat.mul_le_mul_right k M;rw[Nat.add_mul] at this;omega
  rw[cell_of_row w g _ G _ _ hh];rw[←ht,List.getElem?_take_of_lt D] at hf;rw[←hx,←hf];simp
theorem Y63 {g:Nat}{cs:Array AB}(h:Blk w g cs t)(hc:cs.toList=es.flatten)(hl:∀e∈es,e.length=k)(hm:es.length≤Ab):Row t k w (.slice (some ⟨g,0,none⟩) es.length es.length) es:=by
  have D:es.flatten.length=es.length*k:=by
    clear hc hm
    induction es with
    |nil=>simp
    |cons x r ih=>rw[An,Ai,hl x (by simp),ih (fun e he=>hl e (by simp[he])),AV,Nat.add_mul];omega
  have hs:cs.size=es.length*k:=by rw[←Array.length_toList,hc,D]
  exact⟨⟨D,.inr ⟨g,es.length,cs,rfl,Ah _,h,AJ _,hm,hs,by rw[hc,List.take_of_length_le (by omega)]⟩⟩,hl⟩
end
theorem vs0:∀v∈([]:List AB),v.cells= #[v]:=by simp
theorem vsc {x:AB}{r:List AB}(h:x.cells= #[x])(k:∀v∈r,v.cells= #[v]):∀v∈x::r,v.cells= #[v]:=by
  intro v hv;rcases List.mem_cons.1 hv with rfl|hv
  · exact h
  exact k v hv
theorem Z28 {x:AB}(h:x.oneCell' =true):(#[x]:Array AB).all (·.oneCell')=true:=by simp[h]
theorem Z2h {P:AC}{t:AD}{k b:Nat}(h:(P.info? t).map (fun i=>(i.zero.map (·.cells.size),i.size,i.bytes))=some (some k,k,b)):∃i z,P.info? t=some i∧i.zero=some z∧i.size=k∧i.bytes=b∧z.cells.size=k:=by
  cases hi:P.info? t with
  |none=>simp[hi] at h
  |some i=>
    simp only[hi,Option.map_some,Option.some.injEq,Prod.mk.injEq] at h;cases hz:i.zero with
    |none=>simp[hz] at h
    |some z=>exact⟨i,z,rfl,hz,h.2.1,h.2.2,by simpa[hz] using h.1⟩
section
variable {P : AC} {ops : Array AT} {Q : AF → Act → AA → Prop} {w : AA} {l : List AT} {o : AT} {a : Act} {tS t t2 : AD} {k bytes : Nat} {s x : AS} {v u : AB} {es : List (List AB)}
theorem Q9z {g c:Nat}{cs:Array Value}(hw:Region.wanted o (yielded ops a.tmps)=true)(ho:o.op=.call {callee:=.builtin .append,args:= #[s,x],argTypes:= #[tS,tS]})(hs:a.eval s=v)(hx:a.eval x=.slice (some ⟨g,0,none⟩) 1 c)
    (hown:Row t k w v es) (hB:Blk w g cs t2) (hk:cs.size=k) (h1:cs.all (·.oneCell')=true) (hk0:0<k) (ht:P.underlying tS=some (.slice t)) (hi:(P.info? t).map (fun i=>(i.zero.map (·.cells.size),i.size,i.bytes))=some (some k,k,bytes))
    (hlen:(es.length+1)*bytes≤140737488355328) (hl2:es.length+1≤maxLen)
    (h:∀v' W,Row t k W v' (es++[cs.toList])→Off v.ownBlock.toList w W→Of v'.ownBlock v.ownBlock w.heap.size→wpList P ops Q l (a.put o.dst v') W):wpList P ops Q (o::l) a w:=by
  obtain⟨i,z,hi,hz,M,G,J⟩:=Z2h hi
  obtain⟨v',W,D,h2,h3,h4,h5⟩:=run_append_own_at (P:=P) w 0 tS o.type t i z k bytes ht hi hz M G J hk0 v es.length es.flatten hown.1 ⟨g,0,none⟩ 1 c cs.toList (by simp[hk])
    (fun j u hu=>by rw[Addr.add_mid,J3 hB,AL];simpa using hu) (fun u hu=>Array.all_eq_true_iff_forall_mem.1 h1 u (by simpa using hu)) hl2 hlen (Ah _)
  refine J38 hw (v:=v') (W:=W) ?_ (h v' W ⟨?_,?_⟩ (J93 h3) (Z56 h5))
  · unfold AQ
    simp only[ho,resolve,invoke,builtin,Ad,Sem.run_pure,Result.andThen_ok,List.map_toArray,AX,Ag,hs,hx,D]
  · rw[Ai,List.flatten_append];simpa using h2
  intro e he;rcases List.mem_append.1 he with he|he
  · exact hown.2 e he
  rw[Ae.1 he];simpa using hk
theorem J1b {W:World}(hs:Row t k w v es)(ho:o.op=.call {callee:=.builtin .len,args:= #[x],argTypes:= #[tS]})(hx:a.eval x=v)(ht:P.underlying tS=some (.slice t)):(execOp a.eval o).run P W=.ok (.value (.int .i64 (es.length:Int))) W:=by
  obtain⟨A,c,rfl,_⟩:=hs.len;unfold AQ;simp only[ho,resolve,invoke,builtin,Ad,Sem.run_pure,Result.andThen_ok,List.map_toArray,AX,Ag,hx];simp[Builtin.len_,run_underlying ht,goInt,Ad]
theorem Z5c {W:AA}{y:AS}{kk:IntKind}{ad:Addr}{n c j:Nat}(hj:j<n)(ho:o.op=.indexAddr tS x y)(hx:a.eval x=.slice (some ad) n c)(hy:a.eval y=.int kk (j:Int))(ht:P.underlying tS=some (.slice t))(hi:(P.info? t).map (·.size)=some k):
    (AQ a.eval o).run P W=.ok (.value (.pointer (some (ad.add (j*k))))) W:=by
  cases hq:P.info? t with
  |none=>simp[hq] at hi
  |some i=>
    have hs:i.size=k:=by simpa[hq] using hi
    simp[AQ,ho,hx,hy,Instr.indexAt,asIntOf,run_underlying ht,Ad,sizeOf,typeInfo,hq,hs,hj]
theorem Y0 {e:AD}{len:Nat}{parts:Array (Nat×AS)}(vs:List AB)(ho:o.op=.buildSlice tS len parts)(hp:parts.toList.map (fun p=>(p.1,a.eval p.2))=(vs.zipIdx 0).map fun x=>(x.2,x.1))(hv:∀v∈vs,v.cells= #[v])
    (hu:P.underlying tS=some (.slice e)) (hsz:(P.info? e).map (·.size)=some 1) (hz:((P.info? e).bind (·.zero)).isSome=true) (hlen:len=vs.length) (hpos:0<len) (hsmall:len≤2^24):
    (AQ a.eval o).run P w=.ok (.value (.slice (some ⟨w.heap.size,0,none⟩) len len)) (w.alloc (.cells vs.toArray e)):=by
  cases hie:P.info? e with
  |none=>simp[hie] at hsz
  |some ie=>
    simp only[hie,Option.map_some,Option.some.injEq,Option.bind_some] at hsz hz;obtain⟨z,D⟩:=Option.isSome_iff_exists.1 hz;unfold AQ;simp only[ho,Ad];rw[run_buildSlice w tS e len _ vs.toArray ie z hu hie D (by rw[hsz];omega) (by rw[hsz];omega) (by rw[Array.toList_map,hsz];refine Eq.trans (congrArg (Instr.fill _ _) hp) ?_;exact Great.fill_flat _ _ hv (by simp[hlen]))];rfl
theorem J2i {e:AD}{parts:Array (Nat×AS)}{x0:AS}{cs:Array AB}(ho:o.op=.buildSlice tS 1 parts)(hp:parts.toList=[(0,x0)])(hx:a.eval x0=.agg cs)
    (hu:P.underlying tS=some (.slice e)) (hsz:(P.info? e).map (·.size)=some cs.size) (hz:(P.info? e).map (fun i=>i.zero.map (·.cells.size))=some (some cs.size)) (hpos:0<cs.size) (hsmall:cs.size≤2^24):
    (AQ a.eval o).run P w=.ok (.value (.slice (some ⟨w.heap.size,0,none⟩) 1 1)) (w.alloc (.cells cs e)):=by
  cases hie:P.info? e with
  |none=>simp[hie] at hsz
  |some ie=>
    simp only[hie,Option.map_some,Option.some.injEq] at hsz hz;cases hzz:ie.zero with
    |none=>simp[hzz] at hz
    |some z=>
      obtain⟨r,hr,J,hk⟩:=Great.fill_dense (s:=cs.size) hpos [.agg cs] 0 ((Array.range (1*cs.size)).map (z.cells[· % z.cells.size]!)) (fun v hv=>by rw[Ae.1 hv];rfl) (by simp)
      have G:r=cs:=by
        apply Array.ext_getElem?;intro k;rw[hk k];simp only[Nat.zero_mul,Ah,true_and,AV,Al,AL,Nat.one_mul]
        by_cases D:k<cs.size
        · rw[if_pos D,Nat.div_eq_of_lt D,Nat.mod_eq_of_lt D]
          rfl
        · rw[if_neg D,Array.getElem?_eq_none (by simpa using D),Array.getElem?_eq_none (by simpa using D)]
      subst G;unfold AQ;simp only[ho,Ad];rw[run_buildSlice w tS e 1 _ _ ie z hu hie hzz (by rw[hsz];omega) (by rw[hsz];omega) (by rw[Array.toList_map,hp,hsz];simp only[AX,Ag,hx];exact hr)];rfl
end
end

section
def Owz (w:AA)(v:AB)(l:List UInt8):Prop:=
  ∃(g cap:Nat)(cs:Array AB)(fz:Nat×Nat),v=.slice (some ⟨g,0,none⟩) l.length cap∧w.heap[g]?=some (.cells cs 5 fz)∧(fz.1=fz.2∨cs.size≤fz.1)∧l.length≤cap∧cap≤Ab∧cs.size=cap∧cs.toList.take l.length=bs8 l
theorem Owz.lt {w:AA}{v:AB}{l:List UInt8}(h:Owz w v l):∀g,v.ownBlock=some g→g<w.heap.size:=by
  intro x hx;obtain⟨g,D,cs,fz,rfl,hh,_⟩:=h;obtain rfl:g=x:=Aa hx;exact lt_of_block hh
theorem Owz.off {F:List Nat}{w w' :AA}{v:AB}{l:List UInt8}(h:Owz w v l)(k:Off F w w')(hF:∀b∈F,v.ownBlock≠some b):Owz w' v l:=by
  obtain⟨g,D,cs,fz,rfl,hh,r⟩:=h;exact⟨g,D,cs,fz,rfl,by rw[k.block g (lt_of_block hh) (fun hx=>hF g hx rfl)];exact hh,r⟩
theorem Owz.cells {w:AA}{g cap:Nat}{l:List UInt8}{cs:Array AB}{fz:Nat×Nat}(hh:w.heap[g]?=some (.cells cs 5 fz))(ht:cs.toList.take l.length=bs8 l):∀j u,(bs8 l)[j]?=some u→w.cell? ((⟨g,0,none⟩:Addr).add j)=some u:=fun j u hu=>by
  rw[Addr.add_mid,cell_of_row w g _ cs _ _ hh,AL];rw[←ht,List.getElem?_take] at hu
  split at hu
  · simpa using hu
  · cases hu
theorem Owz.sl {w:AA}{v:AB}{l:List UInt8}(h:Owz w v l):Sl w v l:=by
  obtain⟨g,cap,cs,fz,rfl,hh,hf,hc,hm,hs,ht⟩:=h;exact⟨some ⟨g,0,none⟩,cap,rfl,hc,hm,(fun h=>by cases h),fun j x hj=>⟨_,rfl,Owz.cells (cap:=cap) hh ht j _ (Q7r hj)⟩⟩
theorem Owz.len {w:AA}{v:AB}{l:List UInt8}(h:Owz w v l):∃A c,v=.slice A l.length c∧l.length≤c:=by
  obtain⟨g,D,cs,fz,rfl,_,_,hc,_⟩:=h;exact⟨_,_,rfl,hc⟩
theorem Y6d {w:AA}{g c:Nat}{l:List UInt8}{cs:Array AB}(h:Blz w g cs 5)(hc:l.length≤c)(hm:c≤Ab)(hs:cs.size=c)(hl:cs.toList.take l.length=bs8 l):Owz w (.slice (some ⟨g,0,none⟩) l.length c) l:=by
  obtain⟨fz,h1,h2⟩:=h;exact⟨g,c,cs,fz,rfl,h1,.inr h2,hc,hm,hs,hl⟩
theorem J6w {P:AC}(g o:Nat)(t:AD)(fz:Nat×Nat):∀(vs:List AB) (i:Nat) (cur:Array AB) (w:AA),w.heap[g]?=some (.cells cur t fz)→(fz.1=fz.2∨cur.size≤fz.1)→o+i+vs.length≤cur.size→(∀v∈vs,v.oneCell' =true)→
    (storeCells ⟨g,o,none⟩ vs i).run P w=.ok () (w.setRow g (cur.toList.take (o+i)++vs++cur.toList.drop (o+i+vs.length)).toArray)
  |[],i,cur,w,hg,_,_,_=>by
    simp only[storeCells,Aj,Al,Ao,List.take_append_drop,Array.toArray_toList];rw[setRow_self w g cur t fz hg];rfl
  |v::rest,i,cur,w,hg,hz,hl,h1=>by
    have hi:o+i<cur.size:=by simp at hl;omega
    have G:(⟨g,o,none⟩:Addr).add i=⟨g,o+i,none⟩:=by unfold Addr.add;split<;>simp_all
    have D:w.cell? ⟨g,o+i,none⟩=some cur[o+i]:=by simp[AA.cell?,hg,hi]
    have J:w.frozen? ⟨g,o+i,none⟩=false:=by simp[AA.frozen?,hg];omega
    have M:(store ((⟨g,o,none⟩:Addr).add i) v).run P w=.ok () (w.setRow g (cur.setIfInBounds (o+i) v)):=by
      rw[G,run_store P w _ v _ (h1 v (by simp)),D];simp[J,setCell_eq_setRow w g (o+i) cur t fz v hg]
    have ih:=J6w (P:=P) g o t fz rest (i+1) (cur.setIfInBounds (o+i) v) (w.setRow g (cur.setIfInBounds (o+i) v)) (setRow_heap w g cur _ t _ hg) (by simpa using hz) (by simp at hl⊢;omega) (fun x hx=>h1 x (by simp[hx]));simp only[storeCells,Ad,M,Result.andThen_ok,ih,setRow_setRow]
    congr 3
    have e:=list_seg_step cur.toList (o+i) v rest (by simp at hl⊢;omega)
    simpa[Array.toList_setIfInBounds,Nat.add_assoc] using e
theorem Q83 (w:AA)(ty:AD){v u:AB}{l m:List UInt8}(hown:Owz w v l)(hs:Sl w u m)(hlen:l.length+m.length≤140737488355328):
    ∃v' W,(Builtin.append_ #[22,22] ty #[v,u]).run Tryz.prog w=.ok v' W∧Owz W v' (l++m)∧Off v.ownBlock.toList w W∧(v'.ownBlock=v.ownBlock∨v'.ownBlock=some w.heap.size):=by
  obtain⟨i,hi,hz,S,V⟩:=info_parts J5p;have ht:=Tryz.underlying22;obtain⟨g,cap,cs,fz,rfl,hh,hf,hc,hm,N,R⟩:=hown;obtain⟨A,c,rfl,_,_,_,M⟩:=hs;rcases A with _|ad
  · have:m=[]:=by
      cases m with
      |nil=>rfl
      |cons x r=>obtain⟨ad,h,_⟩:=M 0 x rfl;cases h
    subst this;refine⟨.slice (some ⟨g,0,none⟩) l.length cap,w,?_,by rw[Aj];exact⟨g,cap,cs,fz,rfl,hh,hf,hc,hm,N,R⟩,Off.refl _ _,.inl rfl⟩;simp[Builtin.append_,run_underlying ht,sizeOf,typeInfo,hi,Builtin.lenOf,Builtin.firstCells,hc,storeCells]
  have J:∀j x,(bs8 m)[j]?=some x→w.cell? (ad.add j)=some x:=fun j x hx=>by
    simp only[bs8,List.getElem?_map,Option.map_eq_some_iff] at hx;obtain⟨y,hy,rfl⟩:=hx;obtain⟨α,h,Z⟩:=M j y hy;obtain rfl:=Aa h;exact Z
  by_cases D:l.length+m.length≤cap
  · have X:=run_firstCells_some (P:=Tryz.prog) w 1 m.length ad m.length c (bs8 m) (by rw[Q9,AO]) J
    have T:=J6w (P:=Tryz.prog) g (l.length*1) 5 fz (bs8 m) 0 cs w hh hf (by rw[Q9,N];omega) (J94 m);simp only[Ao,AO] at T;refine⟨.slice (some ⟨g,0,none⟩) (l.length+m.length) cap,w.setRow g (cs.toList.take l.length++bs8 m++cs.toList.drop (l.length+(bs8 m).length)).toArray,?_,?_,?_,.inl rfl⟩
    · simp[Builtin.append_,run_underlying ht,sizeOf,typeInfo,hi,S,Builtin.lenOf,D,X,Addr.add_lit,T]
    · have G:((cs.toList.take l.length++bs8 m++cs.toList.drop (l.length+(bs8 m).length)).toArray).size=cs.size:=by
        simp only[List.size_toArray,Ai,List.length_take,List.length_drop,Array.length_toList,Q9];omega
      refine⟨g,cap,_,fz,by rw[Ai],setRow_heap w g cs _ 5 fz hh,by rw[G];exact hf,by rw[Ai];exact D,hm,by rw[G];exact N,?_⟩;rw[R,←J49,←Q9 (l++m)];exact List.take_left
    exact⟨rfl,rfl,rfl,by simp,fun k hk hn=>setRow_other w g k _ (fun e=>hn (by simp[AB.ownBlock,e]))⟩
  have hr:=run_append_grow (P:=Tryz.prog) w 22 ty 5 i (.int .u8 0) ht hi hz ⟨g,0,none⟩ l.length cap (bs8 l) (by rw[Q9,S,AO]) (Owz.cells (cap:=cap) hh R) ad m.length c (bs8 m) (by rw[Q9,S,AO]) J (by omega) (by omega)
    (growslice_fits (by omega) (by rw[V];omega))
  have U:=grownCap_ge w (l.length+m.length) cap 5;have Y:grownCap w (l.length+m.length) cap 5≤Ab:=grownCap_le_maxLen w (l.length+m.length) cap 5 (by unfold Ab;omega);refine⟨_,_,hr,⟨w.heap.size,_,_,(0,0),by rw[Ai],heap_alloc_new w.drew _,.inl rfl,by rw[Ai];exact U,Y,?_,?_⟩,J1t ((Below.refl _ _).drew.alloc (AJ _) _) |>.mono (fun x hx=>by cases hx),.inr rfl⟩
  · simp only[Array.size_append,List.size_toArray,size_zeroCells,Q9,AB.cells]
    simp;omega
  simp only[Array.toList_append,Ak];rw[←Ak,←J49,←Q9 (l++m)];exact List.take_left
theorem Z00 {ops:Array Oper}{Q:Exit→Act→World→Prop}{w:World}{l:List Oper}{o:Oper}{a:Act}{s x:Operand}{v u:Value}{xs ys:List UInt8}(hw:Region.wanted o (yielded ops a.tmps)=true)
    (ho:o.op=.call {callee:=.builtin .append,args:= #[s,x],argTypes:= #[22,22]}) (hs:a.eval s=v) (hx:a.eval x=u) (hown:Owz w v xs) (hsl:Sl w u ys) (hlen:xs.length+ys.length≤140737488355328)
    (h:∀v' W,Owz W v' (xs++ys)→Off v.ownBlock.toList w W→Of v'.ownBlock v.ownBlock w.heap.size→wpList Tryz.prog ops Q l (a.put o.dst v') W):wpList Tryz.prog ops Q (o::l) a w:=by
  obtain⟨v',W,D,h1,h2,h3⟩:=Q83 w o.type hown hsl hlen;refine J38 hw (v:=v') (W:=W) ?_ (h v' W h1 h2 (Z56 h3));unfold AQ;simp only[ho,resolve,invoke,builtin,Ad,Sem.run_pure,Result.andThen_ok,List.map_toArray,AX,Ag,hs,hx,D]
theorem Z2i {ops:Array AT}{Q:AF→Act→AA→Prop}{w:AA}{r:List AT}{o:AT}{a:Act}{x:AS}{l:List UInt8}(hl:l.length≤140737488355328)(hw:AU o (yielded ops a.tmps)=true)(ho:o.op=.convert 9 22 x)(hx:a.eval x=V3 l)
    (h:∀v W,Of v.ownBlock none w.heap.size→Off [] w W→Owz W v l→AR Tryz.prog ops Q r (a.put o.dst v) W):AR Tryz.prog ops Q (o::r) a w:=
  Z7k hl hw ho hx fun b c cs W h1 h2 h3 h4 h5 h6 h7=>h _ W (fun x hx D=>by have e:b=x:=Aa hx;omega) h2 (Y6d h3 h4 h5 h6 h7)
end
end Go.Proofs.YtpljgkofbfeelaaGreatDoor

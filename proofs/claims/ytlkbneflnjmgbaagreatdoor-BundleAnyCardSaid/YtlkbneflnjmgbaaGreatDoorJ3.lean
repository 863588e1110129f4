/- Contracts and plain laws for bundleAny_holds. Conditions: the tables hold their numbers. -/
import Derived.Test.YtlkbneflnjmgbaaGreatDoorGc
import Derived.Great.BuildSlice
open Go.RowKit
set_option linter.unusedSimpArgs false
set_option linter.unusedVariables false
namespace Go.Proofs.YtlkbneflnjmgbaaGreatDoor
section

inductive Tr where
  |z:Tr
  |q:Nat→Tr→Tr
  |e:Nat→Tr→Tr
  |b:Nat→Tr→Nat→Tr→Tr
  |c:Nat→Tr→Nat→Tr→Nat→Tr→Tr
  |vq:Nat→Tr→Tr
  |kq:Nat→Tr→Tr
def Tr.len:Tr→Nat
  | .z=>0
  | .q _ t=>t.len+1
  | .e _ t=>t.len+1
  | .b _ t _ u=>max t.len u.len+1
  | .c _ t _ u _ x=>max (max t.len u.len) x.len+1
  | .vq _ t=>t.len+1
  | .kq _ t=>t.len+1
def Tr.cut:Tr→Option Nat
  | .z=>none
  | .q _ t=>t.cut
  | .e _ t=>t.cut
  | .b _ t _ _=>t.cut
  | .c _ t _ _ _ _=>t.cut
  | .vq _ t=>t.cut
  | .kq i _=>some i
def need (md:Region.Mode)(ops:Array Oper):Nat→Nat→Nat→Bool
  |0,_,_=>false
  |f+1,c,i=>match ops[c]? with
    |none=>false
    |some o=>o.after.any fun e=>Region.binds md e &&(e.on==i ||need md ops f e.on i)
def V3p (md:Region.Mode)(ops:Array Oper)(L:Array Bool)(i:Nat):Option Nat→Bool
  |none=>true
  |some c=>need md ops ops.size c i && !(L.getD c false)
def Tr.ok (md:Region.Mode)(ops:Array Oper):Tr→Array Bool→Bool
  | .z,L=>(Region.ready md ops L).isEmpty
  | .q i t,L=>(Region.ready md ops L).contains i && Region.free md ops L i && t.ok md ops (L.setIfInBounds i true) && V3p md ops L i t.cut
  | .e i t,L=>decide (Region.ready md ops L=[i]) && t.ok md ops (L.setIfInBounds i true) && t.cut !=some i
  | .b i t j u,L=>decide (Region.ready md ops L=[i,j]) && t.ok md ops (L.setIfInBounds i true) && u.ok md ops (L.setIfInBounds j true) &&(decide (u.cut=t.cut) &&(t.cut !=some i && t.cut !=some j))
  | .c i t j u k x,L=>decide (Region.ready md ops L=[i,j,k]) && t.ok md ops (L.setIfInBounds i true) && u.ok md ops (L.setIfInBounds j true) && x.ok md ops (L.setIfInBounds k true) &&(decide (u.cut=t.cut) && decide (x.cut=t.cut) &&(t.cut !=some i && t.cut !=some j && t.cut !=some k))
  | .vq i t,L=>(Region.ready md ops L).contains i && Region.free md ops L i && t.ok md ops (L.setIfInBounds i true) && t.cut !=some i
  | .kq i t,L=>decide (Region.ready md ops L=[i]) && t.ok md ops (L.setIfInBounds i true)
def Nml (K:Act→World→Prop):Exit→Act→World→Prop
  | .normal,a,w=>K a w
  |_,_,_=>False
theorem Z4x {K:Act→World→Prop}(h:LetsOut (Nml K)):False:=by
  obtain⟨a,w,h⟩:=h;exact h
theorem Y7b {Q:Exit→Act→World→Prop}:∀(e:Exit) (a:Act) (w:World),Nml (Q .normal) e a w→Q e a w:=fun e a w h=>by
  cases e<;>first|exact h|exact(h:False).elim
section
variable {P : Program} {ops : Array Oper} {md : Region.Mode}
def Z6 (P:Program)(ops:Array Oper)(K:Act→World→Prop):Tr→(World→Prop)→Act→World→Prop
  | .z,_,a,w=>K a w
  | .q i t,S,a,w=> ∃o,ops.toList[i]?=some o∧∃v,YieldsIf P ops S o v a∧Z6 P ops K t S (a.put o.dst v) w
  | .e i t,S,a,w=> ∃o,ops.toList[i]?=some o∧wpList P ops (Nml fun a' w' => ∃S' :World→Prop,(∀W,S' W→S W)∧S' w' ∧Z6 P ops K t S' a' w') [o] a w
  | .b i t j u,S,a,w=>(∃o,ops.toList[i]?=some o∧wpList P ops (Nml fun a' w' => ∃S' :World→Prop,(∀W,S' W→S W)∧S' w' ∧Z6 P ops K t S' a' w') [o] a w)∧
      (∃o,ops.toList[j]?=some o∧wpList P ops (Nml fun a' w' => ∃S' :World→Prop,(∀W,S' W→S W)∧S' w' ∧Z6 P ops K u S' a' w') [o] a w)
  | .c i t j u k x,S,a,w=>(∃o,ops.toList[i]?=some o∧wpList P ops (Nml fun a' w' => ∃S' :World→Prop,(∀W,S' W→S W)∧S' w' ∧Z6 P ops K t S' a' w') [o] a w)∧(∃o,ops.toList[j]?=some o∧wpList P ops (Nml fun a' w' => ∃S' :World→Prop,(∀W,S' W→S W)∧S' w' ∧Z6 P ops K u S' a' w') [o] a w)∧(∃o,ops.toList[k]?=some o∧wpList P ops (Nml fun a' w' => ∃S' :World→Prop,(∀W,S' W→S W)∧S' w' ∧Z6 P ops K x S' a' w') [o] a w)
  | .vq i t,S,a,w=> ∃o,ops.toList[i]?=some o∧∃v,YieldsIf P ops (fun _=>True) o v a∧Z6 P ops K t S (a.put o.dst v) w
  | .kq i t,S,a,w=> ∃o,ops.toList[i]?=some o∧wpList P ops (Nml fun a' w' => ∃S' :World→Prop,S' w' ∧Z6 P ops K t S' a' w') [o] a w
theorem J2y {i:Nat}{o:Oper}{K K' :Act→World→Prop}{a:Act}{w:World}(ho:ops[i]?=some o)(h:wpList P ops (Nml K) [o] a w)(hm:∀a w,K a w→K' a w){Q:Exit→Act→World→Prop}:
    wpOp P ops Q i K' a w:=by
  unfold wpOp;simp only[ho];unfold wpList at h
  split
  · rename_i hw
    rw[if_pos hw] at h;rcases h with h|⟨_,h⟩
    · refine .inl ?_
      unfold Oper.wp at*;generalize (execOp a.eval o).run P w=r at*;cases r with
      |ok n w' =>
        cases n<;>simp only[Oper.upon] at h⊢
        case value u=>exact hm _ _ h
        case skip=>exact hm _ _ h
        case defer d=>exact hm _ _ h
        case enter f args=>
          refine Calls.mono h fun e D he=> ?_;cases e with
          |returned u=>exact hm _ _ he
          |panicked c=>exact(he:False).elim
          |outgrown=>exact(Z4x he).elim
        case row row args=>exact Rows.mono h fun u D he=>hm _ _ he
      |halt x w' =>
        cases x<;>simp only[Oper.upon] at h⊢
        case panic u=>exact(h:False).elim
    exact(Z4x h).elim
  rename_i hw;rw[if_neg hw] at h;exact hm _ _ h
def Zc (c:Option Nat)(L:Array Bool)(S:World→Prop)(w:World):Prop:=match c with
  |none=>S w
  |some c=>L.getD c false=false→S w
def J2z (P:Program)(md:Region.Mode)(ops:Array Oper)(Q:Exit→Act→World→Prop)(c:Option Nat)(S:World→Prop):Nat→Array Bool→Act→World→Prop
  |0,L,a,w=>Region.ready md ops L=[]∧Q .normal a w
  |f+1,L,a,w=>(Region.ready md ops L=[]→Q .normal a w)∧
    ∀i∈Region.ready md ops L,wpOp P ops Q i (fun a' w' =>Zc c (L.setIfInBounds i true) S w' ∧J2z P md ops Q c S f (L.setIfInBounds i true) a' w') a w
def ClL (md:Region.Mode)(ops:Array Oper)(L:Array Bool):Prop:=∀j o,L.getD j false=true→ops[j]?=some o→∀e∈o.after,Region.binds md e=true→L.getD e.on false=true
theorem J4m {L:Array Bool}{j:Nat}(h:ClL md ops L)(hj:j∈Region.ready md ops L):ClL md ops (L.setIfInBounds j true):=fun i o hi ho e he hb=>by
  by_cases G:j=i
  · subst G
    obtain⟨_,o',D,J⟩:=mem_ready.1 hj;rw[ho] at D;injection D with D
    subst D;exact getD_set_true (J e he hb)
  · rw[getD_set_ne false G] at hi
    exact getD_set_true (h i o hi ho e he hb)
theorem J8z {L:Array Bool}(h:ClL md ops L){i:Nat}:∀(f c:Nat),need md ops f c i=true→(c∈Region.ready md ops L∨L.getD c false=true)→L.getD i false=true
  |0,_,hn,_=>by cases hn
  |f+1,c,hn,hc=>by
    unfold need at hn;cases ho:ops[c]? with
    |none=>rw[ho] at hn;cases hn
    |some o=>
      rw[ho] at hn;obtain⟨e,he,hb⟩:=Array.any_eq_true'.1 hn;rw[Bool.and_eq_true,Bool.or_eq_true,beq_iff_eq] at hb
      have hl:L.getD e.on false=true:=by
        rcases hc with hc|hc
        · obtain⟨_,o',D,J⟩:=mem_ready.1 hc
          rw[ho] at D;injection D with D
          subst D;exact J e he hb.1
        · exact h c o hc ho e he hb.1
      rcases hb.2 with G|G
      · rw[←G];exact hl
      exact J8z h f e.on G (.inr hl)
theorem Q7q {L:Array Bool}{i:Nat}(h:L.getD i true=false):L.getD i false=false:=by
  rcases Nat.lt_or_ge i L.size with h' |h'
  · simp[h'] at h⊢;exact h
  simp[Array.getElem?_eq_none h'] at h
theorem Z27 {c:Option Nat}{L:Array Bool}{S:World→Prop}{w:World}{i:Nat}(hi:c≠some i):Zc c (L.setIfInBounds i true) S w↔Zc c L S w:=by
  cases c with
  |none=>exact Iff.rfl
  |some c=>
    show(_→_)↔(_→_);rw[getD_set_ne false (fun e=>hi (by rw[e]))]
theorem Q1e {Q:Exit→Act→World→Prop}{S S1:World→Prop}{c:Option Nat}{i:Nat}{oi:Oper}{v:Value}(hi:ops[i]?=some oi)(hsel:∀(j:Nat) (o:Oper) cs b,ops[j]?=some o→o.op≠ .select cs b)
    (hQ:∀c a w,Q (.panic c) (a.put oi.dst v) w→Q (.panic c) a w) (hci:c≠some i) (hS1:∀L w,ClL md ops L→L.getD i true=false→Zc c L S w→S1 w):
    ∀(f:Nat)(L:Array Bool)(a:Act)(w:World),ClL md ops L→
      (∀j oj,ops[j]?=some oj→j≠i→L.getD j true=false→(∀e∈oj.after,Region.binds md e=true→e.on≠i)→oi.apart ops oj=true)→
      i∈Region.ready md ops L→YieldsIf P ops S1 oi v a→Zc c L S w→
      J2z P md ops Q c S f (L.setIfInBounds i true) (a.put oi.dst v) w→J2z P md ops Q c S (f+1) L a w:=by
  intro f
  induction f with
  |zero=>
    intro L a w M _ hr hy hS H;have G:=(mem_ready.1 hr).1;refine⟨fun h=>(by rw[h] at hr;cases hr),fun j hj=> ?_⟩
    by_cases D:j=i
    · subst D;exact hy.wpOp hi (hS1 L w M G hS) ⟨(Z27 hci).2 hS,H⟩
    · have:=ready_mono hj D
      rw[H.1] at this;cases this
  |succ f ih=>
    intro L a w M J hr hy hS H;have G:=(mem_ready.1 hr).1;refine⟨fun h=>(by rw[h] at hr;cases hr),fun j hj=> ?_⟩
    by_cases D:j=i
    · subst D;exact hy.wpOp hi (hS1 L w M G hS) ⟨(Z27 hci).2 hS,H⟩
    · have h1:=H.2 j (ready_mono hj D)
      obtain⟨N,oj,R,U⟩:=mem_ready.1 hj
      have V:∀e∈oj.after,Region.binds md e=true→e.on≠i:=fun e he hb Y=>by
        have h1:=U e he hb;rw[Y,Q7q G] at h1;cases h1
      have h2:=wpOp_putIf R (J j oj R D N V) (fun cs b=>hsel i oi cs b hi) (fun cs b=>hsel j oj cs b R) hQ hy h1
      have hfree' :∀k ok,ops[k]?=some ok→k≠i→(L.setIfInBounds j true).getD k true=false→(∀e∈ok.after,Region.binds md e=true→e.on≠i)→oi.apart ops ok=true:=fun k ok hk Z G X=>by
        refine J k ok hk Z ?_ X
        by_cases T:j=k
        · subst T;exact N
        · rw[getD_set_ne true T] at G;exact G
      refine wpOp_mono (fun a' w' h3=> ?_) h2;have h5:=h3.2.1;rw[Array.setIfInBounds_comm _ _ (Ne.symm D)] at h5;have h4:Zc c (L.setIfInBounds j true) S w' :=(Z27 hci).1 h5;refine⟨h4,ih (L.setIfInBounds j true) a' w' (J4m M hj) hfree' (ready_mono hr (Ne.symm D)) h3.1 h4 ?_⟩;rw[Array.setIfInBounds_comm _ _ D];exact h3.2.2
theorem J7u {Q:Exit→Act→World→Prop}{S:World→Prop}{c:Option Nat}{rs:List Nat}{f:Nat}{L:Array Bool}{a:Act}{w:World}(hr:Region.ready md ops L=rs)(hne:rs≠[])
    (h:∀i∈rs,wpOp P ops Q i (fun a' w' =>Zc c (L.setIfInBounds i true) S w' ∧J2z P md ops Q c S f (L.setIfInBounds i true) a' w') a w):J2z P md ops Q c S (f+1) L a w:=
  ⟨fun h0=>absurd (hr▸h0) hne,hr▸h⟩
theorem Z04 {Q:Exit→Act→World→Prop}{S:World→Prop}{c:Option Nat}{L:Array Bool}{a:Act}{w:World}(hr:Region.ready md ops L=[])(h:Q .normal a w):∀f,J2z P md ops Q c S f L a w
  |0=>⟨hr,h⟩
  |_+1=>⟨fun _=>h,by rw[hr];simp⟩
theorem Q0h {Q:Exit→Act→World→Prop}{S:World→Prop}{c:Option Nat}:∀(f:Nat) (L:Array Bool) (a:Act) (w:World),J2z P md ops Q c S f L a w→wpAny P md ops Q f L a w
  |0,_,_,_,h=>h
  |f+1,_,_,_,h=>⟨h.1,fun i hi=>wpOp_mono (fun a' w' h' =>Q0h f _ a' w' h'.2) (h.2 i hi)⟩
theorem Q4k {Q:Exit→Act→World→Prop}{S:World→Prop}{c:Nat}:∀(f:Nat) (L:Array Bool) (a:Act) (w:World),L.getD c false=true→wpAny P md ops Q f L a w→J2z P md ops Q (some c) S f L a w
  |0,_,_,_,_,h=>h
  |f+1,L,_,_,hc,h=>⟨h.1,fun i hi=>wpOp_mono (fun a' w' h' =>⟨fun h0=>absurd h0 (by rw[getD_set_true hc];decide),Q4k f _ a' w' (getD_set_true hc) h'⟩) (h.2 i hi)⟩
theorem J27 {Q:Exit→Act→World→Prop}{S S' :World→Prop}{c:Option Nat}(hS:∀W,S' W→S W):∀(f:Nat) (L:Array Bool) (a:Act) (w:World),J2z P md ops Q c S' f L a w→J2z P md ops Q c S f L a w
  |0,_,_,_,h=>h
  |f+1,_,_,_,h=>⟨h.1,fun i hi=>wpOp_mono (fun a' w' h' =>⟨by cases c with
    |none=>exact hS _ h'.1
    |some c=>exact fun h0=>hS _ (h'.1 h0),J27 hS f _ a' w' h'.2⟩) (h.2 i hi)⟩
theorem Q2n {c:Option Nat}{L:Array Bool}{S:World→Prop}{w:World}(h:S w):Zc c L S w:=by
  cases c with
  |none=>exact h
  |some c=>exact fun _=>h
theorem J28 {Q:Exit→Act→World→Prop}(hs:Region.noSelect ops=true)(hQ:∀c a d v w,Q (.panic c) (a.put d v) w→Q (.panic c) a w):
    ∀(t:Tr)(S:World→Prop)(f:Nat)(L:Array Bool)(a:Act)(w:World),t.ok md ops L=true→t.len≤f→ClL md ops L→S w→Z6 P ops (Q .normal) t S a w→J2z P md ops Q t.cut S f L a w
  | .z,S,f,L,a,w,hk,_,_,_,h=>Z04 (by simpa[Tr.ok] using hk) h f
  | .q i t,S,0,L,a,w,_,hl,_,_,_=>by simp[Tr.len] at hl
  | .q i t,S,f+1,L,a,w,hk,hl,hcl,hS,h=>by
    simp only[Tr.ok,Bool.and_eq_true] at hk;obtain⟨o,ho,v,hy,h⟩:=h;have hr:i∈Region.ready md ops L:=by simpa using hk.1.1.1
    have Z:=(mem_ready.1 hr).1;show J2z P md ops Q t.cut S (f+1) L a w;have G:ops[i]?=some o:=by simpa using ho
    have hc:=hk.2
    have T:t.cut≠some i:=fun e=>by
      rw[e] at hc;simp only[V3p,Bool.and_eq_true] at hc;have:=J8z hcl _ _ hc.1 (.inl hr);rw[Q7q Z] at this;cases this
    refine Q1e (S1:=S) G (Region.noSelect_spec hs) (fun c a w h=>hQ c a _ _ w h) T (fun L' w' N R hz=> ?_) f L a w hcl (Region.free_spec G hk.1.1.2) hr hy (Q2n hS) (J28 hs hQ t S f _ _ w hk.1.2 (by simp[Tr.len] at hl;omega) (J4m hcl hr) hS h);cases hcc:t.cut with
    |none=>rw[hcc] at hz;exact hz
    |some c=>
      rw[hcc] at hz hc;simp only[V3p,Bool.and_eq_true] at hc;refine hz ?_;cases hg:L'.getD c false with
      |false=>rfl
      |true=>
        have:=J8z N _ _ hc.1 (.inr hg);rw[Q7q R] at this;cases this
  | .vq i t,S,0,L,a,w,_,hl,_,_,_=>by simp[Tr.len] at hl
  | .vq i t,S,f+1,L,a,w,hk,hl,hcl,hS,h=>by
    simp only[Tr.ok,Bool.and_eq_true,bne_iff_ne] at hk;obtain⟨o,ho,v,hy,h⟩:=h;have hr:i∈Region.ready md ops L:=by simpa using hk.1.1.1
    have G:ops[i]?=some o:=by simpa using ho
    show J2z P md ops Q t.cut S (f+1) L a w;exact Q1e (S1:=fun _=>True) G (Region.noSelect_spec hs) (fun c a w h=>hQ c a _ _ w h) hk.2 (fun _ _ _ _ _=>trivial) f L a w hcl (Region.free_spec G hk.1.1.2) hr hy (Q2n hS) (J28 hs hQ t S f _ _ w hk.1.2 (by simp[Tr.len] at hl;omega) (J4m hcl hr) hS h)
  | .kq i t,S,0,L,a,w,_,hl,_,_,_=>by simp[Tr.len] at hl
  | .kq i t,S,f+1,L,a,w,hk,hl,hcl,hS,h=>by
    simp only[Tr.ok,Bool.and_eq_true,decide_eq_true_eq] at hk;obtain⟨o,ho,h⟩:=h;have hr:i∈Region.ready md ops L:=by rw[hk.1];simp
    have Y:i<L.size:=by
      have h0:=(mem_ready.1 hr).1;rcases Nat.lt_or_ge i L.size with h' |h'
      · exact h'
      · simp[Array.getElem?_eq_none h'] at h0
    have M:(L.setIfInBounds i true).getD i false=true:=by simp[Y]
    show J2z P md ops Q (some i) S (f+1) L a w;refine J7u hk.1 (by simp) fun k D=> ?_;rw[List.mem_singleton] at D;subst D;exact J2y (by simpa using ho) h fun a' w' ⟨S',h1,h2⟩=>⟨fun h0=>absurd h0 (by rw[M];decide),Q4k f _ a' w' M (Q0h _ _ _ _ (J28 hs hQ t S' f _ _ w' hk.2 (by simp[Tr.len] at hl;omega) (J4m hcl hr) h1 h2))⟩
  | .e i t,S,0,L,a,w,_,hl,_,_,_=>by simp[Tr.len] at hl
  | .e i t,S,f+1,L,a,w,hk,hl,hcl,hS,h=>by
    simp only[Tr.ok,Bool.and_eq_true,decide_eq_true_eq] at hk;obtain⟨o,ho,h⟩:=h;show J2z P md ops Q t.cut S (f+1) L a w;refine J7u hk.1.1 (by simp) fun k D=> ?_;have hr:k∈Region.ready md ops L:=by rw[hk.1.1];exact D
    rw[List.mem_singleton] at D;subst D;exact J2y (by simpa using ho) h fun a' w' ⟨S',h1,h2,h3⟩=>⟨Q2n (h1 _ h2),J27 h1 _ _ _ _ (J28 hs hQ t S' f _ _ w' hk.1.2 (by simp[Tr.len] at hl;omega) (J4m hcl hr) h2 h3)⟩
  | .b i t j u,S,0,L,a,w,_,hl,_,_,_=>by simp[Tr.len] at hl
  | .b i t j u,S,f+1,L,a,w,hk,hl,hcl,hS,h=>by
    simp only[Tr.ok,Bool.and_eq_true,decide_eq_true_eq] at hk;obtain⟨⟨o,ho,h⟩,⟨o2,J,h2⟩⟩:=h;show J2z P md ops Q t.cut S (f+1) L a w;refine J7u hk.1.1.1 (by simp) fun k D=> ?_;have hr:k∈Region.ready md ops L:=by rw[hk.1.1.1];exact D
    have U:k=i∨k=j:=by simpa using D
    rcases U with e|e
    · subst e
      exact J2y (by simpa using ho) h fun a' w' ⟨S',h1,h2,h3⟩=>⟨Q2n (h1 _ h2),J27 h1 _ _ _ _ (J28 hs hQ t S' f _ _ w' hk.1.1.2 (by simp[Tr.len] at hl;omega) (J4m hcl hr) h2 h3)⟩
    · subst e
      exact J2y (by simpa using J) h2 fun a' w' ⟨S',h1,h2,h3⟩=>⟨Q2n (h1 _ h2),J27 h1 _ _ _ _ (by rw[←hk.2.1];exact J28 hs hQ u S' f _ _ w' hk.1.2 (by simp[Tr.len] at hl;omega) (J4m hcl hr) h2 h3)⟩
  | .c i t j u k x,S,0,L,a,w,_,hl,_,_,_=>by simp[Tr.len] at hl
  | .c i t j u k x,S,f+1,L,a,w,hk,hl,hcl,hS,h=>by
    simp only[Tr.ok,Bool.and_eq_true,decide_eq_true_eq] at hk;simp only[Tr.len] at hl;obtain⟨⟨o,ho,h⟩,⟨o2,J,h2⟩,⟨o3,X,h3⟩⟩:=h;show J2z P md ops Q t.cut S (f+1) L a w;refine J7u hk.1.1.1.1 (by simp) fun m hm=> ?_;have hr:m∈Region.ready md ops L:=by rw[hk.1.1.1.1];exact hm
    have V:m=i∨m=j∨m=k:=by simpa using hm
    rcases V with e|e|e
    · subst e
      exact J2y (by simpa using ho) h fun a' w' ⟨S',h1,h2,h3⟩=>⟨Q2n (h1 _ h2),J27 h1 _ _ _ _ (J28 hs hQ t S' f _ _ w' hk.1.1.1.2 (by omega) (J4m hcl hr) h2 h3)⟩
    · subst e
      exact J2y (by simpa using J) h2 fun a' w' ⟨S',h1,h2,h3⟩=>⟨Q2n (h1 _ h2),J27 h1 _ _ _ _ (by rw[←hk.2.1.1];exact J28 hs hQ u S' f _ _ w' hk.1.1.2 (by omega) (J4m hcl hr) h2 h3)⟩
    · subst e
      exact J2y (by simpa using X) h3 fun a' w' ⟨S',h1,h2,h3⟩=>⟨Q2n (h1 _ h2),J27 h1 _ _ _ _ (by rw[←hk.2.1.2];exact J28 hs hQ x S' f _ _ w' hk.1.2 (by omega) (J4m hcl hr) h2 h3)⟩
theorem V8m:ClL md ops (Array.replicate ops.size false):=fun j o hj=>by
  simp[Array.getElem?_replicate] at hj
  split at hj<;>simp at hj
theorem Y7c {K:Act→World→Prop}:∀c (a:Act) d v w,Nml K (.panic c) (a.put d v) w→Nml K (.panic c) a w:=fun _ _ _ _ _ h=>h
theorem J3z {id:Nat}{a:Act}{w:World}{Q:Exit→Act→World→Prop}(t:Tr)(S:World→Prop)(hm:P.follows .mixedOrders=true)
    (hB:(Region.noSelect ops && decide (t.len≤ops.size) && t.ok .any ops (Array.replicate ops.size false))=true)
    (h:∀W,Off [] w W→S W∧Z6 P ops (Q .normal) t S a W):(Code.region id ops true).wp P Q a w:=by
  simp only[Bool.and_eq_true,decide_eq_true_eq] at hB;refine Code.wp_mono Y7b (wp_region_any hm ?_);obtain⟨h1,h2⟩:=h {w with drawn:=w.drawn+1} (J0b (Below.refl _ _).drew);exact Q0h _ _ _ _ (J28 (Q:=Nml (Q .normal)) hB.1.1 Y7c t S _ _ _ _ hB.2 hB.1.2 V8m h1 h2)
def Y1d (a:Act)(l:List (Tmp×Value)):Act:=l.foldl (fun a p=>a.put (some p.1) p.2) a
theorem Q5t {id:Nat}{a:Act}{w:World}{Q:Exit→Act→World→Prop}(t:Tr)(S:World→Prop)(R:Act→Act→World→Prop)(hm:P.follows .mixedOrders=true)
    (hB:(Region.noSelect ops && decide (t.len≤ops.size) && t.ok .any ops (Array.replicate ops.size false))=true)
    (h:∀W,Off [] w W→S W∧Z6 P ops (R a) t S a W) (hk:∀a' w',R a a' w' →Q .normal a' w'):(Code.region id ops true).wp P Q a w:=by
  have h1:(Code.region id ops true).wp P (Nml (R a)) a w:=J3z (Q:=Nml (R a)) t S hm hB h;exact Code.wp_mono (fun e a' w' h' =>by cases e<;>first|exact hk _ _ h' |exact(h' :False).elim) h1
section
variable {K : Act → World → Prop} {t u : Tr} {S : World → Prop} {a : Act} {w : World} {o : Oper} {i : Nat}
theorem Q6j (h:K a w):Z6 P ops K .z S a w:=h
theorem J3o {v:Value}(ho:ops.toList[i]?=some o)(hw:Region.wanted o (yielded ops a.tmps)=true)(hv:∀W,S W→(execOp a.eval o).run P W=.ok (.value v) W)(h:Z6 P ops K t S (a.put o.dst v) w):Z6 P ops K (.q i t) S a w:=
  ⟨o,ho,v,.inl ⟨hw,hv⟩,h⟩
theorem Y1e (ho:ops.toList[i]?=some o)(hw:Region.wanted o (yielded ops a.tmps)=false)(h:Z6 P ops K t S (a.put o.dst undef) w):Z6 P ops K (.q i t) S a w:=
  ⟨o,ho,undef,.inr ⟨hw,rfl⟩,h⟩
theorem J39 (ho:ops.toList[i]?=some o)(h:wpList P ops (Nml fun a' w' => ∃S' :World→Prop,(∀W,S' W→S W)∧S' w' ∧Z6 P ops K t S' a' w') [o] a w):Z6 P ops K (.e i t) S a w:=⟨o,ho,h⟩
theorem Y1f {j:Nat}{o2:Oper}(ho:ops.toList[i]?=some o)(ho2:ops.toList[j]?=some o2)(h:wpList P ops (Nml fun a' w' => ∃S' :World→Prop,(∀W,S' W→S W)∧S' w' ∧Z6 P ops K t S' a' w') [o] a w)
    (h2:wpList P ops (Nml fun a' w' => ∃S' :World→Prop,(∀W,S' W→S W)∧S' w' ∧Z6 P ops K u S' a' w') [o2] a w):Z6 P ops K (.b i t j u) S a w:=⟨⟨o,ho,h⟩,⟨o2,ho2,h2⟩⟩
theorem V8n {v:Value}(ho:ops.toList[i]?=some o)(hw:Region.wanted o (yielded ops a.tmps)=true)(hv:∀W,(execOp a.eval o).run P W=.ok (.value v) W)(h:Z6 P ops K t S (a.put o.dst v) w):Z6 P ops K (.vq i t) S a w:=
  ⟨o,ho,v,.inl ⟨hw,fun W _=>hv W⟩,h⟩
theorem V8o (ho:ops.toList[i]?=some o)(h:wpList P ops (Nml fun a' w' => ∃S' :World→Prop,S' w' ∧Z6 P ops K t S' a' w') [o] a w):Z6 P ops K (.kq i t) S a w:=⟨o,ho,h⟩
theorem J2e (S' :World→Prop)(h1:∀W,S' W→S W)(h2:S' w)(h:Z6 P ops K t S' a w):wpList P ops (Nml fun a' w' => ∃S' :World→Prop,(∀W,S' W→S W)∧S' w' ∧Z6 P ops K t S' a' w') [] a w:=⟨S',h1,h2,h⟩
end
/-! ### Loads -/
theorem Z9 {a:Act}{W:World}{o:Oper}{ad:Addr}{v:Value}{ty:TypeId}{x:Operand}(ho:o.op=.load ty x)(hx:a.eval x=.pointer (some ad))(hc:W.cell? ad=some v)
    (hk:(P.underlying ty).map TypeDesc.isRow=some false):(execOp a.eval o).run P W=.ok (.value v) W:=by
  cases hu:P.underlying ty with
  |none=>simp[hu] at hk
  |some d=>
    have hd:d.isRow=false:=by simpa[hu] using hk
    unfold execOp;simp only[ho,hx];cases d<;>simp_all [Instr.loadAt,Instr.sureAddr,Sem.run_bind,Sem.run_pure,Result.andThen_ok,run_underlying hu,TypeDesc.isRow]
    all_goals simp[loadVar,isAgg,Sem.run_bind,Sem.run_pure,Result.andThen_ok,run_underlying hu,TypeDesc.isRow,hc]
theorem J0k {a:Act}{W:World}{o:Oper}{b j:Nat}{vs:List Value}{ty:TypeId}{x:Operand}(ho:o.op=.load ty x)(hx:a.eval x=.pointer (some ⟨b,j,none⟩))(hc:∀i v,vs[i]?=some v→W.cell? ⟨b,j+i,none⟩=some v)
    (hk:(P.underlying ty).map TypeDesc.isRow=some true) (hi:(P.info? ty).map (·.size)=some vs.length):(execOp a.eval o).run P W=.ok (.value (.agg vs.toArray)) W:=by
  cases hu:P.underlying ty with
  |none=>simp[hu] at hk
  |some d=>
    have hd:d.isRow=true:=by simpa[hu] using hk
    have:=run_loadAt_mid (P:=P) W b j ty vs d hc hu (by cases d<;>simp_all [TypeDesc.isRow]) hi;simp[execOp,ho,hx,Sem.run_bind,this]
theorem J5w {a:Act}{W:World}{o:Oper}{b:Nat}{cs:Array Value}{t ty:TypeId}{x:Operand}(ho:o.op=.load ty x)(hx:a.eval x=.pointer (some ⟨b,0,none⟩))(hB:Blk W b cs t)
    (hk:(P.underlying ty).map TypeDesc.isRow=some true) (hi:(P.info? ty).map (·.size)=some cs.size):(execOp a.eval o).run P W=.ok (.value (.agg cs)) W:=
  J0k (vs:=cs.toList) ho hx (fun i v hv=>by rw[J4 hB,Nat.zero_add];simpa using hv) hk (by simpa using hi)
end
end

section
section
variable {w W : World} {o : Oper} {a : Act} {x y : Operand} {v u : Value} {l : List UInt8}
theorem J2q (h:Sl W v l)(ho:o.op=.convert 35 9 x)(hx:a.eval x=v):(execOp a.eval o).run Tryz.prog W=.ok (.value (str l)) W:=by
  simp[execOp,ho,hx,Sem.run_bind,Z4v h]
theorem X5 (hs:Sl w v l)(ho:o.op=.call {callee:=.builtin .len,args:= #[x],argTypes:= #[35]})(hx:a.eval x=v):(execOp a.eval o).run Tryz.prog W=.ok (.value (.int .i64 (l.length:Int))) W:=by
  obtain⟨A,c,rfl,_⟩:=hs;unfold execOp;simp only[ho,resolve,invoke,builtin,Sem.run_bind,Sem.run_pure,Result.andThen_ok,List.map_toArray,List.map_cons,List.map_nil,hx];simp[Builtin.len_,run_underlying Tryz.underlying35,goInt,Sem.run_bind]
theorem Q40 {t:TypeId}{l m:List UInt8}{b:Bool}(hb:decide (l=m)=b)(ho:o.op=.binOp .eql 9 x y t)(hx:a.eval x=str l)(hy:a.eval y=str m):(execOp a.eval o).run Tryz.prog W=.ok (.value (.bool b)) W:=hb▸Z7b ho hx hy
end
end

section
def Row (t:TypeId)(k:Nat)(w:World)(v:Value)(es:List (List Value)):Prop:=w.ownsRow 0 t k v es.length es.flatten∧∀e∈es,e.length=k
section
variable {t : TypeId} {k : Nat} {w : World} {v : Value} {es : List (List Value)}
theorem Row.off {F:List Nat}{w' :World}(h:Row t k w v es)(q:Off F w w')(hF:∀b∈F,v.ownBlock≠some b):Row t k w' v es:=by
  refine⟨⟨h.1.1,h.1.2.imp id ?_⟩,h.2⟩;rintro⟨g,D,G,rfl,hb,hh,r⟩;exact⟨g,D,G,rfl,hb,by rw[q.block g (lt_of_block hh) (fun hx=>hF g hx rfl)];exact hh,r⟩
theorem Row.lt (h:Row t k w v es):∀g,v.ownBlock=some g→g<w.heap.size:=by
  intro g hg;rcases h.1.2 with⟨rfl,_⟩|⟨g',D,G,rfl,_,hh,_⟩
  · cases hg
  obtain rfl:g' =g:=Option.some.inj hg;exact lt_of_block hh
theorem Z49 (t:TypeId)(k:Nat)(w:World):Row t k w (.slice none 0 0) []:=⟨⟨by simp,.inl ⟨rfl,rfl⟩⟩,by simp⟩
theorem Row.ne_blk (h:Row t k w v es){b:Nat}{cs:Array Value}{t' :TypeId}(hb:Blk w b cs t')(ht:t' ≠t):v.ownBlock≠some b:=by
  intro e;rcases h.1.2 with⟨rfl,_⟩|⟨g',D,G,rfl,_,hh,_⟩
  · cases e
  obtain rfl:g' =b:=Option.some.inj e;unfold Blk at hb;rw[hh] at hb;injection hb with hb
  injection hb with _ h2
  exact ht h2.symm
theorem Row.len (h:Row t k w v es):∃A c,v=.slice A es.length c∧es.length≤c:=by
  rcases h.1.2 with⟨rfl,hn⟩|⟨g,D,G,rfl,_,hh,hc,_⟩
  · exact⟨none,0,by rw[hn],by omega⟩
  exact⟨_,_,rfl,hc⟩
theorem Row.cells (h:Row t k w v es):v.cells= #[v]∧v.oneCell' =true:=by
  obtain⟨A,c,rfl,_⟩:=h.len;exact⟨rfl,rfl⟩
theorem Z4y {k:Nat}:∀(es:List (List Value)) (j i:Nat) (e:List Value),(∀e∈es,e.length=k)→es[j]?=some e→i<k→es.flatten[j*k+i]?=e[i]?
  |[],_,_,_,_,h,_=>by simp at h
  |x::es,0,i,e,hl,h,hi=>by
    have hx:=hl x (by simp);have:x=e:=by simpa using h
    subst this;rw[List.flatten_cons,Nat.zero_mul,Nat.zero_add,List.getElem?_append_left (by omega)]
  |x::es,j+1,i,e,hl,h,hi=>by
    have hx:=hl x (by simp);have:=Z4y es j i e (fun e he=>hl e (by simp[he])) (by simpa using h) hi;rw[List.flatten_cons,List.getElem?_append_right (by rw[hx,Nat.add_mul];omega),hx,show(j+1)*k+i-k=j*k+i by rw[Nat.add_mul];omega];exact this
theorem Row.at (h:Row t k w v es){j:Nat}{e:List Value}(hj:es[j]?=some e):∃g c,v=.slice (some ⟨g,0,none⟩) es.length c∧∀i x,e[i]?=some x→w.cell? ⟨g,j*k+i,none⟩=some x:=by
  have M:=(List.getElem?_eq_some_iff.1 hj).1;rcases h.1.2 with⟨rfl,hn⟩|⟨g,G,J,rfl,_,hh,hc,hm,hs,ht⟩
  · omega
  refine⟨g,G,rfl,fun i x hx=> ?_⟩;have he:e.length=k:=h.2 e (List.mem_of_getElem? hj);have hi:i<k:=by have:=(List.getElem?_eq_some_iff.1 hx).1;omega
  have hf:=Z4y es j i e h.2 hj hi
  have D:j*k+i<es.length*k:=by
    have:(j+1)*k≤es.length*k:=Nat.mul_le_mul_right k M;rw[Nat.add_mul] at this;omega
  rw[cell_of_row w g _ J _ _ hh];rw[←ht,List.getElem?_take_of_lt D] at hf;rw[←hx,←hf];simp
theorem Y7d {g:Nat}{cs:Array Value}(h:Blk w g cs t)(hc:cs.toList=es.flatten)(hl:∀e∈es,e.length=k)(hm:es.length≤maxLen):Row t k w (.slice (some ⟨g,0,none⟩) es.length es.length) es:=by
  have D:es.flatten.length=es.length*k:=by
    clear hc hm
    induction es with
    |nil=>simp
    |cons x r ih=>rw[List.flatten_cons,List.length_append,hl x (by simp),ih (fun e he=>hl e (by simp[he])),List.length_cons,Nat.add_mul];omega
  have hs:cs.size=es.length*k:=by rw[←Array.length_toList,hc,D]
  exact⟨⟨D,.inr ⟨g,es.length,cs,rfl,Nat.zero_le _,h,Nat.le_refl _,hm,hs,by rw[hc,List.take_of_length_le (by omega)]⟩⟩,hl⟩
end
theorem vs0:∀v∈([]:List Value),v.cells= #[v]:=by simp
theorem vsc {x:Value}{r:List Value}(h:x.cells= #[x])(k:∀v∈r,v.cells= #[v]):∀v∈x::r,v.cells= #[v]:=by
  intro v hv;rcases List.mem_cons.1 hv with rfl|hv
  · exact h
  exact k v hv
theorem Y73 {x:Value}(h:x.oneCell' =true):(#[x]:Array Value).all (·.oneCell')=true:=by simp[h]
theorem Z28 {P:Program}{t:TypeId}{k b:Nat}(h:(P.info? t).map (fun i=>(i.zero.map (·.cells.size),i.size,i.bytes))=some (some k,k,b)):∃i z,P.info? t=some i∧i.zero=some z∧i.size=k∧i.bytes=b∧z.cells.size=k:=by
  cases hi:P.info? t with
  |none=>simp[hi] at h
  |some i=>
    simp only[hi,Option.map_some,Option.some.injEq,Prod.mk.injEq] at h;cases hz:i.zero with
    |none=>simp[hz] at h
    |some z=>exact⟨i,z,rfl,hz,h.2.1,h.2.2,by simpa[hz] using h.1⟩
section
variable {P : Program} {ops : Array Oper} {Q : Exit → Act → World → Prop} {w : World} {l : List Oper} {o : Oper} {a : Act} {tS t t2 : TypeId} {k bytes : Nat} {s x : Operand} {v u : Value} {es : List (List Value)}
theorem Z05 {g c:Nat}{cs:Array Value}(hw:Region.wanted o (yielded ops a.tmps)=true)(ho:o.op=.call {callee:=.builtin .append,args:= #[s,x],argTypes:= #[tS,tS]})(hs:a.eval s=v)(hx:a.eval x=.slice (some ⟨g,0,none⟩) 1 c)
    (hown:Row t k w v es) (hB:Blk w g cs t2) (hk:cs.size=k) (h1:cs.all (·.oneCell')=true) (hk0:0<k) (ht:P.underlying tS=some (.slice t)) (hi:(P.info? t).map (fun i=>(i.zero.map (·.cells.size),i.size,i.bytes))=some (some k,k,bytes))
    (hlen:(es.length+1)*bytes≤140737488355328) (hl2:es.length+1≤maxLen)
    (h:∀v' W,Row t k W v' (es++[cs.toList])→Off v.ownBlock.toList w W→Of v'.ownBlock v.ownBlock w.heap.size→wpList P ops Q l (a.put o.dst v') W):wpList P ops Q (o::l) a w:=by
  obtain⟨i,z,hi,hz,M,G,J⟩:=Z28 hi
  obtain⟨v',W,D,h2,h3,h4,h5⟩:=run_append_own_at (P:=P) w 0 tS o.type t i z k bytes ht hi hz M G J hk0 v es.length es.flatten hown.1 ⟨g,0,none⟩ 1 c cs.toList (by simp[hk])
    (fun j u hu=>by rw[Addr.add_mid,J4 hB,Nat.zero_add];simpa using hu) (fun u hu=>Array.all_eq_true_iff_forall_mem.1 h1 u (by simpa using hu)) hl2 hlen (Nat.zero_le _)
  refine J5i hw (v:=v') (W:=W) ?_ (h v' W ⟨?_,?_⟩ (J9q h3) (Y11 h5))
  · unfold execOp
    simp only[ho,resolve,invoke,builtin,Sem.run_bind,Sem.run_pure,Result.andThen_ok,List.map_toArray,List.map_cons,List.map_nil,hs,hx,D]
  · rw[List.length_append,List.flatten_append];simpa using h2
  intro e he;rcases List.mem_append.1 he with he|he
  · exact hown.2 e he
  rw[List.mem_singleton.1 he];simpa using hk
theorem J3f {W:World}(hs:Row t k w v es)(ho:o.op=.call {callee:=.builtin .len,args:= #[x],argTypes:= #[tS]})(hx:a.eval x=v)(ht:P.underlying tS=some (.slice t)):(execOp a.eval o).run P W=.ok (.value (.int .i64 (es.length:Int))) W:=by
  obtain⟨A,c,rfl,_⟩:=hs.len;unfold execOp;simp only[ho,resolve,invoke,builtin,Sem.run_bind,Sem.run_pure,Result.andThen_ok,List.map_toArray,List.map_cons,List.map_nil,hx];simp[Builtin.len_,run_underlying ht,goInt,Sem.run_bind]
theorem Y7e {W:World}{y:Operand}{kk:IntKind}{ad:Addr}{n c j:Nat}(hj:j<n)(ho:o.op=.indexAddr tS x y)(hx:a.eval x=.slice (some ad) n c)(hy:a.eval y=.int kk (j:Int))(ht:P.underlying tS=some (.slice t))(hi:(P.info? t).map (·.size)=some k):
    (execOp a.eval o).run P W=.ok (.value (.pointer (some (ad.add (j*k))))) W:=by
  cases hq:P.info? t with
  |none=>simp[hq] at hi
  |some i=>
    have hs:i.size=k:=by simpa[hq] using hi
    simp[execOp,ho,hx,hy,Instr.indexAt,asIntOf,run_underlying ht,Sem.run_bind,sizeOf,typeInfo,hq,hs,hj]
theorem J0a {e:TypeId}{len:Nat}{parts:Array (Nat×Operand)}(vs:List Value)(ho:o.op=.buildSlice tS len parts)(hp:parts.toList.map (fun p=>(p.1,a.eval p.2))=(vs.zipIdx 0).map fun x=>(x.2,x.1))(hv:∀v∈vs,v.cells= #[v])
    (hu:P.underlying tS=some (.slice e)) (hsz:(P.info? e).map (·.size)=some 1) (hz:((P.info? e).bind (·.zero)).isSome=true) (hlen:len=vs.length) (hpos:0<len) (hsmall:len≤2^24):
    (execOp a.eval o).run P w=.ok (.value (.slice (some ⟨w.heap.size,0,none⟩) len len)) (w.alloc (.cells vs.toArray e)):=by
  cases hie:P.info? e with
  |none=>simp[hie] at hsz
  |some ie=>
    simp only[hie,Option.map_some,Option.some.injEq,Option.bind_some] at hsz hz;obtain⟨z,D⟩:=Option.isSome_iff_exists.1 hz;unfold execOp;simp only[ho,Sem.run_bind];rw[run_buildSlice w tS e len _ vs.toArray ie z hu hie D (by rw[hsz];omega) (by rw[hsz];omega) (by rw[Array.toList_map,hsz];refine Eq.trans (congrArg (Instr.fill _ _) hp) ?_;exact Great.fill_flat _ _ hv (by simp[hlen]))];rfl
theorem J2s {e:TypeId}{parts:Array (Nat×Operand)}{x0:Operand}{cs:Array Value}(ho:o.op=.buildSlice tS 1 parts)(hp:parts.toList=[(0,x0)])(hx:a.eval x0=.agg cs)
    (hu:P.underlying tS=some (.slice e)) (hsz:(P.info? e).map (·.size)=some cs.size) (hz:(P.info? e).map (fun i=>i.zero.map (·.cells.size))=some (some cs.size)) (hpos:0<cs.size) (hsmall:cs.size≤2^24):
    (execOp a.eval o).run P w=.ok (.value (.slice (some ⟨w.heap.size,0,none⟩) 1 1)) (w.alloc (.cells cs e)):=by
  cases hie:P.info? e with
  |none=>simp[hie] at hsz
  |some ie=>
    simp only[hie,Option.map_some,Option.some.injEq] at hsz hz;cases hzz:ie.zero with
    |none=>simp[hzz] at hz
    |some z=>
      obtain⟨r,hr,J,hk⟩:=Great.fill_dense (s:=cs.size) hpos [.agg cs] 0 ((Array.range (1*cs.size)).map (z.cells[· % z.cells.size]!)) (fun v hv=>by rw[List.mem_singleton.1 hv];rfl) (by simp)
      have G:r=cs:=by
        apply Array.ext_getElem?;intro k;rw[hk k];simp only[Nat.zero_mul,Nat.zero_le,true_and,List.length_cons,List.length_nil,Nat.zero_add,Nat.one_mul]
        by_cases D:k<cs.size
        · rw[if_pos D,Nat.div_eq_of_lt D,Nat.mod_eq_of_lt D]
          rfl
        · rw[if_neg D,Array.getElem?_eq_none (by simpa using D),Array.getElem?_eq_none (by simpa using D)]
      subst G;unfold execOp;simp only[ho,Sem.run_bind];rw[run_buildSlice w tS e 1 _ _ ie z hu hie hzz (by rw[hsz];omega) (by rw[hsz];omega) (by rw[Array.toList_map,hp,hsz];simp only[List.map_cons,List.map_nil,hx];exact hr)];rfl
end
end

section
def Owz (w:World)(v:Value)(l:List UInt8):Prop:=
  ∃(g cap:Nat)(cs:Array Value)(fz:Nat×Nat),v=.slice (some ⟨g,0,none⟩) l.length cap∧w.heap[g]?=some (.cells cs 5 fz)∧(fz.1=fz.2∨cs.size≤fz.1)∧l.length≤cap∧cap≤maxLen∧cs.size=cap∧cs.toList.take l.length=bs8 l
theorem Owz.lt {w:World}{v:Value}{l:List UInt8}(h:Owz w v l):∀g,v.ownBlock=some g→g<w.heap.size:=by
  intro x hx;obtain⟨g,D,cs,fz,rfl,hh,_⟩:=h;obtain rfl:g=x:=Option.some.inj hx;exact lt_of_block hh
theorem Owz.off {F:List Nat}{w w' :World}{v:Value}{l:List UInt8}(h:Owz w v l)(k:Off F w w')(hF:∀b∈F,v.ownBlock≠some b):Owz w' v l:=by
  obtain⟨g,D,cs,fz,rfl,hh,r⟩:=h;exact⟨g,D,cs,fz,rfl,by rw[k.block g (lt_of_block hh) (fun hx=>hF g hx rfl)];exact hh,r⟩
theorem Owz.cells {w:World}{g cap:Nat}{l:List UInt8}{cs:Array Value}{fz:Nat×Nat}(hh:w.heap[g]?=some (.cells cs 5 fz))(ht:cs.toList.take l.length=bs8 l):∀j u,(bs8 l)[j]?=some u→w.cell? ((⟨g,0,none⟩:Addr).add j)=some u:=fun j u hu=>by
  rw[Addr.add_mid,cell_of_row w g _ cs _ _ hh,Nat.zero_add];rw[←ht,List.getElem?_take] at hu
  split at hu
  · simpa using hu
  · cases hu
theorem Owz.sl {w:World}{v:Value}{l:List UInt8}(h:Owz w v l):Sl w v l:=by
  obtain⟨g,cap,cs,fz,rfl,hh,hf,hc,hm,hs,ht⟩:=h;exact⟨some ⟨g,0,none⟩,cap,rfl,hc,hm,(fun h=>by cases h),fun j x hj=>⟨_,rfl,Owz.cells (cap:=cap) hh ht j _ (Q3e hj)⟩⟩
theorem Owz.len {w:World}{v:Value}{l:List UInt8}(h:Owz w v l):∃A c,v=.slice A l.length c∧l.length≤c:=by
  obtain⟨g,D,cs,fz,rfl,_,_,hc,_⟩:=h;exact⟨_,_,rfl,hc⟩
end
end Go.Proofs.YtlkbneflnjmgbaaGreatDoor

/- Contracts and plain laws for superSeals_holds. Conditions: the tables hold their numbers. -/
import Derived.Test.YtdjacgmmidbieaaGreatDoorGa
import Derived.StillTail
import Derived.Deep.RegionHeld3
import Derived.Deep.DeepCutAuto
import Derived.Lib.Hide
open Go renaming undef->AU,World->AA,Value->AB,execOp->AV,wpList->AC,Program->AD,Operand->AW,TypeId->AE,Oper->AF,Exit->AG
open Go.Region renaming wanted->AX
open _root_.List renaming length_cons->AY,length_drop->AZ,map_cons->Ac,mem_cons->Ad
open _root_.Nat renaming le_refl->AM,le_trans->Ae,zero_add->AP
open _root_.Option renaming some.inj->Af
open Go.RowKit
set_option linter.unusedSimpArgs false
set_option linter.unusedVariables false
namespace Go.Proofs.YtdjacgmmidbieaaGreatDoor
section
section
variable {P : AD} {ops : Array AF} {Q : AG → Act → AA → Prop} {md : Region.Mode}

abbrev Ext (w W:AA):Prop:=Below w.heap.size w W
theorem J22 (w:AA):Ext w w:=Below.refl _ _
theorem J10 {a b c:AA}(h:Ext a b)(k:Ext b c):Ext a c:=Below.trans h (k.mono h.size)

def Rd (w:AA)(b:Nat)(cs:Array AB):Prop:=(∀j v,cs[j]?=some v→w.cell? ⟨b,j,none⟩=some v)∧b<w.heap.size
theorem Rd.ext {w W:AA}{b:Nat}{cs:Array AB}(h:Rd w b cs)(e:Ext w W):Rd W b cs:=
  ⟨fun j v hj=>by rw[e.cell (p:=⟨b,j,none⟩) h.2];exact h.1 j v hj,Nat.lt_of_lt_of_le h.2 e.size⟩
theorem Rd.range {w:AA}{b:Nat}{cs:Array AB}(h:Rd w b cs):w.rangeAt b 0 cs.toList:=fun j v hv=>by rw[AP];exact h.1 j v (by simpa using hv)
theorem Z77 {w:AA}{b:Nat}{cs:Array AB}{t:AE}(h:Blk w b cs t):Rd w b cs:=⟨fun j v hv=>by rw[J5 h];exact hv,Q3 h⟩
def J5r (P:AD)(W:AA)(v:AB):Result Next→Prop
  | .ok (.value u) W' =>W' =W∧u=v
  | .ok .skip W' =>W' =W∧v=AU
  | .ok (.enter f args) W' =>W' =W∧Calls P f args W (fun e W'' =>e=.returned v∧Ext W W'')
  |_=>False
def Yx (P:AD)(o:AF)(a:Act)(w:AA)(v:AB):Prop:=∀W,Ext w W→J5r P W v ((AV a.eval o).run P W)
def Yw (P:AD)(ops:Array AF)(o:AF)(v:AB)(a:Act)(w:AA):Prop:=
  (AX o (yielded ops a.tmps)=true∧Yx P o a w v)∨(AX o (yielded ops a.tmps)=false∧v=AU)
theorem Yw.ext {o:AF}{v:AB}{a:Act}{w w' :AA}(h:Yw P ops o v a w)(e:Ext w w'):Yw P ops o v a w' :=
  h.imp (fun⟨h1,h2⟩=>⟨h1,fun W hW=>h2 W (J10 e hW)⟩) id
theorem Yw.of_same {o:AF}{v:AB}{a a' :Act}{w:AA}(hy:Yw P ops o v a w)(he:AV a'.eval o=AV a.eval o)
    (hw:AX o (yielded ops a'.tmps)=AX o (yielded ops a.tmps)):Yw P ops o v a' w:=by
  unfold Yw Yx at*;rw[he,hw];exact hy
theorem Yw.wpOp {i:Nat}{o:AF}{v:AB}{a:Act}{w:AA}(hi:ops[i]?=some o)(hy:Yw P ops o v a w){K:Act→AA→Prop}
    (h:∀w',Ext w w' →K (a.put o.dst v) w'):wpOp P ops Q i K a w:=by
  unfold Go.wpOp;simp only[hi];rcases hy with⟨hw,hv⟩|⟨hw,rfl⟩
  · simp only[hw,if_true]
    refine .inl ?_;have h1:=hv w (J22 w);unfold AF.wp;generalize (AV a.eval o).run P w=r at*;cases r with
    |ok n w' =>
      cases n<;>simp only[J5r] at h1<;>simp only[AF.upon]
      case value u=>obtain⟨rfl,rfl⟩:=h1;exact h _ (J22 _)
      case skip=>obtain⟨rfl,rfl⟩:=h1;exact h _ (J22 _)
      case enter f args=>
        obtain⟨rfl,hc⟩:=h1;exact hc.mono fun e w'' ⟨he,hw''⟩=>by subst he;exact h _ hw''
    |halt x w' =>simp only[J5r] at h1
  simp only[hw,Bool.false_eq_true,if_false];exact h _ (J22 _)

theorem Z4u {j:Nat}{oi oj:AF}{v:AB}(hj:ops[j]?=some oj)(hap:oi.apart ops oj=true)
    (hsi:∀cs b,oi.op≠ .select cs b) (hsj:∀cs b,oj.op≠ .select cs b)
    (hQ:∀c a w,Q (.panic c) (a.put oi.dst v) w→Q (.panic c) a w) {K:Act→AA→Prop} {a:Act} {w w0:AA}
    (hy:Yw P ops oi v a w0) (h:wpOp P ops Q j K (a.put oi.dst v) w):
    wpOp P ops Q j (fun a' w' =>Yw P ops oi v a' w0∧K (a'.put oi.dst v) w') a w:=by
  obtain⟨h1,h2,h3⟩:=AF.apart_spec hap
  have D:∀(a:Act),Yw P ops oi v a w0→∀u,Yw P ops oi v (a.put oj.dst u) w0:=fun a hy u=>
    hy.of_same (execOp_put oi hsi a oj.dst u h3) (wanted_put oi a oj.dst u h3)
  have J:∀d,Yw P ops oi v {a with defers:=d::a.defers} w0:=fun d=>hy.of_same rfl rfl;unfold wpOp at*;simp only[hj] at*;rw[wanted_put oj a oi.dst v h1] at h
  split
  · rename_i hw
    simp only[hw,if_true] at h;rcases h with h|⟨G,M⟩
    case inr=>exact .inr ⟨by unfold AF.asks at*;rw[execOp_put oj hsj a oi.dst v h1] at G;exact G,M⟩
    refine .inl ?_;unfold AF.wp at*;rw[execOp_put oj hsj a oi.dst v h1] at h;generalize (AV a.eval oj).run P w=r at*;cases r with
    |ok n w' =>
      cases n<;>simp only[AF.upon] at h⊢
      case value u=>exact⟨D a hy u,by rw[←Act.put_comm a v u h2];exact h⟩
      case skip=>exact⟨D a hy _,by rw[←Act.put_comm a v AU h2];exact h⟩
      case defer d=>
        refine⟨D _ (J d) _,?_⟩;rw[←Act.put_comm _ v AU h2,←Act.put_defers];exact h
      case enter f args=>
        refine Calls.mono h fun e N he=> ?_;cases e with
        |returned u=>exact⟨D a hy u,by rw[←Act.put_comm a v u h2];exact he⟩
        |panicked c=>exact hQ _ _ _ he
        |outgrown=>exact he
      case row row args=>exact Rows.mono h fun u N he=>⟨D a hy u,by rw[←Act.put_comm a v u h2];exact he⟩
    |halt x w' =>
      cases x<;>simp only[AF.upon] at h⊢
      case panic u=>exact hQ _ _ _ h
  rename_i hw;simp only[hw] at h;exact⟨D a hy _,by rw[←Act.put_comm a v AU h2];exact h⟩

def RA (P:AD)(md:Region.Mode)(ops:Array AF)(Q:AG→Act→AA→Prop)(m g:Nat):Nat→Array Bool→Act→AA→Prop
  |0,L,a,w=>(∀j∈Region.ready md ops L,m≤j)∧wpAny P md ops Q g L a w
  |f+1,L,a,w=>Region.ready md ops L≠[]∧
    ∀i∈Region.ready md ops L,if i<m then wpOp P ops Q i (fun a' w' =>Ext w w' ∧∀W,Ext w' W→RA P md ops Q m g f (L.setIfInBounds i true) a' W) a w
      else wpOp P ops Q i (wpAny P md ops Q (f+g) (L.setIfInBounds i true)) a w
def RE (P:AD)(md:Region.Mode)(ops:Array AF)(Q:AG→Act→AA→Prop)(m g f:Nat)(L:Array Bool)(a:Act)(w:AA):Prop:=
  ∀W,Ext w W→RA P md ops Q m g f L a W
theorem RE.ext {m g f:Nat}{L:Array Bool}{a:Act}{w w' :AA}(h:RE P md ops Q m g f L a w)(e:Ext w w'):RE P md ops Q m g f L a w' :=
  fun W hW=>h W (J10 e hW)
theorem RA.sound {m g:Nat}:∀(f:Nat) (L:Array Bool) (a:Act) (w:AA),RA P md ops Q m g f L a w→wpAny P md ops Q (f+g) L a w
  |0,_,_,_,h=>by rw[AP];exact h.2
  |f+1,_,_,_,h=>by
    rw[show f+1+g=(f+g)+1 by omega];refine⟨fun h0=>absurd h0 h.1,fun i hi=> ?_⟩;have:=h.2 i hi
    split at this
    · exact wpOp_mono (fun a' w' h' =>RA.sound f _ a' w' (h'.2 w' (J22 _))) this
    · exact this

def Q2p (md:Region.Mode)(ops:Array AF):Nat→Nat→Nat→Bool
  |0,_,_=>false
  |f+1,t,i=>Region.waitsFor md ops t i ||match ops[t]? with
    |some o=>o.after.any fun e=>Region.binds md e && Q2p md ops f e.on i
    |none=>false
def ClosedL (md:Region.Mode)(ops:Array AF)(L:Array Bool):Prop:=
  ∀(j:Nat) oj,ops[j]?=some oj→L.getD j false=true→∀e∈oj.after,Region.binds md e=true→L.getD e.on false=true
theorem J8t {L:Array Bool}(hc:ClosedL md ops L){i:Nat}:∀(f t:Nat) (ot:AF),ops[t]?=some ot→Q2p md ops f t i=true→
    (∀e∈ot.after,Region.binds md e=true→L.getD e.on false=true)→L.getD i false=true
  |0,_,_,_,h,_=>by cases h
  |f+1,t,ot,ht,h,hall=>by
    simp only[Q2p,Bool.or_eq_true] at h;rcases h with h|h
    · obtain⟨o',ho',e,he,hb,hon⟩:=Region.waitsFor_spec h
      have:o' =ot:=Af (ho'.symm.trans ht);subst this;rw[←hon];exact hall e he hb
    · rw[ht] at h
      obtain⟨e,he,hb⟩:=Array.any_eq_true'.1 h;simp only[Bool.and_eq_true] at hb;have hl:=hall e he hb.1;cases ho:ops[e.on]? with
      |none=>
        have hw:=hb.2;cases f with
        |zero=>cases hw
        |succ f=>simp[Q2p,Region.waitsFor,ho] at hw
      |some oe=>exact J8t hc f e.on oe ho hb.2 (fun e' he' hb' =>hc e.on oe ho hl e' he' hb')
theorem ClosedL.set {L:Array Bool}(hc:ClosedL md ops L){i:Nat}(hi:i∈Region.ready md ops L):ClosedL md ops (L.setIfInBounds i true):=by
  obtain⟨_,oi,J,G⟩:=mem_ready.1 hi;intro j oj hj hl e he hb
  by_cases D:i=j
  · subst D
    have:oj=oi:=Af (hj.symm.trans J);subst this;exact getD_set_true (G e he hb)
  rw[getD_set_ne false D] at hl;exact getD_set_true (hc j oj hj hl e he hb)
def Q0k (md:Region.Mode)(ops:Array AF)(m i:Nat):Bool:=(List.range ops.size).all fun t=>decide (t<m) ||Q2p md ops 7 t i
theorem J7e {m i:Nat}{L:Array Bool}(hcl:ClosedL md ops L)(ht:Q0k md ops m i=true)(hi:L.getD i true=false){j:Nat}(hj:j∈Region.ready md ops L):j<m:=by
  obtain⟨_,oj,D,G⟩:=mem_ready.1 hj;have J:j<ops.size:=(Array.getElem?_eq_some_iff.1 D).1;have h1:=List.all_eq_true.1 ht j (List.mem_range.2 J);simp only[Bool.or_eq_true,decide_eq_true_eq] at h1;rcases h1 with h1|h1
  · exact h1
  have h2:=J8t hcl 7 j oj D h1 G;rw[getD_both hi] at h2;cases h2
theorem Z78 {m g i:Nat}{oi:AF}{v:AB}(hi:ops[i]?=some oi)(hsel:∀(j:Nat) (o:AF) cs b,ops[j]?=some o→o.op≠ .select cs b)
    (hQ:∀c a w,Q (.panic c) (a.put oi.dst v) w→Q (.panic c) a w) (him:i<m) (ht:Q0k md ops m i=true):
    ∀(fuel:Nat)(L:Array Bool)(a:Act)(w:AA),ClosedL md ops L→
      (∀j oj,ops[j]?=some oj→j≠i→L.getD j true=false→(∀e∈oj.after,Region.binds md e=true→e.on≠i)→oi.apart ops oj=true)→
      i∈Region.ready md ops L→Yw P ops oi v a w→
      RE P md ops Q m g fuel (L.setIfInBounds i true) (a.put oi.dst v) w→RE P md ops Q m g (fuel+1) L a w:=by
  intro fuel
  induction fuel with
  |zero=>
    intro L a w N _ hr hy H W hW;refine⟨fun h=>(by rw[h] at hr;cases hr),fun j hj=> ?_⟩;have R:=J7e N ht (mem_ready.1 hr).1 hj;rw[if_pos R]
    by_cases D:j=i
    · subst D;exact(hy.ext hW).wpOp hi fun w' G=>⟨G,fun W' J=>H W' (J10 hW (J10 G J))⟩
    · have hm:=(H W hW).1 j (ready_mono hj D)
      omega
  |succ fuel ih=>
    intro L a w N M hr hy H W hW;refine⟨fun h=>(by rw[h] at hr;cases hr),fun j hj=> ?_⟩;have R:=J7e N ht (mem_ready.1 hr).1 hj;rw[if_pos R]
    by_cases D:j=i
    · subst D;exact(hy.ext hW).wpOp hi fun w' G=>⟨G,fun W' J=>H W' (J10 hW (J10 G J))⟩
    · have h1:=(H W hW).2 j (ready_mono hj D)
      rw[if_pos R] at h1;obtain⟨S,oj,T,X⟩:=mem_ready.1 hj
      have Y:∀e∈oj.after,Region.binds md e=true→e.on≠i:=fun e he hb α=>by
        have h1:=X e he hb;rw[α,getD_both (mem_ready.1 hr).1] at h1;cases h1
      have h2:=Z4u T (M j oj T D S Y) (fun cs b=>hsel i oi cs b hi) (fun cs b=>hsel j oj cs b T) hQ hy h1
      have hfree' :∀k ok,ops[k]?=some ok→k≠i→(L.setIfInBounds j true).getD k true=false→
          (∀e∈ok.after,Region.binds md e=true→e.on≠i)→oi.apart ops ok=true:=fun k ok hk β U Z=>by
        refine M k ok hk β ?_ Z
        by_cases V:j=k
        · subst V;exact S
        · rw[getD_set_ne true V] at U;exact U
      refine wpOp_mono (fun a' w' h3=>⟨h3.2.1,ih (L.setIfInBounds j true) a' w' (N.set hj) hfree' (ready_mono hr (Ne.symm D)) (h3.1.ext (J10 hW h3.2.1)) ?_⟩) h2;intro W' J;rw[Array.setIfInBounds_comm _ _ D];exact h3.2.2 W' J
def Z79 (o:AF):Bool:=match o.op with
  | .move _| .assign _| .extract _ _=>true
  |_=>false
theorem Yw.yields {o:AF}{v:AB}{a:Act}{w:AA}(h:Yw P ops o v a w)(ho:Z79 o=true):Yields P ops o v a:=by
  rcases h with⟨hw,hv⟩|h
  · refine .inl ⟨hw,fun W=> ?_⟩
    have h1:=hv w (J22 w);cases hop:o.op with
    |move x=>simp[AV,hop,J5r] at h1⊢;exact h1
    |assign x=>simp[AV,hop,J5r] at h1⊢;exact h1
    |extract x ix=>
      simp only[AV,hop] at h1⊢;unfold Instr.extract at h1⊢;cases hx:a.eval x with
      |tuple vs=>
        simp only[hx] at h1⊢;cases hv:vs[ix]? with
        |none=>simp[hv,J5r,stuck] at h1
        |some u=>simp[hv,J5r] at h1⊢;exact h1
      |_=>simp[hx,J5r,stuck] at h1
    |_=>simp[Z79,hop] at ho
  exact .inr h
theorem Z4v {m g i:Nat}{oi:AF}{v:AB}(hi:ops[i]?=some oi)(hsel:∀(j:Nat) (o:AF) cs b,ops[j]?=some o→o.op≠ .select cs b)
    (hQ:∀c a w,Q (.panic c) (a.put oi.dst v) w→Q (.panic c) a w) (him:i<m):
    ∀(fuel:Nat)(L:Array Bool)(a:Act)(w:AA),
      (∀j oj,ops[j]?=some oj→j≠i→L.getD j true=false→(∀e∈oj.after,Region.binds md e=true→e.on≠i)→oi.apart ops oj=true)→
      i∈Region.ready md ops L→Yields P ops oi v a→
      RE P md ops Q m g fuel (L.setIfInBounds i true) (a.put oi.dst v) w→RE P md ops Q m g (fuel+1) L a w:=by
  have Z:∀(F:Nat)(L:Array Bool)(a:Act)(W:AA)(j:Nat),j≠i→
      (∀j oj,ops[j]?=some oj→j≠i→L.getD j true=false→(∀e∈oj.after,Region.binds md e=true→e.on≠i)→oi.apart ops oj=true)→
      i∈Region.ready md ops L→j∈Region.ready md ops L→Yields P ops oi v a→
      wpOp P ops Q j (wpAny P md ops Q F ((L.setIfInBounds i true).setIfInBounds j true)) (a.put oi.dst v) W→wpOp P ops Q j (wpAny P md ops Q (F+1) (L.setIfInBounds j true)) a W:=by
    intro F L a W j D G hr hj hy h1;obtain⟨J,oj,M,T⟩:=mem_ready.1 hj
    have U:∀e∈oj.after,Region.binds md e=true→e.on≠i:=fun e he hb X=>by
      have h1:=T e he hb;rw[X,getD_both (mem_ready.1 hr).1] at h1;cases h1
    have h2:=wpOp_put M (G j oj M D J U) (fun cs b=>hsel i oi cs b hi) (fun cs b=>hsel j oj cs b M) hQ hy h1;refine wpOp_mono (fun a' w' h3=> ?_) h2;refine wpAny_first hi hsel hQ F (L.setIfInBounds j true) a' w' (fun k ok hk Y N V=> ?_) (ready_mono hr (Ne.symm D)) h3.1 ?_
    · refine G k ok hk Y ?_ V
      by_cases S:j=k
      · subst S;exact J
      · rw[getD_set_ne true S] at N;exact N
    · rw[Array.setIfInBounds_comm _ _ D]
      exact h3.2
  intro fuel
  induction fuel with
  |zero=>
    intro L a w G hr hy H W hW;refine⟨fun h=>(by rw[h] at hr;cases hr),fun j hj=> ?_⟩
    by_cases D:j=i
    · subst D;rw[if_pos him];exact hy.wpOp hi ⟨J22 _,fun W' R=>H W' (J10 hW R)⟩
    · have hm:=(H W hW).1 j (ready_mono hj D)
      rw[if_neg (by omega),AP];have h0:=(H W hW).2;cases g with
      |zero=>have:=h0.1;have h5:=ready_mono hj D;rw[this] at h5;cases h5
      |succ g=>exact Z g L a W j D G hr hj hy (h0.2 j (ready_mono hj D))
  |succ fuel ih=>
    intro L a w G hr hy H W hW;refine⟨fun h=>(by rw[h] at hr;cases hr),fun j hj=> ?_⟩
    by_cases D:j=i
    · subst D;rw[if_pos him];exact hy.wpOp hi ⟨J22 _,fun W' R=>H W' (J10 hW R)⟩
    · have h1:=(H W hW).2 j (ready_mono hj D)
      by_cases α:j<m
      · rw[if_pos α] at h1⊢
        obtain⟨J,oj,M,T⟩:=mem_ready.1 hj
        have U:∀e∈oj.after,Region.binds md e=true→e.on≠i:=fun e he hb X=>by
          have h1:=T e he hb;rw[X,getD_both (mem_ready.1 hr).1] at h1;cases h1
        have h2:=wpOp_put M (G j oj M D J U) (fun cs b=>hsel i oi cs b hi) (fun cs b=>hsel j oj cs b M) hQ hy h1;refine wpOp_mono (fun a' w' h3=>⟨h3.2.1,ih (L.setIfInBounds j true) a' w' (fun k ok hk Y N V=> ?_) (ready_mono hr (Ne.symm D)) h3.1 ?_⟩) h2
        · refine G k ok hk Y ?_ V
          by_cases S:j=k
          · subst S;exact J
          · rw[getD_set_ne true S] at N;exact N
        · intro W' R
          rw[Array.setIfInBounds_comm _ _ D];exact h3.2.2 W' R
      · rw[if_neg α] at h1⊢
        rw[show fuel+1+g=fuel+g+1 by omega];exact Z (fuel+g) L a W j D G hr hj hy h1

/-! ### The walk in the order of the text -/
def wpX (P:AD)(ops:Array AF)(w:AA)(E:Act→Prop):List AF→Act→Prop
  |[],a=>E a
  |o::l,a=> ∃v,Yw P ops o v a w∧wpX P ops w E l (a.put o.dst v)
def J07:Nat→Nat→Array Bool→Array Bool
  |0,_,L=>L
  |c+1,k,L=>J07 c (k+1) (L.setIfInBounds k true)
def Q2q (md:Region.Mode)(ops:Array AF)(m:Nat):Nat→Nat→Array Bool→Bool
  |0,_,_=>true
  |c+1,k,L=>(Region.ready md ops L).contains k && Region.free md ops L k && decide (k<m) &&(Q0k md ops m k ||((ops[k]?).map Z79==some true)) && Q2q md ops m c (k+1) (L.setIfInBounds k true)
theorem Z7a {m g f:Nat}{w:AA}(hs:Region.noSelect ops=true)(hQ:∀c a d v w,Q (.panic c) (a.put d v) w→Q (.panic c) a w):
    ∀(l:List AF)(k:Nat)(L:Array Bool)(a:Act),ClosedL md ops L→(∀j,j<l.length→l[j]?=ops[k+j]?)→Q2q md ops m l.length k L=true→
    wpX P ops w (fun a' =>RE P md ops Q m g f (J07 l.length k L) a' w) l a→RE P md ops Q m g (l.length+f) L a w
  |[],_,_,_,_,_,_,h=>by simpa[J07,wpX] using h
  |o::l,k,L,a,hcl,hl,hB,h=>by
    have h0:ops[k]?=some o:=by simpa using(hl 0 (by simp)).symm
    simp only[AY,Q2q,Bool.and_eq_true] at hB;obtain⟨⟨⟨⟨hr,hf⟩,hk⟩,ht⟩,G⟩:=hB;obtain⟨v,hy,hK⟩:=h;rw[AY,show l.length+1+f=(l.length+f)+1 by omega];have D:=(Z7a hs hQ l (k+1) _ _ (hcl.set (by simpa using hr)) (fun j hj=>by have:=hl (j+1) (by simpa using hj);simpa[Nat.add_assoc,Nat.add_comm 1 j] using this) G hK)
    simp only[Bool.or_eq_true,beq_iff_eq,h0,Option.map_some,Option.some.injEq] at ht;rcases ht with ht|ht
    · exact Z78 h0 (Region.noSelect_spec hs) (fun c a w h=>hQ c a _ _ w h) (by simpa using hk) ht (l.length+f) L a w hcl (Region.free_spec h0 hf) (by simpa using hr) hy D
    · exact Z4v h0 (Region.noSelect_spec hs) (fun c a w h=>hQ c a _ _ w h) (by simpa using hk) (l.length+f) L a w (Region.free_spec h0 hf) (by simpa using hr) (hy.yields ht) D
theorem J7f {id:Nat}{a:Act}{w:AA}{l:List AF}(m f g:Nat)(hm:P.follows .mixedOrders=true)
    (hB:(Region.noSelect l.toArray && decide (m+f+g=l.length) && Q2q .any l.toArray (m+f) m 0 (Array.replicate l.length false))=true)
    (hQ:∀c a d v w,Q (.panic c) (a.put d v) w→Q (.panic c) a w)
    (h:wpX P l.toArray w (fun a' =>RE P .any l.toArray Q (m+f) g f (J07 m 0 (Array.replicate l.length false)) a' w) (l.take m) a):(Code.region id l.toArray true).wp P Q a w:=by
  simp only[Bool.and_eq_true,decide_eq_true_eq] at hB;obtain⟨⟨hs,hn⟩,hx⟩:=hB;have D:(l.take m).length=m:=by simp;omega
  have h1:=Z7a (m:=m+f) (g:=g) (f:=f) (w:=w) (md:=.any) hs hQ (l.take m) 0 (Array.replicate l.length false) a
    (fun j oj _ hl=>by rw[getD_replicate_false] at hl;cases hl) (fun j hj=>by rw[D] at hj;simp[List.getElem?_take,hj]) (by rw[D];exact hx) (by rw[D];exact h)
  rw[D] at h1;have h2:=RA.sound _ _ _ _ (h1 {w with drawn:=w.drawn+1} ((Below.refl _ _).drew));refine wp_region_any hm ?_;rw[show l.toArray.size=m+f+g by simp;omega]
  simpa[hn] using h2
theorem J7g:∀c (a:Act) d v w,NoPanic Q (.panic c) (a.put d v) w→NoPanic Q (.panic c) a w:=fun _ _ _ _ _ h=>h
theorem Q66 {id:Nat}{a:Act}{w:AA}{l:List AF}(hm:P.follows .mixedOrders=true)
    (hB:(Region.noSelect l.toArray && Q2q .any l.toArray l.length l.length 0 (Array.replicate l.length false) && decide (Region.ready .any l.toArray (J07 l.length 0 (Array.replicate l.length false))=[]))=true)
    (h:wpX P l.toArray w (fun a' => ∀W,Ext w W→Q .normal a' W) l a):(Code.region id l.toArray true).wp P Q a w:=by
  simp only[Bool.and_eq_true,decide_eq_true_eq] at hB;refine wp_region_noPanic (J7f l.length 0 0 hm (by simp[hB.1.1,hB.1.2]) J7g ?_);rw[List.take_length]
  have D:∀(l' :List AF)(a:Act),wpX P l.toArray w (fun a' => ∀W,Ext w W→Q .normal a' W) l' a→
      wpX P l.toArray w (fun a' =>RE P .any l.toArray (NoPanic Q) (l.length+0) 0 0 (J07 l.length 0 (Array.replicate l.length false)) a' w) l' a:=by
    intro l'
    induction l' with
    |nil=>intro a h W hW;exact⟨fun j hj=>(by rw[hB.2] at hj;cases hj),hB.2,h W hW⟩
    |cons o l' ih=>intro a ⟨v,hy,hk⟩;exact⟨v,hy,ih _ hk⟩
  exact D l a h
theorem J9j {id:Nat}{a:Act}{w:AA}{l:List AF}(m:Nat)(hm:P.follows .mixedOrders=true)
    (hB:(Region.noSelect l.toArray && Q2q .any l.toArray m m 0 (Array.replicate l.length false) && decide (m≤l.length) &&
      (Region.ready .any l.toArray (J07 m 0 (Array.replicate l.length false))).all (fun j=>decide (m≤j)) &&
      Region.seqB .any l.toArray (l.length-m) m (J07 m 0 (Array.replicate l.length false)))=true)
    (h:wpX P l.toArray w (fun a' => ∀W,Ext w W→AC P l.toArray (NoPanic Q) (l.drop m) a' W) (l.take m) a):(Code.region id l.toArray true).wp P Q a w:=by
  simp only[Bool.and_eq_true,decide_eq_true_eq] at hB;obtain⟨⟨⟨⟨hs,hx⟩,G⟩,hr⟩,hq⟩:=hB;refine wp_region_noPanic (J7f m 0 (l.length-m) hm (by simp only[Bool.and_eq_true,decide_eq_true_eq];exact⟨⟨hs,by omega⟩,hx⟩) J7g ?_)
  have D:∀(l' :List AF)(a:Act),wpX P l.toArray w (fun a' => ∀W,Ext w W→AC P l.toArray (NoPanic Q) (l.drop m) a' W) l' a→
      wpX P l.toArray w (fun a' =>RE P .any l.toArray (NoPanic Q) (m+0) (l.length-m) 0 (J07 m 0 (Array.replicate l.length false)) a' w) l' a:=by
    intro l'
    induction l' with
    |nil=>
      intro a h W hW;refine⟨fun j hj=>by simpa using List.all_eq_true.1 hr j hj,?_⟩;have:=wpAny_of_seq (P:=P) (md:=.any) (ops:=l.toArray) (Q' :=NoPanic Q) (l.drop m) m _ a W (fun j=>by simp[List.getElem?_drop]) (by rw[AZ];exact hq) (h W hW)
      rwa [AZ] at this
    |cons o l' ih=>intro a ⟨v,hy,hk⟩;exact⟨v,hy,ih _ hk⟩
  exact D _ a h

/-! ### One operation of the walk -/
section
variable {w : AA} {E : Act → Prop} {l : List AF} {o : AF} {a : Act}
theorem J0o (h:E a):wpX P ops w E [] a:=h
theorem Z7b (hw:AX o (yielded ops a.tmps)=false)(h:wpX P ops w E l (a.put o.dst AU)):wpX P ops w E (o::l) a:=⟨AU,.inr ⟨hw,rfl⟩,h⟩
theorem J3x {v:AB}(hw:AX o (yielded ops a.tmps)=true)(hv:∀W,Ext w W→(AV a.eval o).run P W=.ok (.value v) W)
    (h:wpX P ops w E l (a.put o.dst v)):wpX P ops w E (o::l) a:=
  ⟨v,.inl ⟨hw,fun W hW=>by rw[hv W hW];exact⟨rfl,rfl⟩⟩,h⟩
theorem Z7c {v:AB}{f:FuncId}{args:Array AB}(hw:AX o (yielded ops a.tmps)=true)(he:∀W,(AV a.eval o).run P W=.ok (.enter f args) W)
    (hc:∀W,Ext w W→Calls P f args W (fun e W'' =>e=.returned v∧Ext W W''))
    (h:wpX P ops w E l (a.put o.dst v)):wpX P ops w E (o::l) a:=
  ⟨v,.inl ⟨hw,fun W hW=>by rw[he W];exact⟨rfl,hc W hW⟩⟩,h⟩
def Q2r (P:AD)(f:FuncId):Bool:=match P.funcs[f]? with
  | some fn => fn.body.isSome && !(fn.name == "runtime.NumGoroutine")
  |none=>false
theorem J90 {ρ:Operand→Value}{o:Oper}{f:FuncId}{xl:List Operand}{ts:Array TypeId}(ho:o.op=.call {callee:=.value (.func f),args:=xl.toArray,argTypes:=ts})
    (hf:ρ (.func f)=.func (.func f) #[] #[]) (hg:Q2r P f=true) (W:World):(execOp ρ o).run P W=.ok (.enter f (xl.map ρ).toArray) W:=by
  unfold Q2r at hg;cases hfn:P.funcs[f]? with
  |none=>simp[hfn] at hg
  |some fn=>
    simp only[hfn,Bool.and_eq_true,Bool.not_eq_true'] at hg;obtain⟨hb,hn⟩:=hg;cases hbd:fn.body with
    |none=>simp[hbd] at hb
    |some c=>
      have h1 : ¬ fn.name = "runtime.NumGoroutine" := by simpa using hn
      simp[AV,ho,resolve,hf,Deferred.ofValue,invoke,callFunc,hfn,h1,hbd]
theorem Z7d {v:Value}{f:FuncId}{xl:List Operand}{ts:Array TypeId}{args:Array Value}(hc:∀W,Ext w W→Calls P f args W (fun e W'' =>V4 v W W'' e))(hw:Region.wanted o (yielded ops a.tmps)=true)
    (ho:o.op=.call {callee:=.value (.func f),args:=xl.toArray,argTypes:=ts}) (hg:Q2r P f=true) (ha:(xl.map a.eval).toArray=args)
    (h:wpX P ops w E l (a.put o.dst v)):wpX P ops w E (o::l) a:=
  Z7c hw (fun W=>by rw[J90 ho rfl hg W,ha]) hc h
theorem Z7e {b:Nat}{cs:Array AB}{ty:AE}{x:AW}(hw:AX o (yielded ops a.tmps)=true)(ho:o.op=.load ty x)(hx:a.eval x=.pointer (some ⟨b,0,none⟩))
    (hB:Rd w b cs) (hk:(P.underlying ty).map TypeDesc.isRow=some true) (hi:(P.info? ty).map (·.size)=some cs.size)
    (h:wpX P ops w E l (a.put o.dst (.agg cs))):wpX P ops w E (o::l) a:=by
  refine J3x hw (fun W hW=> ?_) h;cases hu:P.underlying ty with
  |none=>simp[hu] at hk
  |some d=>
    have hd:d.isRow=true:=by simpa[hu] using hk
    have hc:=(hB.ext hW).range;unfold AV;simp only[ho,hx];simp[Instr.loadAt,Instr.sureAddr,Sem.run_bind,Sem.run_pure,Result.andThen_ok,run_loadVar_mid W b 0 ty cs.toList d hc hu hd (by simpa using hi)]
end
end

/-! ### New variables, in whatever order -/
structure NewOp where
  i:Nat
  d:Tmp
  z:Array AB
  t:AE
section
variable {P : AD} {ops : Array AF} {Q : AG → Act → AA → Prop} {md : Region.Mode}
def Q50 (P:AD)(ops:Array AF)(x:NewOp):Prop:=
  ∃o,ops[x.i]?=some o∧o.guard=none∧o.dst=some x.d∧∀ρ W,(AV ρ o).run P W=.ok (.value (.pointer (some ⟨W.heap.size,0,none⟩))) (W.alloc (.cells x.z x.t))
def J0j:List NewOp→(Nat→Nat)→Act→Act
  |[],_,a=>a
  |x::xs,β,a=>J0j xs β (a.put (some x.d) (.pointer (some ⟨β x.i,0,none⟩)))
def Q51 (md:Region.Mode)(ops:Array AF)(Lend:Array Bool):Nat→List Nat→Array Bool→Bool
  |0,is,L=>is.isEmpty && decide (L=Lend)
  |f+1,is,L=> !(Region.ready md ops L).isEmpty &&(Region.ready md ops L).all fun i=>is.contains i && Q51 md ops Lend f (is.filter (· !=i)) (L.setIfInBounds i true)
theorem J8u:∀(xs:List NewOp) (β:Nat→Nat) (a:Act) (x:NewOp),x∈xs→(xs.map (·.i)).Nodup→(xs.map (·.d)).Nodup→
    J0j (xs.filter fun y=>y.i !=x.i) β (a.put (some x.d) (.pointer (some ⟨β x.i,0,none⟩)))=J0j xs β a
  |[],_,_,_,h,_,_=>by cases h
  |y::ys,β,a,x,h,hn,hd=>by
    simp only[Ac,List.nodup_cons,List.mem_map,not_exists,not_and] at hn hd;rcases Ad.1 h with rfl|h
    · have:(ys.filter fun z=>z.i !=x.i)=ys:=List.filter_eq_self.2 fun z hz=>by
        have:=hn.1 z hz
        simpa using this
      rw[List.filter_cons_of_neg (by simp),this,J0j]
    · have hne:y.i≠x.i:=fun e=>hn.1 x h e.symm
      have G:y.d≠x.d:=fun e=>hd.1 x h e.symm;rw[List.filter_cons_of_pos (by simpa using hne),J0j,J0j,←J8u ys β (a.put (some y.d) _) x h hn.2 hd.2];rw[Act.put_comm a _ _ (fun d D h2=>G ((Af D).trans (Af h2).symm))]
theorem Z2b {m g:Nat}(Lend:Array Bool):∀(f:Nat) (xs:List NewOp) (L:Array Bool) (a:Act) (w:AA),xs.length=f→(∀x∈xs,Q50 P ops x)→
    (xs.map (·.i)).Nodup→(xs.map (·.d)).Nodup→(∀x∈xs,x.i<m)→Q51 md ops Lend f (xs.map (·.i)) L=true→
    (∀(β:Nat→Nat)(W:AA),Ext w W→(∀x∈xs,w.heap.size≤β x.i∧Blk W (β x.i) x.z x.t)→(∀x∈xs,∀y∈xs,x.i≠y.i→β x.i≠β y.i)→
      (∀j∈Region.ready md ops Lend,m≤j)∧wpAny P md ops Q g Lend (J0j xs β a) W)→
    RE P md ops Q m g f L a w
  |0,xs,L,a,w,hl,_,_,_,_,hB,h=>by
    intro W hW;obtain rfl:xs=[]:=List.eq_nil_of_length_eq_zero hl;simp only[Q51,Bool.and_eq_true,decide_eq_true_eq] at hB;obtain⟨_,rfl⟩:=hB;exact h (fun _=>0) W hW (fun x hx=>by cases hx) (fun x hx=>by cases hx)
  |f+1,xs,L,a,w,hl,hok,hn,hd,hm,hB,h=>by
    intro W hW;simp only[Q51,Bool.and_eq_true,Bool.not_eq_true',List.all_eq_true] at hB;refine⟨fun e=>(by rw[e] at hB;simp at hB),fun i hi=> ?_⟩;obtain⟨hc,hB'⟩:=hB.2 i hi;simp only[List.contains_eq_mem,decide_eq_true_eq,List.mem_map] at hc;obtain⟨x,hx,rfl⟩:=hc;rw[if_pos (hm x hx)];obtain⟨o,ho,hg,hdst,hrun⟩:=hok x hx;have hwant:AX o (yielded ops a.tmps)=true:=by unfold AX;rw[hg]
    unfold wpOp;simp only[ho,hwant,if_true];refine .inl ?_;unfold AF.wp;rw[hrun];simp only[AF.upon,hdst];have hE:Ext W (W.alloc (.cells x.z x.t)):=(Below.refl _ _).alloc (AM _) _;refine⟨hE,?_⟩
    have U:(xs.filter fun y=>y.i !=x.i).length=f:=by
      have:∀(l:List NewOp),(l.map (·.i)).Nodup→x∈l→(l.filter fun y=>y.i !=x.i).length+1=l.length:=by
        intro l
        induction l with
        |nil=>intro _ h;cases h
        |cons y ys ih=>
          intro hn h;simp only[Ac,List.nodup_cons,List.mem_map,not_exists,not_and] at hn;rcases Ad.1 h with rfl|h
          · have:(ys.filter fun z=>z.i !=x.i)=ys:=List.filter_eq_self.2 fun z hz=>by
              have:=hn.1 z hz
              simpa using this
            rw[List.filter_cons_of_neg (by simp),this,AY]
          · have D:y.i≠x.i:=fun e=>hn.1 x h e.symm
            rw[List.filter_cons_of_pos (by simpa using D),AY,AY,ih hn.2 h]
      have:=this xs hn hx;omega
    have M:(xs.filter fun y=>y.i !=x.i).map (·.i)=(xs.map (·.i)).filter (· !=x.i):=by
      rw[List.filter_map];rfl
    have S:((xs.filter fun y=>y.i !=x.i).map (·.d)).Sublist (xs.map (·.d)):=List.Sublist.map _ List.filter_sublist
    refine Z2b Lend f (xs.filter fun y=>y.i !=x.i) (L.setIfInBounds x.i true) _ _ U (fun y hy=>hok y ((List.mem_filter.1 hy).1))
      (by rw[M];exact List.Nodup.sublist List.filter_sublist hn) (hd.sublist S) (fun y hy=>hm y (List.mem_filter.1 hy).1) (by rw[M];exact hB') ?_
    intro β W' R J T
    have N:∀y∈xs.filter (fun y=>y.i !=x.i),β y.i≠W.heap.size:=fun y hy=>by
      have:=(J y hy).1;simp only[AA.size_alloc] at this;omega
    have h1:=h (fun k=>if k=x.i then W.heap.size else β k) W' (J10 hW (J10 hE R)) (fun y hy=>by
        by_cases e:y.i=x.i
        · have:y=x:=by
            have:∀(l:List NewOp),(l.map (·.i)).Nodup→x∈l→y∈l→y=x:=by
              intro l
              induction l with
              |nil=>intro _ h;cases h
              |cons z zs ih=>
                intro hn h h';simp only[Ac,List.nodup_cons,List.mem_map,not_exists,not_and] at hn;rcases Ad.1 h with h|h<;>rcases Ad.1 h' with h' |h'
                · rw[h',h]
                · exact absurd (h▸e) (hn.1 y h')
                · exact absurd (h' ▸e).symm (hn.1 x h)
                · exact ih hn.2 h h'
            exact this xs hn hx hy
          subst this;rw[if_pos rfl];exact⟨hW.size,J3 (Y4 _ _ rfl) R⟩
        · rw[if_neg e]
          have:=J y (List.mem_filter.2 ⟨hy,by simpa using e⟩)
          exact⟨Ae (Ae hW.size hE.size) this.1,this.2⟩)
      (fun y hy z hz D=>by
        by_cases ey:y.i=x.i<;>by_cases ez:z.i=x.i
        · exact absurd (ey.trans ez.symm) D
        · rw[if_pos ey,if_neg ez];exact fun e=>N z (List.mem_filter.2 ⟨hz,by simpa using ez⟩) e.symm
        · rw[if_neg ey,if_pos ez];exact N y (List.mem_filter.2 ⟨hy,by simpa using ey⟩)
        rw[if_neg ey,if_neg ez];exact T y (List.mem_filter.2 ⟨hy,by simpa using ey⟩) z (List.mem_filter.2 ⟨hz,by simpa using ez⟩) D)
    refine⟨h1.1,?_⟩;have h2:=h1.2;rw[←J8u xs _ a x hx hn hd] at h2;simp only[if_pos] at h2
    have G:∀(l:List NewOp)(a:Act),(∀y∈l,y.i≠x.i)→J0j l (fun k=>if k=x.i then W.heap.size else β k) a=J0j l β a:=by
      intro l
      induction l with
      |nil=>intro a _;rfl
      |cons y ys ih=>
        intro a hy;rw[J0j,J0j,if_neg (hy y (by simp)),ih _ (fun z hz=>hy z (by simp[hz]))]
    rw[G _ _ (fun y hy=>by have:=(List.mem_filter.1 hy).2;simpa using this)] at h2;exact h2
theorem J9k {id:Nat}{a:Act}{w:AA}{l:List AF}(m:Nat)(xs:List NewOp)(hm:P.follows .mixedOrders=true)
    (hok:∀x∈xs,Q50 P l.toArray x)
    (hB:(Region.noSelect l.toArray && Q2q .any l.toArray (m+xs.length) m 0 (Array.replicate l.length false) && decide (m+xs.length≤l.length) && decide (xs.map (·.i)).Nodup && decide (xs.map (·.d)).Nodup && xs.all (fun x=>decide (x.i<m+xs.length)) &&
      Q51 .any l.toArray (J07 (m+xs.length) 0 (Array.replicate l.length false)) xs.length (xs.map (·.i)) (J07 m 0 (Array.replicate l.length false)) &&
      (Region.ready .any l.toArray (J07 (m+xs.length) 0 (Array.replicate l.length false))).all (fun j=>decide (m+xs.length≤j)) &&
      Region.seqB .any l.toArray (l.length-(m+xs.length)) (m+xs.length) (J07 (m+xs.length) 0 (Array.replicate l.length false)))=true)
    (h:wpX P l.toArray w (fun a' => ∀(β:Nat→Nat)(W:AA),Ext w W→(∀x∈xs,w.heap.size≤β x.i∧Blk W (β x.i) x.z x.t)→(∀x∈xs,∀y∈xs,x.i≠y.i→β x.i≠β y.i)→
      AC P l.toArray (NoPanic Q) (l.drop (m+xs.length)) (J0j xs β a') W) (l.take m) a):(Code.region id l.toArray true).wp P Q a w:=by
  simp only[Bool.and_eq_true,decide_eq_true_eq] at hB;obtain⟨⟨⟨⟨⟨⟨⟨⟨hs,hx⟩,M⟩,hn⟩,hd⟩,G⟩,J⟩,hr⟩,hq⟩:=hB;refine wp_region_noPanic (J7f m xs.length (l.length-(m+xs.length)) hm (by simp only[Bool.and_eq_true,decide_eq_true_eq];exact⟨⟨hs,by omega⟩,hx⟩) J7g ?_)
  have D:∀(l' :List AF)(a:Act),wpX P l.toArray w (fun a' => ∀(β:Nat→Nat)(W:AA),Ext w W→(∀x∈xs,w.heap.size≤β x.i∧Blk W (β x.i) x.z x.t)→(∀x∈xs,∀y∈xs,x.i≠y.i→β x.i≠β y.i)→
      AC P l.toArray (NoPanic Q) (l.drop (m+xs.length)) (J0j xs β a') W) l' a→
      wpX P l.toArray w (fun a' =>RE P .any l.toArray (NoPanic Q) (m+xs.length) (l.length-(m+xs.length)) xs.length (J07 m 0 (Array.replicate l.length false)) a' w) l' a:=by
    intro l'
    induction l' with
    |nil=>
      intro a h;refine Z2b (J07 (m+xs.length) 0 (Array.replicate l.length false)) _ xs _ _ _ rfl hok hn hd (fun x hx=>by simpa using List.all_eq_true.1 G x hx) J fun β W hW h1 h2=>⟨fun j hj=>by simpa using List.all_eq_true.1 hr j hj,?_⟩
      have:=wpAny_of_seq (P:=P) (md:=.any) (ops:=l.toArray) (Q' :=NoPanic Q) (l.drop (m+xs.length)) (m+xs.length) _ (J0j xs β a) W (fun j=>by simp[List.getElem?_drop]) (by rw[AZ];exact hq) (h β W hW h1 h2)
      rwa [AZ] at this
    |cons o l' ih=>intro a ⟨v,hy,hk⟩;exact⟨v,hy,ih _ hk⟩
  exact D _ a h
end
end

section
section
variable {P : AD} {ops : Array AF} {Q : AG → Act → AA → Prop}
theorem Yx.wp {o:AF}{a:Act}{w W:AA}{v:AB}(hy:Yx P o a w v)(hW:Ext w W){K:Act→AA→Prop}(h:∀w',Ext W w' →K (a.put o.dst v) w'):o.wp P a W K Q:=by
  have h1:=hy W hW;unfold AF.wp;generalize (AV a.eval o).run P W=r at*;cases r with
  |ok n w' =>
    cases n<;>simp only[J5r] at h1<;>simp only[AF.upon]
    case value u=>obtain⟨rfl,rfl⟩:=h1;exact h _ (J22 _)
    case skip=>obtain⟨rfl,rfl⟩:=h1;exact h _ (J22 _)
    case enter f args=>
      obtain⟨rfl,hc⟩:=h1;exact hc.mono fun e w'' ⟨he,hw''⟩=>by subst he;exact h _ hw''
  |halt x w' =>simp only[J5r] at h1
theorem Q2s {w:AA}{rest:List AF}:∀(l:List AF) (a:Act),wpX P ops w (fun a' => ∀W,Ext w W→AC P ops Q rest a' W) l a→∀W,Ext w W→AC P ops Q (l++rest) a W
  |[],_,h,W,hW=>h W hW
  |o::l,a,⟨v,hy,hk⟩,W,hW=>by
    show AC P ops Q (o::(l++rest)) a W;unfold AC;rcases hy with⟨hw,hv⟩|⟨hw,rfl⟩
    · rw[if_pos hw]
      exact .inl (hv.wp hW fun w' hw' =>Q2s l _ hk w' (J10 hW hw'))
    · rw[if_neg (by rw[hw];exact Bool.false_ne_true)]
      exact Q2s l _ hk W hW
theorem Q52 {l:List AF}:∀(xs:List NewOp) (m:Nat) (a:Act) (W:AA),(∀x∈xs,Q50 P l.toArray x)→xs.map (·.i)=List.range' m xs.length→
    (∀(β:Nat→Nat)(W' :AA),Ext W W' →(∀x∈xs,W.heap.size≤β x.i∧Blk W' (β x.i) x.z x.t)→(∀x∈xs,∀y∈xs,x.i≠y.i→β x.i≠β y.i)→
      AC P l.toArray Q (l.drop (m+xs.length)) (J0j xs β a) W')→AC P l.toArray Q (l.drop m) a W
  |[],_,_,W,_,_,h=>h (fun _=>0) W (J22 _) (fun x hx=>by cases hx) (fun x hx=>by cases hx)
  |x::xs,m,a,W,hok,hi,h=>by
    simp only[Ac,AY,List.range'_succ,List.cons.injEq] at hi;obtain⟨hxi,hi⟩:=hi;obtain⟨o,ho,hg,hdst,hrun⟩:=hok x (by simp);have ho' :l[m]?=some o:=by rw[←hxi];simpa using ho
    have hm:m<l.length:=(List.getElem?_eq_some_iff.1 ho').1;have S:l[m]=o:=by rw[List.getElem?_eq_getElem hm] at ho';exact Af ho'
    rw[List.drop_eq_getElem_cons hm,S];unfold AC;have G:AX o (yielded l.toArray a.tmps)=true:=by unfold AX;rw[hg]
    rw[if_pos G];refine .inl ?_;unfold AF.wp;rw[hrun];simp only[AF.upon,hdst];have hE:Ext W (W.alloc (.cells x.z x.t)):=(Below.refl _ _).alloc (AM _) _
    have M:∀y∈xs,y.i≠x.i:=fun y hy=>by
      have:y.i∈List.range' (m+1) xs.length:=by rw[←hi];exact List.mem_map.2 ⟨y,hy,rfl⟩
      have:=(List.mem_range'_1.1 this).1;omega
    refine Q52 xs (m+1) _ _ (fun y hy=>hok y (by simp[hy])) hi fun β W' N hb hd=> ?_
    have J:∀y∈xs,β y.i≠W.heap.size:=fun y hy=>by
      have:=(hb y hy).1;simp only[AA.size_alloc] at this;omega
    have h1:=h (fun k=>if k=x.i then W.heap.size else β k) W' (J10 hE N) (fun y hy=>by
        rcases Ad.1 hy with rfl|hy
        · rw[if_pos rfl];exact⟨AM _,J3 (Y4 _ _ rfl) N⟩
        · rw[if_neg (M y hy)];exact⟨Ae hE.size (hb y hy).1,(hb y hy).2⟩)
      (fun y hy z hz R=>by
        by_cases ey:y.i=x.i<;>by_cases ez:z.i=x.i
        · exact absurd (ey.trans ez.symm) R
        · have hz' :z∈xs:=(Ad.1 hz).resolve_left fun e=>ez (by rw[e])
          rw[if_pos ey,if_neg ez];exact fun e=>J z hz' e.symm
        · have hy' :y∈xs:=(Ad.1 hy).resolve_left fun e=>ey (by rw[e])
          rw[if_neg ey,if_pos ez];exact J y hy'
        · have hz' :z∈xs:=(Ad.1 hz).resolve_left fun e=>ez (by rw[e])
          have hy' :y∈xs:=(Ad.1 hy).resolve_left fun e=>ey (by rw[e])
          rw[if_neg ey,if_neg ez];exact hd y hy' z hz' R)
    have D:∀(l:List NewOp)(a:Act),(∀y∈l,y.i≠x.i)→J0j l (fun k=>if k=x.i then W.heap.size else β k) a=J0j l β a:=by
      intro l
      induction l with
      |nil=>intro a _;rfl
      |cons y ys ih=>
        intro a hy;rw[J0j,J0j,if_neg (hy y (by simp)),ih _ (fun z hz=>hy z (by simp[hz]))]
    rw[J0j,if_pos rfl,D xs _ M,AY,show m+(xs.length+1)=m+1+xs.length by omega] at h1;exact h1
theorem J6g {id:Nat}{a:Act}{w:AA}{l:List AF}(m:Nat)(xs:List NewOp)(hok:∀x∈xs,Q50 P l.toArray x)(hi:(decide (m≤l.length) && decide (xs.map (·.i)=List.range' m xs.length))=true)
    (h:wpX P l.toArray w (fun a' => ∀(β:Nat→Nat)(W:AA),Ext w W→(∀x∈xs,w.heap.size≤β x.i∧Blk W (β x.i) x.z x.t)→(∀x∈xs,∀y∈xs,x.i≠y.i→β x.i≠β y.i)→
      AC P l.toArray Q (l.drop (m+xs.length)) (J0j xs β a') W) (l.take m) a):(Code.region id l.toArray false).wp P Q a w:=by
  simp only[Bool.and_eq_true,decide_eq_true_eq] at hi;refine wp_region_lit ?_
  have D:∀(l' :List AF)(a:Act),wpX P l.toArray w (fun a' => ∀(β:Nat→Nat)(W:AA),Ext w W→(∀x∈xs,w.heap.size≤β x.i∧Blk W (β x.i) x.z x.t)→(∀x∈xs,∀y∈xs,x.i≠y.i→β x.i≠β y.i)→
      AC P l.toArray Q (l.drop (m+xs.length)) (J0j xs β a') W) l' a→wpX P l.toArray w (fun a' => ∀W,Ext w W→AC P l.toArray Q (l.drop m) a' W) l' a:=by
    intro l'
    induction l' with
    |nil=>
      intro a h W hW;exact Q52 xs m a W hok hi.2 fun β W' G h1 h2=>h β W' (J10 hW G) (fun x hx=>⟨Ae hW.size (h1 x hx).1,(h1 x hx).2⟩) h2
    |cons o l' ih=>intro a ⟨v,hy,hk⟩;exact⟨v,hy,ih _ hk⟩
  have:=Q2s (rest:=l.drop m) (l.take m) a (D _ _ h) w (J22 _)
  rwa [List.take_append_drop] at this
theorem J62 {ρ:AW→AB}{o:AF}{t t2:AE}{x y:AW}{xs ys:Array AB}{b:Bool}{W:AA}(hv:(Op.equalIn 10000 t (.agg xs) (.agg ys)).run P W=.ok b W)(hg:P.eqGuardType P.depth t=false)
    (ho:o.op=.binOp .eql t x y t2) (hx:ρ x=.agg xs) (hy:ρ y=.agg ys):(AV ρ o).run P W=.ok (.value (.bool b)) W:=by
  simp[AV,ho,hx,hy,eqGuard,hg,binOp,Op.equal,Op.maxDepth,hv,go_sem]
/-! ### What comes last in a region -/
section
variable {w : AA} {l : List AF} {o : AF} {a : Act}
theorem V5 (h:Q .normal a w):AC P ops Q [] a w:=h
theorem Q87 (hw:AX o (yielded ops a.tmps)=false)(h:AC P ops Q l (a.put o.dst AU) w):AC P ops Q (o::l) a w:=by
  unfold AC;rw[if_neg (by rw[hw];exact Bool.false_ne_true)];exact h
theorem J2r {v:AB}(hw:AX o (yielded ops a.tmps)=true)(hv:(AV a.eval o).run P w=.ok (.value v) w)(h:AC P ops Q l (a.put o.dst v) w):AC P ops Q (o::l) a w:=by
  unfold AC;rw[if_pos hw];refine .inl ?_;unfold AF.wp;rw[hv];exact h
theorem Q53 {ty:AE}{x y:AW}{g:Nat}{cells old:Array AB}{t:AE}(hw:AX o (yielded ops a.tmps)=true)(ho:o.op=.store ty x y)
    (hx:a.eval x=.pointer (some ⟨g,0,none⟩)) (hy:a.eval y=.agg cells) (hB:Blk w g old t) (hi:(P.info? ty).map (·.size)=some cells.size) (hs:old.size=cells.size)
    (h1:cells.all (·.oneCell')=true) (h:AC P ops Q l (a.put o.dst AU) (w.setRow g cells)):AC P ops Q (o::l) a w:=by
  unfold AC;rw[if_pos hw];exact .inl (wp_store_row ty x y ho g cells hx hy t old hB hi hs h1 h)
end
theorem Z5 {fn:Func}{p:Tmp}{ty t:AE}{tmps:Array AB}{w:AA}{g:Nat}{cs:Array AB}(h:fn.results= #[.cell p ty])
    (hp:tmps.getD p AU=.pointer (some ⟨g,0,none⟩)) (hB:Blk w g cs t) (hk:(P.underlying ty).map TypeDesc.isRow=some true) (hi:(P.info? ty).map (·.size)=some cs.size):
    (results fn tmps).run P w=.ok (.agg cs) w:=by
  cases hu:P.underlying ty with
  |none=>simp[hu] at hk
  |some d=>
    have hd:d.isRow=true:=by simpa[hu] using hk
    exact results_cell_row h tmps w g t cs _ d hp hB hu (by cases d<;>simp_all [TypeDesc.isRow]) hi
theorem J23 {fn:Func}{p q:Tmp}{ty t:AE}{tmps:Array AB}{w:AA}{g:Nat}{cs:Array AB}{v:AB}(h:fn.results= #[.cell p ty,.tmp q])
    (hp:tmps.getD p AU=.pointer (some ⟨g,0,none⟩)) (hq:tmps.getD q AU=v) (hB:Blk w g cs t) (hk:(P.underlying ty).map TypeDesc.isRow=some true) (hi:(P.info? ty).map (·.size)=some cs.size):
    (results fn tmps).run P w=.ok (.tuple #[.agg cs,v]) w:=by
  cases hu:P.underlying ty with
  |none=>simp[hu] at hk
  |some d=>
    have hd:d.isRow=true:=by simpa[hu] using hk
    have hp' :tmps[p]?.getD AU=.pointer (some ⟨g,0,none⟩):=by simpa using hp
    have hq' :tmps[q]?.getD AU=v:=by simpa using hq
    simp[results,h,hp',hq',asAddr,run_loadVar_row w g t ty cs _ d hB hu (by cases d<;>simp_all [TypeDesc.isRow]) hi]
end
end

section
section
variable {P : AD} {ops : Array AF} {w : AA} {E : Act → Prop} {l : List AF} {o : AF} {a : Act}
end

/-! ### Short forms: what is told by itself is filled in -/
section
variable {P : AD} {ops : Array AF} {w : AA} {E : Act → Prop} {l l1 l2 : List AF} {o : AF} {a a' : Act} {Q : AG → Act → AA → Prop}
theorem Xv {v:Value}(h:wpX P ops w E l a')(hw:Region.wanted o (yielded ops a.tmps)=true:=by exact rfl)(hv:∀W,Ext w W→(execOp a.eval o).run P W=.ok (.value v) W:=by intro W hW;(go_simp;first|done|with_reducible rfl))(hp:a.put o.dst v=a' :=by first|exact pl (by dsimp only[mB,mC];first|done|exact rfl)|exact pn|exact rfl):wpX P ops w E (o::l) a:=by
  subst hp;exact J3x hw hv h
theorem Xw {v:Value}(h:wpX P ops w E l a')(hw:Region.wanted o (yielded ops a.tmps)=true:=by exact rfl)(hv:∀W,Ext w W→(execOp a.eval o).run P W=.ok (.value v) W:=by intro _ _;first|rfl|(go_simp;done)|(go_simp;with_reducible rfl))(hp:a.put o.dst v=a' :=by first|exact pl (by dsimp only[mB,mC];first|done|exact rfl)|exact pn|exact rfl):wpX P ops w E (o::l) a:=by
  subst hp;exact J3x hw hv h
theorem XR {b:Nat}{cs:Array Value}{ty:TypeId}{x:Operand}(h:wpX P ops w E l a')(hB:Rd w b cs)(hw:Region.wanted o (yielded ops a.tmps)=true:=by exact rfl)(ho:o.op=.load ty x:=by exact rfl)(hx:a.eval x=.pointer (some ⟨b,0,none⟩):=by exact rfl)
    (hk:(P.underlying ty).map TypeDesc.isRow=some true:=by as_aux_lemma=>kernel_rfl) (hi:(P.info? ty).map (·.size)=some cs.size:=by kernel_rfl) (hp:a.put o.dst (.agg cs)=a' :=by first|exact pl (by dsimp only[mB,mC];first|done|exact rfl)|exact pn|exact rfl):wpX P ops w E (o::l) a:=by
  subst hp;exact Z7e hw ho hx hB hk hi h
theorem XlA {b:Nat}{cs:Array Value}{t ty:TypeId}{x:Operand}(h:wpX P ops w E l a')(hB:Blk w b cs t)(hw:Region.wanted o (yielded ops a.tmps)=true:=by exact rfl)(ho:o.op=.load ty x:=by exact rfl)(hx:a.eval x=.pointer (some ⟨b,0,none⟩):=by exact rfl)
    (hk:(P.underlying ty).map TypeDesc.isRow=some true:=by as_aux_lemma=>kernel_rfl) (hi:(P.info? ty).map (·.size)=some cs.size:=by rw[J1];kernel_rfl) (hp:a.put o.dst (.agg cs)=a' :=by first|exact pl (by dsimp only[mB,mC];first|done|exact rfl)|exact pn|exact rfl):wpX P ops w E (o::l) a:=
  XR h (Z77 hB) hw ho hx hk hi hp
theorem XL {b:Nat}{cs:Array Value}{ty:TypeId}{x:Operand}(h:wpX P ops w E l a')(hw:Region.wanted o (yielded ops a.tmps)=true:=by exact rfl)(ho:o.op=.load ty x:=by exact rfl)(hx:a.eval x=.pointer (some ⟨b,0,none⟩):=by exact rfl)
    (hB:Rd w b cs:=by first|assumption|exact Z77 (by assumption)) (hk:(P.underlying ty).map TypeDesc.isRow=some true:=by as_aux_lemma=>kernel_rfl) (hi:(P.info? ty).map (·.size)=some cs.size:=by kernel_rfl) (hp:a.put o.dst (.agg cs)=a' :=by first|exact pl (by dsimp only[mB,mC];first|done|exact rfl)|exact pn|exact rfl):wpX P ops w E (o::l) a:=
  XR h hB hw ho hx hk hi hp
theorem Xf {v:Value}{f:FuncId}{xl:List Operand}{ts:Array TypeId}{args:Array Value}(h:wpX P ops w E l a')(hc:∀W,Ext w W→Calls P f args W (fun e W'' =>V4 v W W'' e))(hw:Region.wanted o (yielded ops a.tmps)=true:=by exact rfl)
    (ho:o.op=.call {callee:=.value (.func f),args:=xl.toArray,argTypes:=ts}:=by with_reducible rfl) (hg:Q2r P f=true:=by as_aux_lemma=>kernel_rfl) (ha:(xl.map a.eval).toArray=args:=by exact rfl) (hp:a.put o.dst v=a' :=by first|exact pl (by dsimp only[mB,mC];first|done|exact rfl)|exact pn|exact rfl):wpX P ops w E (o::l) a:=by
  subst hp;exact Z7d hc hw ho hg ha h
theorem Rx {id:Nat}{w:World}(m:Nat)(h:wpX P l.toArray w (fun a1=> ∀W,Ext w W→wpList P l.toArray (NoPanic Q) l2 a1 W) l1 a')(hm:P.follows .mixedOrders=true:=by as_aux_lemma=>kernel_rfl)
    (hB:(Region.noSelect l.toArray && Q2q .any l.toArray m m 0 (Array.replicate l.length false) && decide (m≤l.length) &&
      (Region.ready .any l.toArray (J07 m 0 (Array.replicate l.length false))).all (fun j=>decide (m≤j)) &&
      Region.seqB .any l.toArray (l.length-m) m (J07 m 0 (Array.replicate l.length false)))=true:=by as_aux_lemma=>kernel_rfl) (h1:l.take m=l1:=by(try simp only[List.append,List.take_succ_cons,List.take_zero,List.take_nil]);exact rfl) (h2:l.drop m=l2:=by(try simp only[List.append,List.drop_succ_cons,List.drop_zero,List.drop_nil]);exact rfl)
    (hp:a=a' :=by(try simp only[Act.put,mA,mB,mC]);exact rfl):(Code.region id l.toArray true).wp P Q a w:=by
  subst hp h1 h2;exact J9j m hm hB h
theorem Px {id:Nat}{w:World}(m:Nat)(h:wpX P l.toArray w (fun a1=> ∀W,Ext w W→wpList P l.toArray Q l2 a1 W) l1 a')(hi:decide (m≤l.length)=true:=by kernel_rfl)
    (h1:l.take m=l1:=by(try simp only[List.append,List.take_succ_cons,List.take_zero,List.take_nil]);exact rfl) (h2:l.drop m=l2:=by(try simp only[List.append,List.drop_succ_cons,List.drop_zero,List.drop_nil]);exact rfl)
    (hp:a=a' :=by(try simp only[Act.put,mA,mB,mC]);exact rfl):(Code.region id l.toArray false).wp P Q a w:=by
  subst hp h1 h2;refine J6g m [] (fun x hx=>by cases hx) (by simpa using hi) ?_
  have D:∀(l' :List AF)(a:Act),wpX P l.toArray w (fun a1=> ∀W,Ext w W→AC P l.toArray Q (l.drop m) a1 W) l' a→wpX P l.toArray w (fun a' => ∀(β:Nat→Nat)(W:AA),Ext w W→(∀x∈([]:List NewOp),w.heap.size≤β x.i∧Blk W (β x.i) x.z x.t)→(∀x∈([]:List NewOp),∀y∈([]:List NewOp),x.i≠y.i→β x.i≠β y.i)→
      AC P l.toArray Q (l.drop (m+([]:List NewOp).length)) (J0j [] β a') W) l' a:=by
    intro l'
    induction l' with
    |nil=>intro a h β W hW _ _;exact h W hW
    |cons o l' ih=>intro a ⟨v,hy,hk⟩;exact⟨v,hy,ih _ hk⟩
  exact D _ _ h
theorem Ls {w:World}(h:wpList P ops Q l a' w)(hw:Region.wanted o (yielded ops a.tmps)=false:=by exact rfl)(hp:a.put o.dst undef=a' :=by first|exact pl (by dsimp only[mB,mC];first|done|exact rfl)|exact pn|exact rfl):wpList P ops Q (o::l) a w:=by
  subst hp;exact Q87 hw h
theorem Lv {w:World}{v:Value}(h:wpList P ops Q l a' w)(hw:Region.wanted o (yielded ops a.tmps)=true:=by exact rfl)(hv:(execOp a.eval o).run P w=.ok (.value v) w:=by(go_simp;first|done|with_reducible rfl))(hp:a.put o.dst v=a' :=by first|exact pl (by dsimp only[mB,mC];first|done|exact rfl)|exact pn|exact rfl):wpList P ops Q (o::l) a w:=by
  subst hp;exact J2r hw hv h
theorem Lw {w:World}{v:Value}(h:wpList P ops Q l a' w)(hw:Region.wanted o (yielded ops a.tmps)=true:=by exact rfl)(hv:(execOp a.eval o).run P w=.ok (.value v) w:=by first|rfl|(go_simp;done)|(go_simp;with_reducible rfl)|(go_simp;omega))(hp:a.put o.dst v=a' :=by first|exact pl (by dsimp only[mB,mC];first|done|exact rfl)|exact pn|exact rfl):wpList P ops Q (o::l) a w:=by
  subst hp;exact J2r hw hv h
theorem LS {w:World}{ty:TypeId}{x y:Operand}{g:Nat}{cells old:Array Value}{t:TypeId}(h:wpList P ops Q l a' (w.setRow g cells))(hB:Blk w g old t)(hw:Region.wanted o (yielded ops a.tmps)=true:=by exact rfl)(ho:o.op=.store ty x y:=by exact rfl)
    (hx:a.eval x=.pointer (some ⟨g,0,none⟩):=by exact rfl) (hy:a.eval y=.agg cells:=by exact rfl) (hi:(P.info? ty).map (·.size)=some cells.size:=by kernel_rfl) (hs:old.size=cells.size:=by kernel_rfl)
    (h1:cells.all (·.oneCell')=true:=by kernel_rfl) (hp:a.put o.dst undef=a' :=by first|exact pl (by dsimp only[mB,mC];first|done|exact rfl)|exact pn|exact rfl):wpList P ops Q (o::l) a w:=by
  subst hp;exact Q53 hw ho hx hy hB hi hs h1 h
theorem LN {w:AA}(h:Q .normal a w):AC P ops (NoPanic Q) [] a w:=V5 (NoPanic.normal h)
theorem Px1 {id:Nat}{w:World}(m d:Nat){z:Array Value}{t:TypeId}(h:wpX P l.toArray w (fun a1=> ∀(b:Nat) (W:World),w.heap.size≤b→Ext w W→Blk W b z t→wpList P l.toArray Q l2 (a1.put (some d) (.pointer (some ⟨b,0,none⟩))) W) l1 a')
    (hk:Q50 P l.toArray ⟨m,d,z,t⟩:=by exact⟨_,rfl,rfl,rfl,fun _ _=>by kernel_rfl⟩) (hi:decide (m≤l.length)=true:=by kernel_rfl)
    (h1:l.take m=l1:=by(try simp only[List.append,List.take_succ_cons,List.take_zero,List.take_nil]);exact rfl) (h2:l.drop (m+1)=l2:=by(try simp only[List.append,List.drop_succ_cons,List.drop_zero,List.drop_nil]);exact rfl)
    (hp:a=a' :=by(try simp only[Act.put,mA,mB,mC]);exact rfl):(Code.region id l.toArray false).wp P Q a w:=by
  subst hp h1 h2;refine J6g m [⟨m,d,z,t⟩] (fun x hx=>by rw[List.mem_singleton.1 hx];exact hk) (by simpa using hi) ?_
  have D:∀(l' :List AF)(a:Act),wpX P l.toArray w (fun a1=> ∀(b:Nat)(W:AA),w.heap.size≤b→Ext w W→Blk W b z t→AC P l.toArray Q (l.drop (m+1)) (a1.put (some d) (.pointer (some ⟨b,0,none⟩))) W) l' a→
      wpX P l.toArray w (fun a' => ∀(β:Nat→Nat)(W:AA),Ext w W→(∀x∈[(⟨m,d,z,t⟩:NewOp)],w.heap.size≤β x.i∧Blk W (β x.i) x.z x.t)→(∀x∈[(⟨m,d,z,t⟩:NewOp)],∀y∈[(⟨m,d,z,t⟩:NewOp)],x.i≠y.i→β x.i≠β y.i)→
      AC P l.toArray Q (l.drop (m+[(⟨m,d,z,t⟩:NewOp)].length)) (J0j [⟨m,d,z,t⟩] β a') W) l' a:=by
    intro l'
    induction l' with
    |nil=>intro a h β W hW hN _;exact h (β m) W (hN ⟨m,d,z,t⟩ (by simp)).1 hW (hN ⟨m,d,z,t⟩ (by simp)).2
    |cons o l' ih=>intro a ⟨v,hy,hk⟩;exact⟨v,hy,ih _ hk⟩
  exact D _ _ h
theorem XN {w:World}{d:Nat}{z:Array Value}{t:TypeId}{a' :Nat→Act}(h:∀(b:Nat) (W:World),w.heap.size≤b→Ext w W→Blk W b z t→wpList P ops Q l2 (a' b) W)
    (hp:∀b,a.put (some d) (.pointer (some ⟨b,0,none⟩))=a' b:=by intro b;first|exact pl (by dsimp only[mB,mC];first|done|exact rfl)|exact pn|exact rfl):
    wpX P ops w (fun a1=> ∀(b:Nat)(W:World),w.heap.size≤b→Ext w W→Blk W b z t→wpList P ops Q l2 (a1.put (some d) (.pointer (some ⟨b,0,none⟩))) W) [] a:=fun b W h1 h2 h3=>by rw[hp];exact h b W h1 h2 h3
end
end
end Go.Proofs.YtdjacgmmidbieaaGreatDoor

/- Contracts and plain laws for directPuts_holds. Conditions: the tables hold their numbers. -/
import Derived.Test.YteehbddkcnkhfaaGreatDoorJ19
open Go.RowKit
set_option maxRecDepth 100000
set_option linter.unusedSimpArgs false
set_option linter.unusedVariables false
namespace Go.Proofs.YteehbddkcnkhfaaGreatDoor
section
namespace SH
variable {F : List Nat} {w W W' : World} {H H' L L' R : List As} {x y : As} {i j : Nat}
def okT (L R:List As):List As→Prop
  |[]=>True
  |y::l=>(y∈L∨(y.mv=true∧R.all (tyOk y)=true)∨∃T K,y=.t T K∧R.all (fun z=>tyOk z y)=true)∧okT L R l
theorem Q8x:∀{l:List As},okT L R l→∀y∈l,y∈L∨(y.mv=true∧R.all (tyOk y)=true)∨∃T K,y=.t T K∧R.all (fun z=>tyOk z y)=true
  |_::_,h,y,hy=>by
    rcases List.mem_cons.1 hy with rfl|hy
    · exact h.1
    · exact Q8x h.2 y hy
theorem frameT (h:SH F w W (L++R))(h' :SH (feet L) W W' L')(ok:okT L R L'):SH F w W' (L' ++R):=by
  have hp:=List.pairwise_append.1 h.ap;have hR:∀z∈R,z.holds W:=fun z hz=>h.all z (by simp[hz]);have hL:∀x∈L,x.holds W:=fun x hx=>h.all x (by simp[hx])
  -- a block of what may turn is no block of R
  have hf:∀k,k∈feet L→∀z∈R,(∀T K,z≠ .t T K)→k∉z.foot:=fun k hk z hz hT=>by
    obtain⟨x,hx,hm,hk⟩:=mem_feet.1 hk;have:=(hp.2.2 x hx z hz).1 hm;cases z with
    |t T K=>exact absurd rfl (hT T K)
    |_=>exact this k hk
  have hl:∀y∈L',y.mv=true→∀z∈R,(∀T K,z≠ .t T K)→∀k∈y.foot,k∉z.foot:=fun y hy hm z hz hT k hk D=>
    hf k (h'.old y hy hm k hk (As.lt (hR z hz) k D)) z hz hT D
  refine⟨h.off.step h'.off fun k hk G=> ?_,fun z hz=> ?_,List.pairwise_append.2 ⟨h'.ap,hp.2.1,fun y hy z hz=>⟨fun hm=> ?_,fun hm=> ?_⟩⟩,fun z hz hm k hk G=> ?_⟩
  · obtain⟨x,hx,hm,hk⟩:=mem_feet.1 hk
    exact h.old x (by simp[hx]) hm k hk G
  · rcases List.mem_append.1 hz with hz|hz
    · exact h'.all z hz
    refine As.keep h'.off (hR z hz) (fun k hk M=> ?_) fun T K e k M G ht=> ?_
    · cases z with
      |t T K=>cases hk
      |_=>exact hf k M _ hz (fun _ _ e=>by cases e) hk
    obtain⟨x,hx,hm,hk⟩:=mem_feet.1 M;have h1:=(hp.2.2 x hx z hz).1 hm;subst e;exact h1 ((As.tyOf (hL x hx) hm k hk).symm.trans ht)
  · rcases Q8x ok y hy with J|⟨_,N⟩|⟨T,K,e,_⟩
    · exact(hp.2.2 y J z hz).1 hm
    · cases z with
      |t T K=>have:=List.all_eq_true.1 N _ hz;simpa[tyOk,hm] using this
      |_=>exact hl y hy hm _ hz (fun _ _ e=>by cases e)
    subst e;cases hm
  · rcases Q8x ok y hy with J|⟨S,_⟩|⟨T,K,e,N⟩
    · exact(hp.2.2 y J z hz).2 hm
    · cases y with
      |t T K=>cases S
      |_=>exact fun k hk D=>hl _ hy S z hz (fun T K e=>by subst e;cases hm) k D hk
    subst e;have:=List.all_eq_true.1 N _ hz;simpa[tyOk,hm] using this
  rcases List.mem_append.1 hz with hz|hz
  · by_cases U:k<W.heap.size
    · obtain⟨x,hx,V,D⟩:=mem_feet.1 (h'.old z hz hm k hk U)
      exact h.old x (by simp[hx]) V k D G
    have:=h.size;omega
  exact h.old z (by simp[hz]) hm k hk G
end SH
section
variable {P : Program} {f : FuncId} {args : Array Value} {F : List Nat} {w W : World} {H L R : List As}
theorem V84 {α:Type}(I J:List Nat){V:α→Value}{L' H' :α→List As}(hS:SH F w W H)(hc:SH (SH.feet L) W W L→Calls P f args W fun e W' => ∃x,e=.returned (V x)∧SH (SH.feet L) W W' (L' x))(ok:∀x,SH.okT L R (L' x))(hI:pk H I=L:=by exact rfl)(hJ:pk H J=R:=by exact rfl)(hn:(I++J).Nodup:=by decide)(hH:∀x,L' x++R=H' x:=by exact fun _=>rfl):Calls P f args W fun e W' => ∃x,e=.returned (V x)∧SH F w W' (H' x):=by
  subst hI hJ
  have h:SH F w W (pk H I++pk H J):=hS.pick (I++J) (by
    exact Q7v H I J) hn
  exact(hc h.here).mono fun e W' ⟨x,h1,h2⟩=>⟨x,h1,by rw[←hH x];exact h.frameT h2 (ok x)⟩
end
end

section
def InF (N:List As)(f:List Nat):Prop:=∀k∈f,∃x∈N,(∀T K,x≠ .t T K)∧k∈x.foot
theorem V7h {N:List As}{T:Option TypeId}{g f:List Nat}{K:World→Prop}(i:Nat)(h:N[i]?=some (.m T g K))(hf:∀k∈f,k∈g):InF N f:=fun k hk=>⟨_,SH.mem h,fun T K e=>(by cases e),hf k hk⟩
namespace SH
variable {F : List Nat} {w W W' : World} {H H' L L' N R : List As} {x y : As} {i j : Nat} {f : List Nat} {K : World → Prop} {T : Option TypeId}
theorem Q7y {z:As}(hx:x.mv=true)(h:x.apart z)(hy:y.mv=true)(ht:y.ty=x.ty)(hf:∀k∈y.foot,k∈x.foot):y.apart z:=by
  refine⟨fun _=> ?_,fun hm=> ?_⟩
  · have h1:=h.1 hx
    cases z with
    |t T K=>exact fun e=>h1 (ht▸e)
    |_=>exact fun k hk=>h1 k (hf k hk)
  have h2:=h.2 hm
  have h3:∀k∈z.foot,k∉x.foot:=by
    cases x with
    |t T K=>cases hx
    |_=>exact h2
  cases y with
  |t T K=>cases hy
  |_=>exact fun k hk D=>h3 k hk (hf k D)
theorem Y6y {u z:As}(hx:x.mv=true)(hy:y.mv=true)(h:x.apart z)(h' :y.apart z)(hu:u.mv=true)(tx:x.ty=u.ty)(hf:∀k∈u.foot,k∈x.foot∨k∈y.foot):u.apart z:=by
  refine⟨fun _=> ?_,fun hm=> ?_⟩
  · have h1:=h.1 hx
    have h1' :=h'.1 hy;cases z with
    |t T K=>exact fun e=>h1 (tx▸e)
    |_=>exact fun k hk=>(hf k hk).elim (h1 k) (h1' k)
  have h2:=h.2 hm;have h2' :=h'.2 hm
  have h3:∀k∈z.foot,k∉x.foot:=by
    cases x with
    |t T K=>cases hx
    |_=>exact h2
  have h3' :∀k∈z.foot,k∉y.foot:=by
    cases y with
    |t T K=>cases hy
    |_=>exact h2'
  cases u with
  |t T K=>cases hu
  |_=>exact fun k hk D=>(hf k D).elim (h3 k hk) (h3' k hk)
theorem asM (h:SH F w W (x::H))(hx:x.mv=true)(hy:y.mv=true)(ht:y.ty=x.ty)(hz:y.holds W)(hf:∀k∈y.foot,k∈x.foot):SH F w W (y::H):=by
  have hp:=List.pairwise_cons.1 h.ap;refine⟨h.off,fun z D=> ?_,List.pairwise_cons.2 ⟨fun z D=>Q7y hx (hp.1 z D) hy ht hf,hp.2⟩,fun z D hm k hk G=> ?_⟩
  · rcases List.mem_cons.1 D with rfl|D
    · exact hz
    exact h.all z (List.mem_cons_of_mem _ D)
  rcases List.mem_cons.1 D with rfl|D
  · exact h.old x (List.mem_cons_self ..) hx k (hf k hk) G
  exact h.old z (List.mem_cons_of_mem _ D) hm k hk G
theorem merge (h:SH F w W (x::y::H))(hx:x.mv=true)(hy:y.mv=true)(tx:x.ty=T)(hz:(As.m T f K).holds W)(hf:∀k∈f,k∈x.foot∨k∈y.foot):SH F w W (.m T f K::H):=by
  have hp:=List.pairwise_cons.1 h.ap;have J:=List.pairwise_cons.1 hp.2;refine⟨h.off,fun z D=> ?_,List.pairwise_cons.2 ⟨fun z D=>Y6y hx hy (hp.1 z (List.mem_cons_of_mem _ D)) (J.1 z D) rfl tx hf,J.2⟩,fun z D hm k hk G=> ?_⟩
  · rcases List.mem_cons.1 D with rfl|D
    · exact hz
    exact h.all z (List.mem_cons_of_mem _ (List.mem_cons_of_mem _ D))
  rcases List.mem_cons.1 D with rfl|D
  · rcases hf k hk with hk|hk
    · exact h.old x (List.mem_cons_self ..) hx k hk G
    exact h.old y (by simp) hy k hk G
  exact h.old z (by simp[D]) hm k hk G
theorem split {u:As}(h:SH F w W (u::H))(hu:u.mv=true)(hx:x.holds W)(hy:y.holds W)(mx:x.mv=true)(my:y.mv=true)(tx:x.ty=u.ty)(ty:y.ty=u.ty)(fx:∀k∈x.foot,k∈u.foot)(fy:∀k∈y.foot,k∈u.foot)(dj:∀k∈x.foot,k∉y.foot):SH F w W (x::y::H):=by
  have hp:=List.pairwise_cons.1 h.ap;refine⟨h.off,fun z D=> ?_,List.pairwise_cons.2 ⟨fun z D=> ?_,List.pairwise_cons.2 ⟨fun z D=>Q7y hu (hp.1 z D) my ty fy,hp.2⟩⟩,fun z D hm k hk G=> ?_⟩
  · rcases List.mem_cons.1 D with rfl|D
    · exact hx
    rcases List.mem_cons.1 D with rfl|D
    · exact hy
    exact h.all z (List.mem_cons_of_mem _ D)
  · rcases List.mem_cons.1 D with rfl|D
    · refine⟨fun _=> ?_,fun _=> ?_⟩
      · cases z with
        |t T K=>cases my
        |_=>exact dj
      cases x with
      |t T K=>cases mx
      |_=>exact fun k hk J=>dj k J hk
    exact Q7y hu (hp.1 z D) mx tx fx
  rcases List.mem_cons.1 D with rfl|D
  · exact h.old u (List.mem_cons_self ..) hu k (fx k hk) G
  rcases List.mem_cons.1 D with rfl|D
  · exact h.old u (List.mem_cons_self ..) hu k (fy k hk) G
  exact h.old z (List.mem_cons_of_mem _ D) hm k hk G
theorem mnil (T:Option TypeId)(h:SH F w W H)(hz:(As.m T [] K).holds W)(ht:H.all (fun y=>tyOk (.m T [] K) y)=true):SH F w W (.m T [] K::H):=h.new (Off.refl _ _) hz (fun k hk=>by cases hk) rfl ht
theorem foldF (h:SH F w W (N++R))(hz:(As.p f K).holds W)(hf:InF N f):SH F w W (.p f K::R):=by
  have hp:=List.pairwise_append.1 h.ap;refine⟨h.off,fun z D=> ?_,List.pairwise_cons.2 ⟨fun z D=>⟨fun e=>(by cases e),fun hm k hk M=> ?_⟩,hp.2.1⟩,fun z D hm k hk G=> ?_⟩
  · rcases List.mem_cons.1 D with rfl|D
    · exact hz
    exact h.all z (by simp[D])
  · obtain⟨x,hx,ht,J⟩:=hf k M
    have h2:=(hp.2.2 x hx z D).2 hm;cases x with
    |t T K=>exact ht T K rfl
    |_=>exact h2 k hk J
  rcases List.mem_cons.1 D with rfl|D
  · cases hm
  exact h.old z (by simp[D]) hm k hk G
theorem feet_p:feet (L++[.p f K])=feet L:=by
  unfold feet;rw[List.filter_append,List.flatMap_append];show _++[]=_;rw[List.append_nil]
theorem hereP (h:SH F w W (L++(N++R)))(hz:(As.p f K).holds W)(hf:InF N f):SH (feet (L++[.p f K])) W W (L++[.p f K]):=by
  rw[feet_p];have h0:=h.here;have hp:=List.pairwise_append.1 h.ap;refine⟨h0.off,fun z D=> ?_,List.pairwise_append.2 ⟨h0.ap,List.pairwise_singleton ..,fun z D y hy=> ?_⟩,fun z D hm k hk G=> ?_⟩
  · rcases List.mem_append.1 D with D|D
    · exact h0.all z D
    rw[List.mem_singleton.1 D];exact hz
  · rw[List.mem_singleton.1 hy]
    refine⟨fun hm k hk M=> ?_,fun e=>by cases e⟩;obtain⟨x,hx,ht,J⟩:=hf k M;have h2:=(hp.2.2 z D x (by simp[hx])).1 hm;cases x with
    |t T K=>exact ht T K rfl
    |_=>exact h2 k hk J
  rcases List.mem_append.1 D with D|D
  · exact h0.old z D hm k hk G
  rw[List.mem_singleton.1 D] at hm;cases hm
end SH
section
variable {P : Program} {g : FuncId} {args : Array Value} {F : List Nat} {w W : World} {H L N R : List As}
end
end
end Go.Proofs.YteehbddkcnkhfaaGreatDoor

namespace Go.Proofs.YteehbddkcnkhfaaGreatDoor.S8
section
set_option maxHeartbeats 1000000
attribute [local irreducible] wpList Y8 wpX
variable {kn : Kn}
open Sc (LL J0v)
attribute [local irreducible] hs
structure PQ where
 X:Nat
 Y:Nat
 Z:Nat
 T:Nat
 a:Pr
abbrev pq4 (q:PQ):Array Value:=p4 q.X q.Y q.Z q.T
theorem p4z {X Y Z T:Nat}:(p4 X Y Z T).size=16:=rfl
def pqC (q:PQ):List Value:=(pq4 q).toList
def bvF (bs:List (Value×List UInt8)):List Nat:=bs.flatMap fun b=>(sb b.1 b.2).toList
def bvK (bs:List (Value×List UInt8))(W:World):Prop:=∀b∈bs,Sl W b.1 b.2
abbrev bvT (bs:List (Value×List UInt8)):As:=.p (bvF bs) (bvK bs)
abbrev bv1 (b:Value×List UInt8):List Value:=[b.1]
theorem Q6y {bs:List (Value×List UInt8)}{w:World}(h:bvK bs w):(bvT bs).holds w:=by
 refine⟨h,fun k hk=> ?_,fun W' _ e b hb=>J7m (h b hb) fun k hk=>e k (List.mem_flatMap.2 ⟨b,hb,by rw[hk];simp⟩)⟩;obtain⟨b,hb,h1⟩:=List.mem_flatMap.1 hk;exact Sl.lt (h b hb) k (As.mem_toList h1)
theorem Y3u {W:World}{p V:Nat}(h:Blk W p (J0 .u8 32 (J7 V)) 23):Sl W (.slice (some ⟨p,0,none⟩) 32 32) (lb 32 V):=Y6 (V:=V) (n:=32) (off:=0) (c:=32) h ap0 (by decide) (by decide)
theorem Y3v {p n c k:Nat}{l:List UInt8}(h:k∈(sb (.slice (some ⟨p,0,none⟩) n c) l).toList):k=p:=by
 unfold sb at h
 split at h
 ·
  cases h
 simpa[Value.ownBlock,eq_comm] using h
theorem Y3w {F:List Nat}{w W:World}{e p V:Nat}{u:Value}{l:List UInt8}(h:SH F w W [.b e #[u,.slice (some ⟨p,0,none⟩) 32 32] 22,.o u l,.b p (J0 .u8 32 (J7 V)) 23]):
  SH F w W [.r 22 1 (.slice (some ⟨e,0,none⟩) 2 2) ([(u,l),(.slice (some ⟨p,0,none⟩) 32 32,lb 32 V)].map bv1),bvT [(u,l),(.slice (some ⟨p,0,none⟩) 32 32,lb 32 V)]]:=by
 have h1:=h.b2r (k:=1) (es:=[(u,l),(.slice (some ⟨p,0,none⟩) 32 32,lb 32 V)].map bv1) (n:=2) (by rfl) (by intro e he;obtain⟨b,_,rfl⟩:=List.mem_map.1 he;rfl) rfl (by decide);have ho:=(h1.own (i:=1) rfl).sl;have hb:=Y3u (h1.blk (i:=2) rfl);have h3:=SH.foldF (N:=[.o u l,.b p (J0 .u8 32 (J7 V)) 23]) (R:=[.r 22 1 (.slice (some ⟨e,0,none⟩) 2 2) ([(u,l),(.slice (some ⟨p,0,none⟩) 32 32,lb 32 V)].map bv1)]) (h1.pick [1,2,0]) (Q6y (bs:=[(u,l),(.slice (some ⟨p,0,none⟩) 32 32,lb 32 V)]) fun b D=> ?_) fun k hk=> ?_
 ·
  exact h3.pick [1,0]
 ·
  rcases List.mem_cons.1 D with rfl|D
  ·
   exact ho
  rw[List.mem_singleton.1 D];exact hb
 obtain⟨b,D,h4⟩:=List.mem_flatMap.1 hk;rcases List.mem_cons.1 D with rfl|D
 ·
  exact⟨.o u l,by simp,fun T K e=>(by cases e),by rw[show(As.o u l).foot=u.ownBlock.toList from rfl,J2u (As.mem_toList h4)];simp⟩
 rw[List.mem_singleton.1 D] at h4;exact⟨.b p (J0 .u8 32 (J7 V)) 23,by simp,fun T K e=>(by cases e),by rw[Y3v h4];simp[As.foot]⟩
theorem Y8c {F:List Nat}{w W:World}{H:List As}{p U:Nat}{bs:List (Value×List UInt8)}(h:SH F w W (.b p (J0 .u8 32 (J7 U)) 23::bvT bs::H)):SH F w W (bvT (bs++[(.slice (some ⟨p,0,none⟩) 32 32,lb 32 U)])::H):=by
 have hb:=Y3u (h.blk (i:=0) rfl);have h3:bvK bs W:=(h.at_ (i:=1) rfl).1;refine SH.foldF (N:=[.b p (J0 .u8 32 (J7 U)) 23,bvT bs]) h (Q6y fun b D=> ?_) fun k hk=> ?_
 ·
  rcases List.mem_append.1 D with D|D
  ·
   exact h3 b D
  rw[List.mem_singleton.1 D];exact hb
 obtain⟨b,D,h4⟩:=List.mem_flatMap.1 hk;rcases List.mem_append.1 D with D|D
 ·
  exact⟨bvT bs,by simp,fun T K e=>(by cases e),List.mem_flatMap.2 ⟨b,D,h4⟩⟩
 rw[List.mem_singleton.1 D] at h4;exact⟨.b p (J0 .u8 32 (J7 U)) 23,by simp,fun T K e=>(by cases e),by rw[Y3v h4];simp[As.foot]⟩
def mkP (V:Nat)(qs:List PQ):List (List UInt8):=[3,2]::lb 32 V::qs.map fun q=>lb 32 (enc q.a)
theorem Y3x {V:Nat}{qs:List PQ}{i:Nat}{q:PQ}(h:qs[i]?=some q):mkP V (qs.take i)++[lb 32 (enc q.a)]=mkP V (qs.take (i+1)):=by
 unfold mkP;rw[List.take_add_one,h,List.map_append];rfl
theorem Z0r {W:World}{v u:Value}{bs:List (Value×List UInt8)}(hr:Row 22 1 W v (bs.map bv1++[[u]]))(hb:bvK bs W){l:List UInt8}(hu:Sl W u l):
  ∃A c,v=.slice A (bs.map (·.2)++[l]).length c∧∀(i:Nat)(x:List UInt8),(bs.map (·.2)++[l])[i]?=some x→∃ad y,A=some ad∧W.cell? (ad.add i)=some y∧Sl W y x:=by
 have e:bs.map bv1++[[u]]=(bs++[(u,l)]).map bv1:=by rw[List.map_append];rfl
 have e2:bs.map (·.2)++[l]=(bs++[(u,l)]).map (·.2):=by rw[List.map_append];rfl
 have hk:bvK (bs++[(u,l)]) W:=fun b D=>(List.mem_append.1 D).elim (hb b) fun h=>by rw[List.mem_singleton.1 h];exact hu
 rw[e] at hr;rw[e2];obtain⟨A,c,hv,h1,h0,h2⟩:=hr.rr;rw[List.length_map] at hv;refine⟨A,c,by rw[List.length_map];exact hv,fun i x hx=> ?_⟩;rw[List.getElem?_map] at hx;cases hq:(bs++[(u,l)])[i]? with
 |none=>rw[hq] at hx;cases hx
 |some b=>
  rw[hq] at hx;obtain rfl:=Option.some.inj hx;obtain⟨g,o,rfl,hc⟩:=h2 i (bv1 b) (by rw[List.getElem?_map,hq];rfl);exact⟨_,b.1,rfl,by rw[Addr.add_mid];have h3:=hc 0 b.1 rfl;rw[Nat.mul_one,Nat.add_zero] at h3;exact h3,hk b (List.mem_of_getElem? hq)⟩
theorem K18 {W:World}{A:Option Addr}{n c i g o:Nat}{qs:List PQ}{y:PQ}(h:RR 16 W (.slice A n c) (qs.map pqC))(yh:qs[i]?=some y)(hA:A=some ⟨g,o,none⟩):∀(j:Nat) (v:Value),(pq4 y)[j]?=some v→W.cell? ⟨g,o+i*16+j,none⟩=some v:=fun j v hv=>
 RR.cellat h (by rw[List.getElem?_map,yh];rfl) hA j v (by unfold pqC;rw[Array.getElem?_toList];exact hv)

theorem V5u (qs:List PQ):((qs.map fun q=>lb 32 (enc q.a)).flatten).length=32*qs.length:=by
 induction qs with
 |nil=>rfl
 |cons q r ih=>rw[List.map_cons,List.flatten_cons,List.length_append,Q0,ih,List.length_cons];omega
theorem V5g {V X:Nat}{qs:List PQ}{v:Value}(hq:∀q∈qs,RN q.X q.Y q.Z q.T q.a)(hn:qs.length≤1000)(hX:RowKit.Hid (X=hs ([3,2]++lb 32 V++(qs.map fun q=>lb 32 (enc q.a)).flatten++[0])))(w:World)(hG:GA kn w)(hr:RR 16 w v (qs.map pqC)):
  Calls Tryz.prog 73 #[.agg (J0 .u8 32 (J7 V)),v] w fun e w' => ∃p,e=.returned (.slice (some ⟨p,0,none⟩) 16 64)∧SH [] w w' [.b p (J0 .u8 64 (J7 X)) 89]:=by
 obtain⟨Aq,cq,rfl,θ,δ⟩:=RR.opf hr;have hS:=SH.nil [] w
 go_enter Tryz.func73,Tryz.ntmps73
 go_upto_region 0 with fail;refine RL hS ?_;clear hS;refine MN (z:=J0 .u8 32 (J7 V)) (t:=23) ?_;intro V5;refine MV ?_;refine MZ fun W hS=> ?_;go_upto_region 1 with fail;refine RL hS ?_;clear hS;refine MO (m:=[3,2]) (n:=2) (z:= #[.int .u8 3,.int .u8 2]) ?_;intro β;refine MW ?_ (v:=.slice (some ⟨V5,0,none⟩) 32 32);refine MB (z:= #[β,.slice (some ⟨V5,0,none⟩) 32 32]) (t:=22) (n:=2) (c:=2) ?_ (hr:=fun W hS=>K3 [β,.slice (some ⟨V5,0,none⟩) 32 32] rfl rfl (vsc (J9 (hS.osl (i:=0) rfl)).1 (vsc (J9 (Y6 (V:=V) (n:=32) (off:=0) (c:=32) (hS.blk (i:=1) rfl) ap0 (by decide) (by decide))).1 vs0)) Tryz.underlying168 (by kernel_rfl) (by kernel_rfl) rfl (by decide) (by decide));intro τ;refine MV ?_;refine MZ fun W hS=> ?_;go_upto_region 2 with fail;refine RL hS ?_;clear hS;refine MV ?_;refine MV ?_;refine W0 ?_;refine MZ fun W hS=> ?_;have hS:=hS.pick [0,1,2];have hS:=Y3w hS
 go_wp2_with fail
 go_loopw [5,15] (fun rr ii wr=> ∃(i:Nat)(bs:List (Value×List UInt8)) (rv:Value),(i≤qs.length)∧(RowKit.Hid (bs.map (·.2)=mkP V (qs.take i)))∧(rv=rr)∧(ii=.int .i64 (i:Int))∧SH [] w wr [.r 22 1 rv (List.map bv1 bs),bvT bs])
  (fun rr ii _=>qs.length-(intOf ii).toNat)
 case atStart=>exact⟨0,_,_,Nat.zero_le _,Lib.hid rfl,rfl,rfl,hS⟩
 clear hS
 case round=>
  obtain⟨i,bs,rv,hi,G,rfl,rfl,hS⟩:=hrel;have μ:bs.length≤1002:=by have h_:=congrArg List.length G.out;unfold mkP at h_;simp only[List.length_map,List.length_cons,List.length_take] at h_;omega
  by_cases J:i<qs.length
  ·
   obtain⟨y,yh⟩:∃y,qs[i]?=some y:=⟨_,List.getElem?_eq_getElem J⟩
   have ζ:=hq y (List.mem_of_getElem? yh);obtain⟨η,ε,γ,_⟩:=δ.out i y yh;have α:=Lib.hid γ;clear γ;obtain⟨U,hU⟩:=exn (enc y.a);have bU:U<2^256:=by rw[hU];exact Q0p _
   have HU:=Lib.hid hU;clear hU;go_upto_region 3 with fail;refine RL hS ?_;clear hS;refine Wt ?_;refine MZ fun W hS=> ?_;go_upto_region 4 with fail;refine RL hS ?_;clear hS;refine MW ?_ (v:=.pointer (some ⟨η,ε+i*16,none⟩)) (hv:=fun _=>J0b α.out J rfl rfl rfl Tryz.underlying218 (by kernel_rfl));refine MF (v:=.agg (p4 y.X y.Y y.Z y.T)) (fun W hS=>K2 rfl rfl (fun i_ v hv=>J12 ((K18 hr yh α.out) i_ v (by simpa using hv)) hS.ext) (by kernel_rfl) (by rw[p4z];kernel_rfl)) ?_;refine MN (z:=p4 0 0 0 0) (t:=154) ?_;intro ρ;refine MR 0 ?_ (hz:=by rw[p4z];kernel_rfl) (hs:=by first|rw[p4z,p4z]|rw[p4z]|kernel_rfl);refine MZ fun W hS=> ?_;go_upto_region 5 with fail;refine RL hS ?_;clear hS;refine ML 0 ?_ (hs:=by rw[p4z];kernel_rfl);refine MC (v:=.agg (J0 .u8 32 (J7 U))) (fun W hS=>Q5c (ζ.rw) HU.out W (GA_ext hG hS.ext).1) ?_;refine MN (z:=J0 .u8 32 (J7 0)) (t:=23) ?_;intro D;refine MR 0 ?_;refine MZ fun W hS=> ?_;go_upto_region 6 with fail;refine RL hS ?_;clear hS;refine MV ?_;refine MW ?_ (v:=.slice (some ⟨D,0,none⟩) 32 32);refine MB (z:= #[.slice (some ⟨D,0,none⟩) 32 32]) (t:=22) (n:=1) (c:=1) ?_ (hr:=fun W hS=>K3 [.slice (some ⟨D,0,none⟩) 32 32] rfl rfl (vsc (J9 (Y6 (V:=U) (n:=32) (off:=0) (c:=32) (hS.blk (i:=0) rfl) ap0 (by decide) (by decide))).1 vs0) Tryz.underlying168 (by kernel_rfl) (by kernel_rfl) rfl (by decide) (by decide));intro ν;refine J06 (fun W hS=>(J9 (Y6 (V:=U) (n:=32) (off:=0) (c:=32) (hS.blk (i:=1) rfl) ap0 (by decide) (by decide))).2) ?_;intro S;refine MAr 3 0 (tS:=168) (bytes:=24) (es:=(List.map bv1 bs)) (by first|omega|decide|(rw[List.length_map];omega)|(simp only[List.length_append,List.length_map,List.length_cons,List.length_nil];omega)) (e:=([.slice (some ⟨D,0,none⟩) 32 32]:List Value)) (h1:=Y62 S) ?_;intro ξ;refine MV ?_;refine MZ fun W hS=> ?_;have hS:=(hS.pick [1,4,3])
   have hS:=Y8c hS;go_wp2;go_roundw
   case rel=>exact⟨(i+1),(bs++[(.slice (some ⟨D,0,none⟩) 32 32,lb 32 U)]),_,by omega,Lib.hid (by rw[List.map_append,G.out,HU.out];exact Y3x yh),rfl,by go_num,(by have h_:=hS.pick [1,0];rw[List.map_append];exact h_)⟩
   case measure=>simp[intOf];omega
  obtain rfl:i=qs.length:=by omega
  rw[List.take_length] at G;go_upto_region 3 with fail;refine RL hS ?_;clear hS;refine Wf ?_;refine MZ fun W hS=> ?_;go_upto_region 8 with fail;refine RL hS ?_;clear hS;refine MV ?_;refine MO (m:=[0]) (n:=1) (z:= #[.int .u8 0]) ?_;intro R;refine MB (z:= #[R]) (t:=22) (n:=1) (c:=1) ?_ (hr:=fun W hS=>K3 [R] rfl rfl (vsc (J9 (hS.osl (i:=0) rfl)).1 vs0) Tryz.underlying168 (by kernel_rfl) (by kernel_rfl) rfl (by decide) (by decide));intro κ;refine J06 (fun W hS=>(J9 (hS.osl (i:=1) rfl)).2) ?_;intro M;refine MAr 2 0 (tS:=168) (bytes:=24) (es:=(List.map bv1 bs)) (by first|omega|decide|(rw[List.length_map];omega)|(simp only[List.length_append,List.length_map,List.length_cons,List.length_nil];omega)) (e:=([R]:List Value)) (h1:=Y62 M) ?_;intro σ;refine J06 (fun W hS=>(Z0r (l:=[0]) (hS.row (i:=2) rfl) (hS.at_ (i:=3) (x:=bvT bs) rfl).1 (hS.own (i:=1) rfl).sl).imp fun A h=>h.imp fun c h=>h.1) ?_;rintro⟨A_,c_,rfl⟩;refine MC (v:=.agg (J0 .u8 64 (J7 X))) (fun W hS=>J7w hX.out (bs.map (·.2)++[[0]]) A_ c_ (by rw[G.out];unfold mkP;simp) (by simp only[List.length_append,List.length_cons,List.length_nil,Q0,V5u];omega) (by rw[G.out];unfold mkP;simp;omega) W (by obtain⟨A,c,h1,h2⟩:=Z0r (l:=[0]) (hS.row (i:=2) rfl) (hS.at_ (i:=3) (x:=bvT bs) rfl).1 (hS.own (i:=1) rfl).sl;injection h1 with h1;subst h1;exact h2) (GA_ext hG hS.ext).2.1) ?_;refine MN (z:=J0 .u8 64 (J7 0)) (t:=89) ?_;intro N;refine MR 0 ?_;refine MZ fun W hS=> ?_;go_upto_region 9 with fail;refine RL hS ?_;clear hS;refine MW ?_ (v:=.slice (some ⟨N,0,none⟩) 16 64);refine MV ?_;refine MZ fun W hS=> ?_;go_wp2;exact bodyPost_ret (v:=.slice (some ⟨N,0,none⟩) 16 64) (by simp only[results,Tryz.results73];go_simp) rfl ⟨N,rfl,hS.pick [0]⟩
end

section
set_option maxHeartbeats 2000000
attribute [local irreducible] wpList Y8 wpX
variable {kn : Kn}
open Sc (LL J0v)
attribute [local irreducible] hs
theorem Q5h {A B:Nat}{v:Value}{w:World}(h:A=B)(c:Calls Tryz.prog 107 #[.agg (J0 .u8 32 (J7 B))] w fun e w' =>K7 v w w' e):Calls Tryz.prog 107 #[.agg (J0 .u8 32 (J7 A))] w fun e w' =>K7 v w w' e:=h▸c
theorem Z35 {w:World}{o:Oper}{a:Act}{x y:Operand}{t t' :TypeId}{i n:Nat}{c:Bool}(hc:decide (i<n)=c)(ho:o.op=.binOp .lss t x y t')(hx:a.eval x=.int .i64 (i:Int))(hy:a.eval y=.int .i64 (n:Int)):(execOp a.eval o).run Tryz.prog w=.ok (.value (.bool c)) w:=by
 have e:decide ((i:Int)<(n:Int))=c:=by rw[←hc];exact decide_eq_decide.2 Int.ofNat_lt
 simp only[execOp,ho,hx,hy,eqGuard,binOp,Sem.run_bind];simp[e,hc,go_sem,Sem.run_bind]
theorem Z36 {w:World}{o:Oper}{a:Act}{x:Operand}{i:Nat}(ho:o.op=.convert 3 5 x)(hx:a.eval x=.int .i64 (i:Int)):(execOp a.eval o).run Tryz.prog w=.ok (.value (.int .u8 ((u8 i).toNat:Int))) w:=by
 rw[J5l,show((i:Int) % 256)=w8 (i:Int) from(IntKind.wrap_u8 _).symm];exact J2h ho hx

theorem Z30 (hc:kn.c){V:Nat}{L:List UInt8}(hL:L.length≤1099511627776)(c0:Nat)(h256:c0<256)(hok:candOk V L c0=true)(hlow:∀i,i<c0→candOk V L i=false):
  ∃X Y Z T,RN X Y Z T (J43 V L c0)∧∀v w,GA kn w→Sl w v L→Calls Tryz.prog 66 #[.agg (J0 .u8 32 (J7 V)),v] w fun e w' =>K7 (.tuple #[.agg (p4 X Y Z T),.int .i64 0]) w w' e:=by
 obtain⟨ω,ψ,η,ν⟩:=Q8c (kn:=kn) hc (Q1l V L c0) (candOk_iff.1 hok).1;obtain⟨χ,U⟩:=exn (J5w V L c0 % 2^255);rw[←U] at η ν;clear U;obtain⟨δ,ε,α,β,R,Γ⟩:=Q1h (kn:=kn) η.rw;replace R:RN δ ε α β (J43 V L c0):=R;refine⟨δ,ε,α,β,R,fun v w hG N=> ?_⟩;have hS:=SH.nil [] w
 go_enter Tryz.func66,Tryz.ntmps66
 go_upto_region 0 with fail;refine RL hS ?_;clear hS;refine MN (z:=J0 .u8 32 (J7 V)) (t:=23) ?_;intro V5;refine MN (z:=p4 0 0 0 0) (t:=154) ?_;intro Δ;refine W0 ?_;refine MZ fun W hS=> ?_
 go_wp2_with fail
 go_loopw [10] (fun ii wr=> ∃(i:Nat),(i≤c0)∧(ii=.int .i64 (i:Int))∧SH [] w wr [.b Δ (p4 0 0 0 0) 154,.b V5 (J0 .u8 32 (J7 V)) 23])
  (fun ii _=>(256-intOf ii).toNat)
 case atStart=>exact⟨0,Nat.zero_le _,rfl,hS⟩
 clear hS
 case round=>
  obtain⟨i,hi,rfl,hS⟩:=hrel;go_upto_region 2 with fail;refine RL hS ?_;clear hS;refine MW ?_ (v:=.bool true) (hv:=by intro W;exact Z35 (i:=i) (n:=256) (decide_eq_true (by omega)) rfl rfl rfl);refine MZ fun W hS=> ?_
  by_cases γ:i=c0
  ·
   subst γ;have D:=(candOk_iff.1 hok).1;have Θ:=(candOk_iff.1 hok).2;go_upto_region 4 with fail;refine RL hS ?_;clear hS;refine MO (m:=[3,1]) (n:=2) (z:= #[.int .u8 3,.int .u8 1]) ?_;intro κ;refine MW ?_ (v:=.slice (some ⟨V5,0,none⟩) 32 32);refine MV ?_;refine MV ?_;refine MW ?_ (v:=.int .u8 ((UInt8.ofNat i).toNat:Int)) (hv:=by intro W;exact Z36 rfl rfl);refine MO (m:=[UInt8.ofNat i,0]) (n:=2) (z:= #[.int .u8 ((UInt8.ofNat i).toNat:Int),.int .u8 0]) ?_;intro θ;refine MB (z:= #[κ,.slice (some ⟨V5,0,none⟩) 32 32,v,θ]) (t:=22) (n:=4) (c:=4) ?_ (hr:=fun W hS=>K3 [κ,.slice (some ⟨V5,0,none⟩) 32 32,v,θ] rfl rfl (vsc (J9 (hS.osl (i:=1) rfl)).1 (vsc (J9 (Y6 (V:=V) (n:=32) (off:=0) (c:=32) (hS.blk (i:=3) rfl) ap0 (by decide) (by decide))).1 (vsc (J9 (J0a N hS.ext)).1 (vsc (J9 (hS.osl (i:=0) rfl)).1 vs0)))) Tryz.underlying168 (by kernel_rfl) (by kernel_rfl) rfl (by decide) (by decide));intro Ξ;obtain⟨U1,ξ⟩:=exh (hs ([3,1]++(lb 32 V)++L++[UInt8.ofNat i,0]));refine MC (v:=.agg (J0 .u8 64 (J7 U1))) (fun W hS=>J7w ξ.out [[3,1],lb 32 V,L,[UInt8.ofNat i,0]] (some ⟨Ξ,0,none⟩) 4 (by simp only[List.flatten_cons,List.flatten_nil,List.append_nil,List.nil_append,List.append_assoc,List.cons_append]) (by first|omega|(simp only[List.length_append,List.length_cons,List.length_nil,Q0];omega)) (by simp) W (J1n (hS.blk (i:=0) rfl) (pvc (hS.osl (i:=2) rfl) (pvc (Y6 (V:=V) (n:=32) (off:=0) (c:=32) (hS.blk (i:=4) rfl) ap0 (by decide) (by decide)) (pvc (J0a N hS.ext) (pvc (hS.osl (i:=1) rfl) pv0))))) (GA_ext hG hS.ext).2.1) ?_;refine MN (z:=J0 .u8 64 (J7 0)) (t:=89) ?_;intro σ;refine MR 0 ?_;refine MZ fun W hS=> ?_;go_upto_region 5 with fail;refine RL hS ?_;clear hS;refine MW ?_ (v:=.slice (some ⟨σ,0,none⟩) 32 64);refine MW ?_ (v:=.pointer (some ⟨σ,0,none⟩)) (hv:=by intro W;first|rfl|(go_simp;done)|(go_simp;with_reducible rfl));refine Ml 0 Z2q ?_;have G:lo U1=J5w V L i:=by rw[ξ.out];rfl
   refine MC (v:=.tuple #[.agg (p4 ω χ 1 ψ),.int .i64 0]) (fun W hS=>Q5h G (ν W (GA_ext hG hS.ext).1)) ?_;refine MV ?_;refine MV ?_;refine W0 ?_;refine MN (z:=p4 0 0 0 0) (t:=154) ?_;intro D0;refine MR 0 ?_;refine W0 ?_;refine MZ fun W hS=> ?_;go_upto_region 7 with fail;refine RL hS ?_;clear hS;refine ML 0 ?_;refine MC (v:=.agg (p4 δ ε α β)) (fun W hS=>Γ W (GA_ext hG hS.ext).1) ?_;refine MR 0 ?_;refine MZ fun W hS=> ?_;go_upto_region 8 with fail;refine RL hS ?_;clear hS;refine ML 0 ?_;refine MW ?_ (v:=.agg (p4 0 0 0 0)) (hv:=by intro W;kernel_rfl);have J:=Q8a (kn:=kn) R.rw Q3t;rw[show decide (J43 V L i=p0)=false from decide_eq_false Θ] at J;refine MC (v:=.bool false) (fun W hS=>J W (GA_ext hG hS.ext).1) ?_;refine Wt ?_;refine MZ fun W hS=> ?_;go_upto_region 9 with fail;refine RL hS ?_;clear hS;refine ML 0 ?_;refine MR 5 ?_;refine W0 ?_;refine MZ fun W hS=> ?_;go_wp2;exact bodyPost_ret (J0h rfl rfl rfl (hS.blk (i:=5) rfl) (by kernel_rfl) (by kernel_rfl)) rfl ⟨rfl,hS.ext⟩
  have τ:=hlow i (by omega);go_upto_region 4 with fail;refine RL hS ?_;clear hS;refine MO (m:=[3,1]) (n:=2) (z:= #[.int .u8 3,.int .u8 1]) ?_;intro μ;refine MW ?_ (v:=.slice (some ⟨V5,0,none⟩) 32 32);refine MV ?_;refine MV ?_;refine MW ?_ (v:=.int .u8 ((UInt8.ofNat i).toNat:Int)) (hv:=by intro W;exact Z36 rfl rfl);refine MO (m:=[UInt8.ofNat i,0]) (n:=2) (z:= #[.int .u8 ((UInt8.ofNat i).toNat:Int),.int .u8 0]) ?_;intro ζ;refine MB (z:= #[μ,.slice (some ⟨V5,0,none⟩) 32 32,v,ζ]) (t:=22) (n:=4) (c:=4) ?_ (hr:=fun W hS=>K3 [μ,.slice (some ⟨V5,0,none⟩) 32 32,v,ζ] rfl rfl (vsc (J9 (hS.osl (i:=1) rfl)).1 (vsc (J9 (Y6 (V:=V) (n:=32) (off:=0) (c:=32) (hS.blk (i:=3) rfl) ap0 (by decide) (by decide))).1 (vsc (J9 (J0a N hS.ext)).1 (vsc (J9 (hS.osl (i:=0) rfl)).1 vs0)))) Tryz.underlying168 (by kernel_rfl) (by kernel_rfl) rfl (by decide) (by decide));intro φ;obtain⟨U2,S⟩:=exh (hs ([3,1]++(lb 32 V)++L++[UInt8.ofNat i,0]));refine MC (v:=.agg (J0 .u8 64 (J7 U2))) (fun W hS=>J7w S.out [[3,1],lb 32 V,L,[UInt8.ofNat i,0]] (some ⟨φ,0,none⟩) 4 (by simp only[List.flatten_cons,List.flatten_nil,List.append_nil,List.nil_append,List.append_assoc,List.cons_append]) (by first|omega|(simp only[List.length_append,List.length_cons,List.length_nil,Q0];omega)) (by simp) W (J1n (hS.blk (i:=0) rfl) (pvc (hS.osl (i:=2) rfl) (pvc (Y6 (V:=V) (n:=32) (off:=0) (c:=32) (hS.blk (i:=4) rfl) ap0 (by decide) (by decide)) (pvc (J0a N hS.ext) (pvc (hS.osl (i:=1) rfl) pv0))))) (GA_ext hG hS.ext).2.1) ?_;refine MN (z:=J0 .u8 64 (J7 0)) (t:=89) ?_;intro M;refine MR 0 ?_;refine MZ fun W hS=> ?_
  by_cases D:dOk (J5w V L i)=true
  ·
   go_upto_region 5 with fail;refine RL hS ?_;clear hS;refine MW ?_ (v:=.slice (some ⟨M,0,none⟩) 32 64);refine MW ?_ (v:=.pointer (some ⟨M,0,none⟩)) (hv:=by intro W;first|rfl|(go_simp;done)|(go_simp;with_reducible rfl));refine Ml 0 Z2q ?_;have G:lo U2=J5w V L i:=by rw[S.out];rfl
   obtain⟨dx,dt,dr,dc⟩:=Q8c (kn:=kn) hc (Q1l V L i) D;obtain⟨dy,ρ⟩:=exn (J5w V L i % 2^255);rw[←ρ] at dr dc;clear ρ;refine MC (v:=.tuple #[.agg (p4 dx dy 1 dt),.int .i64 0]) (fun W hS=>Q5h G (dc W (GA_ext hG hS.ext).1)) ?_;refine MV ?_;refine MV ?_;refine W0 ?_;refine MN (z:=p4 0 0 0 0) (t:=154) ?_;intro Ω;refine MR 0 ?_;refine W0 ?_;refine MZ fun W hS=> ?_;go_upto_region 7 with fail;refine RL hS ?_;clear hS;refine ML 0 ?_;obtain⟨ex,ey,ez,et,er,ec⟩:=Q1h (kn:=kn) dr.rw;refine MC (v:=.agg (p4 ex ey ez et)) (fun W hS=>ec W (GA_ext hG hS.ext).1) ?_;refine MR 0 ?_;refine MZ fun W hS=> ?_;go_upto_region 8 with fail;refine RL hS ?_;clear hS;refine ML 0 ?_;refine MW ?_ (v:=.agg (p4 0 0 0 0)) (hv:=by intro W;kernel_rfl);have J:=Q8a (kn:=kn) er.rw Q3t;rw[show decide (pm (dPt (J5w V L i)) 8=p0)=true from decide_eq_true (Z0q τ D)] at J;refine MC (v:=.bool true) (fun W hS=>J W (GA_ext hG hS.ext).1) ?_;refine Wf ?_;refine MZ fun W hS=> ?_;go_upto_region 10 with fail;refine RL hS ?_;clear hS;refine MW ?_ (v:=.int .i64 (((i+1:Nat):Int))) (hv:=by intro W;go_simp;(try simp only[IntKind.wrap_i64]);(try omega));refine MV ?_;refine MZ fun W hS=> ?_;go_wp2;go_roundw
   case rel=>exact⟨i+1,by omega,by go_num,(hS.pick [5,6])⟩
   case measure=>simp[intOf];omega
  replace D:dOk (J5w V L i)=false:=by simpa using D
  go_upto_region 5 with fail;refine RL hS ?_;clear hS;refine MW ?_ (v:=.slice (some ⟨M,0,none⟩) 32 64);refine MW ?_ (v:=.pointer (some ⟨M,0,none⟩)) (hv:=by intro W;first|rfl|(go_simp;done)|(go_simp;with_reducible rfl));refine Ml 0 Z2q ?_;have G:lo U2=J5w V L i:=by rw[S.out];rfl
  refine MC (v:=.tuple #[.agg (p4 0 0 0 0),.int .i64 15]) (fun W hS=>Q5h G (Z2i (kn:=kn) hc (Q1l V L i) D W (GA_ext hG hS.ext).1)) ?_;refine MV ?_;refine MV ?_;refine MW ?_ (v:=.int .i64 15);refine MN (z:=p4 0 0 0 0) (t:=154) ?_;intro Ψ;refine MR 0 ?_;refine MW ?_ (v:=.int .i64 15);refine MZ fun W hS=> ?_;go_upto_region 10 with fail;refine RL hS ?_;clear hS;refine MW ?_ (v:=.int .i64 (((i+1:Nat):Int))) (hv:=by intro W;go_simp;(try simp only[IntKind.wrap_i64]);(try omega));refine MV ?_;refine MZ fun W hS=> ?_;go_wp2;go_roundw
  case rel=>exact⟨i+1,by omega,by go_num,(hS.pick [5,6])⟩
  case measure=>simp[intOf];omega
theorem Z31 (hc:kn.c){V:Nat}{L:List UInt8}(hL:L.length≤1099511627776)(hlow:∀i,i<256→candOk V L i=false):
  ∀v w,GA kn w→Sl w v L→Calls Tryz.prog 66 #[.agg (J0 .u8 32 (J7 V)),v] w fun e w' =>K7 (.tuple #[.agg (p4 0 0 0 0),.int .i64 15]) w w' e:=by
 intro v w hG U;have hS:=SH.nil [] w
 go_enter Tryz.func66,Tryz.ntmps66
 go_upto_region 0 with fail;refine RL hS ?_;clear hS;refine MN (z:=J0 .u8 32 (J7 V)) (t:=23) ?_;intro V5;refine MN (z:=p4 0 0 0 0) (t:=154) ?_;intro Z;refine W0 ?_;refine MZ fun W hS=> ?_
 go_wp2_with fail
 go_loopw [10] (fun ii wr=> ∃(i:Nat),(i≤256)∧(ii=.int .i64 (i:Int))∧SH [] w wr [.b Z (p4 0 0 0 0) 154,.b V5 (J0 .u8 32 (J7 V)) 23])
  (fun ii _=>(256-intOf ii).toNat)
 case atStart=>exact⟨0,Nat.zero_le _,rfl,hS⟩
 clear hS
 case round=>
  obtain⟨i,hi,rfl,hS⟩:=hrel
  by_cases D:i<256
  ·
   have Y:=hlow i D;go_upto_region 2 with fail;refine RL hS ?_;clear hS;refine MW ?_ (v:=.bool true) (hv:=by intro W;exact Z35 (i:=i) (n:=256) (decide_eq_true D) rfl rfl rfl);refine MZ fun W hS=> ?_;go_upto_region 4 with fail;refine RL hS ?_;clear hS;refine MO (m:=[3,1]) (n:=2) (z:= #[.int .u8 3,.int .u8 1]) ?_;intro T;refine MW ?_ (v:=.slice (some ⟨V5,0,none⟩) 32 32);refine MV ?_;refine MV ?_;refine MW ?_ (v:=.int .u8 ((UInt8.ofNat i).toNat:Int)) (hv:=by intro W;exact Z36 rfl rfl);refine MO (m:=[UInt8.ofNat i,0]) (n:=2) (z:= #[.int .u8 ((UInt8.ofNat i).toNat:Int),.int .u8 0]) ?_;intro S;refine MB (z:= #[T,.slice (some ⟨V5,0,none⟩) 32 32,v,S]) (t:=22) (n:=4) (c:=4) ?_ (hr:=fun W hS=>K3 [T,.slice (some ⟨V5,0,none⟩) 32 32,v,S] rfl rfl (vsc (J9 (hS.osl (i:=1) rfl)).1 (vsc (J9 (Y6 (V:=V) (n:=32) (off:=0) (c:=32) (hS.blk (i:=3) rfl) ap0 (by decide) (by decide))).1 (vsc (J9 (J0a U hS.ext)).1 (vsc (J9 (hS.osl (i:=0) rfl)).1 vs0)))) Tryz.underlying168 (by kernel_rfl) (by kernel_rfl) rfl (by decide) (by decide));intro α;obtain⟨U1,N⟩:=exh (hs ([3,1]++(lb 32 V)++L++[UInt8.ofNat i,0]));refine MC (v:=.agg (J0 .u8 64 (J7 U1))) (fun W hS=>J7w N.out [[3,1],lb 32 V,L,[UInt8.ofNat i,0]] (some ⟨α,0,none⟩) 4 (by simp only[List.flatten_cons,List.flatten_nil,List.append_nil,List.nil_append,List.append_assoc,List.cons_append]) (by first|omega|(simp only[List.length_append,List.length_cons,List.length_nil,Q0];omega)) (by simp) W (J1n (hS.blk (i:=0) rfl) (pvc (hS.osl (i:=2) rfl) (pvc (Y6 (V:=V) (n:=32) (off:=0) (c:=32) (hS.blk (i:=4) rfl) ap0 (by decide) (by decide)) (pvc (J0a U hS.ext) (pvc (hS.osl (i:=1) rfl) pv0))))) (GA_ext hG hS.ext).2.1) ?_;refine MN (z:=J0 .u8 64 (J7 0)) (t:=89) ?_;intro M;refine MR 0 ?_;refine MZ fun W hS=> ?_
   by_cases G:dOk (J5w V L i)=true
   ·
    go_upto_region 5 with fail;refine RL hS ?_;clear hS;refine MW ?_ (v:=.slice (some ⟨M,0,none⟩) 32 64);refine MW ?_ (v:=.pointer (some ⟨M,0,none⟩)) (hv:=by intro W;first|rfl|(go_simp;done)|(go_simp;with_reducible rfl));refine Ml 0 Z2q ?_;have J:lo U1=J5w V L i:=by rw[N.out];rfl
    obtain⟨dx,dt,dr,dc⟩:=Q8c (kn:=kn) hc (Q1l V L i) G;obtain⟨dy,X⟩:=exn (J5w V L i % 2^255);rw[←X] at dr dc;clear X;refine MC (v:=.tuple #[.agg (p4 dx dy 1 dt),.int .i64 0]) (fun W hS=>Q5h J (dc W (GA_ext hG hS.ext).1)) ?_;refine MV ?_;refine MV ?_;refine W0 ?_;refine MN (z:=p4 0 0 0 0) (t:=154) ?_;intro β;refine MR 0 ?_;refine W0 ?_;refine MZ fun W hS=> ?_;go_upto_region 7 with fail;refine RL hS ?_;clear hS;refine ML 0 ?_;obtain⟨ex,ey,ez,et,er,ec⟩:=Q1h (kn:=kn) dr.rw;refine MC (v:=.agg (p4 ex ey ez et)) (fun W hS=>ec W (GA_ext hG hS.ext).1) ?_;refine MR 0 ?_;refine MZ fun W hS=> ?_;go_upto_region 8 with fail;refine RL hS ?_;clear hS;refine ML 0 ?_;refine MW ?_ (v:=.agg (p4 0 0 0 0)) (hv:=by intro W;kernel_rfl);have R:=Q8a (kn:=kn) er.rw Q3t;rw[show decide (pm (dPt (J5w V L i)) 8=p0)=true from decide_eq_true (Z0q Y G)] at R;refine MC (v:=.bool true) (fun W hS=>R W (GA_ext hG hS.ext).1) ?_;refine Wf ?_;refine MZ fun W hS=> ?_;go_upto_region 10 with fail;refine RL hS ?_;clear hS;refine MW ?_ (v:=.int .i64 (((i+1:Nat):Int))) (hv:=by intro W;go_simp;(try simp only[IntKind.wrap_i64]);(try omega));refine MV ?_;refine MZ fun W hS=> ?_;go_wp2;go_roundw
    case rel=>exact⟨i+1,by omega,by go_num,(hS.pick [5,6])⟩
    case measure=>simp[intOf];omega
   replace G:dOk (J5w V L i)=false:=by simpa using G
   go_upto_region 5 with fail;refine RL hS ?_;clear hS;refine MW ?_ (v:=.slice (some ⟨M,0,none⟩) 32 64);refine MW ?_ (v:=.pointer (some ⟨M,0,none⟩)) (hv:=by intro W;first|rfl|(go_simp;done)|(go_simp;with_reducible rfl));refine Ml 0 Z2q ?_;have J:lo U1=J5w V L i:=by rw[N.out];rfl
   refine MC (v:=.tuple #[.agg (p4 0 0 0 0),.int .i64 15]) (fun W hS=>Q5h J (Z2i (kn:=kn) hc (Q1l V L i) G W (GA_ext hG hS.ext).1)) ?_;refine MV ?_;refine MV ?_;refine MW ?_ (v:=.int .i64 15);refine MN (z:=p4 0 0 0 0) (t:=154) ?_;intro γ;refine MR 0 ?_;refine MW ?_ (v:=.int .i64 15);refine MZ fun W hS=> ?_;go_upto_region 10 with fail;refine RL hS ?_;clear hS;refine MW ?_ (v:=.int .i64 (((i+1:Nat):Int))) (hv:=by intro W;go_simp;(try simp only[IntKind.wrap_i64]);(try omega));refine MV ?_;refine MZ fun W hS=> ?_;go_wp2;go_roundw
   case rel=>exact⟨i+1,by omega,by go_num,(hS.pick [5,6])⟩
   case measure=>simp[intOf];omega
  go_upto_region 2 with fail;refine RL hS ?_;clear hS;refine MW ?_ (v:=.bool false) (hv:=by intro W;exact Z35 (i:=i) (n:=256) (decide_eq_false D) rfl rfl rfl);refine MZ fun W hS=> ?_;go_upto_region 11 with fail;refine RL hS ?_;clear hS;refine MW ?_ (v:=.agg (p4 0 0 0 0)) (hv:=by intro W;kernel_rfl);refine MR 0 ?_;refine MW ?_ (v:=.int .i64 15);refine MZ fun W hS=> ?_;go_wp2;exact bodyPost_ret (J0h rfl rfl rfl (hS.blk (i:=0) rfl) (by kernel_rfl) (by kernel_rfl)) rfl ⟨rfl,hS.ext⟩
end

section
set_option maxHeartbeats 2000000
attribute [local irreducible] wpList
variable {kn : Kn}
open Sc (LL J0v)
attribute [local irreducible] hs

end

section
set_option maxHeartbeats 2000000
attribute [local irreducible] wpList
variable {kn : Kn}
open Sc (LL J0v)
attribute [local irreducible] hs
def q4 (a b c d:Array Value):Array Value:=a++b++c++d
section
variable {X1 Y1 Z1 T1 X2 Y2 Z2 T2 X3 Y3 Z3 T3 X4 Y4 Z4 T4 : Nat}
theorem Z7y {X Y Z T:Nat}:(p4 X Y Z T).size=16:=rfl
theorem K3g:∀i v,(p4 X1 Y1 Z1 T1)[i]?=some v→(q4 (p4 X1 Y1 Z1 T1) (p4 X2 Y2 Z2 T2) (p4 X3 Y3 Z3 T3) (p4 X4 Y4 Z4 T4))[0+i]?=some v:=fun i v h=>by rw[Nat.zero_add];exact J2w (J2w (J2w h))
theorem K3h:∀i v,(p4 X2 Y2 Z2 T2)[i]?=some v→(q4 (p4 X1 Y1 Z1 T1) (p4 X2 Y2 Z2 T2) (p4 X3 Y3 Z3 T3) (p4 X4 Y4 Z4 T4))[16+i]?=some v:=fun i v h=>J2w (J2w (J76 Z7y h))
theorem K3i:∀i v,(p4 X3 Y3 Z3 T3)[i]?=some v→(q4 (p4 X1 Y1 Z1 T1) (p4 X2 Y2 Z2 T2) (p4 X3 Y3 Z3 T3) (p4 X4 Y4 Z4 T4))[32+i]?=some v:=fun i v h=>J2w (J76 (by rw[Array.size_append,Z7y,Z7y]) h)
theorem K3j:∀i v,(p4 X4 Y4 Z4 T4)[i]?=some v→(q4 (p4 X1 Y1 Z1 T1) (p4 X2 Y2 Z2 T2) (p4 X3 Y3 Z3 T3) (p4 X4 Y4 Z4 T4))[48+i]?=some v:=fun i v h=>J76 (by rw[Array.size_append,Array.size_append,Z7y,Z7y,Z7y]) h
end
theorem Q8n {w:World}{gP:Nat}{cs:Array Value}{t:TypeId}(h:Blk w gP cs t){P4:Array Value}{o:Nat}(hq:∀i v,P4[i]?=some v→cs[o+i]?=some v)(i:Nat)(x:Value)(hx:P4.toList[i]?=some x):w.cell? ⟨gP,o+i,none⟩=some x:=by
  rw[J3 h];exact hq i x (by rw[Array.getElem?_toList] at hx;exact hx)
theorem K3k {w:World}{gP k:Nat}{a b c d:List Value}(ha:∀i x,a[i]?=some x→w.cell? ⟨gP,0+i,none⟩=some x)(hb:∀i x,b[i]?=some x→w.cell? ⟨gP,k+i,none⟩=some x)(hc:∀i x,c[i]?=some x→w.cell? ⟨gP,2*k+i,none⟩=some x)(hd:∀i x,d[i]?=some x→w.cell? ⟨gP,3*k+i,none⟩=some x):
    RR k w (.slice (some ⟨gP,0,none⟩) 4 4) [a,b,c,d]:=by
  refine⟨_,_,rfl,Nat.le_refl _,fun e=>by(cases e),fun j e hj=>⟨gP,0,rfl,fun i x hx=> ?_⟩⟩
  match j,hj with
  |0,hj=>obtain rfl:=Option.some.inj hj;rw[show 0+0*k+i=0+i by omega];exact ha i x hx
  |1,hj=>obtain rfl:=Option.some.inj hj;rw[show 0+1*k+i=k+i by omega];exact hb i x hx
  |2,hj=>obtain rfl:=Option.some.inj hj;rw[show 0+2*k+i=2*k+i by omega];exact hc i x hx
  |3,hj=>obtain rfl:=Option.some.inj hj;rw[show 0+3*k+i=3*k+i by omega];exact hd i x hx
theorem rr4 {X1 Y1 Z1 T1 X2 Y2 Z2 T2 X3 Y3 Z3 T3 X4 Y4 Z4 T4 gP:Nat}{w:World}{t:TypeId}(h:Blk w gP (q4 (p4 X1 Y1 Z1 T1) (p4 X2 Y2 Z2 T2) (p4 X3 Y3 Z3 T3) (p4 X4 Y4 Z4 T4)) t):
    RR 16 w (.slice (some ⟨gP,0,none⟩) 4 4) [(p4 X1 Y1 Z1 T1).toList,(p4 X2 Y2 Z2 T2).toList,(p4 X3 Y3 Z3 T3).toList,(p4 X4 Y4 Z4 T4).toList]:=
  K3k (Q8n h K3g) (Q8n h K3h) (Q8n h K3i) (Q8n h K3j)
theorem V5f {V X:Nat}{X1 Y1 Z1 T1:Nat}{a1:Pr}(h1:RN X1 Y1 Z1 T1 a1){X2 Y2 Z2 T2:Nat}{a2:Pr}(h2:RN X2 Y2 Z2 T2 a2){X3 Y3 Z3 T3:Nat}{a3:Pr}(h3:RN X3 Y3 Z3 T3 a3){X4 Y4 Z4 T4:Nat}{a4:Pr}(h4:RN X4 Y4 Z4 T4 a4)(hX:X=chH V a1 a2 a3 a4):
    ∀gP w,GA kn w→Blk w gP (q4 (p4 X1 Y1 Z1 T1) (p4 X2 Y2 Z2 T2) (p4 X3 Y3 Z3 T3) (p4 X4 Y4 Z4 T4)) 154→Calls Tryz.prog 73 #[.agg (J0 .u8 32 (J7 V)),.slice (some ⟨gP,0,none⟩) 4 4] w fun e w' => ∃p,e=.returned (.slice (some ⟨p,0,none⟩) 16 64)∧w.heap.size≤p∧Off [] w w' ∧Blk w' p (J0 .u8 64 (J7 X)) 89:=by
  intro gP w hG hP;obtain⟨qs,D⟩:∃qs:List PQ,qs=[⟨X1,Y1,Z1,T1,a1⟩,⟨X2,Y2,Z2,T2,a2⟩,⟨X3,Y3,Z3,T3,a3⟩,⟨X4,Y4,Z4,T4,a4⟩]:=⟨_,rfl⟩
  have hx:RowKit.Hid (X=hs ([3,2]++lb 32 V++(qs.map fun q=>lb 32 (enc q.a)).flatten++[0])):=Lib.hid (by
    rw[hX,D];unfold chH
    congr 1)
  have hr:RR 16 w (.slice (some ⟨gP,0,none⟩) 4 4) (qs.map pqC):=by rw[D];exact rr4 hP
  have hn:qs.length≤1000:=by rw[D];simp
  refine(V5g (qs:=qs) (fun q hq=> ?_) hn hx w hG hr).mono fun e w' ⟨p,q1,hS⟩=>⟨p,q1,?_,hS.off,hS.blk (i:=0) rfl⟩
  · rw[D] at hq
    simp only[List.mem_cons,List.not_mem_nil,or_false] at hq;rcases hq with rfl|rfl|rfl|rfl
    · exact h1
    · exact h2
    · exact h3
    exact h4
  exact Nat.not_lt.1 fun h=>by cases hS.old (.b p (J0 .u8 64 (J7 X)) 89) (by simp) rfl p (by simp[As.foot]) h
end

section
set_option maxHeartbeats 2000000
attribute [local irreducible] wpList Y8
variable {kn : Kn}
open Sc (LL J0v)
attribute [local irreducible] hs
theorem Y85 {V m j:Nat}(hj:j<m):J7 (V % 2^(8*m)) j=J7 V j:=by
  unfold J7;have e:(2:Nat)^(8*m)=2^(8*j)*2^(8*m-8*j):=by rw[←Nat.pow_add];congr 1;omega
  have e2:(2:Nat)^(8*m-8*j)=256*2^(8*m-8*j-8):=by rw[show 8*m-8*j=8+(8*m-8*j-8) by omega,Nat.pow_add,Nat.add_sub_cancel_left]
  rw[e,Nat.mod_mul_right_div_self,e2,Nat.mod_mul_right_mod]
theorem Z62 {n m off V U:Nat}(hU:∀j,j<m→J7 U j=J7 V (off+j))(h:off+m≤n):∀i v,(J0 .u8 m (J7 U))[i]?=some v→(J0 .u8 n (J7 V))[off+i]?=some v:=fun i v hv=>by
  have hi:i<m:=by have:=(Array.getElem?_eq_some_iff.1 hv).1;rwa [J1] at this
  rw[V3 _ _ _ _ hi,hU i hi] at hv;rw[V3 _ _ _ _ (by omega)];exact hv
theorem K0w {P:Nat}:∀i v,(J0 .u8 32 (J7 (pG P)))[i]?=some v→(J0 .u8 80 (J7 P))[0+i]?=some v:=Z62 (fun j hj=>by rw[Nat.zero_add];exact Y3g hj) (by decide)
theorem V0u (P:Nat):pG P<2^256:=lo_lt P
theorem V5h (hc:kn.c){P:Nat}(hok:dOk (pG P)=false):
  ∀w,GA kn w→Calls Tryz.prog 74 #[.agg (J0 .u8 80 (J7 P))] w fun e w' =>K7 (.tuple #[.agg (J0 .u8 64 (J7 0)),.int .i64 17]) w w' e:=by
 have dc:=Z2i (kn:=kn) hc (V:=(pG P)) (V0u P) hok;intro w hG;have D:Off [] w w:=Off.refl _ _
 go_enter Tryz.func74,Tryz.ntmps74
 go_upto_region 0 with fail;refine wp_region_lit ?_;refine Ln ?_ (z:=J0 .u8 80 (J7 P)) (t:=40);intro M W1 R hO h_;replace D:=D.o hO;have J:=h_;clear hO h_ R;refine Ln ?_ (z:=J0 .u8 64 (J7 0)) (t:=89);intro T W2 N hO h_;have U:=fbn D N;replace J:=J.o hO;replace D:=D.o hO;have G:=h_;clear hO h_ N;refine Lw ?_ (v:=.int .i64 0);refine J5 ?_;go_upto_region 1 with fail;refine wp_region_lit ?_;refine Lw ?_ (v:=.slice (some ⟨M,0,none⟩) 32 80) (hv:=by first|rfl|(go_simp;done)|(go_simp;with_reducible rfl));refine Lw ?_ (v:=.pointer (some ⟨M,0,none⟩)) (hv:=by first|rfl|(go_simp;done)|(go_simp;with_reducible rfl));refine J75 (vs:=(J0 .u8 32 (J7 (pG P))).toList) (by rfl) rfl rfl J (Z77 K0w) (by kernel_rfl) (by kernel_rfl) ?_
 (try simp only[Act.put,mA,mB,mC])
 refine Lr ?_ (dc W2 (GA_ext hG D.ext).1);intro W3 hO;replace G:=G.o hO;replace D:=D.o hO;clear hO;refine Lv ?_;refine Lv ?_;refine Lw ?_ (v:=.int .i64 15);refine LnP ?_ (z:=p4 0 0 0 0) (t:=154) (cells:=p4 0 0 0 0);intro X W5 S hO h_;replace G:=G.o hO;replace D:=D.o hO;clear hO h_ S;refine Lw ?_ (v:=.int .i64 15);refine J5 ?_;go_upto_region 3 with fail;refine wp_region_lit ?_;refine Lw ?_ (v:=.agg (J0 .u8 64 (J7 0))) (hv:=by kernel_rfl);refine LpA ?_ G (k:=.u8) (n:=64) (f:=J7 0);intro W6 hO h_;replace G:Blk W6 T (J0 .u8 64 (J7 0)) 89:=h_;clear h_;replace D:=D.p hO U;clear hO;refine Lw ?_ (v:=.int .i64 17);refine J5 ?_;go_wp2;exact bodyPost_ret (J0h rfl rfl rfl G (by kernel_rfl) (by rw[J1];kernel_rfl)) rfl ⟨rfl,D.ext⟩
theorem V5i (hc:kn.c){P X:Nat}(hok:dOk (pG P)=true)(hX:X=Y86 P):
  ∀w,GA kn w→Calls Tryz.prog 74 #[.agg (J0 .u8 80 (J7 P))] w fun e w' =>K7 (.tuple #[.agg (J0 .u8 64 (J7 X)),.int .i64 0]) w w' e:=by
 obtain⟨dx,dt,dr,dc⟩:=Q8c hc (V:=(pG P)) (V0u P) hok;obtain⟨y0,δ⟩:=exn ((pG P) % 2^255);rw[←δ] at dr dc;clear δ;obtain⟨x1,y2,z3,t4,r5,c6⟩:=Q1h (kn:=kn) dr.rw;obtain⟨U1,U⟩:=exn (enc (pm (dPt (pG P)) 8));have Γ:U1<2^256:=by rw[U];exact Q0p _
 have β:=Lib.hid U;clear U;obtain⟨U2,Z⟩:=exh (hs ([3,3]++(lb 32 U1)++[0]));intro w hG;have D:Off [] w w:=Off.refl _ _
 go_enter Tryz.func74,Tryz.ntmps74
 go_upto_region 0 with fail;refine wp_region_lit ?_;refine Ln ?_ (z:=J0 .u8 80 (J7 P)) (t:=40);intro α W1 η hO h_;replace D:=D.o hO;have R:=h_;clear hO h_ η;refine Ln ?_ (z:=J0 .u8 64 (J7 0)) (t:=89);intro σ W2 γ hO h_;have ω:=fbn D γ;replace R:=R.o hO;replace D:=D.o hO;have G:=h_;clear hO h_ γ;refine Lw ?_ (v:=.int .i64 0);refine J5 ?_;go_upto_region 1 with fail;refine wp_region_lit ?_;refine Lw ?_ (v:=.slice (some ⟨α,0,none⟩) 32 80) (hv:=by first|rfl|(go_simp;done)|(go_simp;with_reducible rfl));refine Lw ?_ (v:=.pointer (some ⟨α,0,none⟩)) (hv:=by first|rfl|(go_simp;done)|(go_simp;with_reducible rfl));refine J75 (vs:=(J0 .u8 32 (J7 (pG P))).toList) (by rfl) rfl rfl R (Z77 K0w) (by kernel_rfl) (by kernel_rfl) ?_
 (try simp only[Act.put,mA,mB,mC])
 refine Lr ?_ (dc W2 (GA_ext hG D.ext).1);intro W3 hO;replace G:=G.o hO;replace D:=D.o hO;clear hO;refine Lv ?_;refine Lv ?_;refine Lw ?_ (v:=.int .i64 0);refine LnP ?_ (z:=p4 0 0 0 0) (t:=154) (cells:=p4 dx y0 1 dt);intro Δ W5 ν hO h_;replace G:=G.o hO;replace D:=D.o hO;have ε:=h_;clear hO h_ ν;refine Lw ?_ (v:=.int .i64 0);refine J5 ?_;go_upto_region 4 with fail;refine wp_region_lit ?_;refine L0 ?_ ε;refine Lr ?_ (c6 W5 (GA_ext hG D.ext).1);intro W6 hO;replace G:=G.o hO;replace D:=D.o hO;clear hO;refine Lr ?_ (Q5c r5.rw β.out W6 (GA_ext hG D.ext).1);intro W7 hO;replace G:=G.o hO;replace D:=D.o hO;clear hO;refine LnA ?_ (z:=J0 .u8 32 (J7 0)) (t:=23) (k:=.u8) (n:=32) (f:=J7 U1);intro Y W9 κ hO h_;replace G:=G.o hO;replace D:=D.o hO;have M:=h_;clear hO h_ κ;refine J5 ?_;go_upto_region 5 with fail;refine wp_region_lit ?_;refine LnS ?_ (z:= #[.int .u8 3,.int .u8 3]) (t:=5) (n:=2) (c:=2);intro S ψ ξ hO h_;replace G:=G.o hO;replace M:=M.o hO;replace D:=D.o hO;have J:Own ψ (.slice (some ⟨S,0,none⟩) 2 2) [3,3]:=J2q h_ (by rfl) (by show 2≤maxLen;decide);clear hO h_ ξ;refine Lw ?_ (v:=.slice (some ⟨Y,0,none⟩) 32 32) (hv:=by first|rfl|(go_simp;done)|(go_simp;with_reducible rfl));refine LnS ?_ (z:= #[.int .u8 0]) (t:=5) (n:=1) (c:=1);intro T ζ θ hO h_;replace G:=G.o hO;replace M:=M.o hO;replace J:=Own.off J hO f0;replace D:=D.o hO;have N:Own ζ (.slice (some ⟨T,0,none⟩) 1 1) [0]:=J2q h_ (by rfl) (by show 1≤maxLen;decide);clear hO h_ θ;refine LnS ?_ (z:= #[(.slice (some ⟨S,0,none⟩) 2 2),.slice (some ⟨Y,0,none⟩) 32 32,(.slice (some ⟨T,0,none⟩) 1 1)]) (t:=22) (n:=3) (c:=3) (hr:=by exact K3 [(.slice (some ⟨S,0,none⟩) 2 2),.slice (some ⟨Y,0,none⟩) 32 32,(.slice (some ⟨T,0,none⟩) 1 1)] rfl rfl (vsc ((Q6j J).1) (vsc (rfl) (vsc ((Q6j N).1) vs0))) Tryz.underlying168 (by kernel_rfl) (by kernel_rfl) rfl (by decide) (by decide));intro ρ μ φ hO h_;replace G:=G.o hO;replace M:=M.o hO;replace J:=Own.off J hO f0;replace N:=Own.off N hO f0;replace D:=D.o hO;have τ:=h_;clear hO h_ φ;refine Lr ?_ (J7w Z.out [[3,3],lb 32 U1,[0]] (some ⟨ρ,0,none⟩) 3 (by simp only[List.flatten_cons,List.flatten_nil,List.append_nil,List.nil_append,List.append_assoc,List.cons_append]) (by first|omega|(simp only[List.length_append,List.length_cons,List.length_nil,Q0];omega)) (by simp) μ (J1n τ (pvc (J.sl) (pvc (Y6 (V:=U1) (n:=32) (off:=0) M ap0 (by decide) (by decide)) (pvc (N.sl) pv0)))) (GA_ext hG D.ext).2.1);intro Θ hO;replace G:=G.o hO;replace D:=D.o hO;clear hO;refine LpA ?_ G (k:=.u8) (n:=64) (f:=J7 U2);intro χ hO h_;replace G:Blk χ σ (J0 .u8 64 (J7 U2)) 89:=h_;clear h_;replace D:=D.p hO ω;clear hO;refine Lw ?_ (v:=.int .i64 0);refine J5 ?_;go_wp2;rw[hX,show Y86 P=U2 by rw[Z.out,β.out];rfl];exact bodyPost_ret (J0h rfl rfl rfl G (by kernel_rfl) (by rw[J1];kernel_rfl)) rfl ⟨rfl,D.ext⟩
theorem index_c {X:Nat}(w:World):
  Calls Tryz.prog 34 #[.agg (J0 .u8 64 (J7 X))] w fun e w' =>K7 (.agg (J0 .u8 32 (J7 (lo X)))) w w' e:=by
 have D:Off [] w w:=Off.refl _ _
 go_enter Tryz.func34,Tryz.ntmps34
 go_upto_region 0 with fail;refine wp_region_lit ?_;refine Ln ?_ (z:=J0 .u8 64 (J7 X)) (t:=89);intro N W1 T hO h_;replace D:=D.o hO;have G:=h_;clear hO h_ T;refine Ln ?_ (z:=J0 .u8 32 (J7 0)) (t:=23);intro R W2 M hO h_;have S:=fbn D M;replace G:=G.o hO;replace D:=D.o hO;have J:=h_;clear hO h_ M;refine J5 ?_;go_upto_region 1 with fail;refine wp_region_lit ?_;refine Lw ?_ (v:=.slice (some ⟨N,0,none⟩) 32 64) (hv:=by first|rfl|(go_simp;done)|(go_simp;with_reducible rfl));refine Lw ?_ (v:=.pointer (some ⟨N,0,none⟩)) (hv:=by first|rfl|(go_simp;done)|(go_simp;with_reducible rfl));refine J75 (vs:=(J0 .u8 32 (J7 (lo X))).toList) (by rfl) rfl rfl G (Z77 Z2q) (by kernel_rfl) (by kernel_rfl) ?_
 (try simp only[Act.put,mA,mB,mC])
 refine LpA ?_ J (k:=.u8) (n:=32) (f:=J7 (lo X));intro W3 hO h_;replace J:Blk W3 R (J0 .u8 32 (J7 (lo X))) 23:=h_;clear h_;replace D:=D.p hO S;clear hO;refine J5 ?_;go_wp2;exact bodyPost_ret (Z7 rfl rfl J (by kernel_rfl) (by rw[J1];kernel_rfl)) rfl ⟨rfl,D.ext⟩
end
end Go.Proofs.YteehbddkcnkhfaaGreatDoor.S8

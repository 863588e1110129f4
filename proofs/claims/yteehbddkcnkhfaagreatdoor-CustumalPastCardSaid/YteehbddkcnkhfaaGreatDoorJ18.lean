/- Contracts and plain laws for custumalPast_holds. Conditions: the tables hold their numbers. -/
import Derived.Test.YteehbddkcnkhfaaGreatDoorJ17
open Go.RowKit
set_option maxRecDepth 100000
set_option linter.unusedSimpArgs false
set_option linter.unusedVariables false
namespace Go.Proofs.YteehbddkcnkhfaaGreatDoor
section
namespace SH
variable {F : List Nat} {w W W' : World} {H H' L L' R : List As} {x y : As} {i j : Nat}
def okT (L R:List As):List As→Prop
  |[]=>True
  |y::l=>(y∈L∨(y.mv=true∧R.all (tyOk y)=true)∨∃T K,y=.t T K∧R.all (fun z=>tyOk z y)=true)∧okT L R l
theorem Q7b:∀{l:List As},okT L R l→∀y∈l,y∈L∨(y.mv=true∧R.all (tyOk y)=true)∨∃T K,y=.t T K∧R.all (fun z=>tyOk z y)=true
  |_::_,h,y,hy=>by
    rcases List.mem_cons.1 hy with rfl|hy
    · exact h.1
    · exact Q7b h.2 y hy
theorem frameT (h:SH F w W (L++R))(h' :SH (feet L) W W' L')(ok:okT L R L'):SH F w W' (L' ++R):=by
  have hp:=List.pairwise_append.1 h.ap;have hR:∀z∈R,z.holds W:=fun z hz=>h.all z (by simp[hz]);have hL:∀x∈L,x.holds W:=fun x hx=>h.all x (by simp[hx])
  -- a block of what may turn is no block of R
  have hf:∀k,k∈feet L→∀z∈R,(∀T K,z≠ .t T K)→k∉z.foot:=fun k hk z hz hT=>by
    obtain⟨x,hx,hm,hk⟩:=mem_feet.1 hk;have:=(hp.2.2 x hx z hz).1 hm;cases z with
    |t T K=>exact absurd rfl (hT T K)
    |_=>exact this k hk
  have hl:∀y∈L',y.mv=true→∀z∈R,(∀T K,z≠ .t T K)→∀k∈y.foot,k∉z.foot:=fun y hy hm z hz hT k hk D=>
    hf k (h'.old y hy hm k hk (As.lt (hR z hz) k D)) z hz hT D
  refine⟨h.off.step h'.off fun k hk G=> ?_,fun z hz=> ?_,List.pairwise_append.2 ⟨h'.ap,hp.2.1,fun y hy z hz=>⟨fun hm=> ?_,fun hm=> ?_⟩⟩,fun z hz hm k hk G=> ?_⟩
  · obtain⟨x,hx,hm,hk⟩:=mem_feet.1 hk
    exact h.old x (by simp[hx]) hm k hk G
  · rcases List.mem_append.1 hz with hz|hz
    · exact h'.all z hz
    refine As.keep h'.off (hR z hz) (fun k hk J=> ?_) fun T K e k J G ht=> ?_
    · cases z with
      |t T K=>cases hk
      |_=>exact hf k J _ hz (fun _ _ e=>by cases e) hk
    obtain⟨x,hx,hm,hk⟩:=mem_feet.1 J;have h1:=(hp.2.2 x hx z hz).1 hm;subst e;exact h1 ((As.tyOf (hL x hx) hm k hk).symm.trans ht)
  · rcases Q7b ok y hy with M|⟨_,N⟩|⟨T,K,e,_⟩
    · exact(hp.2.2 y M z hz).1 hm
    · cases z with
      |t T K=>have:=List.all_eq_true.1 N _ hz;simpa[tyOk,hm] using this
      |_=>exact hl y hy hm _ hz (fun _ _ e=>by cases e)
    subst e;cases hm
  · rcases Q7b ok y hy with M|⟨S,_⟩|⟨T,K,e,N⟩
    · exact(hp.2.2 y M z hz).2 hm
    · cases y with
      |t T K=>cases S
      |_=>exact fun k hk D=>hl _ hy S z hz (fun T K e=>by subst e;cases hm) k D hk
    subst e;have:=List.all_eq_true.1 N _ hz;simpa[tyOk,hm] using this
  rcases List.mem_append.1 hz with hz|hz
  · by_cases U:k<W.heap.size
    · obtain⟨x,hx,V,D⟩:=mem_feet.1 (h'.old z hz hm k hk U)
      exact h.old x (by simp[hx]) V k D G
    have:=h.size;omega
  exact h.old z (by simp[hz]) hm k hk G
end SH
section
variable {P : Program} {f : FuncId} {args : Array Value} {F : List Nat} {w W : World} {H L R : List As}
theorem V4x {α:Type}(I J:List Nat){V:α→Value}{L' H' :α→List As}(hS:SH F w W H)(hc:SH (SH.feet L) W W L→Calls P f args W fun e W' => ∃x,e=.returned (V x)∧SH (SH.feet L) W W' (L' x))(ok:∀x,SH.okT L R (L' x))(hI:pk H I=L:=by exact rfl)(hJ:pk H J=R:=by exact rfl)(hn:(I++J).Nodup:=by decide)(hH:∀x,L' x++R=H' x:=by exact fun _=>rfl):Calls P f args W fun e W' => ∃x,e=.returned (V x)∧SH F w W' (H' x):=by
  subst hI hJ
  have h:SH F w W (pk H I++pk H J):=hS.pick (I++J) (by
    exact Q69 H I J) hn
  exact(hc h.here).mono fun e W' ⟨x,h1,h2⟩=>⟨x,h1,by rw[←hH x];exact h.frameT h2 (ok x)⟩
end
end

section
def InF (N:List As)(f:List Nat):Prop:=∀k∈f,∃x∈N,(∀T K,x≠ .t T K)∧k∈x.foot
namespace SH
variable {F : List Nat} {w W W' : World} {H H' L L' N R : List As} {x y : As} {i j : Nat} {f : List Nat} {K : World → Prop} {T : Option TypeId}
theorem Q6c {z:As}(hx:x.mv=true)(h:x.apart z)(hy:y.mv=true)(ht:y.ty=x.ty)(hf:∀k∈y.foot,k∈x.foot):y.apart z:=by
  refine⟨fun _=> ?_,fun hm=> ?_⟩
  · have h1:=h.1 hx
    cases z with
    |t T K=>exact fun e=>h1 (ht▸e)
    |_=>exact fun k hk=>h1 k (hf k hk)
  have h2:=h.2 hm
  have h3:∀k∈z.foot,k∉x.foot:=by
    cases x with
    |t T K=>cases hx
    |_=>exact h2
  cases y with
  |t T K=>cases hy
  |_=>exact fun k hk D=>h3 k hk (hf k D)
theorem Y4j {u z:As}(hx:x.mv=true)(hy:y.mv=true)(h:x.apart z)(h' :y.apart z)(hu:u.mv=true)(tx:x.ty=u.ty)(hf:∀k∈u.foot,k∈x.foot∨k∈y.foot):u.apart z:=by
  refine⟨fun _=> ?_,fun hm=> ?_⟩
  · have h1:=h.1 hx
    have h1' :=h'.1 hy;cases z with
    |t T K=>exact fun e=>h1 (tx▸e)
    |_=>exact fun k hk=>(hf k hk).elim (h1 k) (h1' k)
  have h2:=h.2 hm;have h2' :=h'.2 hm
  have h3:∀k∈z.foot,k∉x.foot:=by
    cases x with
    |t T K=>cases hx
    |_=>exact h2
  have h3' :∀k∈z.foot,k∉y.foot:=by
    cases y with
    |t T K=>cases hy
    |_=>exact h2'
  cases u with
  |t T K=>cases hu
  |_=>exact fun k hk D=>(hf k D).elim (h3 k hk) (h3' k hk)
theorem asM (h:SH F w W (x::H))(hx:x.mv=true)(hy:y.mv=true)(ht:y.ty=x.ty)(hz:y.holds W)(hf:∀k∈y.foot,k∈x.foot):SH F w W (y::H):=by
  have hp:=List.pairwise_cons.1 h.ap;refine⟨h.off,fun z D=> ?_,List.pairwise_cons.2 ⟨fun z D=>Q6c hx (hp.1 z D) hy ht hf,hp.2⟩,fun z D hm k hk G=> ?_⟩
  · rcases List.mem_cons.1 D with rfl|D
    · exact hz
    exact h.all z (List.mem_cons_of_mem _ D)
  rcases List.mem_cons.1 D with rfl|D
  · exact h.old x (List.mem_cons_self ..) hx k (hf k hk) G
  exact h.old z (List.mem_cons_of_mem _ D) hm k hk G
theorem merge (h:SH F w W (x::y::H))(hx:x.mv=true)(hy:y.mv=true)(tx:x.ty=T)(hz:(As.m T f K).holds W)(hf:∀k∈f,k∈x.foot∨k∈y.foot):SH F w W (.m T f K::H):=by
  have hp:=List.pairwise_cons.1 h.ap;have J:=List.pairwise_cons.1 hp.2;refine⟨h.off,fun z D=> ?_,List.pairwise_cons.2 ⟨fun z D=>Y4j hx hy (hp.1 z (List.mem_cons_of_mem _ D)) (J.1 z D) rfl tx hf,J.2⟩,fun z D hm k hk G=> ?_⟩
  · rcases List.mem_cons.1 D with rfl|D
    · exact hz
    exact h.all z (List.mem_cons_of_mem _ (List.mem_cons_of_mem _ D))
  rcases List.mem_cons.1 D with rfl|D
  · rcases hf k hk with hk|hk
    · exact h.old x (List.mem_cons_self ..) hx k hk G
    exact h.old y (by simp) hy k hk G
  exact h.old z (by simp[D]) hm k hk G
theorem split {u:As}(h:SH F w W (u::H))(hu:u.mv=true)(hx:x.holds W)(hy:y.holds W)(mx:x.mv=true)(my:y.mv=true)(tx:x.ty=u.ty)(ty:y.ty=u.ty)(fx:∀k∈x.foot,k∈u.foot)(fy:∀k∈y.foot,k∈u.foot)(dj:∀k∈x.foot,k∉y.foot):SH F w W (x::y::H):=by
  have hp:=List.pairwise_cons.1 h.ap;refine⟨h.off,fun z D=> ?_,List.pairwise_cons.2 ⟨fun z D=> ?_,List.pairwise_cons.2 ⟨fun z D=>Q6c hu (hp.1 z D) my ty fy,hp.2⟩⟩,fun z D hm k hk G=> ?_⟩
  · rcases List.mem_cons.1 D with rfl|D
    · exact hx
    rcases List.mem_cons.1 D with rfl|D
    · exact hy
    exact h.all z (List.mem_cons_of_mem _ D)
  · rcases List.mem_cons.1 D with rfl|D
    · refine⟨fun _=> ?_,fun _=> ?_⟩
      · cases z with
        |t T K=>cases my
        |_=>exact dj
      cases x with
      |t T K=>cases mx
      |_=>exact fun k hk J=>dj k J hk
    exact Q6c hu (hp.1 z D) mx tx fx
  rcases List.mem_cons.1 D with rfl|D
  · exact h.old u (List.mem_cons_self ..) hu k (fx k hk) G
  rcases List.mem_cons.1 D with rfl|D
  · exact h.old u (List.mem_cons_self ..) hu k (fy k hk) G
  exact h.old z (List.mem_cons_of_mem _ D) hm k hk G
theorem mnil (T:Option TypeId)(h:SH F w W H)(hz:(As.m T [] K).holds W)(ht:H.all (fun y=>tyOk (.m T [] K) y)=true):SH F w W (.m T [] K::H):=h.new (Off.refl _ _) hz (fun k hk=>by cases hk) rfl ht
theorem foldF (h:SH F w W (N++R))(hz:(As.p f K).holds W)(hf:InF N f):SH F w W (.p f K::R):=by
  have hp:=List.pairwise_append.1 h.ap;refine⟨h.off,fun z D=> ?_,List.pairwise_cons.2 ⟨fun z D=>⟨fun e=>(by cases e),fun hm k hk G=> ?_⟩,hp.2.1⟩,fun z D hm k hk M=> ?_⟩
  · rcases List.mem_cons.1 D with rfl|D
    · exact hz
    exact h.all z (by simp[D])
  · obtain⟨x,hx,ht,J⟩:=hf k G
    have h2:=(hp.2.2 x hx z D).2 hm;cases x with
    |t T K=>exact ht T K rfl
    |_=>exact h2 k hk J
  rcases List.mem_cons.1 D with rfl|D
  · cases hm
  exact h.old z (by simp[D]) hm k hk M
theorem feet_p:feet (L++[.p f K])=feet L:=by
  unfold feet;rw[List.filter_append,List.flatMap_append];show _++[]=_;rw[List.append_nil]
theorem hereP (h:SH F w W (L++(N++R)))(hz:(As.p f K).holds W)(hf:InF N f):SH (feet (L++[.p f K])) W W (L++[.p f K]):=by
  rw[feet_p];have h0:=h.here;have hp:=List.pairwise_append.1 h.ap;refine⟨h0.off,fun z D=> ?_,List.pairwise_append.2 ⟨h0.ap,List.pairwise_singleton ..,fun z D y hy=> ?_⟩,fun z D hm k hk M=> ?_⟩
  · rcases List.mem_append.1 D with D|D
    · exact h0.all z D
    rw[List.mem_singleton.1 D];exact hz
  · rw[List.mem_singleton.1 hy]
    refine⟨fun hm k hk G=> ?_,fun e=>by cases e⟩;obtain⟨x,hx,ht,J⟩:=hf k G;have h2:=(hp.2.2 z D x (by simp[hx])).1 hm;cases x with
    |t T K=>exact ht T K rfl
    |_=>exact h2 k hk J
  rcases List.mem_append.1 D with D|D
  · exact h0.old z D hm k hk M
  rw[List.mem_singleton.1 D] at hm;cases hm
end SH
section
variable {P : Program} {g : FuncId} {args : Array Value} {F : List Nat} {w W : World} {H L N R : List As}
end
end

section
theorem V58:fsz []=0:=rfl
theorem V57 (v:Value)(l:List Fd):fsz (.c v::l)=1+fsz l:=rfl
theorem V56 (n X:Nat)(l:List Fd):fsz (.a n X::l)=n+fsz l:=rfl
section
variable {ops : Array Oper} {Q : Exit → Act → World → Prop} {w : World} {r : List Oper} {o : Oper} {a a' : Act} {F : List Nat} {H H' : List As}
end
end

section
set_option maxHeartbeats 3000000
attribute [local irreducible] wpList Y5 wpX
def K8 (l:List UInt8):List UInt8:=l++List.replicate 32 0
def J33 (b:UInt8)(l:List UInt8):List UInt8:=(K8 l).map (· ^^^b)
def J25 (b:UInt8)(k:Nat):List UInt8:=J33 b (lb 32 k)
theorem Q2h {l:List UInt8}(h:l.length=32):(K8 l).length=64:=by unfold K8;simp[h]
theorem Z6h {b:UInt8}{l:List UInt8}(h:l.length=32):(J33 b l).length=64:=by unfold J33;rw[List.length_map,Q2h h]
theorem J1l (b:UInt8)(k:Nat):(J25 b k).length=64:=Z6h (J8 _ _)
def xt (b:UInt8)(j:Nat)(L:List UInt8):List UInt8:=(L.take j).map (· ^^^b)++L.drop j
theorem Q9n (b:UInt8)(j:Nat)(L:List UInt8):(xt b j L).length=L.length:=by unfold xt;simp;omega
theorem V8r (b:UInt8)(L:List UInt8):xt b 0 L=L:=by unfold xt;simp
theorem Y8p {b:UInt8}{j:Nat}{L:List UInt8}(h:L.length≤j):xt b j L=L.map (· ^^^b):=by unfold xt;rw[List.take_of_length_le h,List.drop_of_length_le h,List.append_nil]
theorem V3u {b c:UInt8}{j:Nat}{L:List UInt8}(h:L[j]?=some c):(xt b j L)[j]?=some c:=by
 have D:=(List.getElem?_eq_some_iff.1 h).1;unfold xt;rw[List.getElem?_append_right (by simp;omega),List.length_map,List.length_take,Nat.min_eq_left (by omega),Nat.sub_self,List.getElem?_drop];exact h
theorem Y2r {b c:UInt8}{j:Nat}{L:List UInt8}(h:L[j]?=some c):(xt b j L).set j (c^^^b)=xt b (j+1) L:=by
 have D:=(List.getElem?_eq_some_iff.1 h).1;unfold xt;rw[List.set_append_right _ _ (by simp;omega),List.length_map,List.length_take,Nat.min_eq_left (by omega),Nat.sub_self,List.drop_eq_getElem_cons D,List.set_cons_zero,List.take_succ_eq_append_getElem D,List.map_append,List.append_assoc];rw[(List.getElem?_eq_some_iff.1 h).2];rfl
theorem V3v (c d:UInt8):bits .xor .u8 (c.toNat:Int) (d.toNat:Int)=((c^^^d).toNat:Int):=(Z6i c.toNat_lt d.toNat_lt).trans (by rw[UInt8.toNat_xor])
def hm (k:Nat)(F:List UInt8):Nat:=hs4 (J25 92 k++lb 32 (hs4 (J25 54 k++F)))
theorem V3w (k:Nat)(F:List UInt8):hm k F<2^256:=Y8o _
def opn (bk i:Nat)(v:Int):Nat:=hm bk ([111,112,101,110]++lb 32 i++eI v)
def bnd (o i:Nat)(v:Int)(x:List UInt8):Nat:=hm o (lb 32 i++eI v++x)
def lk0 (id:List UInt8):Nat:=hs4 ([4]++id)
def lkT (id:List UInt8)(e:Int)(r a:Nat):List UInt8:=[3]++([u8 (id.length / 256),u8 id.length]++id)++eI e++lb 32 r++lb 32 a
def lkn (id:List UInt8)(e:Int)(r a:Nat):Nat:=hs4 (lkT id e r a)
theorem J3y (id:List UInt8)(e:Int)(r a:Nat):(lkT id e r a).length=id.length+75:=by unfold lkT;simp[Y9,J8]
def nz (X j:Nat):List UInt8:=(be8 X).take j++List.replicate (8-j) 0
theorem Z6j (X:Nat){j:Nat}(h:j≤8):(nz X j).length=8:=by unfold nz;rw[List.length_append,List.length_take,show(be8 X).length=8 from rfl,List.length_replicate];omega
theorem Y2s (X:Nat){j:Nat}(h:j<8):(nz X j).set j (by8 X j)=nz X (j+1):=by
 have hl:((be8 X).take j).length=j:=by rw[List.length_take,show(be8 X).length=8 from rfl];omega
 unfold nz;rw[List.set_append_right _ _ (by omega),hl,Nat.sub_self,Q7g X h,show 8-j=8-(j+1)+1 by omega,List.replicate_succ,List.set_cons_zero,List.append_assoc];rfl
theorem V8s (X:Nat):nz X 8=be8 X:=by unfold nz;rw[List.take_of_length_le (by rw[show(be8 X).length=8 from rfl];exact Nat.le_refl _),Nat.sub_self,List.replicate_zero,List.append_nil]
theorem J5n (X:Nat):(be8 X).length=8:=rfl
theorem V3x (X:Nat):(be8 X).take 8=be8 X:=List.take_of_length_le (by rw[show(be8 X).length=8 from rfl];exact Nat.le_refl _)
theorem Y2t (p:Nat)(v:Value)(F:List UInt8){R:Nat}(hR:R=hs4 F)(hlen:F.length≤70368744177664)(w:World)(hkB:Blk w p (hcs v F) 273)(hrS:Sl w v (hr4 F))(hG:GS4 w):
  Calls Tryz.prog 125 #[.pointer (some ⟨p,0,none⟩)] w fun e w' =>X5 (.agg (J1 .u8 32 (J4 R))) w w' e:=by
 rw[hR,←Q9m];exact Z1k p v F hlen w hkB hrS hG
attribute [local irreducible] eI be8 hs4 lb J33 J25 K8 xt nz

theorem V3y {v:Value}{l:List UInt8}{b:UInt8}(hl:l.length=32)(w:World)(hs:Sl w v l):
  Calls Tryz.prog 129 #[v,.int .u8 (b.toNat:Int)] w fun e w' => ∃u,e=.returned u∧SH [] w w' [.o u (J33 b l)]:=by
 have J:=Q2h hl;have hS:=SH.nil [] w
 go_enter Tryz.func129,Tryz.ntmps129
 go_upto_region 1 with fail;refine RL hS ?_;clear hS;refine MK (n:=64) (by first|omega|(simp only[lA,lM,lT,lD,lC,lN,J8,Y9,Z0,Z5];omega)) ?_;intro G;refine MV ?_;refine MZ fun W hS=> ?_;go_upto_region 2 with fail;refine RL hS ?_;clear hS;refine MV ?_;refine MV ?_;refine MCo 0 (m:=l) (l:=(List.replicate 64 0)) (fun W hS=>(J08 hs hS.ext)) (by rw[List.length_replicate];omega) (by omega) ?_;refine MT (fun W hS=>by rw[show l++List.drop l.length (List.replicate 64 0)=K8 l from(by unfold K8;rw[List.drop_replicate,hl])] at hS;exact hS) ?_;refine MZ fun W hS=> ?_;go_upto_region 3 with fail;refine RL hS ?_;clear hS;refine MV ?_;refine MF (v:=.int .i64 64) (fun W hS=>(by rw[show(64:Int)=((K8 l).length:Int) by rw[J];rfl];exact J05 (hS.osl (i:=0) rfl) rfl rfl)) ?_;refine W0 ?_;refine MZ fun W hS=> ?_
 go_wp2_with fail
 go_loopw [13] (fun jj wr=> ∃(j:Nat),(j≤64)∧(jj=.int .i64 (j:Int))∧SH [] w wr [.o G (xt b j (K8 l))])
  (fun jj _=>64-(intOf jj).toNat)
 case atStart=>exact⟨0,Nat.zero_le _,rfl,(by rw[V8r];exact hS)⟩
 clear hS
 case round=>
  obtain⟨j,hj,rfl,hS⟩:=hrel
  by_cases M:j<64
  ·
   obtain⟨c0,D⟩:∃c,(K8 l)[j]?=some c:=⟨_,List.getElem?_eq_getElem (by omega)⟩
   go_upto_region 4 with fail;refine RL hS ?_;clear hS;refine Wto ?_;refine MZ fun W hS=> ?_;go_upto_region 6 with fail;refine RL hS ?_;clear hS;refine MV ?_;refine MV ?_;refine MIo 0 j (l:=(xt b j (K8 l))) (by rw[Q9n];omega) ?_;intro S _ N;refine MF (v:=.int .u8 (c0.toNat:Int)) (fun W hS=>Q5 rfl rfl (Z6k (hS.own (i:=0) rfl) N.out (V3u D)) (by kernel_rfl)) ?_;refine MV ?_;refine MW ?_ (v:=.int .u8 ((c0^^^b).toNat:Int)) (hv:=by intro W;go_simp;rw[←UInt8.toNat_xor];exact V3v _ _);refine MIo 0 j (l:=(xt b j (K8 l))) (by rw[Q9n];omega) ?_;intro T _ R;refine MPo 0 (j:=j) (b:=(c0^^^b)) (l:=(xt b j (K8 l))) (by rw[Q9n];omega) R.out ?_;refine MT (fun W hS=>by rw[show(xt b j (K8 l)).set j (c0^^^b)=xt b (j+1) (K8 l) from Y2r D] at hS;exact hS) ?_;refine MZ fun W hS=> ?_;go_wp2;go_roundw
   case rel=>exact⟨j+1,by omega,by go_num,hS⟩
   case measure=>simp[intOf];omega
  obtain rfl:j=64:=by omega
  rw[Y8p (Nat.le_of_eq J)] at hS;go_upto_region 4 with fail;refine RL hS ?_;clear hS;refine Wfo ?_;refine MZ fun W hS=> ?_;go_wp2;exact bodyPost_ret (v:=G) (by simp only[results,Tryz.results129];go_simp) rfl ⟨_,rfl,by rw[show J33 b l=(K8 l).map (· ^^^b) by unfold J33;rfl];exact hS.pick [0]⟩
theorem Z6l {v:Value}{k:Nat}{b:UInt8}(w:World)(hs:Sl w v (lb 32 k)):Calls Tryz.prog 129 #[v,.int .u8 (b.toNat:Int)] w fun e w' => ∃u,e=.returned u∧SH [] w w' [.o u (J25 b k)]:=by
 unfold J25;exact V3y (J8 _ _) w hs
theorem Q5j {q:Prop}{k R:Nat}{v:Value}(ps:List (List UInt8))(A:Option Addr)(c:Nat){F:List UInt8}(hF:ps.flatten=F)(hlen:F.length≤1099511627776)(hpn:ps.length≤9223372036854775000)(hR:R=hm k F)(w:World)(hps:∀i l,ps[i]?=some l→∃ad u,A=some ad∧w.cell? (ad.add i)=some u∧Sl w u l)(hv:Sl w v (lb 32 k))(hG:GT q w):
  Calls Tryz.prog 85 #[v,.slice A ps.length c] w fun e w' =>X5 (.agg (J1 .u8 32 (J4 R))) w w' e:=by
 have η:=Lib.hid hps;clear hps;have δ:(lb 32 k).length=32:=J8 _ _;have hS:=SH.nil [] w
 go_enter Tryz.func85,Tryz.ntmps85
 go_upto_region 0 with fail;refine RL hS ?_;clear hS;refine MN (z:=J1 .u8 32 (J4 0)) (t:=23) ?_;intro N;refine MZ fun W hS=> ?_;go_upto_region 1 with fail;refine RL hS ?_;clear hS;refine MV ?_;refine MF (v:=.int .i64 32) (fun W hS=>(by rw[show(32:Int)=((lb 32 k).length:Int) by rw[δ];rfl];exact J05 (J08 hv hS.ext) rfl rfl)) ?_;refine Wfo ?_;refine MZ fun W hS=> ?_;go_upto_region 4 with fail;refine RL hS ?_;clear hS;refine ME (fun W hS=>(Z6m W (J1e hG.1 hS.ext)).mono fun e W' ⟨p,h1,h2,h3,h4⟩=>⟨p,h1,(hS.new (x:=.b p _ _) h3 h4.1 (fun k hk=>by rw[List.mem_singleton.1 hk];exact h2) rfl rfl).onil rfl⟩) ?_;intro D;refine MT (H' :=[.o (.slice none 0 0) (hr4 []),.b D (hcs (.slice none 0 0) []) 273,.b N (J1 .u8 32 (J4 0)) 23]) (fun W hS=>hS) ?_;refine MV ?_;refine MZ fun W hS=> ?_;go_upto_region 5 with fail;refine RL hS ?_;clear hS;refine MV ?_;refine MV ?_;refine ME (V:=fun v=>v) (fun W hS=>J3f hS (Z6l (b:=54) W (J08 hv hS.ext)) (fun _=>⟨rfl,rfl⟩)) ?_;intro ε;refine MT (fun W hS=>hS.read (i:=0) rfl (hS.osl (i:=0) rfl) J9h) ?_;refine ME (V:=fun _=> .tuple #[]) (fun W hS=>Z6n [3,2,1,0] [4] (hS.entp (Q0h (J1e hG.1 (J1m _)))) (fun hS=>Q2i D (.slice none 0 0) ε [] (J25 54 k) (by first|omega|(simp only[lA,lM,lT,lD,lC,lN,J8,J1l,Y9,Z0,Z5];omega)) W hS) (fun _=>⟨.inr ⟨rfl,rfl⟩,.inr ⟨rfl,rfl⟩,.inl (by simp),.inl (by simp),trivial⟩)) ?_;intro Y;refine MD 2 ?_;refine MD 2 ?_;refine MT (fun W hS=>by rw[List.nil_append] at hS;exact hS) ?_;refine MZ fun W hS=> ?_;go_upto_region 6 with fail;refine RL hS ?_;clear hS;refine MV ?_;refine MV ?_;refine W0 ?_;refine MZ fun W hS=> ?_
 go_wp2_with fail
 go_loopw [24] (fun ii wr=> ∃(i:Nat)(bv:Value),(i≤ps.length)∧(ii=.int .i64 (i:Int))∧SH [] w wr [.b D (hcs bv (J25 54 k++(List.take i ps).flatten)) 273,.o bv (hr4 (J25 54 k++(List.take i ps).flatten)),.b N (J1 .u8 32 (J4 0)) 23])
  (fun ii _=>ps.length-(intOf ii).toNat)
 case atStart=>exact⟨0,Y,Nat.zero_le _,rfl,(by rw[List.take_zero,List.flatten_nil,List.append_nil];exact hS)⟩
 clear hS
 case round=>
  obtain⟨i,bv,hi,rfl,hS⟩:=hrel
  by_cases G:i<ps.length
  ·
   obtain⟨l_,M⟩:∃l,ps[i]?=some l:=⟨_,List.getElem?_eq_getElem G⟩
   obtain⟨Z,u_,γ,α,ζ⟩:=η.out i l_ M;have θ:(List.take i ps).flatten.length+l_.length≤F.length:=by rw[←hF,←List.length_append,←J50 M];exact Q2j _ _
   go_upto_region 7 with fail;refine RL hS ?_;clear hS;refine Wto ?_;refine MZ fun W hS=> ?_;go_upto_region 8 with fail;refine RL hS ?_;clear hS;refine MW ?_ (v:=.pointer (some (Z.add i))) (hv:=fun _=>Q5k (j:=i) G rfl (by rw[←γ];rfl) rfl);refine MF (v:=u_) (fun W hS=>Q5 rfl rfl (J0e α hS.ext) (by kernel_rfl)) ?_;refine MV ?_;refine MZ fun W hS=> ?_;go_upto_region 9 with fail;refine RL hS ?_;clear hS;refine MV ?_;refine MV ?_;refine ME (V:=fun _=> .tuple #[]) (fun W hS=>Z6n [2,3,1,0] [4] ((hS.ent ζ).entp (Q0h (J1e hG.1 (J1m _)))) (fun hS=>Q2i D bv u_ (J25 54 k++(List.take i ps).flatten) l_ (by first|omega|(simp only[lA,lM,lT,lD,lC,lN,J8,J1l,Y9,Z0,Z5];omega)) W hS) (fun _=>⟨.inr ⟨rfl,rfl⟩,.inr ⟨rfl,rfl⟩,.inl (by simp),.inl (by simp),trivial⟩)) ?_;intro X;refine MD 2 ?_;refine MD 2 ?_;refine MZ fun W hS=> ?_;go_wp2;go_roundw
   case rel=>exact⟨i+1,X,by omega,by go_num,(by rw[J50 M,←List.append_assoc];exact hS)⟩
   case measure=>simp[intOf];omega
  obtain rfl:i=ps.length:=by omega
  rw[List.take_length,hF] at hS;go_upto_region 7 with fail;refine RL hS ?_;clear hS;refine Wfo ?_;refine MZ fun W hS=> ?_;go_upto_region 11 with fail;refine RL hS ?_;clear hS;refine MV ?_;obtain⟨U1,T⟩:=exh (hs4 (J25 54 k++F));refine MC (v:=.agg (J1 .u8 32 (J4 U1))) (fun W hS=>Y2t D bv (J25 54 k++F) T.out (by first|omega|(simp only[lA,lM,lT,lD,lC,lN,J8,J1l,Y9,Z0,Z5];omega)) W (hS.blk (i:=0) rfl) (hS.osl (i:=1) rfl) (J1e hG.1 hS.ext)) ?_;refine MN (z:=J1 .u8 32 (J4 0)) (t:=23) ?_;intro J;refine MR 0 ?_;refine MZ fun W hS=> ?_;go_upto_region 12 with fail;refine RTp [0,1,2] (.q 0 (.q 2 (.e 1 (.e 3 (.e 4 (.e 5 .z)))))) hS ?_;clear hS;refine TV ?_;refine TW ?_ (v:=.slice (some ⟨J,0,none⟩) 32 32);refine TE (fun _ h=>h.pick [0,1,2]) ?_;refine ME (V:=fun v=>v) (fun W hS=>J3f hS (Z6l (b:=92) W (J08 hv hS.ext)) (fun _=>⟨rfl,rfl⟩)) ?_;intro U;refine V8 [0,1,2,3] [1,2,3] ?_;refine TE (fun _ h=>h.pick [0,1,2,3]) ?_;refine MB (z:= #[U,.slice (some ⟨J,0,none⟩) 32 32]) (t:=22) (n:=2) (c:=2) ?_ (hr:=fun W hS=>X7 [U,.slice (some ⟨J,0,none⟩) 32 32] rfl rfl (vsc (Q1 (hS.osl (i:=0) rfl)).1 (vsc (Q1 (V1 (V:=U1) (n:=32) (off:=0) (c:=32) (hS.blk (i:=1) rfl) ap0 (by decide) (by decide))).1 vs0)) Tryz.underlying168 (by kernel_rfl) (by kernel_rfl) rfl (by decide) (by decide));intro β;refine V8 [0,1,2,3,4] [1,2,3,4] ?_;refine TE (fun _ h=>h.pick [0,1,2,3,4]) ?_;obtain⟨U2,S⟩:=exh (hs4 ((J25 92 k)++(lb 32 U1)));refine MC (v:=.agg (J1 .u8 32 (J4 U2))) (fun W hS=>J6o S.out [J25 92 k,lb 32 U1] (some ⟨β,0,none⟩) 2 (by simp only[List.flatten_cons,List.flatten_nil,List.append_nil,List.nil_append,List.append_assoc,List.cons_append]) (by first|omega|(simp only[lA,lM,lT,lD,lC,lN,J8,J1l,Y9,Z0,Z5];omega)) (by simp) W (J15 (hS.blk (i:=0) rfl) (pvc (hS.osl (i:=1) rfl) (pvc (V1 (V:=U1) (n:=32) (off:=0) (c:=32) (hS.blk (i:=2) rfl) ap0 (by decide) (by decide)) pv0))) (J1e hG.1 hS.ext)) ?_;refine V8 [0,1,2,3,4] [0,1,2,3,4] ?_;refine TE (fun _ h=>h.pick [0,1,2,3,4]) ?_;refine MR 5 ?_;refine V8 [0,1,2,3,4] [0,1,2,3,4] ?_;refine TZ (fun _ h=>h.pick [0,1,2,3,4]) fun W hS=> ?_;rw[show U2=R by rw[hR];try rw[S.out];try rw[T.out];first|done|rfl] at hS;go_wp2;exact bodyPost_ret (Z8 rfl rfl (hS.blk (i:=5) rfl) (by kernel_rfl) (by rw[J0];kernel_rfl)) rfl ⟨rfl,hS.ext⟩
end

section
section
variable {w : World} {o : Oper} {a : Act} {x y z : Operand} {t : TypeId} {l : List UInt8}
end
theorem Z98 {w:World}{v:Value}{l:List UInt8}(h:Own w v l)(hl:0<l.length):∃g,v.ownBlock=some g:=by
  rcases h.2 with⟨rfl,hn⟩|⟨g',G,D,rfl,_⟩
  · first|omega|(simp at hn;omega)|(subst hn;simp at hl)
  exact⟨g',rfl⟩
theorem MSm (i:Nat){ops:Array Oper}{Q:Exit→Act→World→Prop}{F:List Nat}{w:World}{H H' :List As}{r:List Oper}{o:Oper}{a a' :Act}{x:Operand}{v:Value}{l:List UInt8}(hl:0<l.length)(h:wpM Tryz.prog ops (.L Q) F w H' r a')(hi:H[i]?=some (.o v l):=by exact rfl)(hw:Region.wanted o (yielded ops a.tmps)=true:=by exact rfl)
    (ho:o.op=.convert 22 22 x:=by exact rfl) (hx:a.eval x=v:=by exact rfl) (hH:H.set i (.s v l)=H' :=by dsimp only[sB,sC];first|done|exact rfl) (hp:a.put o.dst v=a' :=by first|exact pl (by dsimp only[mB,mC];first|done|exact rfl)|exact pn|exact rfl):wpM Tryz.prog ops (.L Q) F w H (o::r) a:=by
  subst hp hH;intro W hS;obtain⟨g,hg⟩:=Z98 (hS.own hi) hl;refine Z8h (hS.own hi) hg hw ho hx fun W' hO hs=>h W' ?_
  exact hS.set (x:=.o v l) (y:=.s v l) hi rfl hO (fun k hk _=>hk) hs (fun k hk _=>by
    have:=J3r (As.mem_toList hk);show k∈v.ownBlock.toList;rw[this];simp) (.inl rfl) (fun _ _ e=>by cases e)
end

section
set_option maxHeartbeats 3000000
attribute [local irreducible] wpList Y5 wpX
attribute [local irreducible] eI be8 hs4 lb J33 J25 K8 xt hm

theorem Z4f (n:Int)(X:Nat)(hx:n % 18446744073709551616=(X:Int))(w:World):
  Calls Tryz.prog 86 #[.int .i64 n] w fun e w' => ∃u,e=.returned u∧SH [] w w' [.o u (be8 X)]:=by
 have M:IntKind.wrap .u64 n=(X:Int):=by rw[IntKind.wrap_u64];exact hx
 have hS:=SH.nil [] w
 go_enter Tryz.func86,Tryz.ntmps86
 go_upto_region 1 with fail;refine RL hS ?_;clear hS;refine MK (n:=8) (by first|omega|(simp only[lA,lM,lT,lD,lC,lN,J8,Y9,Z0,Z5];omega)) ?_;intro G;refine MV ?_;refine MZ fun W hS=> ?_;go_upto_region 2 with fail;refine RL hS ?_;clear hS;refine MV ?_;refine MF (v:=.int .i64 8) (fun W hS=>(by rw[show(8:Int)=((List.replicate 8 (0:UInt8)).length:Int) from rfl];exact J05 (hS.osl (i:=0) rfl) rfl rfl)) ?_;refine W0 ?_;refine MZ fun W hS=> ?_
 go_wp2_with fail
 go_loopw [8] (fun jj wr=> ∃(j:Nat),(j≤8)∧(jj=.int .i64 (j:Int))∧SH [] w wr [.o G (nz X j)])
  (fun jj _=>8-(intOf jj).toNat)
 case atStart=>exact⟨0,Nat.zero_le _,rfl,(by have h_:=hS;exact h_)⟩
 clear hS
 case round=>
  obtain⟨j,hj,rfl,hS⟩:=hrel
  by_cases D:j<8
  ·
   go_upto_region 3 with fail;refine RL hS ?_;clear hS;refine Wto ?_;refine MZ fun W hS=> ?_;go_upto_region 5 with fail;refine RL hS ?_;clear hS;(iterate 3 refine MV ?_);refine MW ?_ (v:=.int .u64 (X:Int)) (hv:=by intro W;go_simp;(try simp only[M]));refine MV ?_;refine MW ?_ (v:=.int .i64 ((7-j:Nat):Int)) (hv:=by intro W;go_simp;(try simp only[IntKind.wrap_i64]);omega);refine MW ?_ (v:=.int .i64 ((8*(7-j):Nat):Int)) (hv:=by intro W;go_simp;(try simp only[IntKind.wrap_i64]);omega);refine MW ?_ (v:=.int .u64 ((X / 2^(8*(7-j)):Nat):Int)) (hv:=by intro W;exact Q7i (by omega) rfl rfl rfl);refine MW ?_ (v:=.int .u8 ((by8 X j).toNat:Int)) (hv:=by intro W;exact Z1l rfl rfl Tryz.underlying99 Tryz.underlying5);refine MIo 0 j (l:=(nz X j)) (by rw[Z6j X (by omega)];omega) ?_;intro N _ J;refine MPo 0 (j:=j) (b:=(by8 X j)) (l:=(nz X j)) (by rw[Z6j X (by omega)];omega) J.out ?_;refine MT (fun W hS=>by rw[show(nz X j).set j (by8 X j)=nz X (j+1) from Y2s X D] at hS;exact hS) ?_;refine MZ fun W hS=> ?_;go_wp2;go_roundw
   case rel=>exact⟨j+1,by omega,by go_num,hS⟩
   case measure=>simp[intOf];omega
  obtain rfl:j=8:=by omega
  rw[V8s] at hS;go_upto_region 3 with fail;refine RL hS ?_;clear hS;refine Wfo ?_;refine MZ fun W hS=> ?_;go_wp2;exact bodyPost_ret (v:=G) (by simp only[results,Tryz.results86];go_simp) rfl ⟨_,rfl,hS.pick [0]⟩
theorem Q5m (n:Int)(w:World):Calls Tryz.prog 86 #[.int .i64 n] w fun e w' => ∃u,e=.returned u∧SH [] w w' [.o u (eI n)]:=by
 have h:=Z4f n (n % 18446744073709551616).toNat (by omega) w;unfold eI;exact h
theorem Q5n {q:Prop}{o i R:Nat}{n:Int}{v:Value}{x:List UInt8}(hR:R=bnd o i n x)(w:World)(hG:GT q w)(hx:Sl w v x)(hl:x.length≤100000000):
  Calls Tryz.prog 78 #[.agg (J1 .u8 32 (J4 o)),.agg (J1 .u8 32 (J4 i)),.int .i64 n,v] w fun e w' =>X5 (.agg (J1 .u8 32 (J4 R))) w w' e:=by
 have hS:=SH.nil [] w
 go_enter Tryz.func78,Tryz.ntmps78
 go_upto_region 0 with fail;refine RL hS ?_;clear hS;refine MN (z:=J1 .u8 32 (J4 o)) (t:=23) ?_;intro M;refine MN (z:=J1 .u8 32 (J4 i)) (t:=23) ?_;intro D;refine MN (z:=J1 .u8 32 (J4 0)) (t:=23) ?_;intro S;refine MZ fun W hS=> ?_;go_upto_region 1 with fail;refine RTp [1,2] (.q 0 (.q 1 (.q 2 (.q 4 (.e 3 (.e 5 (.e 6 (.e 7 .z)))))))) hS ?_;clear hS;refine TW ?_ (v:=.slice (some ⟨M,0,none⟩) 32 32);refine TW ?_ (v:=.slice (some ⟨D,0,none⟩) 32 32);refine TV ?_;refine TV ?_;refine TE (fun _ h=>h.pick [1,2]) ?_;refine ME (V:=fun v=>v) (fun W hS=>J3f hS (Q5m n W) (fun _=>⟨rfl,rfl⟩)) ?_;intro G;refine V8 [0,2,3] [1,2] ?_;refine TE (fun _ h=>h.pick [0,2,3]) ?_;refine MB (z:= #[.slice (some ⟨D,0,none⟩) 32 32,G,v]) (t:=22) (n:=3) (c:=3) ?_ (hr:=fun W hS=>X7 [.slice (some ⟨D,0,none⟩) 32 32,G,v] rfl rfl (vsc (Q1 (V1 (V:=i) (n:=32) (off:=0) (c:=32) (hS.blk (i:=2) rfl) ap0 (by decide) (by decide))).1 (vsc (Q1 (hS.osl (i:=0) rfl)).1 (vsc (Q1 (J08 hx hS.ext)).1 vs0))) Tryz.underlying168 (by kernel_rfl) (by kernel_rfl) rfl (by decide) (by decide));intro N;refine V8 [0,1,3,4] [1,2,3] ?_;refine TE (fun _ h=>h.pick [0,1,3,4]) ?_;obtain⟨U1,J⟩:=exh (hm o ((lb 32 i)++(eI n)++x));refine MC (v:=.agg (J1 .u8 32 (J4 U1))) (fun W hS=>Q5j [lb 32 i,eI n,x] (some ⟨N,0,none⟩) 3 (F:=(lb 32 i)++(eI n)++x) (by simp only[List.flatten_cons,List.flatten_nil,List.append_nil,List.nil_append,List.append_assoc,List.cons_append]) (by first|omega|(simp only[lA,lM,lT,lD,lC,lN,J8,J1l,J5n,Y9,Z0,Z5,J3y];omega)) (by simp) J.out W (J15 (hS.blk (i:=0) rfl) (pvc (V1 (V:=i) (n:=32) (off:=0) (c:=32) (hS.blk (i:=3) rfl) ap0 (by decide) (by decide)) (pvc (hS.osl (i:=1) rfl) (pvc (J08 hx hS.ext) pv0)))) (V1 (V:=o) (n:=32) (off:=0) (c:=32) (hS.blk (i:=4) rfl) ap0 (by decide) (by decide)) (J0f hG hS.ext)) ?_;refine V8 [0,1,3,4] [0,1,2,3] ?_;refine TE (fun _ h=>h.pick [0,1,3,4]) ?_;refine MR 2 ?_;refine V8 [0,1,3,4] [0,1,2,3] ?_;refine TZ (fun _ h=>h.pick [0,1,3,4]) fun W hS=> ?_;rw[show U1=R by rw[hR];try rw[J.out];first|done|rfl] at hS;go_wp2;exact bodyPost_ret (Z8 rfl rfl (hS.blk (i:=2) rfl) (by kernel_rfl) (by rw[J0];kernel_rfl)) rfl ⟨rfl,hS.ext⟩
theorem Y92 {P:Program}{fn:Func}{p q:Tmp}{ty t tz t2:TypeId}{tmps:Array Value}{w:World}{g g2:Nat}{cs cs2:Array Value}(h:fn.results= #[.cell p ty,.cell q tz])
 (hp:tmps.getD p undef=.pointer (some ⟨g,0,none⟩)) (hq:tmps.getD q undef=.pointer (some ⟨g2,0,none⟩)) (hB:Blk w g cs t) (hB2:Blk w g2 cs2 t2) (hk:(P.underlying ty).map TypeDesc.isRow=some true) (hk2:(P.underlying tz).map TypeDesc.isRow=some true) (hi:(P.info? ty).map (·.size)=some cs.size) (hi2:(P.info? tz).map (·.size)=some cs2.size):
 (results fn tmps).run P w=.ok (.tuple #[.agg cs,.agg cs2]) w:=by
 cases hu:P.underlying ty with
 |none=>simp[hu] at hk
 |some d=>
 cases hu2:P.underlying tz with
 |none=>simp[hu2] at hk2
 |some d2=>
 have hd:d.isRow=true:=by simpa[hu] using hk
 have D:d2.isRow=true:=by simpa[hu2] using hk2
 have hp' :tmps[p]?.getD undef=.pointer (some ⟨g,0,none⟩):=by simpa using hp
 have hq' :tmps[q]?.getD undef=.pointer (some ⟨g2,0,none⟩):=by simpa using hq
 simp[results,h,hp',hq',asAddr,run_loadVar_row w g t ty cs _ d hB hu (by cases d<;>simp_all [TypeDesc.isRow]) hi,run_loadVar_row w g2 t2 tz cs2 _ d2 hB2 hu2 (by cases d2<;>simp_all [TypeDesc.isRow]) hi2]
theorem Q5o {q:Prop}{b i R O:Nat}{n:Int}{v:Value}{x:List UInt8}(hO:O=opn b i n)(hR:R=bnd (opn b i n) i n x)(w:World)(hG:GT q w)(hx:Sl w v x)(hl:x.length≤100000000):
  Calls Tryz.prog 49 #[.agg (J1 .u8 32 (J4 b)),.agg (J1 .u8 32 (J4 i)),.int .i64 n,v] w fun e w' =>X5 (.tuple #[.agg (J1 .u8 32 (J4 R)),.agg (J1 .u8 32 (J4 O))]) w w' e:=by
 have hS:=SH.nil [] w
 go_enter Tryz.func49,Tryz.ntmps49
 go_upto_region 0 with fail;refine RL hS ?_;clear hS;refine MN (z:=J1 .u8 32 (J4 b)) (t:=23) ?_;intro T;refine MN (z:=J1 .u8 32 (J4 i)) (t:=23) ?_;intro G;refine MN (z:=J1 .u8 32 (J4 0)) (t:=23) ?_;intro γ;refine MN (z:=J1 .u8 32 (J4 0)) (t:=23) ?_;intro β;refine MZ fun W hS=> ?_;go_upto_region 1 with fail;refine RJ (R:=fun a_ w_=> ∃(J:Value),∃(M:Value),∃(U:Nat),∃(D:Nat),a_={tmps:= #[.agg (J1 .u8 32 (J4 b)),.agg (J1 .u8 32 (J4 i)),.int .i64 n,v,.pointer (some ⟨T,0,none⟩),.pointer (some ⟨G,0,none⟩),undef,undef,.pointer (some ⟨γ,0,none⟩),.pointer (some ⟨β,0,none⟩),.slice (some ⟨T,0,none⟩) 32 32,J,J,.slice (some ⟨G,0,none⟩) 32 32,.int .i64 n,M,.slice (some ⟨U,0,none⟩) 3 3,.agg (J1 .u8 32 (J4 D)),undef,undef,undef,undef,undef,undef],defers:=[]}∧D=hm b ([111,112,101,110]++(lb 32 i)++(eI n))∧SH [] w w_ [.o M (eI n),.s J [111,112,101,110],.b U #[J,.slice (some ⟨G,0,none⟩) 32 32,M] 22,.b T (J1 .u8 32 (J4 b)) 23,.b G (J1 .u8 32 (J4 i)) 23,.b γ (J1 .u8 32 (J4 0)) 23,.b β (J1 .u8 32 (J4 D)) 23]) ?_ ?_
 ·
  refine RTp [1,2,3] (.q 0 (.q 3 (.q 4 (.b 1 (.b 2 (.e 5 (.e 6 (.e 7 (.e 8 .z)))) 5 (.e 2 (.e 6 (.e 7 (.e 8 .z))))) 5 (.e 1 (.e 2 (.e 6 (.e 7 (.e 8 .z))))))))) hS ?_;clear hS;refine TW ?_ (v:=.slice (some ⟨T,0,none⟩) 32 32);refine TW ?_ (v:=.slice (some ⟨G,0,none⟩) 32 32);refine TV ?_;refine TB (fun _ h=>h.pick [1,2,3]) ?_ ?_
  ·
   refine MO (m:=[111,112,101,110]) (n:=4) (z:= #[.int .u8 111,.int .u8 112,.int .u8 101,.int .u8 110]) ?_;intro X;refine V8 [2,3,4] [0,1,2] ?_;refine TB (fun _ h=>h.pick [2,3,4]) ?_ ?_
   ·
    refine MSm 0 (l:=[111,112,101,110]) (by first|decide|(simp only[List.length_append,List.length_cons,List.length_nil];omega)) ?_;refine V8 [2,3,4] [0,1,2] ?_;refine TE (fun _ h=>h.pick [2,3,4]) ?_;refine ME (V:=fun v=>v) (fun W hS=>J3f hS (Q5m n W) (fun _=>⟨rfl,rfl⟩)) ?_;intro η;refine V8 [0,3,4,5] [1,2,3] ?_;refine TE (fun _ h=>h.pick [0,3,4,5]) ?_;refine MB (z:= #[X,.slice (some ⟨G,0,none⟩) 32 32,η]) (t:=22) (n:=3) (c:=3) ?_ (hr:=fun W hS=>X7 [X,.slice (some ⟨G,0,none⟩) 32 32,η] rfl rfl (vsc (Q1 (hS.sl (i:=1) rfl)).1 (vsc (Q1 (V1 (V:=i) (n:=32) (off:=0) (c:=32) (hS.blk (i:=4) rfl) ap0 (by decide) (by decide))).1 (vsc (Q1 (hS.osl (i:=0) rfl)).1 vs0))) Tryz.underlying168 (by kernel_rfl) (by kernel_rfl) rfl (by decide) (by decide));intro ν;refine V8 [0,1,4,5,6] [1,2,3,4] ?_;refine TE (fun _ h=>h.pick [0,1,4,5,6]) ?_;obtain⟨U1,S⟩:=exh (hm b ([111,112,101,110]++(lb 32 i)++(eI n)));refine MC (v:=.agg (J1 .u8 32 (J4 U1))) (fun W hS=>Q5j [[111,112,101,110],lb 32 i,eI n] (some ⟨ν,0,none⟩) 3 (F:=[111,112,101,110]++(lb 32 i)++(eI n)) (by simp only[List.flatten_cons,List.flatten_nil,List.append_nil,List.nil_append,List.append_assoc,List.cons_append]) (by first|omega|(simp only[lA,lM,lT,lD,lC,lN,J8,J1l,J5n,Y9,Z0,Z5,J3y];omega)) (by simp) S.out W (J15 (hS.blk (i:=0) rfl) (pvc (hS.sl (i:=2) rfl) (pvc (V1 (V:=i) (n:=32) (off:=0) (c:=32) (hS.blk (i:=5) rfl) ap0 (by decide) (by decide)) (pvc (hS.osl (i:=1) rfl) pv0)))) (V1 (V:=b) (n:=32) (off:=0) (c:=32) (hS.blk (i:=6) rfl) ap0 (by decide) (by decide)) (J0f hG hS.ext)) ?_;refine V8 [0,1,4,5,6] [0,1,2,3,4] ?_;refine TE (fun _ h=>h.pick [0,1,4,5,6]) ?_;refine MR 3 ?_;refine V8 [0,1,4,5,6] [0,1,2,3,4] ?_;refine TZ (fun _ h=>h.pick [0,1,4,5,6]) fun W hS=> ?_;exact⟨X,η,ν,U1,rfl,S.out,hS.pick [1,2,0,6,5,4,3]⟩
   refine ME (V:=fun v=>v) (fun W hS=>J3f hS (Q5m n W) (fun _=>⟨rfl,rfl⟩)) ?_;intro δ;refine V8 [0,3,4,5] [1,2,3] ?_;refine TE (fun _ h=>h.pick [0,3,4,5]) ?_;refine MSm 1 (l:=[111,112,101,110]) (by first|decide|(simp only[List.length_append,List.length_cons,List.length_nil];omega)) ?_;refine V8 [0,3,4,5] [0,1,2,3] ?_;refine TE (fun _ h=>h.pick [0,3,4,5]) ?_;refine MB (z:= #[X,.slice (some ⟨G,0,none⟩) 32 32,δ]) (t:=22) (n:=3) (c:=3) ?_ (hr:=fun W hS=>X7 [X,.slice (some ⟨G,0,none⟩) 32 32,δ] rfl rfl (vsc (Q1 (hS.sl (i:=1) rfl)).1 (vsc (Q1 (V1 (V:=i) (n:=32) (off:=0) (c:=32) (hS.blk (i:=4) rfl) ap0 (by decide) (by decide))).1 (vsc (Q1 (hS.osl (i:=0) rfl)).1 vs0))) Tryz.underlying168 (by kernel_rfl) (by kernel_rfl) rfl (by decide) (by decide));intro ξ;refine V8 [0,1,4,5,6] [1,2,3,4] ?_;refine TE (fun _ h=>h.pick [0,1,4,5,6]) ?_;obtain⟨U1,S⟩:=exh (hm b ([111,112,101,110]++(lb 32 i)++(eI n)));refine MC (v:=.agg (J1 .u8 32 (J4 U1))) (fun W hS=>Q5j [[111,112,101,110],lb 32 i,eI n] (some ⟨ξ,0,none⟩) 3 (F:=[111,112,101,110]++(lb 32 i)++(eI n)) (by simp only[List.flatten_cons,List.flatten_nil,List.append_nil,List.nil_append,List.append_assoc,List.cons_append]) (by first|omega|(simp only[lA,lM,lT,lD,lC,lN,J8,J1l,J5n,Y9,Z0,Z5,J3y];omega)) (by simp) S.out W (J15 (hS.blk (i:=0) rfl) (pvc (hS.sl (i:=2) rfl) (pvc (V1 (V:=i) (n:=32) (off:=0) (c:=32) (hS.blk (i:=5) rfl) ap0 (by decide) (by decide)) (pvc (hS.osl (i:=1) rfl) pv0)))) (V1 (V:=b) (n:=32) (off:=0) (c:=32) (hS.blk (i:=6) rfl) ap0 (by decide) (by decide)) (J0f hG hS.ext)) ?_;refine V8 [0,1,4,5,6] [0,1,2,3,4] ?_;refine TE (fun _ h=>h.pick [0,1,4,5,6]) ?_;refine MR 3 ?_;refine V8 [0,1,4,5,6] [0,1,2,3,4] ?_;refine TZ (fun _ h=>h.pick [0,1,4,5,6]) fun W hS=> ?_;exact⟨X,δ,ξ,U1,rfl,S.out,hS.pick [1,2,0,6,5,4,3]⟩
  refine ME (V:=fun v=>v) (fun W hS=>J3f hS (Q5m n W) (fun _=>⟨rfl,rfl⟩)) ?_;intro ε;refine V8 [0,2,3,4] [1,2,3] ?_;refine TE (fun _ h=>h.pick [0,2,3,4]) ?_;refine MO (m:=[111,112,101,110]) (n:=4) (z:= #[.int .u8 111,.int .u8 112,.int .u8 101,.int .u8 110]) ?_;intro ζ;refine V8 [1,3,4,5] [0,1,2,3] ?_;refine TE (fun _ h=>h.pick [1,3,4,5]) ?_;refine MSm 0 (l:=[111,112,101,110]) (by first|decide|(simp only[List.length_append,List.length_cons,List.length_nil];omega)) ?_;refine V8 [1,3,4,5] [0,1,2,3] ?_;refine TE (fun _ h=>h.pick [1,3,4,5]) ?_;refine MB (z:= #[ζ,.slice (some ⟨G,0,none⟩) 32 32,ε]) (t:=22) (n:=3) (c:=3) ?_ (hr:=fun W hS=>X7 [ζ,.slice (some ⟨G,0,none⟩) 32 32,ε] rfl rfl (vsc (Q1 (hS.sl (i:=0) rfl)).1 (vsc (Q1 (V1 (V:=i) (n:=32) (off:=0) (c:=32) (hS.blk (i:=4) rfl) ap0 (by decide) (by decide))).1 (vsc (Q1 (hS.osl (i:=1) rfl)).1 vs0))) Tryz.underlying168 (by kernel_rfl) (by kernel_rfl) rfl (by decide) (by decide));intro μ;refine V8 [0,2,4,5,6] [1,2,3,4] ?_;refine TE (fun _ h=>h.pick [0,2,4,5,6]) ?_;obtain⟨U1,S⟩:=exh (hm b ([111,112,101,110]++(lb 32 i)++(eI n)));refine MC (v:=.agg (J1 .u8 32 (J4 U1))) (fun W hS=>Q5j [[111,112,101,110],lb 32 i,eI n] (some ⟨μ,0,none⟩) 3 (F:=[111,112,101,110]++(lb 32 i)++(eI n)) (by simp only[List.flatten_cons,List.flatten_nil,List.append_nil,List.nil_append,List.append_assoc,List.cons_append]) (by first|omega|(simp only[lA,lM,lT,lD,lC,lN,J8,J1l,J5n,Y9,Z0,Z5,J3y];omega)) (by simp) S.out W (J15 (hS.blk (i:=0) rfl) (pvc (hS.sl (i:=1) rfl) (pvc (V1 (V:=i) (n:=32) (off:=0) (c:=32) (hS.blk (i:=5) rfl) ap0 (by decide) (by decide)) (pvc (hS.osl (i:=2) rfl) pv0)))) (V1 (V:=b) (n:=32) (off:=0) (c:=32) (hS.blk (i:=6) rfl) ap0 (by decide) (by decide)) (J0f hG hS.ext)) ?_;refine V8 [0,2,4,5,6] [0,1,2,3,4] ?_;refine TE (fun _ h=>h.pick [0,2,4,5,6]) ?_;refine MR 3 ?_;refine V8 [0,2,4,5,6] [0,1,2,3,4] ?_;refine TZ (fun _ h=>h.pick [0,2,4,5,6]) fun W hS=> ?_;exact⟨ζ,ε,μ,U1,rfl,S.out,hS.pick [2,1,0,6,5,4,3]⟩
 rintro _ W ⟨J,M,U,D,rfl,α,hS⟩;have θ:=Lib.hid α;clear α;go_upto_region 2 with fail;refine RJ (R:=fun a_ w_=> ∃(Y:Nat),a_={tmps:= #[.agg (J1 .u8 32 (J4 b)),.agg (J1 .u8 32 (J4 i)),.int .i64 n,v,.pointer (some ⟨T,0,none⟩),.pointer (some ⟨G,0,none⟩),undef,undef,.pointer (some ⟨γ,0,none⟩),.pointer (some ⟨β,0,none⟩),.slice (some ⟨T,0,none⟩) 32 32,J,J,.slice (some ⟨G,0,none⟩) 32 32,.int .i64 n,M,.slice (some ⟨U,0,none⟩) 3 3,.agg (J1 .u8 32 (J4 D)),.agg (J1 .u8 32 (J4 D)),.agg (J1 .u8 32 (J4 i)),.int .i64 n,v,.agg (J1 .u8 32 (J4 Y)),.agg (J1 .u8 32 (J4 D))],defers:=[]}∧Y=bnd D i n x∧SH [] w w_ [.o M (eI n),.s J [111,112,101,110],.b U #[J,.slice (some ⟨G,0,none⟩) 32 32,M] 22,.b T (J1 .u8 32 (J4 b)) 23,.b G (J1 .u8 32 (J4 i)) 23,.b γ (J1 .u8 32 (J4 Y)) 23,.b β (J1 .u8 32 (J4 D)) 23]) ?_ ?_
 ·
  refine RTp [0,1,2,3,4] (.q 1 (.q 2 (.q 3 (.b 0 (.b 4 (.b 5 (.e 6 (.e 7 .z)) 6 (.e 5 (.e 7 .z))) 5 (.e 4 (.e 6 (.e 7 .z)))) 5 (.e 0 (.e 4 (.e 6 (.e 7 .z)))))))) hS ?_;clear hS;refine TL 4 ?_;refine TV ?_;refine TV ?_;refine TB (fun _ h=>h.pick [0,1,2,3,4]) ?_ ?_
  ·
   refine ML 6 ?_;refine V8 [0,1,2,3,4] [0,1,2,3,4] ?_;refine TB (fun _ h=>h.pick [0,1,2,3,4]) ?_ ?_
   ·
    obtain⟨U2,N⟩:=exh (bnd D i n x);refine MC (v:=.agg (J1 .u8 32 (J4 U2))) (fun W hS=>Q5n N.out W (J0f hG hS.ext) (J08 hx hS.ext) hl) ?_;refine V8 [0,1,2,3,4] [0,1,2,3,4] ?_;refine TB (fun _ h=>h.pick [0,1,2,3,4]) ?_ ?_
    ·
     refine ML 6 ?_;refine V8 [0,1,2,3,4] [0,1,2,3,4] ?_;refine TE (fun _ h=>h.pick [0,1,2,3,4]) ?_;refine MR 5 ?_;refine V8 [0,1,2,3,4] [0,1,2,3,4] ?_;refine TE (fun _ h=>h.pick [0,1,2,3,4]) ?_;refine MR 6 ?_;refine V8 [0,1,2,3,4] [0,1,2,3,4] ?_;refine TZ (fun _ h=>h.pick [0,1,2,3,4]) fun W hS=> ?_;exact⟨U2,rfl,N.out,hS⟩
    refine MR 5 ?_;refine V8 [0,1,2,3,4] [0,1,2,3,4] ?_;refine TE (fun _ h=>h.pick [0,1,2,3,4]) ?_;refine ML 6 ?_;refine V8 [0,1,2,3,4] [0,1,2,3,4] ?_;refine TE (fun _ h=>h.pick [0,1,2,3,4]) ?_;refine MR 6 ?_;refine V8 [0,1,2,3,4] [0,1,2,3,4] ?_;refine TZ (fun _ h=>h.pick [0,1,2,3,4]) fun W hS=> ?_;exact⟨U2,rfl,N.out,hS⟩
   refine ML 6 ?_;refine V8 [0,1,2,3,4] [0,1,2,3,4] ?_;refine TE (fun _ h=>h.pick [0,1,2,3,4]) ?_;obtain⟨U2,N⟩:=exh (bnd D i n x);refine MC (v:=.agg (J1 .u8 32 (J4 U2))) (fun W hS=>Q5n N.out W (J0f hG hS.ext) (J08 hx hS.ext) hl) ?_;refine V8 [0,1,2,3,4] [0,1,2,3,4] ?_;refine TE (fun _ h=>h.pick [0,1,2,3,4]) ?_;refine MR 5 ?_;refine V8 [0,1,2,3,4] [0,1,2,3,4] ?_;refine TE (fun _ h=>h.pick [0,1,2,3,4]) ?_;refine MR 6 ?_;refine V8 [0,1,2,3,4] [0,1,2,3,4] ?_;refine TZ (fun _ h=>h.pick [0,1,2,3,4]) fun W hS=> ?_;exact⟨U2,rfl,N.out,hS⟩
  refine ML 6 ?_;refine V8 [0,1,2,3,4] [0,1,2,3,4] ?_;refine TE (fun _ h=>h.pick [0,1,2,3,4]) ?_;refine ML 6 ?_;refine V8 [0,1,2,3,4] [0,1,2,3,4] ?_;refine TE (fun _ h=>h.pick [0,1,2,3,4]) ?_;obtain⟨U2,N⟩:=exh (bnd D i n x);refine MC (v:=.agg (J1 .u8 32 (J4 U2))) (fun W hS=>Q5n N.out W (J0f hG hS.ext) (J08 hx hS.ext) hl) ?_;refine V8 [0,1,2,3,4] [0,1,2,3,4] ?_;refine TE (fun _ h=>h.pick [0,1,2,3,4]) ?_;refine MR 5 ?_;refine V8 [0,1,2,3,4] [0,1,2,3,4] ?_;refine TE (fun _ h=>h.pick [0,1,2,3,4]) ?_;refine MR 6 ?_;refine V8 [0,1,2,3,4] [0,1,2,3,4] ?_;refine TZ (fun _ h=>h.pick [0,1,2,3,4]) fun W hS=> ?_;exact⟨U2,rfl,N.out,hS⟩
 rintro _ W ⟨Y,rfl,Z,hS⟩;have κ:=Lib.hid Z;clear Z;go_wp2;exact bodyPost_ret (Y92 rfl rfl rfl (hS.blk (i:=5) rfl) (hS.blk (i:=6) rfl) (by kernel_rfl) (by kernel_rfl) (by rw[J0];kernel_rfl) (by rw[J0];kernel_rfl)) rfl ⟨by rw[hR,hO,κ.out,θ.out];rfl,hS.ext⟩
theorem Q7j {q:Prop}{R:Nat}{v:Value}{id:List UInt8}(hR:R=lk0 id)(w:World)(hG:GT q w)(hid:Sl w v id)(hl:id.length≤100000000):
  Calls Tryz.prog 62 #[v] w fun e w' =>X5 (.agg (J1 .u8 32 (J4 R))) w w' e:=by
 have hS:=SH.nil [] w
 go_enter Tryz.func62,Tryz.ntmps62
 go_upto_region 0 with fail;refine RL hS ?_;clear hS;refine MN (z:=J1 .u8 32 (J4 0)) (t:=23) ?_;intro K1;refine MZ fun W hS=> ?_;go_upto_region 1 with fail;refine RL hS ?_;clear hS;refine MO (m:=[4]) (n:=1) (z:= #[.int .u8 4]) ?_;intro D;refine MV ?_;refine MB (z:= #[D,v]) (t:=22) (n:=2) (c:=2) ?_ (hr:=fun W hS=>X7 [D,v] rfl rfl (vsc (Q1 (hS.osl (i:=0) rfl)).1 (vsc (Q1 (J08 hid hS.ext)).1 vs0)) Tryz.underlying168 (by kernel_rfl) (by kernel_rfl) rfl (by decide) (by decide));intro J;obtain⟨U1,G⟩:=exh (hs4 ([4]++id));refine MC (v:=.agg (J1 .u8 32 (J4 U1))) (fun W hS=>J6o G.out [[4],id] (some ⟨J,0,none⟩) 2 (by simp only[List.flatten_cons,List.flatten_nil,List.append_nil,List.nil_append,List.append_assoc,List.cons_append]) (by first|omega|(simp only[lA,lM,lT,lD,lC,lN,J8,J1l,J5n,Y9,Z0,Z5,J3y];omega)) (by simp) W (J15 (hS.blk (i:=0) rfl) (pvc (hS.osl (i:=1) rfl) (pvc (J08 hid hS.ext) pv0))) (J1e hG.1 hS.ext)) ?_;refine MR 2 ?_;refine MZ fun W hS=> ?_;rw[show U1=R by rw[hR];try rw[G.out];first|done|rfl] at hS;go_wp2;exact bodyPost_ret (Z8 rfl rfl (hS.blk (i:=2) rfl) (by kernel_rfl) (by rw[J0];kernel_rfl)) rfl ⟨rfl,hS.ext⟩
theorem Y31 {v:Value}{id:List UInt8}{r a:Nat}(n:Int)(X:Nat)(hx:n % 18446744073709551616=(X:Int))(w:World)(hid:Sl w v id)(hl:id.length≤100000000):
  Calls Tryz.prog 88 #[v,.int .i64 n,.agg (J1 .u8 32 (J4 r)),.agg (J1 .u8 32 (J4 a))] w fun e w' => ∃u,e=.returned u∧SH [] w w' [.o u ([3]++([u8 (id.length / 256),u8 id.length]++id)++be8 X++lb 32 r++lb 32 a)]:=by
 have N:IntKind.wrap .u64 n=(X:Int):=by rw[IntKind.wrap_u64];exact hx
 have hS:=SH.nil [] w
 go_enter Tryz.func88,Tryz.ntmps88
 go_upto_region 0 with fail;refine RL hS ?_;clear hS;refine MN (z:=J1 .u8 32 (J4 r)) (t:=23) ?_;intro G;refine MN (z:=J1 .u8 32 (J4 a)) (t:=23) ?_;intro J;refine MV ?_;refine MZ fun W hS=> ?_;go_upto_region 1 with fail;refine RL hS ?_;clear hS;refine MV ?_;refine MF (v:=.int .i64 (id.length:Int)) (fun W hS=>J05 (J08 hid hS.ext) rfl rfl) ?_;refine MW ?_ (v:=.int .i64 ((id.length / 256:Nat):Int)) (hv:=by intro W;go_simp;(try omega));refine MW ?_ (v:=.int .u8 ((u8 (id.length / 256)).toNat:Int)) (hv:=by intro W;go_simp;(try simp only[J6n,IntKind.wrap_u8]);(try omega));refine MV ?_;refine MF (v:=.int .i64 (id.length:Int)) (fun W hS=>J05 (J08 hid hS.ext) rfl rfl) ?_;refine MW ?_ (v:=.int .u8 ((u8 id.length).toNat:Int)) (hv:=by intro W;go_simp;(try simp only[J6n,IntKind.wrap_u8]);(try omega));refine MO (m:=[3,u8 (id.length / 256),u8 id.length]) (n:=3) (z:= #[.int .u8 3,.int .u8 ((u8 (id.length / 256)).toNat:Int),.int .u8 ((u8 id.length).toNat:Int)]) ?_;intro S;refine MV ?_;refine MA 0 (xs:=[3,u8 (id.length / 256),u8 id.length]) (ys:=id) (fun W hS=>(J08 hid hS.ext)) (by first|omega|(simp only[lA,lM,lT,lD,lC,lN,J8,J1l,J5n,Y9,Z0,Z5,J3y];omega)) ?_;intro Y;refine MV ?_;refine MZ fun W hS=> ?_
 go_wp2_with fail
 go_loopw [9,10] (fun uv kk wr=> ∃(j:Nat)(sv:Value),(j≤8)∧(sv=uv)∧(kk=.int .i64 ((7:Int)-(j:Int)))∧SH [] w wr [.o sv ([3]++([u8 (id.length / 256),u8 id.length]++id)++List.take j (be8 X)),.b J (J1 .u8 32 (J4 a)) 23,.b G (J1 .u8 32 (J4 r)) 23])
  (fun uv kk _=>(intOf kk+1).toNat)
 case atStart=>exact⟨0,_,Nat.zero_le _,rfl,rfl,(by rw[List.take_zero,List.append_nil];exact hS)⟩
 clear hS
 case round=>
  obtain⟨j,sv,hj,rfl,rfl,hS⟩:=hrel
  by_cases D:j<8
  ·
   go_upto_region 3 with fail;refine RL hS ?_;clear hS;refine MV ?_;refine Wto ?_;refine MZ fun W hS=> ?_;go_upto_region 5 with fail;refine RL hS ?_;clear hS;refine MV ?_;refine MV ?_;refine MW ?_ (v:=.int .u64 (X:Int)) (hv:=by intro W;go_simp;(try simp only[N]));refine MV ?_;refine MW ?_ (v:=.int .i64 ((8*(7-j):Nat):Int)) (hv:=by intro W;go_simp;(try simp only[IntKind.wrap_i64]);omega);refine MW ?_ (v:=.int .u64 ((X / 2^(8*(7-j)):Nat):Int)) (hv:=by intro W;exact Q7i (by omega) rfl rfl rfl);refine MW ?_ (v:=.int .u8 ((by8 X j).toNat:Int)) (hv:=by intro W;exact Z1l rfl rfl Tryz.underlying99 Tryz.underlying5);refine MO (m:=[by8 X j]) (n:=1) (z:= #[.int .u8 ((by8 X j).toNat:Int)]) ?_;intro T;refine MA 1 (xs:=([3]++([u8 (id.length / 256),u8 id.length]++id)++List.take j (be8 X))) (ys:=[by8 X j]) (fun W hS=>(hS.osl (i:=0) rfl)) (by first|omega|(simp only[lA,lM,lT,lD,lC,lN,J8,J1l,J5n,Y9,Z0,Z5,J3y];omega)) ?_;intro M;refine MV ?_;refine MZ fun W hS=> ?_;go_wp2;go_roundw
   case rel=>exact⟨j+1,M,by omega,rfl,by rw[show(7:Int)-((j+1:Nat):Int)=7-(j:Int)-1 by omega],(by rw[Q7g X D,←List.append_assoc];exact(hS.pick [1,2,3]))⟩
   case measure=>simp[intOf];omega
  obtain rfl:j=8:=by omega
  rw[V3x] at hS;go_upto_region 3 with fail;refine RL hS ?_;clear hS;refine MV ?_;refine Wfo ?_;refine MZ fun W hS=> ?_;go_upto_region 6 with fail;refine RTp [1,2] (.q 0 (.q 1 (.q 3 (.e 2 (.e 4 (.q 5 .z)))))) hS ?_;clear hS;refine TV ?_;refine TW ?_ (v:=.slice (some ⟨G,0,none⟩) 32 32);refine TW ?_ (v:=.slice (some ⟨J,0,none⟩) 32 32);refine TE (fun _ h=>h.pick [1,2]) ?_;refine MA 0 (xs:=([3]++([u8 (id.length / 256),u8 id.length]++id)++be8 X)) (ys:=(lb 32 r)) (fun W hS=>(V1 (V:=r) (n:=32) (off:=0) (c:=32) (hS.blk (i:=2) rfl) ap0 (by decide) (by decide))) (by first|omega|(simp only[lA,lM,lT,lD,lC,lN,J8,J1l,J5n,Y9,Z0,Z5,J3y];omega)) ?_;intro U;refine V8 [1,2] [0,1] ?_;refine TE (fun _ h=>h.pick [1,2]) ?_;refine MA 0 (xs:=(([3]++([u8 (id.length / 256),u8 id.length]++id)++be8 X)++(lb 32 r))) (ys:=(lb 32 a)) (fun W hS=>(V1 (V:=a) (n:=32) (off:=0) (c:=32) (hS.blk (i:=1) rfl) ap0 (by decide) (by decide))) (by first|omega|(simp only[lA,lM,lT,lD,lC,lN,J8,J1l,J5n,Y9,Z0,Z5,J3y];omega)) ?_;intro R;refine V8 [0,1,2] [1,2] ?_;refine TV ?_;refine TZ (fun _ h=>h) fun W hS=> ?_;go_wp2;exact bodyPost_ret (v:=R) (by simp only[results,Tryz.results88];go_simp) rfl ⟨_,rfl,hS.pick [0]⟩
theorem Y32 {v:Value}{id:List UInt8}{r a:Nat}(n:Int)(w:World)(hid:Sl w v id)(hl:id.length≤100000000):Calls Tryz.prog 88 #[v,.int .i64 n,.agg (J1 .u8 32 (J4 r)),.agg (J1 .u8 32 (J4 a))] w fun e w' => ∃u,e=.returned u∧SH [] w w' [.o u (lkT id n r a)]:=by
 have h:=Y31 (r:=r) (a:=a) n (n % 18446744073709551616).toNat (by omega) w hid hl;unfold lkT eI;exact h
theorem Z1m {q:Prop}{R r a:Nat}{n:Int}{v:Value}{id:List UInt8}(hR:R=lkn id n r a)(w:World)(hG:GT q w)(hid:Sl w v id)(hl:id.length≤100000000):
  Calls Tryz.prog 52 #[v,.int .i64 n,.agg (J1 .u8 32 (J4 r)),.agg (J1 .u8 32 (J4 a))] w fun e w' =>X5 (.agg (J1 .u8 32 (J4 R))) w w' e:=by
 have hS:=SH.nil [] w
 go_enter Tryz.func52,Tryz.ntmps52
 go_upto_region 0 with fail;refine RL hS ?_;clear hS;refine MN (z:=J1 .u8 32 (J4 r)) (t:=23) ?_;intro S;refine MN (z:=J1 .u8 32 (J4 a)) (t:=23) ?_;intro M;refine MN (z:=J1 .u8 32 (J4 0)) (t:=23) ?_;intro N;refine MZ fun W hS=> ?_;go_upto_region 1 with fail;refine RL hS ?_;clear hS;refine MV ?_;refine MV ?_;refine ML 2 ?_;refine ML 1 ?_;refine ME (V:=fun v=>v) (fun W hS=>J3f hS (Y32 (r:=r) (a:=a) n W (J08 hid hS.ext) hl) (fun _=>⟨rfl,rfl⟩)) ?_;intro D;refine MB (z:= #[D]) (t:=22) (n:=1) (c:=1) ?_ (hr:=fun W hS=>X7 [D] rfl rfl (vsc (Q1 (hS.osl (i:=0) rfl)).1 vs0) Tryz.underlying168 (by kernel_rfl) (by kernel_rfl) rfl (by decide) (by decide));intro J;obtain⟨U1,G⟩:=exh (hs4 ((lkT id n r a)));refine MC (v:=.agg (J1 .u8 32 (J4 U1))) (fun W hS=>J6o G.out [lkT id n r a] (some ⟨J,0,none⟩) 1 (by simp only[List.flatten_cons,List.flatten_nil,List.append_nil,List.nil_append,List.append_assoc,List.cons_append]) (by first|omega|(simp only[lA,lM,lT,lD,lC,lN,J8,J1l,J5n,Y9,Z0,Z5,J3y];omega)) (by simp) W (J15 (hS.blk (i:=0) rfl) (pvc (hS.osl (i:=1) rfl) pv0)) (J1e hG.1 hS.ext)) ?_;refine MR 2 ?_;refine MZ fun W hS=> ?_;rw[show U1=R by rw[hR];try rw[G.out];first|done|rfl] at hS;go_wp2;exact bodyPost_ret (Z8 rfl rfl (hS.blk (i:=2) rfl) (by kernel_rfl) (by rw[J0];kernel_rfl)) rfl ⟨rfl,hS.ext⟩
end

section
/-! ### Lists of leaves, by the document -/
end

section
/-! ### The leaves of a tree -/
def lvs:TR→List Lf
  | .nil=>[]
  | .leaf k v=>[(k,v)]
  | .node _ l r=>lvs l++lvs r
/-! ### Lists, step by step -/
end
end Go.Proofs.YteehbddkcnkhfaaGreatDoor

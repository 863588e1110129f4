/- Contracts and plain laws for superSeals_holds. Conditions: the tables hold their numbers. -/
import Derived.Test.YtdjacgmmidbieaaGreatDoorJ3
open Go renaming World->AA,Value->AB,Program->AD,TypeId->AE,Oper->AF
open _root_.List renaming mem_singleton->Ai,getElem?_eq_getElem->Aj,mem_cons->Ad,mem_append->Ay,mem_of_getElem?->Az
open _root_.Nat renaming le_trans->Ae,lt_of_lt_of_le->BA,not_lt->BB
open _root_.Option renaming some.inj->Af
open Go.RowKit
set_option linter.unusedSimpArgs false
set_option linter.unusedVariables false
namespace Go.Proofs.YtdjacgmmidbieaaGreatDoor
section
inductive As where
  |b:Nat→Array AB→AE→As
  |z:Nat→Array AB→AE→As
  |o:AB→List UInt8→As
  |w:AB→List UInt8→As
  |r:AE→Nat→AB→List (List AB)→As
  |s:AB→List UInt8→As
  |p:List Nat→(AA→Prop)→As
  |t:AE→(AA→Prop)→As
  |m:Option AE→List Nat→(AA→Prop)→As
theorem J3j {w W:AA}{v:AB}{l:List UInt8}(h:Sl w v l)(hW:Ext w W):Sl W v l:=h.off (J1v hW) f0
def J93 (w:AA)(k:Nat):Option AE:=match w.heap[k]? with
  |some (.cells _ t _)=>some t
  |_=>none
namespace As
def foot:As→List Nat
  |b n _ _=>[n]
  |z n _ _=>[n]
  |o v _=>v.ownBlock.toList
  |w v _=>v.ownBlock.toList
  |r _ _ v _=>v.ownBlock.toList
  |s v l=>(sb v l).toList
  |p f _=>f
  |t _ _=>[]
  |m _ f _=>f
def mv:As→Bool
  |b _ _ _|z _ _ _|o _ _|w _ _|r _ _ _ _|m _ _ _=>true
  |s _ _|p _ _|t _ _=>false
def ty:As→Option AE
  |b _ _ e|z _ _ e|r e _ _ _=>some e
  |o _ _|w _ _=>some 5
  |m T _ _=>T
  |_=>none
def clr (x y:As):Prop:=(x.mv=true→match y with
  |t T _=>x.ty≠some T
  |_=> ∀k∈x.foot,k∉y.foot)
def apart (x y:As):Prop:=clr x y∧clr y x
def holds (W:AA):As→Prop
  |b n c e=>Blk W n c e
  |z n c e=>Blz W n c e
  |o v l=>Own W v l
  |w v l=>Owz W v l
  |r e k v es=>Row e k W v es
  |s v l=>Sl W v l
  |p f K=>K W∧(∀k∈f,k<W.heap.size)∧∀W' :AA,W.heap.size≤W'.heap.size→(∀k∈f,W'.heap[k]?=W.heap[k]?)→K W'
  |t T K=>K W∧∀W' :AA,W.heap.size≤W'.heap.size→(∀k,k<W.heap.size→J93 W k=some T→W'.heap[k]?=W.heap[k]?)→K W'
  |m T f K=>K W∧(∀k∈f,k<W.heap.size)∧(∀k∈f,J93 W k=T)∧∀W' :AA,W.heap.size≤W'.heap.size→(∀k∈f,W'.heap[k]?=W.heap[k]?)→K W'
theorem mem_toList {O:Option Nat}{k:Nat}(h:k∈O.toList):O=some k:=Y8n h
theorem lt {W:AA}:∀{x:As},x.holds W→∀k∈x.foot,k<W.heap.size
  |b _ _ _,h,k,hk=>by rw[Ai.1 hk];exact Q3 h
  |z _ _ _,h,k,hk=>by rw[Ai.1 hk];exact Z7h h
  |o _ _,h,k,hk=>Own.lt h k (mem_toList hk)
  |w _ _,h,k,hk=>Owz.lt h k (mem_toList hk)
  |r _ _ _ _,h,k,hk=>Row.lt h k (mem_toList hk)
  |s _ _,h,k,hk=>Sl.lt h k (mem_toList hk)
  |p _ _,h,k,hk=>h.2.1 k hk
  |t _ _,_,k,hk=>by cases hk
  |m _ _ _,h,k,hk=>h.2.1 k hk
theorem tyOf {W:AA}:∀{x:As},x.holds W→x.mv=true→∀k∈x.foot,J93 W k=x.ty
  |b _ _ _,h,_,k,hk=>by rw[Ai.1 hk];unfold J93;rw[show W.heap[_]?=_ from h];rfl
  |z _ _ _,h,_,k,hk=>by obtain⟨fz,h,_⟩:=h;rw[Ai.1 hk];unfold J93;rw[h];rfl
  |o v l,h,_,k,hk=>by
    rcases h.2 with⟨rfl,_⟩|⟨g,cap,cur,rfl,_,hh,_⟩
    · cases hk
    · have:g=k:=Af (mem_toList hk)
      subst this;unfold J93;rw[hh];rfl
  |w v l,h,_,k,hk=>by
    obtain⟨g,cap,cs,fz,rfl,hh,_⟩:=h;have:g=k:=Af (mem_toList hk);subst this;unfold J93;rw[hh];rfl
  |r tt n v es,h,_,k,hk=>by
    rcases h.1.2 with⟨rfl,_⟩|⟨g,cap,cur,rfl,_,hh,_⟩
    · cases hk
    · have:g=k:=Af (mem_toList hk)
      subst this;unfold J93;rw[hh];rfl
  |m _ _ _,h,_,k,hk=>h.2.2.1 k hk
theorem nin {F:List Nat}{O:Option Nat}(h:∀k∈O.toList,k∉F):∀b∈F,O≠some b:=fun b hb e=>h b (by rw[e];simp) hb
theorem keep {w0 W:AA}{F:List Nat}(q:Off F w0 W):∀{x:As},x.holds w0→(∀k∈x.foot,k∉F)→(∀T K,x=t T K→∀k∈F,k<w0.heap.size→J93 w0 k≠some T)→x.holds W
  |b n _ _,h,hF,_=>Q1v h q (hF n (by simp[foot]))
  |z n _ _,h,hF,_=>Y2h h q (hF n (by simp[foot]))
  |o _ _,h,hF,_=>Own.off h q (nin hF)
  |w _ _,h,hF,_=>Owz.off h q (nin hF)
  |r _ _ _ _,h,hF,_=>Row.off h q (nin hF)
  |s _ _,h,hF,_=>Sl.off h q (nin hF)
  |p f K,⟨h1,h2,h3⟩,hF,_=>by
    have e:∀k∈f,W.heap[k]?=w0.heap[k]?:=fun k hk=>q.block k (h2 k hk) (hF k hk);exact⟨h3 W q.size e,fun k hk=>BA (h2 k hk) q.size,fun W2 hs h4=>h3 W2 (Ae q.size hs) fun k hk=>(h4 k hk).trans (e k hk)⟩
  |m T f K,⟨h1,h2,h4,h3⟩,hF,_=>by
    have e:∀k∈f,W.heap[k]?=w0.heap[k]?:=fun k hk=>q.block k (h2 k hk) (hF k hk);exact⟨h3 W q.size e,fun k hk=>BA (h2 k hk) q.size,fun k hk=>by unfold J93;rw[e k hk];exact h4 k hk,fun W2 hs h5=>h3 W2 (Ae q.size hs) fun k hk=>(h5 k hk).trans (e k hk)⟩
  |t T K,⟨h1,h2⟩,_,hT=>by
    have e:∀k,k<w0.heap.size→J93 w0 k=some T→W.heap[k]?=w0.heap[k]?:=fun k hk ht=>q.block k hk fun hF=>hT T K rfl k hF hk ht;exact⟨h2 W q.size e,fun W2 hs h4=>h2 W2 (Ae q.size hs) fun k hk ht=>(h4 k (BA hk q.size) (by unfold J93 at ht⊢;rw[e k hk ht];exact ht)).trans (e k hk ht)⟩
theorem keep0 {w W:AA}(q:Off [] w W){x:As}(h:x.holds w):x.holds W:=keep q h (fun _ _ h=>by cases h) (fun _ _ _ _ h=>by cases h)
end As
structure SH (F:List Nat)(w W:AA)(H:List As):Prop where
  off:Off F w W
  all:∀x∈H,x.holds W
  ap:H.Pairwise As.apart
  old:∀x∈H,x.mv=true→∀k∈x.foot,k<w.heap.size→k∈F
namespace SH
variable {F : List Nat} {w W W' : AA} {H : List As} {x y : As} {i j : Nat}
theorem size (h:SH F w W H):w.heap.size≤W.heap.size:=h.off.size
theorem ext (h:SH [] w W H):Ext w W:=h.off.ext
theorem mem (hi:H[i]?=some x):x∈H:=Az hi
theorem at_ (h:SH F w W H)(hi:H[i]?=some x):x.holds W:=h.all x (mem hi)
theorem blk (h:SH F w W H){b:Nat}{c:Array AB}{t:AE}(hi:H[i]?=some (.b b c t)):Blk W b c t:=h.at_ hi
theorem own (h:SH F w W H){v:AB}{l:List UInt8}(hi:H[i]?=some (.o v l)):Own W v l:=h.at_ hi
theorem row (h:SH F w W H){t:AE}{k:Nat}{v:AB}{es:List (List AB)}(hi:H[i]?=some (.r t k v es)):Row t k W v es:=h.at_ hi
theorem sl (h:SH F w W H){v:AB}{l:List UInt8}(hi:H[i]?=some (.s v l)):Sl W v l:=h.at_ hi
theorem ozl (h:SH F w W H){v:AB}{l:List UInt8}(hi:H[i]?=some (.w v l)):Sl W v l:=Owz.sl (h.at_ hi)
theorem osl (h:SH F w W H){v:AB}{l:List UInt8}(hi:H[i]?=some (.o v l)):Sl W v l:=(h.own hi).sl
theorem tt (h:SH F w W H){T:AE}{K:AA→Prop}(hi:H[i]?=some (.t T K)):K W:=(h.at_ hi).1
theorem pp (h:SH F w W H){f:List Nat}{K:AA→Prop}(hi:H[i]?=some (.p f K)):K W:=(h.at_ hi).1
theorem nil (F:List Nat)(w:AA):SH F w w []:=⟨Off.refl _ _,fun _ h=>(by cases h),.nil,fun _ h=>(by cases h)⟩
theorem next (h:SH F w W H)(q:Off [] W W'):SH F w W' H:=
  ⟨h.off.step q i0,fun x hx=>As.keep0 q (h.all x hx),h.ap,h.old⟩
theorem grow (h:SH F w W H)(q:Ext W W'):SH F w W' H:=h.next (J1v q)
theorem less {H' :List As}(h:SH F w W H)(hs:H'.Sublist H):SH F w W H' :=
  ⟨h.off,fun x hx=>h.all x (hs.subset hx),h.ap.sublist hs,fun x hx=>h.old x (hs.subset hx)⟩
theorem drop (h:SH F w W H)(i:Nat):SH F w W (H.eraseIdx i):=h.less (List.eraseIdx_sublist ..)
theorem Q33:x.apart y→y.apart x:=fun h=>⟨h.2,h.1⟩
theorem ap2 (h:SH F w W H)(hi:H[i]?=some x)(hj:H[j]?=some y)(hn:i≠j):x.apart y:=by
  obtain⟨h1,e1⟩:=List.getElem?_eq_some_iff.1 hi;obtain⟨h2,e2⟩:=List.getElem?_eq_some_iff.1 hj;have hp:=List.pairwise_iff_getElem.1 h.ap;rcases Nat.lt_or_gt_of_ne hn with D|D
  · have:=hp i j h1 h2 D;rw[e1,e2] at this;exact this
  have:=hp j i h2 h1 D;rw[e1,e2] at this;exact Q33 this
def tyOk (x y:As):Bool:=match y with
  | .t T _=> !x.mv ||x.ty !=some T
  |_=>true
theorem new (h:SH F w W H)(q:Off [] W W')(hx:x.holds W')(hn:∀k∈x.foot,W.heap.size≤k)(hm:x.mv=true)(ht:H.all (tyOk x)=true):SH F w W' (x::H):=by
  have h' :=h.next q;refine⟨h'.off,fun y hy=> ?_,List.pairwise_cons.2 ⟨fun y hy=>⟨fun _=> ?_,fun _=> ?_⟩,h'.ap⟩,fun y hy hm k hk G=> ?_⟩
  · rcases Ad.1 hy with rfl|hy
    · exact hx
    exact h'.all y hy
  · have hl:=As.lt (h.all y hy)
    have ht:=List.all_eq_true.1 ht y hy;cases y with
    |t T K=>simpa[tyOk,hm] using ht
    |_=>exact fun k hk D=>BB.2 (hn k hk) (hl k D)
  · have hl:=As.lt (h.all y hy)
    cases x with
    |t T K=>cases hm
    |_=>exact fun k hk D=>BB.2 (hn k D) (hl k hk)
  rcases Ad.1 hy with rfl|hy
  · have:=hn k hk;have:=h.size;omega
  exact h.old y hy hm k hk G
theorem fact {T:AE}{K:AA→Prop}(h:SH F w W H)(hK:(As.t T K).holds W)(ht:H.all (fun y=>tyOk y (.t T K))=true):SH F w W (.t T K::H):=by
  refine⟨h.off,fun y hy=> ?_,List.pairwise_cons.2 ⟨fun y hy=>⟨fun h=>by(cases h),fun hm=> ?_⟩,h.ap⟩,fun y hy hm k hk D=> ?_⟩
  · rcases Ad.1 hy with rfl|hy
    · exact hK
    exact h.all y hy
  · have:=List.all_eq_true.1 ht y hy
    simpa[tyOk,hm] using this
  rcases Ad.1 hy with rfl|hy
  · cases hm
  exact h.old y hy hm k hk D
theorem sub {u v:AB}{l l' :List UInt8}(h:SH F w W H)(hi:H[i]?=some (.s v l))(hs:Sl W u l')(hb:Sub u l' (sb v l)):SH F w W (.s u l' ::H):=by
  refine⟨h.off,fun y hy=> ?_,List.pairwise_cons.2 ⟨fun y hy=>⟨fun h=>by(cases h),fun hm k hk D=> ?_⟩,h.ap⟩,fun y hy hm k hk G=> ?_⟩
  · rcases Ad.1 hy with rfl|hy
    · exact hs
    exact h.all y hy
  · obtain⟨j,hj,e⟩:=List.mem_iff_getElem.1 hy
    have hj' :H[j]?=some y:=by rw[Aj hj,e]
    by_cases hn:i=j
    · subst hn;rw[hi] at hj';obtain rfl:=Af hj';cases hm
    have:=(h.ap2 hi hj' hn).2 hm k hk;exact this (by show k∈(sb v l).toList;rw[hb k (As.mem_toList D)];simp)
  rcases Ad.1 hy with rfl|hy
  · cases hm
  exact h.old y hy hm k hk G
theorem J9t {R:As→As→Prop}(hs:∀x y,R x y→R y x):∀{H:List As} {i:Nat} {x y:As},H[i]?=some x→H.Pairwise R→(∀z∈H,R x z→R y z)→(H.set i y).Pairwise R
  |[],_,_,_,h,_,_=>by simp at h
  |z::H,0,x,y,h,hp,hr=>by
    obtain rfl:z=x:=by simpa using h
    have hp:=List.pairwise_cons.1 hp;exact List.pairwise_cons.2 ⟨fun u hu=>hr u (by simp[hu]) (hp.1 u hu),hp.2⟩
  |z::H,i+1,x,y,h,hp,hr=>by
    have hp:=List.pairwise_cons.1 hp;have h' :H[i]?=some x:=by simpa using h
    refine List.pairwise_cons.2 ⟨fun u hu=> ?_,J9t hs h' hp.2 fun v hv=>hr v (by simp[hv])⟩;rcases List.mem_or_eq_of_mem_set hu with hu|rfl
    · exact hp.1 u hu
    · exact hs _ _ (hr z (by simp) (hs _ _ (hp.1 x (Az h'))))
theorem Q34 {H:List As}{i:Nat}{y z:As}(h:z∈H.set i y):z=y∨∃j,j≠i∧H[j]?=some z:=by
  obtain⟨j,hj,e⟩:=List.mem_iff_getElem.1 h
  by_cases hn:j=i
  · subst hn;rw[List.getElem_set_self] at e;exact .inl e.symm
  rw[List.getElem_set_ne (Ne.symm hn)] at e;exact .inr ⟨j,hn,by rw[Aj (by simpa using hj)];exact congrArg some e⟩
theorem set {G:List Nat}(h:SH F w W H)(hi:H[i]?=some x)(hm:x.mv=true)(q:Off G W W')(hG:∀k∈G,k<W.heap.size→k∈x.foot)(hy:y.holds W')(hf:∀k∈y.foot,k<W.heap.size→k∈x.foot)(ht:y.mv=false∨y.ty=x.ty)(hnt:∀T K,y≠ .t T K):SH F w W' (H.set i y):=by
  have hx:=h.at_ hi
  have S:∀j z,j≠i→H[j]?=some z→z.holds W' :=fun j z hj hz=>by
    have J:=h.ap2 hi hz (Ne.symm hj);have hl:=As.lt (h.at_ hz);refine As.keep q (h.at_ hz) (fun k hk N=> ?_) fun T K e k N D U=> ?_
    · have h1:=J.1 hm
      cases z with
      |t T K=>cases hk
      |_=>exact h1 k (hG k N (hl k hk)) hk
    subst e;exact J.1 hm ((As.tyOf hx hm k (hG k N D)).symm.trans U)
  refine⟨h.off.step q fun k hk D=>h.old x (mem hi) hm k (hG k hk (BA D h.size)) D,fun z hz=> ?_,?_,fun z hz R k hk D=> ?_⟩
  · rcases Q34 hz with rfl|⟨j,hj,hz⟩
    · exact hy
    exact S j z hj hz
  · refine J9t (fun _ _=>Q33) hi h.ap fun z hz J=>⟨fun V=> ?_,fun R=> ?_⟩
    · have h1:=J.1 hm
      cases z with
      |t T K=>exact fun e=>h1 ((ht.resolve_left (by rw[V];simp)).symm.trans e)
      |_=>exact fun k hk M=>h1 k (hf k hk (As.lt (h.all _ hz) k M)) M
    have h2:=J.2 R;have hl:=As.lt (h.all _ hz)
    have hx' :∀k∈z.foot,k∉x.foot:=by
      cases x with
      |t T K=>cases hm
      |_=>exact h2
    cases y with
    |t T K=>exact absurd rfl (hnt T K)
    |_=>exact fun k hk M=>hx' k hk (hf k M (hl k hk))
  rcases Q34 hz with rfl|⟨j,hj,hz⟩
  · exact h.old x (mem hi) hm k (hf k hk (BA D h.size)) D
  exact h.old z (mem hz) R k hk D
theorem setb {b:Nat}{c c' :Array AB}{t:AE}(h:SH F w W H)(hi:H[i]?=some (.b b c t))(q:Off [b] W W')(hB:Blk W' b c' t):SH F w W' (H.set i (.b b c' t)):=
  h.set hi rfl q (fun k hk _=>hk) hB (fun k hk _=>hk) (.inr rfl) (fun _ _ e=>by cases e)
theorem seto {v v' :AB}{l l' :List UInt8}(h:SH F w W H)(hi:H[i]?=some (.o v l))(q:Off v.ownBlock.toList W W')(hO:Own W' v' l')(hof:Of v'.ownBlock v.ownBlock W.heap.size):SH F w W' (H.set i (.o v' l')):=
  h.set hi rfl q (fun k hk _=>hk) hO (fun k hk D=>hof k (As.mem_toList hk) D) (.inr rfl) (fun _ _ e=>by cases e)
theorem setw {v v' :AB}{l l' :List UInt8}(h:SH F w W H)(hi:H[i]?=some (.w v l))(q:Off v.ownBlock.toList W W')(hO:Owz W' v' l')(hof:Of v'.ownBlock v.ownBlock W.heap.size):SH F w W' (H.set i (.w v' l')):=
  h.set hi rfl q (fun k hk _=>hk) hO (fun k hk D=>hof k (As.mem_toList hk) D) (.inr rfl) (fun _ _ e=>by cases e)
theorem readw {v u:AB}{l l' :List UInt8}(h:SH F w W H)(hi:H[i]?=some (.w v l))(hs:Sl W u l')(hb:Sub u l' (sb v l)):SH F w W (H.set i (.s u l')):=
  h.set hi rfl (Off.refl [] W) (fun k hk=>by cases hk) hs (fun k hk _=>by
    have:=Q2w (hb k (As.mem_toList hk));show k∈v.ownBlock.toList;rw[this];simp) (.inl rfl) (fun _ _ e=>by cases e)
theorem setr {t:AE}{n:Nat}{v v' :AB}{l l' :List (List AB)}(h:SH F w W H)(hi:H[i]?=some (.r t n v l))(q:Off v.ownBlock.toList W W')(hO:Row t n W' v' l')(hof:Of v'.ownBlock v.ownBlock W.heap.size):SH F w W' (H.set i (.r t n v' l')):=
  h.set hi rfl q (fun k hk _=>hk) hO (fun k hk D=>hof k (As.mem_toList hk) D) (.inr rfl) (fun _ _ e=>by cases e)
theorem read {v u:AB}{l l' :List UInt8}(h:SH F w W H)(hi:H[i]?=some (.o v l))(hs:Sl W u l')(hb:Sub u l' (sb v l)):SH F w W (H.set i (.s u l')):=
  h.set hi rfl (Off.refl [] W) (fun k hk=>by cases hk) hs (fun k hk _=>by
    have:=Q2w (hb k (As.mem_toList hk));show k∈v.ownBlock.toList;rw[this];simp) (.inl rfl) (fun _ _ e=>by cases e)
theorem onil (h:SH F w W H)(ht:H.all (tyOk (.o (.slice none 0 0) []))=true):SH F w W (.o (.slice none 0 0) []::H):=h.new (Off.refl _ _) (Q69 W) (fun k hk=>by cases hk) rfl ht
theorem rnil (t:AE)(k:Nat)(h:SH F w W H)(ht:H.all (tyOk (.r t k (.slice none 0 0) []))=true):SH F w W (.r t k (.slice none 0 0) []::H):=h.new (Off.refl _ _) (Y2k t k W) (fun k hk=>by cases hk) rfl ht
end SH
/-! ### Calls that turn some of it -/
def pk (H:List As):List Nat→List As
  |[]=>[]
  |i::I=>match H[i]? with
    |some x=>x::pk H I
    |none=>pk H I
theorem J94 (H:List As):∀(A B:List Nat),pk H (A++B)=pk H A++pk H B
  |[],_=>rfl
  |i::A,B=>by
    show(match H[i]? with|some x=>x::pk H (A++B)|none=>pk H (A++B))=(match H[i]? with|some x=>x::pk H A|none=>pk H A)++pk H B;cases H[i]? with
    |none=>exact J94 H A B
    |some x=>exact congrArg (x:: ·) (J94 H A B)
theorem Q35 {H:List As}{x:As}:∀{I:List Nat},x∈pk H I→∃i∈I,H[i]?=some x
  |[],h=>by cases h
  |i::I,h=>by
    unfold pk at h;cases hi:H[i]? with
    |none=>rw[hi] at h;obtain⟨j,hj,e⟩:=Q35 h;exact⟨j,List.mem_cons_of_mem _ hj,e⟩
    |some y=>
      rw[hi] at h;rcases Ad.1 h with rfl|h
      · exact⟨i,List.mem_cons_self ..,hi⟩
      · obtain⟨j,hj,e⟩:=Q35 h;exact⟨j,List.mem_cons_of_mem _ hj,e⟩
namespace SH
variable {F : List Nat} {w W W' : AA} {H H' L L' R : List As} {x y : As} {i j : Nat}
theorem Z7u (h:SH F w W H):∀{I:List Nat},I.Nodup→(pk H I).Pairwise As.apart
  |[],_=> .nil
  |i::I,hn=>by
    have hn:=List.nodup_cons.1 hn;unfold pk;cases hi:H[i]? with
    |none=>exact Z7u h hn.2
    |some x=>exact List.pairwise_cons.2 ⟨fun y hy=>by
        obtain⟨j,hj,e⟩:=Q35 hy
        exact h.ap2 hi e fun e=>hn.1 (e▸hj),Z7u h hn.2⟩
theorem pick (I:List Nat)(h:SH F w W H)(hH:pk H I=H' :=by dsimp only[pk,List.getElem?_cons_zero,List.getElem?_cons_succ];first|done|exact rfl)(hn:I.Nodup:=by decide):SH F w W H' :=by
  subst hH;refine⟨h.off,fun x hx=> ?_,Z7u h hn,fun x hx=> ?_⟩
  · obtain⟨i,_,e⟩:=Q35 hx;exact h.at_ e
  obtain⟨i,_,e⟩:=Q35 hx;exact h.old x (mem e)
def feet (L:List As):List Nat:=(L.filter (·.mv)).flatMap As.foot
theorem mem_feet {k:Nat}:k∈feet L↔∃x∈L,x.mv=true∧k∈x.foot:=by
  unfold feet;simp only[List.mem_flatMap,List.mem_filter];exact⟨fun⟨x,⟨h1,h2⟩,h3⟩=>⟨x,h1,h2,h3⟩,fun⟨x,h1,h2,h3⟩=>⟨x,⟨h1,h2⟩,h3⟩⟩
theorem here (h:SH F w W (L++R)):SH (feet L) W W L:=
  ⟨Off.refl _ _,fun x hx=>h.all x (by simp[hx]),(List.pairwise_append.1 h.ap).1,fun x hx hm k hk _=>mem_feet.2 ⟨x,hx,hm,hk⟩⟩
def okL (L R:List As):List As→Prop
  |[]=>True
  |y::l=>(y∈L∨(y.mv=true∧R.all (tyOk y)=true))∧okL L R l
theorem Q6j:∀{l:List As},okL L R l→∀y∈l,y∈L∨(y.mv=true∧R.all (tyOk y)=true)
  |_::_,h,y,hy=>by
    rcases Ad.1 hy with rfl|hy
    · exact h.1
    · exact Q6j h.2 y hy
theorem frame (h:SH F w W (L++R))(h' :SH (feet L) W W' L')(ok:okL L R L'):SH F w W' (L' ++R):=by
  have hp:=List.pairwise_append.1 h.ap;have hR:∀z∈R,z.holds W:=fun z hz=>h.all z (by simp[hz]);have hL:∀x∈L,x.holds W:=fun x hx=>h.all x (by simp[hx])
  -- a block of what may turn is no block of R
  have hf:∀k,k∈feet L→∀z∈R,(∀T K,z≠ .t T K)→k∉z.foot:=fun k hk z hz hT=>by
    obtain⟨x,hx,hm,hk⟩:=mem_feet.1 hk;have:=(hp.2.2 x hx z hz).1 hm;cases z with
    |t T K=>exact absurd rfl (hT T K)
    |_=>exact this k hk
  have hl:∀y∈L',y.mv=true→∀z∈R,(∀T K,z≠ .t T K)→∀k∈y.foot,k∉z.foot:=fun y hy hm z hz hT k hk D=>
    hf k (h'.old y hy hm k hk (As.lt (hR z hz) k D)) z hz hT D
  refine⟨h.off.step h'.off fun k hk G=> ?_,fun z hz=> ?_,List.pairwise_append.2 ⟨h'.ap,hp.2.1,fun y hy z hz=>⟨fun hm=> ?_,fun hm=> ?_⟩⟩,fun z hz hm k hk G=> ?_⟩
  · obtain⟨x,hx,hm,hk⟩:=mem_feet.1 hk
    exact h.old x (by simp[hx]) hm k hk G
  · rcases Ay.1 hz with hz|hz
    · exact h'.all z hz
    refine As.keep h'.off (hR z hz) (fun k hk M=> ?_) fun T K e k M G ht=> ?_
    · cases z with
      |t T K=>cases hk
      |_=>exact hf k M _ hz (fun _ _ e=>by cases e) hk
    obtain⟨x,hx,hm,hk⟩:=mem_feet.1 M;have h1:=(hp.2.2 x hx z hz).1 hm;subst e;exact h1 ((As.tyOf (hL x hx) hm k hk).symm.trans ht)
  · rcases Q6j ok y hy with J|⟨_,U⟩
    · exact(hp.2.2 y J z hz).1 hm
    cases z with
    |t T K=>have:=List.all_eq_true.1 U _ hz;simpa[tyOk,hm] using this
    |_=>exact hl y hy hm _ hz (fun _ _ e=>by cases e)
  · rcases Q6j ok y hy with J|⟨N,_⟩
    · exact(hp.2.2 y J z hz).2 hm
    cases y with
    |t T K=>cases N
    |_=>exact fun k hk D=>hl _ hy N z hz (fun T K e=>by subst e;cases hm) k D hk
  rcases Ay.1 hz with hz|hz
  · by_cases S:k<W.heap.size
    · obtain⟨x,hx,V,D⟩:=mem_feet.1 (h'.old z hz hm k hk S)
      exact h.old x (by simp[hx]) V k D G
    have:=h.size;omega
  exact h.old z (by simp[hz]) hm k hk G
theorem ent {v:AB}{l:List UInt8}(h:SH [] w W H)(hs:Sl w v l):SH [] w W (.s v l::H):=by
  have hs' :Sl W v l:=Sl.off hs h.off f0;refine⟨h.off,fun y hy=> ?_,List.pairwise_cons.2 ⟨fun y hy=>⟨fun h=>by(cases h),fun hm k hk D=> ?_⟩,h.ap⟩,fun y hy hm k hk G=> ?_⟩
  · rcases Ad.1 hy with rfl|hy
    · exact hs'
    exact h.all y hy
  · have:=h.old y hy hm k hk (Sl.lt hs k (As.mem_toList D))
    cases this
  rcases Ad.1 hy with rfl|hy
  · cases hm
  exact h.old y hy hm k hk G
theorem off0 (h:SH [] w W H):Off [] w W:=h.off
end SH
end

section
inductive Wk where
  |L:(Exit→Act→AA→Prop)→Wk
  |X:(Act→AA→Prop)→Wk
def wpM (P:AD)(ops:Array AF)(k:Wk)(F:List Nat)(w:AA)(H:List As)(l:List AF)(a:Act):Prop:=
  ∀W,SH F w W H→match k with
    | .L Q=>wpList P ops Q l a W
    | .X E=>wpX P ops W (fun a' => ∀W',Ext W W' →E a' W') l a
theorem V7d {l l' :List AB}{i:Nat}{v:AB}(h:l.set i v=l'):l.toArray.setIfInBounds i v=l'.toArray:=by subst h;exact mA l i v
theorem sB (a b:As)(l:List As):(a::l).set 0 b=b::l:=rfl
theorem sC (a b:As)(l:List As)(n:Nat):(a::l).set (n+1) b=a::l.set n b:=rfl
theorem eB (a:As)(l:List As):(a::l).eraseIdx 0=l:=rfl
theorem eC (a:As)(l:List As)(n:Nat):(a::l).eraseIdx (n+1)=a::l.eraseIdx n:=rfl
section
variable {P : AD} {ops : Array AF} {k : Wk} {Q : Exit → Act → AA → Prop} {E : Act → AA → Prop} {F : List Nat} {w : AA} {H H' : List As} {l : List AF} {o : AF} {a a' : Act}
theorem wpM.val {v:AB}(hw:Region.wanted o (yielded ops a.tmps)=true)(hv:∀W,SH F w W H→(execOp a.eval o).run P W=.ok (.value v) W)(h:wpM P ops k F w H l (a.put o.dst v)):wpM P ops k F w H (o::l) a:=by
  intro W hS;cases k with
  |L Q=>exact J2r hw (hv W hS) (h W hS)
  |X E=>exact J3x hw (fun W' hW=>hv W' (hS.grow hW)) (h W hS)
theorem MS (h:wpM P ops k F w H l a')(hw:Region.wanted o (yielded ops a.tmps)=false:=by exact rfl)(hp:a.put o.dst undef=a' :=by first|exact pl (by dsimp only[mB,mC];first|done|exact rfl)|exact pn|exact rfl):wpM P ops k F w H (o::l) a:=by
  subst hp;intro W hS;cases k with
  |L Q=>exact Q87 hw (h W hS)
  |X E=>exact Z7b hw (h W hS)
theorem MV {v:Value}(h:wpM P ops k F w H l a')(hw:Region.wanted o (yielded ops a.tmps)=true:=by exact rfl)(hv:∀W,(execOp a.eval o).run P W=.ok (.value v) W:=by intro W;(go_simp;first|done|with_reducible rfl))(hp:a.put o.dst v=a' :=by first|exact pl (by dsimp only[mB,mC];first|done|exact rfl)|exact pn|exact rfl):wpM P ops k F w H (o::l) a:=by
  subst hp;exact wpM.val hw (fun W _=>hv W) h
theorem MW {v:Value}(h:wpM P ops k F w H l a')(hw:Region.wanted o (yielded ops a.tmps)=true:=by exact rfl)(hv:∀W,(execOp a.eval o).run P W=.ok (.value v) W:=by intro W;first|rfl|(go_simp;done)|(go_simp;with_reducible rfl)|(go_simp;omega))(hp:a.put o.dst v=a' :=by first|exact pl (by dsimp only[mB,mC];first|done|exact rfl)|exact pn|exact rfl):wpM P ops k F w H (o::l) a:=by
  subst hp;exact wpM.val hw (fun W _=>hv W) h
/-! ### frequent values -/
theorem Wf (h:wpM P ops k F w H l a')(hw:Region.wanted o (yielded ops a.tmps)=true:=by exact rfl)(hv:∀W,(execOp a.eval o).run P W=.ok (.value (.bool false)) W:=by intro W;first|rfl|(go_simp;done)|(go_simp;with_reducible rfl)|(go_simp;omega))(hp:a.put o.dst (.bool false)=a' :=by first|exact pl (by dsimp only[mB,mC];first|done|exact rfl)|exact pn|exact rfl):wpM P ops k F w H (o::l) a:=MW h hw hv hp
theorem Wt (h:wpM P ops k F w H l a')(hw:Region.wanted o (yielded ops a.tmps)=true:=by exact rfl)(hv:∀W,(execOp a.eval o).run P W=.ok (.value (.bool true)) W:=by intro W;first|rfl|(go_simp;done)|(go_simp;with_reducible rfl)|(go_simp;omega))(hp:a.put o.dst (.bool true)=a' :=by first|exact pl (by dsimp only[mB,mC];first|done|exact rfl)|exact pn|exact rfl):wpM P ops k F w H (o::l) a:=MW h hw hv hp
theorem W0 (h:wpM P ops k F w H l a')(hw:Region.wanted o (yielded ops a.tmps)=true:=by exact rfl)(hv:∀W,(execOp a.eval o).run P W=.ok (.value (.int .i64 0)) W:=by intro W;first|rfl|(go_simp;done)|(go_simp;with_reducible rfl)|(go_simp;omega))(hp:a.put o.dst (.int .i64 0)=a' :=by first|exact pl (by dsimp only[mB,mC];first|done|exact rfl)|exact pn|exact rfl):wpM P ops k F w H (o::l) a:=MW h hw hv hp
theorem Wfo (h:wpM P ops k F w H l a')(hw:Region.wanted o (yielded ops a.tmps)=true:=by exact rfl)(hv:∀W,(execOp a.eval o).run P W=.ok (.value (.bool false)) W:=by intro W;go_simp;first|done|omega)(hp:a.put o.dst (.bool false)=a' :=by first|exact pl (by dsimp only[mB,mC];first|done|exact rfl)|exact pn|exact rfl):wpM P ops k F w H (o::l) a:=MW h hw hv hp
theorem Wto (h:wpM P ops k F w H l a')(hw:Region.wanted o (yielded ops a.tmps)=true:=by exact rfl)(hv:∀W,(execOp a.eval o).run P W=.ok (.value (.bool true)) W:=by intro W;go_simp;first|done|omega)(hp:a.put o.dst (.bool true)=a' :=by first|exact pl (by dsimp only[mB,mC];first|done|exact rfl)|exact pn|exact rfl):wpM P ops k F w H (o::l) a:=MW h hw hv hp
theorem MF {v:Value}(hv:∀W,SH F w W H→(execOp a.eval o).run P W=.ok (.value v) W)(h:wpM P ops k F w H l a')(hw:Region.wanted o (yielded ops a.tmps)=true:=by exact rfl)(hp:a.put o.dst v=a' :=by first|exact pl (by dsimp only[mB,mC];first|done|exact rfl)|exact pn|exact rfl):wpM P ops k F w H (o::l) a:=by
  subst hp;exact wpM.val hw hv h
theorem MG (i:Nat){b j:Nat}{cs:Array Value}{t ty:TypeId}{v:Value}{x:Operand}(h:wpM P ops k F w H l a')(hi:H[i]?=some (.b b cs t):=by exact rfl)(hw:Region.wanted o (yielded ops a.tmps)=true:=by exact rfl)(ho:o.op=.load ty x:=by exact rfl)(hx:a.eval x=.pointer (some ⟨b,j,none⟩):=by exact rfl)(hj:cs[j]?=some v:=by exact rfl)
    (hk:(P.underlying ty).map TypeDesc.isRow=some false:=by as_aux_lemma=>kernel_rfl) (hp:a.put o.dst v=a' :=by first|exact pl (by dsimp only[mB,mC];first|done|exact rfl)|exact pn|exact rfl):wpM P ops k F w H (o::l) a:=by
  subst hp;exact wpM.val hw (fun W hS=>V6 ho hx (by rw[J5 (hS.blk hi)];exact hj) hk) h
theorem ML (i:Nat){b:Nat}{cs:Array Value}{t ty:TypeId}{x:Operand}(h:wpM P ops k F w H l a')(hi:H[i]?=some (.b b cs t):=by exact rfl)(hw:Region.wanted o (yielded ops a.tmps)=true:=by exact rfl)(ho:o.op=.load ty x:=by exact rfl)(hx:a.eval x=.pointer (some ⟨b,0,none⟩):=by exact rfl)
    (hk:(P.underlying ty).map TypeDesc.isRow=some true:=by as_aux_lemma=>kernel_rfl) (hs:(P.info? ty).map (·.size)=some cs.size:=by first|kernel_rfl|(rw[J1];kernel_rfl)) (hp:a.put o.dst (.agg cs)=a' :=by first|exact pl (by dsimp only[mB,mC];first|done|exact rfl)|exact pn|exact rfl):wpM P ops k F w H (o::l) a:=by
  subst hp;exact wpM.val hw (fun W hS=>Q8c ho hx (hS.blk hi) hk hs) h
theorem Ml (i:Nat){b j:Nat}{cs sub:Array Value}{t ty:TypeId}{x:Operand}(hs:∀i v,sub[i]?=some v→cs[j+i]?=some v)(h:wpM P ops k F w H l a')(hi:H[i]?=some (.b b cs t):=by exact rfl)(hw:Region.wanted o (yielded ops a.tmps)=true:=by exact rfl)(ho:o.op=.load ty x:=by exact rfl)(hx:a.eval x=.pointer (some ⟨b,j,none⟩):=by exact rfl)
    (hk:(P.underlying ty).map TypeDesc.isRow=some true:=by as_aux_lemma=>kernel_rfl) (hz:(P.info? ty).map (·.size)=some sub.size:=by first|kernel_rfl|(rw[J1];kernel_rfl)) (hp:a.put o.dst (.agg sub)=a' :=by first|exact pl (by dsimp only[mB,mC];first|done|exact rfl)|exact pn|exact rfl):wpM P ops k F w H (o::l) a:=by
  subst hp;refine wpM.val hw (fun W hS=> ?_) h;exact J0n (vs:=sub.toList) ho hx (fun i v hv=>by rw[J5 (hS.blk hi)];exact hs i v (by simpa using hv)) hk (by simpa using hz)
theorem MC {f:FuncId}{xl:List Operand}{ts:Array TypeId}{args:Array Value}{v:Value}(hc:∀W,SH F w W H→Calls P f args W fun e W' =>V4 v W W' e)(h:wpM P ops k F w H l a')(hw:Region.wanted o (yielded ops a.tmps)=true:=by exact rfl)
    (ho:o.op=.call {callee:=.value (.func f),args:=xl.toArray,argTypes:=ts}:=by with_reducible rfl) (hg:Q2r P f=true:=by as_aux_lemma=>kernel_rfl) (ha:(xl.map a.eval).toArray=args:=by exact rfl) (hp:a.put o.dst v=a' :=by first|exact pl (by dsimp only[mB,mC];first|done|exact rfl)|exact pn|exact rfl):wpM P ops k F w H (o::l) a:=by
  subst hp;intro W hS;cases k with
  |L Q=>exact Z2e (hc W hS) hw ho hg ha fun W' hO=>h W' (hS.next hO)
  |X E=>exact Z7d (fun W' hW=>hc W' (hS.grow hW)) hw ho hg ha (h W hS)
theorem ME {α:Type}{f:FuncId}{xl:List Operand}{ts:Array TypeId}{args:Array Value}{V:α→Value}{X:α→List As}{a' :α→Act}(hc:∀W,SH F w W H→Calls P f args W fun e W' => ∃v,e=.returned (V v)∧SH F w W' (X v))(h:∀v,wpM P ops (.L Q) F w (X v) l (a' v))(hw:Region.wanted o (yielded ops a.tmps)=true:=by exact rfl)
    (ho:o.op=.call {callee:=.value (.func f),args:=xl.toArray,argTypes:=ts}:=by with_reducible rfl) (hg:Q2r P f=true:=by as_aux_lemma=>kernel_rfl) (ha:(xl.map a.eval).toArray=args:=by exact rfl) (hp:∀v,a.put o.dst (V v)=a' v:=by intro v;first|exact pl (by dsimp only[mB,mC];first|done|exact rfl)|exact pn|exact rfl):wpM P ops (.L Q) F w H (o::l) a:=by
  intro W hS;refine Z7g (R:=fun v W' => ∃x,v=V x∧SH F w W' (X x)) ((hc W hS).mono fun e W' ⟨x,h1,h2⟩=>⟨V x,h1,x,rfl,h2⟩) hw ho hg ha fun v W' ⟨x,e,hX⟩=> ?_;subst e;rw[hp x];exact h x W' hX
theorem Me {f:FuncId}{xl:List Operand}{ts:Array TypeId}{args:Array Value}{v:Value}(hc:∀W,SH F w W H→Calls P f args W fun e W' =>e=.returned v∧SH F w W' H')(h:wpM P ops (.L Q) F w H' l a')(hw:Region.wanted o (yielded ops a.tmps)=true:=by exact rfl)
    (ho:o.op=.call {callee:=.value (.func f),args:=xl.toArray,argTypes:=ts}:=by with_reducible rfl) (hg:Q2r P f=true:=by as_aux_lemma=>kernel_rfl) (ha:(xl.map a.eval).toArray=args:=by exact rfl) (hp:a.put o.dst v=a' :=by first|exact pl (by dsimp only[mB,mC];first|done|exact rfl)|exact pn|exact rfl):wpM P ops (.L Q) F w H (o::l) a:=by
  subst hp;intro W hS;exact Q55 (hc W hS) hw ho hg ha fun W' hX=>h W' hX
theorem MN {z:Array Value}{t:TypeId}{a' :Nat→Act}(h:∀b,wpM P ops (.L Q) F w (.b b z t::H) l (a' b))(ht:H.all (SH.tyOk (.b 0 z t))=true:=by exact rfl)(hw:Region.wanted o (yielded ops a.tmps)=true:=by exact rfl)
    (hr:∀w,(execOp a.eval o).run P w=.ok (.value (.pointer (some ⟨w.heap.size,0,none⟩))) (w.alloc (.cells z t)):=by intro w;first|kernel_rfl|(go_simp;done)|(go_simp;rfl))
    (hp:∀b,a.put o.dst (.pointer (some ⟨b,0,none⟩))=a' b:=by intro b;first|exact pl (by dsimp only[mB,mC];first|done|exact rfl)|exact pn|exact rfl):wpM P ops (.L Q) F w H (o::l) a:=by
  intro W hS;refine Z2d hw (hr W) fun b W' hn hO hB=> ?_;rw[hp b];exact h b W' (hS.new (x:=.b b z t) hO hB (fun k hk=>by rw[Ai.1 hk];exact hn) rfl ht)
theorem MB {z:Array Value}{t:TypeId}{n c:Nat}{a' :Nat→Act}(h:∀b,wpM P ops (.L Q) F w (.b b z t::H) l (a' b))(ht:H.all (SH.tyOk (.b 0 z t))=true:=by exact rfl)(hw:Region.wanted o (yielded ops a.tmps)=true:=by exact rfl)
    (hr:∀W,SH F w W H→(execOp a.eval o).run P W=.ok (.value (.slice (some ⟨W.heap.size,0,none⟩) n c)) (W.alloc (.cells z t)):=by intro w _;first|kernel_rfl|(go_simp;done)|(go_simp;rfl))
    (hp:∀b,a.put o.dst (.slice (some ⟨b,0,none⟩) n c)=a' b:=by intro b;first|exact pl (by dsimp only[mB,mC];first|done|exact rfl)|exact pn|exact rfl):wpM P ops (.L Q) F w H (o::l) a:=by
  intro W hS;refine Q2t hw (hr W hS) fun b W' hn hO hB=> ?_;rw[hp b];exact h b W' (hS.new (x:=.b b z t) hO hB (fun k hk=>by rw[Ai.1 hk];exact hn) rfl ht)
theorem MO {z:Array Value}{m:List UInt8}{n:Nat}{a' :Value→Act}(h:∀v,wpM P ops (.L Q) F w (.o v m::H) l (a' v))(hz:z.toList=bs8 m:=by exact rfl)(hn:m.length=n:=by exact rfl)(hm:n≤maxLen:=by decide)(ht:H.all (SH.tyOk (.o undef []))=true:=by exact rfl)(hw:Region.wanted o (yielded ops a.tmps)=true:=by exact rfl)
    (hr:∀w,(execOp a.eval o).run P w=.ok (.value (.slice (some ⟨w.heap.size,0,none⟩) n n)) (w.alloc (.cells z 5)):=by intro w;first|kernel_rfl|(go_simp;done)|(go_simp;rfl))
    (hp:∀v,a.put o.dst v=a' v:=by intro b;first|exact pl (by dsimp only[mB,mC];first|done|exact rfl)|exact pn|exact rfl):wpM P ops (.L Q) F w H (o::l) a:=by
  subst hn;intro W hS;refine Q2t hw (hr W) fun b W' hn hO hB=> ?_;rw[hp];refine h _ W' (hS.new (x:=.o (.slice (some ⟨b,0,none⟩) m.length m.length) m) hO (Y2d hB hz hm) (fun k hk=>by rw[show k=b from Ai.1 hk];exact hn) rfl ht)
theorem MP (i:Nat){b off:Nat}{cs cs' :Array Value}{t ty:TypeId}{v:Value}{x y:Operand}(h:wpM P ops (.L Q) F w H' l a')(hi:H[i]?=some (.b b cs t):=by exact rfl)(hv:∀W,SH F w W H→v.cells= #[v]∧v.oneCell' =true:=by exact fun _ _=>⟨rfl,rfl⟩)(hw:Region.wanted o (yielded ops a.tmps)=true:=by exact rfl)(ho:o.op=.store ty x y:=by exact rfl)
    (hx:a.eval x=.pointer (some ⟨b,off,none⟩):=by exact rfl) (hy:a.eval y=v:=by exact rfl) (hs:off<cs.size:=by first|decide|simp) (hz:(P.info? ty).map (·.size)=some 1:=by kernel_rfl) (hc:cs.setIfInBounds off v=cs' :=by first|exact V7d (by dsimp only[mB,mC];first|done|exact rfl)|exact rfl)
    (hH:H.set i (.b b cs' t)=H' :=by dsimp only[sB,sC];first|done|exact rfl) (hp:a.put o.dst undef=a' :=by first|exact pl (by dsimp only[mB,mC];first|done|exact rfl)|exact pn|exact rfl):wpM P ops (.L Q) F w H (o::l) a:=by
  subst hp hc hH;intro W hS;exact Q88 (hv W hS) hw ho hx hy (hS.blk hi) hs hz fun W' hO hB=>h W' (hS.setb hi hO hB)
theorem MR (i:Nat){g:Nat}{cells old:Array Value}{t ty:TypeId}{x y:Operand}(h:wpM P ops (.L Q) F w H' l a')(hi:H[i]?=some (.b g old t):=by exact rfl)(hw:Region.wanted o (yielded ops a.tmps)=true:=by exact rfl)(ho:o.op=.store ty x y:=by exact rfl)
    (hx:a.eval x=.pointer (some ⟨g,0,none⟩):=by exact rfl) (hy:a.eval y=.agg cells:=by exact rfl) (hz:(P.info? ty).map (·.size)=some cells.size:=by first|kernel_rfl|(rw[J1];kernel_rfl)) (hs:old.size=cells.size:=by first|kernel_rfl|rw[J1,J1]|rw[J1]) (h1:cells.all (·.oneCell')=true:=by first|kernel_rfl|exact Z8 _ _ _)
    (hH:H.set i (.b g cells t)=H' :=by dsimp only[sB,sC];first|done|exact rfl) (hp:a.put o.dst undef=a' :=by first|exact pl (by dsimp only[mB,mC];first|done|exact rfl)|exact pn|exact rfl):wpM P ops (.L Q) F w H (o::l) a:=by
  subst hp hH;intro W hS;exact Q2u hw ho hx hy (hS.blk hi) hz hs h1 fun W' hO hB=>h W' (hS.setb hi hO hB)
theorem Mr (i:Nat){g off:Nat}{cells old new:Array Value}{t ty:TypeId}{x y:Operand}(hc:spl old off cells.toList=new)(h:wpM P ops (.L Q) F w H' l a')(hi:H[i]?=some (.b g old t):=by exact rfl)(hw:Region.wanted o (yielded ops a.tmps)=true:=by exact rfl)(ho:o.op=.store ty x y:=by exact rfl)
    (hx:a.eval x=.pointer (some ⟨g,off,none⟩):=by exact rfl) (hy:a.eval y=.agg cells:=by exact rfl) (hz:(P.info? ty).map (·.size)=some cells.size:=by first|kernel_rfl|(rw[J1];kernel_rfl)) (hs:off+cells.size≤old.size:=by first|decide|(rw[J1];decide)) (h1:cells.all (·.oneCell')=true:=by first|kernel_rfl|exact Z8 _ _ _)
    (hH:H.set i (.b g new t)=H' :=by dsimp only[sB,sC];first|done|exact rfl) (hp:a.put o.dst undef=a' :=by first|exact pl (by dsimp only[mB,mC];first|done|exact rfl)|exact pn|exact rfl):wpM P ops (.L Q) F w H (o::l) a:=by
  subst hp hc hH;intro W hS;exact Q6a (v:=.agg cells) hw ho hx hy (hS.blk hi) hs hz h1 fun W' hO hB=>h W' (hS.setb hi hO hB)
theorem MT (hs:∀W,SH F w W H→SH F w W H')(h:wpM P ops k F w H' l a):wpM P ops k F w H l a:=by
  intro W hS;exact h W (hs W hS)
theorem MD (i:Nat)(h:wpM P ops k F w H' l a)(hH:H.eraseIdx i=H' :=by dsimp only[eB,eC];first|done|exact rfl):wpM P ops k F w H l a:=by
  subst hH;exact MT (fun W hS=>hS.drop i) h
theorem MZ (h:∀W,SH F w W H→Q .normal a W):wpM P ops (.L Q) F w H [] a:=fun W hS=>V5 (h W hS)
theorem MZn (h:∀W,SH F w W H→Q .normal a W):wpM P ops (.L (NoPanic Q)) F w H [] a:=fun W hS=>V5 (NoPanic.normal (h W hS))
theorem MZx (h:∀W,SH F w W H→E a W):wpM P ops (.X E) F w H [] a:=fun _ hS=>J0o fun W' hW=>h W' (hS.grow hW)
theorem MZt {Q:Exit→Act→AA→Prop}{l2:List AF}(h:wpM P ops (.L Q) F w H l2 a):wpM P ops (.X (fun a1 W=>wpList P ops Q l2 a1 W)) F w H [] a:=fun _ hS=>J0o fun W' hW=>h W' (hS.grow hW)
theorem RL {id:Nat}{W:World}(hS:SH F w W H)(h:wpM P l.toArray (.L Q) F w H l a')(hp:a=a' :=by(try simp only[Act.put,mA,mB,mC]);exact rfl):(Code.region id l.toArray false).wp P Q a W:=by
  subst hp;exact wp_region_lit (h W hS)
theorem RX {id:Nat}{W:World}{l1 l2:List Oper}(m:Nat)(hS:SH F w W H)(h:wpM P l.toArray (.X (fun a1 W=>wpList P l.toArray (NoPanic Q) l2 a1 W)) F w H l1 a')(hm:P.follows .mixedOrders=true:=by as_aux_lemma=>kernel_rfl)
    (hB:(Region.noSelect l.toArray && Q2q .any l.toArray m m 0 (Array.replicate l.length false) && decide (m≤l.length) &&
      (Region.ready .any l.toArray (J07 m 0 (Array.replicate l.length false))).all (fun j=>decide (m≤j)) &&
      Region.seqB .any l.toArray (l.length-m) m (J07 m 0 (Array.replicate l.length false)))=true:=by as_aux_lemma=>kernel_rfl) (h1:l.take m=l1:=by(try simp only[List.append,List.take_succ_cons,List.take_zero,List.take_nil]);exact rfl) (h2:l.drop m=l2:=by(try simp only[List.append,List.drop_succ_cons,List.drop_zero,List.drop_nil]);exact rfl)
    (hp:a=a' :=by(try simp only[Act.put,mA,mB,mC]);exact rfl):(Code.region id l.toArray true).wp P Q a W:=by
  subst hp h1 h2;exact J9j m hm hB (h W hS)
theorem RS {id:Nat}{W:World}(hS:SH F w W H)(h:wpM P l.toArray (.X (fun a1 W=>Q .normal a1 W)) F w H l a')(hm:P.follows .mixedOrders=true:=by as_aux_lemma=>kernel_rfl)
    (hB:(Region.noSelect l.toArray && Q2q .any l.toArray l.length l.length 0 (Array.replicate l.length false) && decide (Region.ready .any l.toArray (J07 l.length 0 (Array.replicate l.length false))=[]))=true:=by as_aux_lemma=>kernel_rfl)
    (hp:a=a' :=by(try simp only[Act.put,mA,mB,mC]);exact rfl):(Code.region id l.toArray true).wp P Q a W:=by
  subst hp;exact Q66 hm hB (h W hS)
/-! ### By a plan -/
def wpP (P:AD)(ops:Array AF)(K:Act→AA→Prop)(F:List Nat)(w:AA)(G H:List As)(t:Tr)(a:Act):Prop:=
  (∀W,SH F w W H→SH F w W G)∧∀W,SH F w W H→K1 P ops K t (fun W=>SH F w W G) a W
section
variable {K : Act → AA → Prop} {t u : Tr} {G G' : List As} {i : Nat}
theorem RT {id:Nat}{W:World}{ops:Array Oper}(t:Tr)(hS:SH F w W H)(h:wpP P ops (Q .normal) F w G H t a')(hm:P.follows .mixedOrders=true:=by as_aux_lemma=>kernel_rfl)
    (hB:(Region.noSelect ops && decide (t.len≤ops.size) && t.ok .any ops (Array.replicate ops.size false))=true:=by as_aux_lemma=>kernel_rfl)
    (hp:a=a' :=by(try simp only[Act.put,mA,mB,mC]);exact rfl):(Code.region id ops true).wp P Q a W:=by
  subst hp;exact Q6e t (fun W=>SH F w W G) hm hB fun W' hO=>⟨h.1 W' (hS.next hO),h.2 W' (hS.next hO)⟩
theorem RTh {id:Nat}{W:World}{ops:Array Oper}(t:Tr)(hS:SH F w W H)(h:wpP P ops (Q .normal) F w H H t a')(hm:P.follows .mixedOrders=true:=by as_aux_lemma=>kernel_rfl)
    (hB:(Region.noSelect ops && decide (t.len≤ops.size) && t.ok .any ops (Array.replicate ops.size false))=true:=by as_aux_lemma=>kernel_rfl)
    (hp:a=a' :=by(try simp only[Act.put,mA,mB,mC]);exact rfl):(Code.region id ops true).wp P Q a W:=RT t hS h hm hB hp
theorem RTp (I:List Nat){id:Nat}{W:World}{ops:Array Oper}(t:Tr)(hS:SH F w W H)(h:wpP P ops (Q .normal) F w G H t a')(hG:pk H I=G:=by dsimp only[pk,List.getElem?_cons_zero,List.getElem?_cons_succ];first|done|exact rfl)(hm:P.follows .mixedOrders=true:=by as_aux_lemma=>kernel_rfl)
    (hB:(Region.noSelect ops && decide (t.len≤ops.size) && t.ok .any ops (Array.replicate ops.size false))=true:=by as_aux_lemma=>kernel_rfl)
    (hp:a=a' :=by(try simp only[Act.put,mA,mB,mC]);exact rfl):(Code.region id ops true).wp P Q a W:=RT t hS h hm hB hp
theorem wpP.val {v:AB}(ho:ops.toList[i]?=some o)(hw:Region.wanted o (yielded ops a.tmps)=true)(hv:∀W,SH F w W G→(execOp a.eval o).run P W=.ok (.value v) W)(h:wpP P ops K F w G H t (a.put o.dst v)):wpP P ops K F w G H (.q i t) a:=
  ⟨h.1,fun W hS=>V2v ho hw hv (h.2 W hS)⟩
theorem TS (h:wpP P ops K F w G H t a')(ho:ops.toList[i]?=some o:=by exact rfl)(hw:Region.wanted o (yielded ops a.tmps)=false:=by exact rfl)(hp:a.put o.dst undef=a' :=by first|exact pl (by dsimp only[mB,mC];first|done|exact rfl)|exact pn|exact rfl):wpP P ops K F w G H (.q i t) a:=by
  subst hp;exact⟨h.1,fun W hS=>Z7m ho hw (h.2 W hS)⟩
theorem TV {v:Value}(h:wpP P ops K F w G H t a')(ho:ops.toList[i]?=some o:=by exact rfl)(hw:Region.wanted o (yielded ops a.tmps)=true:=by exact rfl)(hv:∀W,(execOp a.eval o).run P W=.ok (.value v) W:=by intro W;(go_simp;first|done|with_reducible rfl))(hp:a.put o.dst v=a' :=by first|exact pl (by dsimp only[mB,mC];first|done|exact rfl)|exact pn|exact rfl):wpP P ops K F w G H (.q i t) a:=by
  subst hp;exact wpP.val ho hw (fun W _=>hv W) h
theorem TW {v:Value}(h:wpP P ops K F w G H t a')(ho:ops.toList[i]?=some o:=by exact rfl)(hw:Region.wanted o (yielded ops a.tmps)=true:=by exact rfl)(hv:∀W,(execOp a.eval o).run P W=.ok (.value v) W:=by intro W;first|rfl|(go_simp;done)|(go_simp;with_reducible rfl)|(go_simp;omega))(hp:a.put o.dst v=a' :=by first|exact pl (by dsimp only[mB,mC];first|done|exact rfl)|exact pn|exact rfl):wpP P ops K F w G H (.q i t) a:=by
  subst hp;exact wpP.val ho hw (fun W _=>hv W) h
theorem Tf (h:wpP P ops K F w G H t a')(ho:ops.toList[i]?=some o:=by exact rfl)(hw:Region.wanted o (yielded ops a.tmps)=true:=by exact rfl)(hv:∀W,(execOp a.eval o).run P W=.ok (.value (.bool false)) W:=by intro W;first|rfl|(go_simp;done)|(go_simp;with_reducible rfl)|(go_simp;omega))(hp:a.put o.dst (.bool false)=a' :=by first|exact pl (by dsimp only[mB,mC];first|done|exact rfl)|exact pn|exact rfl):wpP P ops K F w G H (.q i t) a:=TW h ho hw hv hp
theorem Tt (h:wpP P ops K F w G H t a')(ho:ops.toList[i]?=some o:=by exact rfl)(hw:Region.wanted o (yielded ops a.tmps)=true:=by exact rfl)(hv:∀W,(execOp a.eval o).run P W=.ok (.value (.bool true)) W:=by intro W;first|rfl|(go_simp;done)|(go_simp;with_reducible rfl)|(go_simp;omega))(hp:a.put o.dst (.bool true)=a' :=by first|exact pl (by dsimp only[mB,mC];first|done|exact rfl)|exact pn|exact rfl):wpP P ops K F w G H (.q i t) a:=TW h ho hw hv hp
theorem T0 (h:wpP P ops K F w G H t a')(ho:ops.toList[i]?=some o:=by exact rfl)(hw:Region.wanted o (yielded ops a.tmps)=true:=by exact rfl)(hv:∀W,(execOp a.eval o).run P W=.ok (.value (.int .i64 0)) W:=by intro W;first|rfl|(go_simp;done)|(go_simp;with_reducible rfl)|(go_simp;omega))(hp:a.put o.dst (.int .i64 0)=a' :=by first|exact pl (by dsimp only[mB,mC];first|done|exact rfl)|exact pn|exact rfl):wpP P ops K F w G H (.q i t) a:=TW h ho hw hv hp
theorem exh {α:Sort _}(n:α):∃X,RowKit.Hid (X=n):=⟨n,Lib.hid rfl⟩
theorem TF {v:Value}(ho:ops.toList[i]?=some o)(hv:∀W,SH F w W G→(execOp a.eval o).run P W=.ok (.value v) W)(h:wpP P ops K F w G H t a')(hw:Region.wanted o (yielded ops a.tmps)=true:=by exact rfl)(hp:a.put o.dst v=a' :=by first|exact pl (by dsimp only[mB,mC];first|done|exact rfl)|exact pn|exact rfl):wpP P ops K F w G H (.q i t) a:=by
  subst hp;exact wpP.val ho hw hv h
theorem TG (n:Nat){b j:Nat}{cs:Array Value}{tt ty:TypeId}{v:Value}{x:Operand}(h:wpP P ops K F w G H t a')(hi:G[n]?=some (.b b cs tt):=by exact rfl)(hoo:ops.toList[i]?=some o:=by exact rfl)(hw:Region.wanted o (yielded ops a.tmps)=true:=by exact rfl)(ho:o.op=.load ty x:=by exact rfl)(hx:a.eval x=.pointer (some ⟨b,j,none⟩):=by exact rfl)(hj:cs[j]?=some v:=by exact rfl)
    (hk:(P.underlying ty).map TypeDesc.isRow=some false:=by as_aux_lemma=>kernel_rfl) (hp:a.put o.dst v=a' :=by first|exact pl (by dsimp only[mB,mC];first|done|exact rfl)|exact pn|exact rfl):wpP P ops K F w G H (.q i t) a:=by
  subst hp;exact wpP.val hoo hw (fun W hS=>V6 ho hx (by rw[J5 (hS.blk hi)];exact hj) hk) h
theorem TL (n:Nat){b:Nat}{cs:Array Value}{tt ty:TypeId}{x:Operand}(h:wpP P ops K F w G H t a')(hi:G[n]?=some (.b b cs tt):=by exact rfl)(hoo:ops.toList[i]?=some o:=by exact rfl)(hw:Region.wanted o (yielded ops a.tmps)=true:=by exact rfl)(ho:o.op=.load ty x:=by exact rfl)(hx:a.eval x=.pointer (some ⟨b,0,none⟩):=by exact rfl)
    (hk:(P.underlying ty).map TypeDesc.isRow=some true:=by as_aux_lemma=>kernel_rfl) (hs:(P.info? ty).map (·.size)=some cs.size:=by first|kernel_rfl|(rw[J1];kernel_rfl)) (hp:a.put o.dst (.agg cs)=a' :=by first|exact pl (by dsimp only[mB,mC];first|done|exact rfl)|exact pn|exact rfl):wpP P ops K F w G H (.q i t) a:=by
  subst hp;exact wpP.val hoo hw (fun W hS=>Q8c ho hx (hS.blk hi) hk hs) h
theorem Tl (n:Nat){b j:Nat}{cs sub:Array Value}{tt ty:TypeId}{x:Operand}(hs:∀i v,sub[i]?=some v→cs[j+i]?=some v)(h:wpP P ops K F w G H t a')(hi:G[n]?=some (.b b cs tt):=by exact rfl)(hoo:ops.toList[i]?=some o:=by exact rfl)(hw:Region.wanted o (yielded ops a.tmps)=true:=by exact rfl)(ho:o.op=.load ty x:=by exact rfl)(hx:a.eval x=.pointer (some ⟨b,j,none⟩):=by exact rfl)
    (hk:(P.underlying ty).map TypeDesc.isRow=some true:=by as_aux_lemma=>kernel_rfl) (hz:(P.info? ty).map (·.size)=some sub.size:=by first|kernel_rfl|(rw[J1];kernel_rfl)) (hp:a.put o.dst (.agg sub)=a' :=by first|exact pl (by dsimp only[mB,mC];first|done|exact rfl)|exact pn|exact rfl):wpP P ops K F w G H (.q i t) a:=by
  subst hp;exact wpP.val hoo hw (fun W hS=>J0n (vs:=sub.toList) ho hx (fun i v hv=>by rw[J5 (hS.blk hi)];exact hs i v (by simpa using hv)) hk (by simpa using hz)) h
theorem TZ (hG:∀W,SH F w W H→SH F w W G)(h:∀W,SH F w W H→K a W):wpP P ops K F w G H .z a:=⟨hG,fun W hS=>h W hS⟩
abbrev Nx (P:AD)(ops:Array AF)(K:Act→AA→Prop)(F:List Nat)(w:AA)(G:List As)(t:Tr):Exit→Act→AA→Prop:=
  Nml fun a' w' => ∃S' :AA→Prop,(∀W,S' W→SH F w W G)∧S' w' ∧K1 P ops K t S' a' w'
theorem TE (hG:∀W,SH F w W H→SH F w W G)(h:wpM P ops (.L (Nx P ops K F w G t)) F w H [o] a)(ho:ops.toList[i]?=some o:=by exact rfl):wpP P ops K F w G H (.e i t) a:=
  ⟨hG,fun W hS=>V2w ho (h W hS)⟩
theorem TB {j:Nat}{o2:Oper}(hG:∀W,SH F w W H→SH F w W G)(h:wpM P ops (.L (Nx P ops K F w G t)) F w H [o] a)(h2:wpM P ops (.L (Nx P ops K F w G u)) F w H [o2] a)(ho:ops.toList[i]?=some o:=by exact rfl)(ho2:ops.toList[j]?=some o2:=by exact rfl):wpP P ops K F w G H (.b i t j u) a:=
  ⟨hG,fun W hS=>V2x ho ho2 (h W hS) (h2 W hS)⟩
theorem TN (G' :List As)(hg:∀W,SH F w W G' →SH F w W G)(h:wpP P ops K F w G' H t a):wpM P ops (.L (Nx P ops K F w G t)) F w H [] a:=
  fun W hS=>V2y (S:=fun W=>SH F w W G) (fun W=>SH F w W G') hg (h.1 W hS) (h.2 W hS)
theorem TNp (I J:List Nat)(h:wpP P ops K F w G' H t a)(hG:pk H I=G' :=by dsimp only[pk,List.getElem?_cons_zero,List.getElem?_cons_succ];first|done|exact rfl)(hg:pk G' J=G:=by dsimp only[pk,List.getElem?_cons_zero,List.getElem?_cons_succ];first|done|exact rfl)(hn:J.Nodup:=by decide):wpM P ops (.L (Nx P ops K F w G t)) F w H [] a:=TN G' (fun _ hS=>hS.pick J hg hn) h
theorem TNh (hg:∀W,SH F w W H→SH F w W G)(h:wpP P ops K F w H H t a):wpM P ops (.L (Nx P ops K F w G t)) F w H [] a:=TN H hg h
end
end
/-! ### Calls that turn some of it, by what they turn -/
section
variable {P : AD} {f : FuncId} {args : Array AB} {F : List Nat} {w W : AA} {H L R : List As}
theorem Z7v (I J:List Nat){v:Value}{L' :List As}{H' :List As}(hS:SH F w W H)(hc:SH (SH.feet L) W W L→Calls P f args W fun e W' =>e=.returned v∧SH (SH.feet L) W W' L')(ok:SH.okL L R L')(hI:pk H I=L:=by exact rfl)(hJ:pk H J=R:=by exact rfl)(hn:(I++J).Nodup:=by decide)(hH:L' ++R=H' :=by exact rfl):Calls P f args W fun e W' =>e=.returned v∧SH F w W' H' :=by
  subst hI hJ hH
  have h:SH F w W (pk H I++pk H J):=hS.pick (I++J) (by
    exact J94 H I J) hn
  exact(hc h.here).mono fun e W' ⟨h1,h2⟩=>⟨h1,h.frame h2 ok⟩
theorem Q8g {α:Type}(I J:List Nat){V:α→Value}{L' H' :α→List As}(hS:SH F w W H)(hc:SH (SH.feet L) W W L→Calls P f args W fun e W' => ∃x,e=.returned (V x)∧SH (SH.feet L) W W' (L' x))(ok:∀x,SH.okL L R (L' x))(hI:pk H I=L:=by exact rfl)(hJ:pk H J=R:=by exact rfl)(hn:(I++J).Nodup:=by decide)(hH:∀x,L' x++R=H' x:=by exact fun _=>rfl):Calls P f args W fun e W' => ∃x,e=.returned (V x)∧SH F w W' (H' x):=by
  subst hI hJ
  have h:SH F w W (pk H I++pk H J):=hS.pick (I++J) (by
    exact J94 H I J) hn
  exact(hc h.here).mono fun e W' ⟨x,h1,h2⟩=>⟨x,h1,by rw[←hH x];exact h.frame h2 (ok x)⟩
end
end
end Go.Proofs.YtdjacgmmidbieaaGreatDoor

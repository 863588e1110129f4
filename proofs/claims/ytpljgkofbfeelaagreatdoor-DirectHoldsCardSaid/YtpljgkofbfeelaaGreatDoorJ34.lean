/- Contracts and plain laws for directHolds_holds. Conditions: the tables hold their numbers. -/
import Derived.Test.YtpljgkofbfeelaaGreatDoorJ33
open _root_.List renaming mem_cons_self->BI,length_map->BS,mem_append->Ar
open Go.RowKit
set_option maxRecDepth 100000
set_option linter.unusedSimpArgs false
set_option linter.unusedVariables false
namespace Go.Proofs.YtpljgkofbfeelaaGreatDoor
attribute [local irreducible] ixN bnd opn pfN erN rs
theorem Z1q (ls:List Lf)(x:Lf):J52 (ls++[x])=J57 (J52 ls) x:=by unfold J52;rw[List.foldl_append];rfl
theorem Z1r:∀(n:Nat) {ls:List Lf} {z:Lf},ls.length=n→(z∈J52 ls↔(ls.filter fun y=>decide (y.1=z.1)).getLast?=some z)
  |0,ls,z,h=>by
    rw[List.length_eq_zero_iff.1 h];simp[J52]
  |n+1,ls,z,h=>by
    have hne:ls≠[]:=fun e=>by rw[e] at h;cases h
    have e:=(List.dropLast_concat_getLast hne).symm;have hl:ls.dropLast.length=n:=by rw[List.length_dropLast,h];rfl
    have ih:=Z1r n (z:=z) hl;rw[e,Z1q,Q0l,List.filter_append,List.filter_cons,List.filter_nil]
    by_cases hk:(ls.getLast hne).1=z.1
    · rw[if_pos (decide_eq_true hk),List.getLast?_append,List.getLast?_singleton,Option.some_or]
      exact⟨fun h' =>h'.elim (fun h' =>by rw[h']) fun h' =>absurd hk.symm h'.2,fun h' => .inl (Option.some.inj h').symm⟩
    · rw[if_neg (by simpa using hk),List.append_nil,←ih]
      exact⟨fun h' =>h'.elim (fun h' =>absurd (by rw[h']) hk) fun h' =>h'.1,fun h' => .inr ⟨h',fun h2=>hk h2.symm⟩⟩
namespace DD
def NoCl (D:DD)(l:List UInt8):Prop:=∀m∈D.made,ixN D.vk m.l=ixN D.vk l→m.l=l
theorem Z9d {D:DD}{l:List UInt8}{e:Nat}(h:D.NoCl l):(D.lvs e).filter (fun y=>decide (y.1=ixN D.vk l))=((D.ofl l).filter fun m=>decide (m.ep≤e)).map D.leaf:=by
  unfold lvs upto ofl;rw[List.filter_map,List.filter_filter,List.filter_filter];refine congrArg (List.map D.leaf) (List.filter_congr fun m hm=> ?_)
  by_cases hl:m.l=l
  · simp[Function.comp,leaf,hl]
  have h1:¬ixN D.vk m.l=ixN D.vk l:=fun h' =>hl (h m hm h');simp[Function.comp,leaf,hl,h1]
theorem lvs_ok (D:DD)(e:Nat):J34 (D.lvs e):=fun y hy=>by
  obtain⟨m,_,rfl⟩:=List.mem_map.1 hy;exact Z3u D m
theorem lvs_last {D:DD}{l:List UInt8}{e:Nat}(h:D.NoCl l)(h0:0<D.cnt l e):D.leaf (D.lastM l e)∈J52 (D.lvs e)∧(D.lastM l e).l=l:=by
  have hm:=Q9b h0
  have hl:(D.lastM l e).l=l:=by
    have h1:=(List.mem_filter.1 (List.mem_of_getElem? hm)).2
    simpa using h1
  refine⟨?_,hl⟩;rw[Z1r _ rfl];have h2:(D.leaf (D.lastM l e)).1=ixN D.vk l:=by unfold leaf;rw[hl]
  rw[h2,Z9d h,List.getLast?_map]
  have h3:((D.ofl l).filter fun m=>decide (m.ep≤e)).getLast?=some (D.lastM l e):=by
    rw[List.getLast?_eq_getElem?,J81 (D.ofl_ord l) e];show((D.ofl l).take (D.cnt l e))[((D.ofl l).take (D.cnt l e)).length-1]?=_;rw[List.length_take,Nat.min_eq_left (D.cnt_le l e),List.getElem?_take_of_lt (by omega),hm]
  rw[h3];rfl
theorem lvs_none {D:DD}{l:List UInt8}{e:Nat}(h:D.NoCl l)(h0:D.cnt l e=0){x:Nat}:(ixN D.vk l,x)∉J52 (D.lvs e):=fun hm=>by
  rw[Z1r _ rfl] at hm;rw[Z9d h,List.length_eq_zero_iff.1 (show((D.ofl l).filter fun m=>decide (m.ep≤e)).length=0 from h0)] at hm;cases hm
end DD
theorem Z9e {D:DD}{l:List UInt8}{e:Nat}(h0:erN D.vk l=0)(h:D.NoCl l):chk (D.lkE l e).ro (D.lkE l e).ix (D.lkE l e).ss (D.lkE l e).th (D.lkE l e).ek (D.lkE l e).ev=((D.lkE l e).bd,(D.lkE l e).pres,0):=by
  have hk:=Z9f (k:=ixN D.vk l) (D.lvs_ok e);have hE:D.lkE l e=fnd D (ixN D.vk l) (pfN D.vk l) e (D.lastM l e).ver (D.lastM l e).x:=by unfold DD.lkE;rw[if_pos h0];rfl
  rw[hE];show chk (rs (ofT (D.lvs e))) (ixN D.vk l) (bsd (ofT (D.lvs e)) (ixN D.vk l) 0) (J2e (J00 (ofT (D.lvs e)) (ixN D.vk l) 0)).2.2 (J2e (J00 (ofT (D.lvs e)) (ixN D.vk l) 0)).1 (J2e (J00 (ofT (D.lvs e)) (ixN D.vk l) 0)).2.1=(if 0<(D.lastM l e).ver then bnd (opn D.bk (ixN D.vk l) ((D.lastM l e).ver:Int)) (ixN D.vk l) ((D.lastM l e).ver:Int) (D.lastM l e).x else 0,decide (0<(D.lastM l e).ver),0)
  rw[hk,DD.lastM_ver];obtain⟨_,hs⟩:=J78 (D.lvs_ok e);rcases Nat.eq_zero_or_pos (D.cnt l e) with hc|hc
  · rw[hc,if_neg (Nat.lt_irrefl 0)]
    rcases J65 (ofT (D.lvs e)) (ixN D.vk l) 0 with e1|⟨a,x,e1⟩
    · rw[e1];rfl
    have h2:=e1;rw[Q0m (D.lvs_ok e)] at h2;have h3:=(J6r 256 0 rfl hs (Q2h _) h2).1;rw[e1];show((if a=ixN D.vk l then(x,true,_) else(0,false,_):Nat×Bool×Nat).1,(if a=ixN D.vk l then(x,true,_) else(0,false,_):Nat×Bool×Nat).2.1,0)=_;rw[if_neg (fun ha=>DD.lvs_none h hc (by rw[←ha];exact h3))];rfl
  obtain⟨h1,h2⟩:=DD.lvs_last h hc
  have h3:J00 (ofT (D.lvs e)) (ixN D.vk l) 0=.leaf (ixN D.vk l) (D.leaf (D.lastM l e)).2:=by
    rw[Q0m (D.lvs_ok e)];refine Q79 256 0 rfl hs (Q2h _) ?_;have h4:D.leaf (D.lastM l e)=(ixN D.vk l,(D.leaf (D.lastM l e)).2):=Prod.ext (show ixN D.vk (D.lastM l e).l=_ by rw[h2]) rfl;rw[←h4];exact h1
  rw[h3,if_pos hc,decide_eq_true hc];show((if ixN D.vk l=ixN D.vk l then((D.leaf (D.lastM l e)).2,true,_) else(0,false,_):Nat×Bool×Nat).1,(if ixN D.vk l=ixN D.vk l then((D.leaf (D.lastM l e)).2,true,_) else(0,false,_):Nat×Bool×Nat).2.1,0)=_;rw[if_pos rfl];show((D.leaf (D.lastM l e)).2,true,0)=_;unfold DD.leaf;rw[h2,DD.lastM_ver]
theorem Y4z {D:DD}{l:List UInt8}{e:Nat}(h0:erN D.vk l=0)(hp:(D.lkE l e).pres=true):(D.lkE l e).bd=bnd (D.lkE l e).op (D.lkE l e).ix ((D.lkE l e).ver:Int) (D.lkE l e).x:=by
  have hE:D.lkE l e=fnd D (ixN D.vk l) (pfN D.vk l) e (D.lastM l e).ver (D.lastM l e).x:=by unfold DD.lkE;rw[if_pos h0];rfl
  rw[hE] at hp⊢;have hv:0<(D.lastM l e).ver:=of_decide_eq_true hp;show(if 0<(D.lastM l e).ver then bnd (opn D.bk (ixN D.vk l) ((D.lastM l e).ver:Int)) (ixN D.vk l) ((D.lastM l e).ver:Int) (D.lastM l e).x else 0)=bnd (if 0<(D.lastM l e).ver then opn D.bk (ixN D.vk l) ((D.lastM l e).ver:Int) else 0) _ _ _;rw[if_pos hv,if_pos hv];rfl
theorem Z74 {D:DD}{wt n:Int}{raw val l:List UInt8}(h:l∈(D.play wt n raw val).labs):l∈D.labs∨l=alb n raw:=by
  by_cases hw:wt.tmod 3=0
  · rw[Z9g hw] at h
    unfold DD.sealD at h
    split at h
    · rw[DD.labs_nxt] at h;exact .inl h
    exact .inl h
  rw[Z9h hw] at h;unfold DD.putD at h
  split at h
  · rw[DD.labs_put] at h
    split at h
    · exact .inl h
    rcases Ar.1 h with h|h
    · exact .inl h
    exact .inr (List.mem_singleton.1 h)
  exact .inl h
theorem Z9i {D:DD}{m:Md}(h:m∈D.made):m.l∈D.labs:=DD.mem_labs.2 ⟨(m.l,m.x),List.mem_append_left _ (DD.made_mem h).2,rfl⟩
end Go.Proofs.YtpljgkofbfeelaaGreatDoor

namespace Go.Proofs.YtpljgkofbfeelaaGreatDoor.S8
section
open Sc (LL)
def Q2b:List Pr→Pr
  |[]=>p0
  |a::l=>V9 a (Q2b l)
theorem Q3p:∀{l:List Pr},(∀a∈l,OnC a)→OnC (Q2b l)
  |[],_=>Z0g
  |a::l,h=>J4k (h a (BI ..)) (Q3p fun b hb=>h b (List.mem_cons_of_mem _ hb))
theorem Z88 {l m:List Pr}(h:l.Perm m):(∀a∈l,OnC a)→Q2b l=Q2b m:=by
  induction h with
  |nil=>intro _;rfl
  |cons a _ ih=>intro ho;exact congrArg (V9 a) (ih fun b hb=>ho b (List.mem_cons_of_mem _ hb))
  |swap a b l=>
    intro ho;show V9 b (V9 a (Q2b l))=V9 a (V9 b (Q2b l));have hb:=ho b (by simp);have ha:=ho a (by simp);have hl:OnC (Q2b l):=Q3p fun c hc=>ho c (by simp[hc]);rw[←J1j hb ha hl,←J1j ha hb hl,J71 b a]
  |trans h1 _ i1 i2=>intro ho;exact(i1 ho).trans (i2 fun a ha=>ho a (h1.mem_iff.2 ha))
theorem Z0x {q:Pr}(hq:OnC q):∀{l:List Pr},(∀a∈l,OnC a)→Q2b (l.map (V9 q))=V9 (pm q l.length) (Q2b l)
  |[],_=>by
    show p0=V9 p0 p0;rw[Q17]
  |a::l,h=>by
    have ha:=h a (BI ..);have hl:=fun b hb=>h b (List.mem_cons_of_mem a hb);have hs:=Q3p hl;have hn:=pm_on hq l.length;show V9 (V9 q a) (Q2b (l.map (V9 q)))=V9 (pm q (l.length+1)) (V9 a (Q2b l));rw[Z0x hq hl,Q06 hq,Z2s];rw[J1j hq ha (J4k hn hs),←J1j ha hn hs,J71 a (pm q l.length),J1j hn ha hs,←J1j hq hn (J4k ha hs),J71 q (pm q l.length)]
theorem Z0y {L:List Pr}(hN:L.Nodup)(hL:∀a,a∈L↔OnC a){q:Pr}(hq:OnC q):pm q L.length=p0:=by
  have ho:∀a∈L,OnC a:=fun a h=>(hL a).1 h;have D:∀a b,OnC a→OnC b→V9 q a=V9 q b→a=b:=fun a b ha hb h=>by rw[←J8i hq ha,h,J8i hq hb]
  have hm:(L.map (V9 q)).Nodup:=List.pairwise_map.2 (hN.imp_of_mem fun ha hb G e=>G (D _ _ (ho _ ha) (ho _ hb) e))
  have hp:L.Perm (L.map (V9 q)):=(List.perm_ext_iff_of_nodup hN hm).2 fun a=>⟨fun ha=>List.mem_map.2 ⟨V9 a (J40 q),(hL _).2 (J4k (ho a ha) (J7l hq)),by rw[←J1j hq (ho a ha) (J7l hq),J8i hq (ho a ha)]⟩,fun ha=>by
    obtain⟨b,hb,rfl⟩:=List.mem_map.1 ha
    exact(hL _).2 (J4k hq (ho b hb))⟩
  have e1:=Z88 hp ho;rw[Z0x hq ho] at e1;have hs:=Q3p ho;have hn:=pm_on hq L.length;have e3:V9 (V9 (pm q L.length) (Q2b L)) (J40 (Q2b L))=pm q L.length:=by rw[J1j hn hs (J7l hs),Q16 hs,Q17]
  rw[←e1,Q16 hs] at e3;exact e3.symm
theorem V5i {V:Nat}(h:dOk V=true):V % 2^255<PP:=by
  unfold dOk at h;simp only[Bool.and_eq_true,decide_eq_true_eq] at h;exact h.1.1
theorem Y7r:∃L:List Pr,L.Nodup∧(∀a,a∈L↔OnC a)∧L.length≤PP+PP:=by
  obtain⟨n,hn⟩:∃n,n=2^256:=⟨_,rfl⟩
  obtain⟨m,hm⟩:∃m,m=PP:=⟨_,rfl⟩
  obtain⟨l,D⟩:∃l,l=(List.range n).filter dOk:=⟨_,rfl⟩
  have hl:∀V,V∈l↔V<n∧dOk V=true:=fun V=>by rw[D,List.mem_filter,List.mem_range]
  have G:l.Nodup:=by rw[D];exact List.Pairwise.filter _ List.nodup_range
  have he:∀V∈l,enc (dPt V)=V:=fun V h=>Y6y (hn▸((hl V).1 h).1) ((hl V).1 h).2;refine⟨l.map dPt,List.pairwise_map.2 (G.imp_of_mem fun ha hb M e=>M (by rw[←he _ ha,←he _ hb,e])),fun a=>⟨fun h=> ?_,fun h=> ?_⟩,?_⟩
  · obtain⟨V,hV,rfl⟩:=List.mem_map.1 h
    exact Q54 ((hl V).1 hV).2
  · exact List.mem_map.2 ⟨enc a,(hl _).2 ⟨hn▸J8k a,(dec_enc h).1⟩,(dec_enc h).2⟩
  rw[BS,←hm]
  have J:l ⊆ List.range m++(List.range m).map (fun j=>2^255+j):=fun V hV=>by
    obtain⟨h1,h2⟩:=(hl V).1 hV;have h3:=V5i h2;rw[hn] at h1;rw[Ar,List.mem_range,List.mem_map]
    by_cases h4:V<2^255
    · rw[Nat.mod_eq_of_lt h4] at h3
      exact Or.inl (hm▸h3)
    have e:V % 2^255=V-2^255:=by omega
    rw[e] at h3;exact Or.inr ⟨V-2^255,List.mem_range.2 (hm▸h3),by omega⟩
  have h5:=G.length_le_of_subset J;rw[List.length_append,BS,List.length_range] at h5;exact h5
theorem Y3n {q:Pr}(hq:OnC q)(a b:Nat):pm q a=p0→pm q b=p0→pm q (Nat.gcd a b)=p0:=by
  induction a,b using Nat.gcd.induction with
  |H0 b=>intro _ h;rw[Nat.gcd_zero_left];exact h
  |H1 a b ha ih=>
    intro h1 h2;rw[Nat.gcd_rec];refine ih ?_ h1;have e:pm q b=V9 (pm q (a*(b / a))) (pm q (b % a)):=by rw[←Q06 hq,Nat.div_add_mod]
    rw[e,Q07 hq,h1,Z5z,Q15] at h2;exact h2
theorem prm_2:Prm 2:=Q6p 2 (by decide+kernel)
theorem Y7s {q:Pr}{l n:Nat}(hl:Prm l)(hq:OnC q)(h8:pm q (8*l)=p0)(h2:¬pm q (4*l)=p0)(hL:¬pm q 8=p0)(hn:pm q n=p0):8*l∣n:=by
  have hg:=Y3n hq _ _ h8 hn;obtain⟨k,hk⟩:=Nat.gcd_dvd_left (8*l) n;have hd:=Nat.gcd_dvd_right (8*l) n;generalize Nat.gcd (8*l) n=g at hg hk hd
  by_cases D:2∣k
  · obtain⟨m,rfl⟩:=D
    have e:4*l=g*m:=by
      have:g*(2*m)=2*(g*m):=by rw[Nat.mul_left_comm]
      omega
    exact absurd (by rw[e,Q07 hq,hg,Z5z]) h2
  have hc:Nat.Coprime k 8:=((prm_2.cop D).symm.pow_right 3:Nat.Coprime k (2^3))
  have G:k∣l:=hc.dvd_of_dvd_mul_left ⟨g,by rw[hk,Nat.mul_comm]⟩;rcases hl.2 k G with h|h
  · rw[h,Nat.mul_one] at hk;rw[hk];exact hd
  subst h;have J:0<k:=by have:=hl.1;omega
  have e:g=8:=(Nat.eq_of_mul_eq_mul_right J hk).symm;rw[e] at hg;exact absurd hg hL

theorem K3h:Prm 409477:=(J2j (n:=409477) (g:=2) [2,2,3,34123] (J0i 186 (by decide+kernel)) (by decide+kernel)).prm
theorem K3i:Prm 14741173:=(J2j (n:=14741173) (g:=2) ([2,2,3,3]++[409477]) (J03 (J0i 3 (by decide+kernel)) (J04 K3h)) (by decide+kernel)).prm
theorem K3j:Prm 58964693:=(J2j (n:=58964693) (g:=2) ([2,2]++[14741173]) (J03 (J0i 3 (by decide+kernel)) (J04 K3i)) (by decide+kernel)).prm
theorem K3k:Prm 3044861653679985063343:=(J2j (n:=3044861653679985063343) (g:=5) [2,3,11,30703,82163,132667,137849] (J0i 373 (by decide+kernel)) (by decide+kernel)).prm
theorem K3l:Prm 198211423230930754013084525763697:=(J2j (n:=198211423230930754013084525763697) (g:=5) ([2,2,2,2,3,23]++([58964693]++[3044861653679985063343])) (J03 (J0i 6 (by decide+kernel)) (J03 (J04 K3j) (J04 K3k))) (by decide+kernel)).prm
theorem K3m:Prm 292386187:=(J2j (n:=292386187) (g:=2) [2,3,3,3,3,307,5879] (J0i 78 (by decide+kernel)) (by decide+kernel)).prm
theorem K3n:Prm 213441916511:=(J2j (n:=213441916511) (g:=13) ([2,5,73]++[292386187]) (J03 (J0i 10 (by decide+kernel)) (J04 K3m)) (by decide+kernel)).prm
theorem K3o:Prm 531581:=(J2j (n:=531581) (g:=2) [2,2,5,7,3797] (J0i 63 (by decide+kernel)) (by decide+kernel)).prm
theorem K3p:Prm 1224481:=(J2j (n:=1224481) (g:=13) [2,2,2,2,2,3,5,2551] (J0i 52 (by decide+kernel)) (by decide+kernel)).prm
theorem K3q:Prm 1257559732178653:=(J2j (n:=1257559732178653) (g:=2) ([2,2,3,7,23]++([531581]++[1224481])) (J03 (J0i 6 (by decide+kernel)) (J03 (J04 K3o) (J04 K3p))) (by decide+kernel)).prm
theorem K0u:Prm 4434155615661930479:=(J2j (n:=4434155615661930479) (g:=17) ([2,41,43]++[1257559732178653]) (J03 (J0i 8 (by decide+kernel)) (J04 K3q)) (by decide+kernel)).prm
theorem K0v:Prm 172054593956031949258510691:=(J2j (n:=172054593956031949258510691) (g:=2) ([2,5,1361,2851]++[4434155615661930479]) (J03 (J0i 55 (by decide+kernel)) (J04 K0u)) (by decide+kernel)).prm
theorem K0w:Prm 19757330305831588566944191468367130476339:=(J2j (n:=19757330305831588566944191468367130476339) (g:=2) ([2,269]++([213441916511]++[172054593956031949258510691])) (J03 (J0i 18 (by decide+kernel)) (J03 (J04 K3n) (J04 K0v))) (by decide+kernel)).prm
theorem K0x:Prm 276602624281642239937218680557139826668747:=(J2j (n:=276602624281642239937218680557139826668747) (g:=2) ([2,7]++[19757330305831588566944191468367130476339]) (J03 (J0i 4 (by decide+kernel)) (J04 K0w)) (by decide+kernel)).prm
theorem K0y:Prm 7237005577332262213973186563042994240857116359379907606001950938285454250989:=(J2j (n:=7237005577332262213973186563042994240857116359379907606001950938285454250989) (g:=2) ([2,2,3,11]++([198211423230930754013084525763697]++[276602624281642239937218680557139826668747])) (J03 (J0i 5 (by decide+kernel)) (J03 (J04 K3l) (J04 K0x))) (by decide+kernel)).prm
theorem prm_LL:Prm LL:=K0y
def qQx:Nat:=47490639360184182837601875270316946735278442122217188244898328344323804759522
theorem V5j:qQx<PP:=by decide
theorem Z0z:OnC (fp qQx,fp 3):=by unfold OnC;decide+kernel
theorem K3r:pm (fp qQx,fp 3) (8*LL)=p0:=(Q09 (x:=q0x) (y:=q0y) rfl V5j (by decide) Z0z (by decide) (by decide+kernel)).trans K10
theorem K3s:¬pm (fp qQx,fp 3) (4*LL)=p0:=Z6k (Q09 (x:=0) (y:=57896044618658097711785492504343953926634992332820282019728792003956564819948) rfl V5j (by decide) Z0z (by decide) (by decide+kernel)) (by decide+kernel)
theorem q_8:¬pm (fp qQx,fp 3) 8=p0:=Z6k (Q09 (x:=16081880097752553219916424747350142352236522627972514630050036450282732939404) (y:=9677746192703328013283531742046342896310160271887462984216952246948724820864) rfl V5j (by decide) Z0z (by decide) (by decide+kernel)) (by decide+kernel)
theorem grp {a:Pr}(h:OnC a):pm a (8*LL)=p0:=by
  obtain⟨L,hN,hL,D⟩:=Y7r;obtain⟨k,hk⟩:=Y7s prm_LL Z0z K3r K3s q_8 (Z0y hN hL Z0z);have hb:PP+PP<8*LL+8*LL:=by decide+kernel
  have h0:0<L.length:=List.length_pos_of_mem ((hL p0).2 Z0g);have e:=Z0y hN hL h;rw[hk] at e D h0;generalize 8*LL=M at*
  have G:k=1:=by
    match k,D,h0 with
    |0,_,h0=>exact absurd h0 (by simp)
    |1,_,_=>rfl
    |k+2,D,_=>
      have:M*(k+2)=M*k+(M+M):=by rw[Nat.mul_add];omega
      omega
  rw[G,Nat.mul_one] at e;exact e
theorem cand_LL {V c:Nat}{L:List UInt8}(h:candOk V L c=true):pm (candP V L c) LL=p0:=by
  unfold candP;rw[←Q07 (Q54 (candOk_iff.1 h).1)];exact grp (Q54 (candOk_iff.1 h).1)
end

section
open Sc (LL J0k)
attribute [local irreducible] hs
theorem Y3o (V:Nat):∃m,clN V=8*m∧0<m∧m<LL:=by
  have h0:J2 (clN V) 0=J0k (J2 V) 0:=Q0w _ (Q19 V) 32 0 (by decide);have h1:J2 (clN V) 31=J0k (J2 V) 31:=Q0w _ (Q19 V) 32 31 (by decide);have hl:=Z31 V;have b0:=J4x V 0;have b1:=J4x V 31;unfold J0k at h0 h1;rw[if_pos rfl] at h0;rw[if_neg (by decide),if_pos rfl] at h1;generalize J2 V 0=x at*;generalize J2 V 31=y at*;generalize clN V=n at*;have e0:((n % 256:Nat):Int)=x-x % 8:=by rw[←h0];unfold J2;rw[Nat.mul_zero,Nat.pow_zero,Nat.div_one]
  have e1:((n / 2^248 % 256:Nat):Int)=y % 64+64:=by rw[←h1];rfl
  have D:2^252<LL:=by decide+kernel
  refine⟨n / 8,by omega,by omega,by omega⟩
theorem V5k {n:Nat}(h:pm BP n=p0):LL∣n:=by
  have hg:=Y3n Q2n _ _ V08 h;rcases prm_LL.2 _ (Nat.gcd_dvd_left LL n) with e|e
  · rw[e,Z2s] at hg
    exact absurd hg (Z6k (x:=BX) (y:=BY) rfl (by decide+kernel))
  have:=Nat.gcd_dvd_right LL n
  rwa [e] at this
theorem key_kP (S:Nat):dOk (kP S)=true∧¬pm (dPt (kP S)) 8=p0:=by
  have d:=dec_enc (pm_on Q2n (kN S));refine⟨d.1,fun h=> ?_⟩;rw[show dPt (kP S)=pm BP (kN S) from d.2,←Q07 Q2n] at h;have h2:=V5k h;obtain⟨m,e,m0,ml⟩:=Y3o (lo (hs (lb 32 S)));rw[show kN S=8*m from e,show 8*m*8=64*m by omega] at h2;have h3:LL∣m:=Nat.Coprime.dvd_of_dvd_mul_left (by decide+kernel:Nat.Coprime LL 64) h2;exact absurd (Nat.le_of_dvd m0 h3) (Nat.not_le.2 ml)
end
end Go.Proofs.YtpljgkofbfeelaaGreatDoor.S8

namespace Go.Proofs.YtpljgkofbfeelaaGreatDoor
section
set_option maxHeartbeats 3000000
attribute [local irreducible] wpList Z9 wpX
open S8 (Kn GA kP)
theorem V1k {A B:Nat}(h:A≠B)(hA:A<2^256)(hB:B<2^256)(w:World):(Op.equalIn 10000 23 (.agg (J0 .u8 32 (J2 A))) (.agg (J0 .u8 32 (J2 B)))).run Tryz.prog w=.ok false w:=by
 rw[J1q (P:=Tryz.prog) w 9998 23 5 32 .u8 (J0 .u8 32 (J2 A)) (J0 .u8 32 (J2 B)) (J2 A) (J2 B) Tryz.underlying23 Tryz.underlying5 (by kernel_rfl) (fun i hi=>Z8 _ _ _ _ hi) (fun i hi=>Z8 _ _ _ _ hi)];rw[Bool.eq_false_iff.2 fun he=>h (J8v hA hB ((J46 _ _ _).1 he))]
def erA (vk:Nat)(l:List UInt8):Nat:=if 1≤l.length∧l.length≤32 then erN vk l else 1
def DD.lkA (D:DD)(l:List UInt8)(e:Nat):Fnd:=if 1≤l.length∧l.length≤32 then D.lkE l e else V6s
theorem V1l {D:DD}{y:LD}{l:List UInt8}{v:Value}{n:Int}{e:Nat}(hn:n=(e:Int))(he:e<D.puts.length)(w:World)(hX:GX w)(hD:DK D y w)(hL:LOk D y)(hK:DOk D)(hs:Sl w v l):
  Calls Tryz.prog 7 #[.pointer (some ⟨y.p,0,none⟩),v,.int .i64 n] w fun en w' =>Q9a (D.lkA l e) (erA D.vk l) w w' en:=by
 unfold DD.lkA erA
 by_cases hl:1≤l.length∧l.length≤32
 ·
  rw[if_pos hl,if_pos hl];exact Z9c (.inl hn) he w hX hD hL hK hs hl
 rw[if_neg hl,if_neg hl];refine(V1m w hD hL hK hs hl).mono fun en w' h_=> ?_;obtain⟨h1,h2⟩:=h_;unfold Q9a;rw[show((1:Nat):Int)=1 from rfl];refine⟨(.slice none 0 0,.slice none 0 0),h1,?_⟩;have hS:=(SH.nil [] w).next (J1t h2);have hS:=hS.rnil 23 32 rfl;exact hS.onil rfl
section
attribute [local irreducible] ixN pfN erN
theorem Z9j {D:DD}{l:List UInt8}{e:Nat}(h:erN D.vk l=0):(D.lkE l e).ix=ixN D.vk l∧(D.lkE l e).pf=pfN D.vk l:=by unfold DD.lkE;rw[if_pos h];exact⟨rfl,rfl⟩
end
theorem Z3v (D:DD)(l:List UInt8)(e:Nat):(D.lkE l e).ix<2^256:=by
 unfold DD.lkE;split
 ·
  exact Q42 _ _
 exact Nat.two_pow_pos _
theorem Y50 (D:DD)(l:List UInt8)(e:Nat):(D.lkA l e).ix<2^256:=by
 unfold DD.lkA;split
 ·
  exact Z3v _ _ _
 exact Nat.two_pow_pos _
theorem V1n {D:DD}{l:List UInt8}{e:Nat}(h:erA D.vk l=0):(D.lkA l e).ix=ixN D.vk l∧erN D.vk l=0∧(1≤l.length∧l.length≤32):=by
 unfold erA at h;unfold DD.lkA
 split at h
 ·
  rename_i hl;rw[if_pos hl];exact⟨(Z9j h).1,h,hl⟩
 cases h
theorem V6u (k:Nat)(l:List UInt8):erN k l=0∨erN k l=15:=by
 unfold erN;cases h:S8.vpt (S8.kP k) l with
 |none=>rw[S8.vprv_none h];exact Or.inr rfl
 |some c=>rw[S8.vprv_some h];exact Or.inl rfl
theorem Z1s {vk:Nat}{l:List UInt8}{v:Value}(h0:erN vk l=0)(hL:l.length≤1099511627776)(w:World)(hX:GX w)(hs:Sl w v l):
  Calls Tryz.prog 21 #[.agg (J0 .u8 32 (J2 (S8.kP vk))),v,.agg (J0 .u8 80 (J2 (pfN vk l)))] w fun e w' =>V5 (.tuple #[.agg (J0 .u8 64 (J2 (S8.vsm (pfN vk l)).1)),.int .i64 0]) w w' e:=by
 unfold erN at h0;cases hv:S8.vpt (S8.kP vk) l with
 |none=>rw[S8.vprv_none hv] at h0;cases h0
 |some c=>
  have G:=(S8.vpt_some hv).2.1;have D:=S8.candP_on G;obtain⟨e1,-,e3⟩:=S8.vPr_parts (S:=vk) D;have ep:pfN vk l=S8.vPr vk (S8.candP (S8.kP vk) l c):=by unfold pfN;rw[S8.vprv_some hv]
  have hB:S8.B80 (pfN vk l):=S8.vprv_80 vk l;rw[ep] at hB⊢;have k1:S8.dOk (S8.pG (S8.vPr vk (S8.candP (S8.kP vk) l c)))=true:=by rw[e1];exact(S8.dec_enc (S8.pm_on D _)).1
  have k2:S8.pN (S8.vPr vk (S8.candP (S8.kP vk) l c))<S8.Sc.LL:=by rw[e3];exact S8.vN_lt _ _
  rw[show S8.vsm (S8.vPr vk (S8.candP (S8.kP vk) l c))=(S8.vSum (S8.vPr vk (S8.candP (S8.kP vk) l c)),0) by unfold S8.vsm;rw[if_pos k1]];exact S8.check_e (kn:=kn0) trivial trivial trivial (S8.kP_lt vk) hB v l hL (S8.key_kP vk).1 (S8.key_kP vk).2 k1 k2 hv rfl ⟨fun _=>⟨rfl,rfl⟩,fun h=>absurd (S8.prove_back D (S8.cand_LL G)) h⟩ w hX.2 hs
def LabOf (qs:List AE)(D:DD):Prop:=∀l∈D.labs,∃j a,j<12∧qs[j]?=some a∧l=alb a.n a.raw
theorem LabOf.zero {qs:List AE}{J:List UInt8}{vk bk L P E:Nat}:LabOf qs (J56 J vk bk L P E):=fun l h=>by cases h
theorem LabOf.play {qs:List AE}{D:DD}{a:AE}{i:Nat}(h:LabOf qs D)(ha:qs[i]?=some a)(hi:i<12):LabOf qs (D.play a.wt a.n a.raw a.val):=fun l hl=>by
 rcases Z74 hl with h1|h1
 ·
  exact h l h1
 ·
  exact⟨i,a,hi,ha,h1⟩
def NoIx (qs:List AE)(vk:Nat)(l:List UInt8)(i:Nat):Prop:=∀j a,j<i→qs[j]?=some a→¬(erA vk (alb a.n a.raw)=0∧alb a.n a.raw≠l∧ixN vk (alb a.n a.raw)=ixN vk l)
theorem NoIx.zero {qs:List AE}{vk:Nat}{l:List UInt8}:NoIx qs vk l 0:=fun j a h=>by cases h
theorem NoIx.step {qs:List AE}{vk:Nat}{l:List UInt8}{i:Nat}{a:AE}(h:NoIx qs vk l i)(ha:qs[i]?=some a)(hn:¬(erA vk (alb a.n a.raw)=0∧alb a.n a.raw≠l∧ixN vk (alb a.n a.raw)=ixN vk l)):NoIx qs vk l (i+1):=fun j b hj hb=>by
 rcases Nat.lt_or_ge j i with h1|h1
 ·
  exact h j b h1 hb
 ·
  have e:j=i:=by omega
  subst e;rw[ha] at hb;obtain rfl:=Option.some.inj hb;exact hn
theorem NoIx.cl {qs:List AE}{D:DD}{l:List UInt8}{i:Nat}(hK:DOk D)(hM:LabOf qs D)(h:NoIx qs D.vk l i)(hi:¬(i<qs.length∧i<12)):D.NoCl l:=fun m hm he=>by
 have hl:=Z9i hm;obtain⟨j,a,h1,h2,h3⟩:=hM m.l hl;have hj:=(List.getElem?_eq_some_iff.1 h2).1;have hb:=hK.lab m.l hl;have h4:erA D.vk (alb a.n a.raw)=0:=by rw[←h3];unfold erA;rw[if_pos ⟨hb.1,hb.2.1⟩];exact hb.2.2
 by_cases G:m.l=l
 ·
  exact G
 ·
  exact absurd ⟨h4,by rw[←h3];exact G,by rw[←h3];exact he⟩ (h j a (by omega) h2)
attribute [local irreducible] eI be8 hs4 lb J33 J25 K3 xt hm opn bnd

theorem V1o {q:Prop}{o i R:Nat}{n:Int}{v:Value}{x:List UInt8}(hR:R=bnd o i n x)(w:World)(hG:GT q w)(hx:Sl w v x)(hl:x.length≤100000000):
  Calls Tryz.prog 24 #[.agg (J0 .u8 32 (J2 R)),.agg (J0 .u8 32 (J2 o)),.agg (J0 .u8 32 (J2 i)),.int .i64 n,v] w fun e w' =>V5 (.int .i64 0) w w' e:=by
 have hS:=SH.nil [] w
 go_enter Tryz.func24,Tryz.ntmps24
 go_upto_region 0 with fail;refine RL hS ?_;clear hS;refine MN (z:=J0 .u8 32 (J2 R)) (t:=23) ?_;intro G;refine MN (z:=J0 .u8 32 (J2 o)) (t:=23) ?_;intro J;refine MN (z:=J0 .u8 32 (J2 i)) (t:=23) ?_;intro D;refine W0 ?_;refine MZ fun W hS=> ?_;go_upto_region 1 with fail;refine RTh (.q 0 (.q 1 (.q 2 (.q 3 (.q 5 (.e 4 (.q 6 .z))))))) hS ?_;clear hS;refine TL 1 ?_;refine TL 0 ?_;refine TV ?_;refine TV ?_;refine TL 2 ?_;refine TE (fun _ h=>h) ?_;refine MC (v:=.agg (J0 .u8 32 (J2 R))) (fun W hS=>Q3a hR W (X5 hG hS.ext) (K4 hx hS.ext) hl) ?_;refine TNh (fun W hS=>hS) ?_;refine TW ?_ (v:=.bool false) (hv:=fun _=>J1a ((fun w=>Q9c rfl w) _) (by kernel_rfl) rfl rfl rfl);refine TZ (fun _ h=>h) fun W hS=> ?_;go_wp2;exact bodyPost_ret (v:=.int .i64 0) (by simp only[results,Tryz.results24];go_simp) rfl ⟨rfl,hS.ext⟩
end

section
attribute [local irreducible] wpList Z9 wpX
open S8 (Kn GA kP)
attribute [local irreducible] eI be8 hs4 lb J33 J25 K3 xt hm pbs DD.tree DD.link rs S8.kP S8.kN S8.kD ofT ebs lk0 sE sL sN opn bnd ahd bsd ixN pfN erN J0l DD.links DD.trees DD.play DD.putD DD.sealD fnd DD.lk DD.lkE Q61

end

section
open S8 (Kn GA kP)
theorem Z9a {J:List UInt8}{L P E:Int}(h:(1≤J.length∧J.length≤16)∧(1≤L∧L≤64)∧(1≤P∧P≤16)∧(1≤E∧E≤32)):∃L' P' E' :Nat,NewOk J L' P' E' ∧L=(L' :Int)∧P=(P' :Int)∧E=(E' :Int):=by
 obtain⟨⟨i1,i2⟩,⟨l1,l2⟩,⟨p1,p2⟩,⟨e1,e2⟩⟩:=h;exact⟨L.toNat,P.toNat,E.toNat,⟨i1,i2,by omega,by omega,by omega,by omega,by omega,by omega⟩,by omega,by omega,by omega⟩
end
end Go.Proofs.YtpljgkofbfeelaaGreatDoor

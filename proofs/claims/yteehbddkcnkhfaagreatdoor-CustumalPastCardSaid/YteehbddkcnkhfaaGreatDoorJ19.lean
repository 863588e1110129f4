/- Contracts and plain laws for custumalPast_holds. Conditions: the tables hold their numbers. -/
import Derived.Test.YteehbddkcnkhfaaGreatDoorJ18
open Go.RowKit
set_option maxRecDepth 100000
set_option linter.unusedSimpArgs false
set_option linter.unusedVariables false
namespace Go.Proofs.YteehbddkcnkhfaaGreatDoor
abbrev J4u:=List UInt8×List UInt8
structure Md where
  l:List UInt8
  x:List UInt8
  ep:Nat
  ver:Nat
def vct (ms:List Md)(l:List UInt8):Nat:=(ms.filter fun m=>decide (m.l=l)).length
def mdp (ms:List Md)(e:Nat)(ps:List J4u):List Md:=ps.foldl (fun ms p=>ms++[⟨p.1,p.2,e,vct ms p.1+1⟩]) ms
def mdS:List Md→Nat→List (List J4u)→List Md
  |ms,_,[]=>ms
  |ms,e,ps::r=>mdS (mdp ms e ps) (e+1) r
theorem Z7p (ms:List Md)(e:Nat)(ps:List J4u)(p:J4u):mdp ms e (ps++[p])=mdp ms e ps++[⟨p.1,p.2,e,vct (mdp ms e ps) p.1+1⟩]:=by
  unfold mdp;rw[List.foldl_append];rfl
theorem Q7w:∀(r:List (List J4u)) (ms:List Md) (e:Nat) (ps:List J4u),mdS ms e (r++[ps])=mdp (mdS ms e r) (e+r.length) ps
  |[],_,_,_=>rfl
  |q::r,ms,e,ps=>by
    show mdS (mdp ms e q) (e+1) (r++[ps])=mdp (mdS (mdp ms e q) (e+1) r) _ ps;rw[Q7w r,show e+1+r.length=e+(q::r).length by rw[List.length_cons];omega]
def nub (acc:List (List UInt8)):List (List UInt8)→List (List UInt8)
  |[]=>acc
  |l::r=>nub (if l∈acc then acc else acc++[l]) r
theorem Q7x:∀(r:List (List UInt8)) (acc:List (List UInt8)) (l:List UInt8),nub acc (r++[l])=if l∈nub acc r then nub acc r else nub acc r++[l]
  |[],_,_=>rfl
  |x::r,acc,l=>by
    show nub (if x∈acc then acc else acc++[x]) (r++[l])=_;rw[Q7x r];rfl
theorem Z27:∀{r acc:List (List UInt8)} {l:List UInt8},l∈nub acc r↔l∈acc∨l∈r
  |[],acc,l=>by simp[nub]
  |x::r,acc,l=>by
    show l∈nub (if x∈acc then acc else acc++[x]) r↔_;rw[Z27,List.mem_cons]
    split
    · exact⟨fun h=>h.elim .inl fun h=> .inr (.inr h),fun h=>h.elim .inl fun h=>h.elim (fun h=> .inl (by rw[h];assumption)) .inr⟩
    · rw[List.mem_append,List.mem_singleton];exact or_assoc
theorem Q4s:∀{r acc:List (List UInt8)},acc.Nodup→(nub acc r).Nodup
  |[],_,h=>h
  |x::r,acc,h=>by
    refine Q4s (r:=r) ?_
    split
    · exact h
    · rename_i hx
      refine List.nodup_append.2 ⟨h,List.nodup_cons.2 ⟨by simp,.nil⟩,fun a ha b hb=> ?_⟩;rw[List.mem_singleton.1 hb];exact fun e=>hx (e▸ha)
structure DD where
  id:List UInt8
  vk:Nat
  bk:Nat
  L:Nat
  P:Nat
  E:Nat
  puts:List (List J4u)
  waits:List J4u
namespace DD
def made (D:DD):List Md:=mdS [] 0 D.puts
def labs (D:DD):List (List UInt8):=nub [] ((D.puts.flatten++D.waits).map (·.1))
def put (D:DD)(l x:List UInt8):DD:={D with waits:=D.waits++[(l,x)]}
def nxt (D:DD):DD:={D with puts:=D.puts++[D.waits],waits:=[]}
theorem made_put (D:DD)(l x:List UInt8):(D.put l x).made=D.made:=rfl
theorem made_nxt (D:DD):D.nxt.made=mdp D.made D.puts.length D.waits:=by
  unfold made nxt;rw[Q7w,Nat.zero_add]
theorem labs_put (D:DD)(l x:List UInt8):(D.put l x).labs=if l∈D.labs then D.labs else D.labs++[l]:=by
  unfold labs put;show nub [] ((D.puts.flatten++(D.waits++[(l,x)])).map _)=_;rw[←List.append_assoc,List.map_append,List.map_cons,List.map_nil,Q7x]
theorem labs_nxt (D:DD):D.nxt.labs=D.labs:=by
  unfold labs nxt;show nub [] (((D.puts++[D.waits]).flatten++[]).map _)=_;rw[List.append_nil,List.flatten_append,List.flatten_cons,List.flatten_nil,List.append_nil]
theorem labs_nodup (D:DD):D.labs.Nodup:=Q4s .nil
theorem mem_labs {D:DD}{l:List UInt8}:l∈D.labs↔∃p∈D.puts.flatten++D.waits,p.1=l:=by
  unfold labs;rw[Z27,List.mem_map];simp
end DD
theorem Z28 {e:Nat}:∀{ps:List J4u} {ms:List Md} {m:Md},m∈mdp ms e ps→m∈ms∨m.ep=e∧(m.l,m.x)∈ps
  |[],ms,m,h=> .inl h
  |p::ps,ms,m,h=>by
    rcases Z28 (ps:=ps) (ms:=ms++[⟨p.1,p.2,e,vct ms p.1+1⟩]) h with h|⟨h1,h2⟩
    · rcases List.mem_append.1 h with h|h
      · exact .inl h
      · rw[List.mem_singleton.1 h];exact .inr ⟨rfl,by simp⟩
    · exact .inr ⟨h1,by simp[h2]⟩
theorem Z29:∀{r:List (List J4u)} {ms:List Md} {e:Nat} {m:Md},m∈mdS ms e r→m∈ms∨e≤m.ep∧m.ep<e+r.length∧(m.l,m.x)∈r.flatten
  |[],_,_,_,h=> .inl h
  |q::r,ms,e,m,h=>by
    rcases Z29 (r:=r) (ms:=mdp ms e q) h with h|⟨h1,h2,h3⟩
    · rcases Z28 h with h|⟨h1,h2⟩
      · exact .inl h
      · exact .inr ⟨by omega,by rw[List.length_cons];omega,by rw[List.flatten_cons];exact List.mem_append.2 (.inl h2)⟩
    · exact .inr ⟨by omega,by rw[List.length_cons];omega,by rw[List.flatten_cons];exact List.mem_append.2 (.inr h3)⟩
theorem Q5p {e:Nat}:∀{ps:List J4u} {ms:List Md},∃t,mdp ms e ps=ms++t∧(∀m∈t,m.ep=e)∧t.length=ps.length
  |[],ms=>⟨[],by simp[mdp],by simp,rfl⟩
  |p::ps,ms=>by
    obtain⟨t,h1,h2,h3⟩:=Q5p (e:=e) (ps:=ps) (ms:=ms++[⟨p.1,p.2,e,vct ms p.1+1⟩]);refine⟨_::t,by show mdp (ms++_) e ps=_;rw[h1,List.append_assoc];rfl,fun m hm=> ?_,by rw[List.length_cons,List.length_cons,h3]⟩;rcases List.mem_cons.1 hm with rfl|hm
    · rfl
    · exact h2 m hm
namespace DD
theorem made_mem {D:DD}{m:Md}(h:m∈D.made):m.ep<D.puts.length∧(m.l,m.x)∈D.puts.flatten:=by
  rcases Z29 h with h|⟨_,h1,h2⟩
  · cases h
  exact⟨by omega,h2⟩
def upto (D:DD)(e:Nat):List Md:=D.made.filter fun m=>decide (m.ep≤e)
theorem upto_nxt_lt {D:DD}{e:Nat}(h:e<D.puts.length):D.nxt.upto e=D.upto e:=by
  unfold upto;rw[made_nxt];obtain⟨t,h1,h2,_⟩:=Q5p (e:=D.puts.length) (ps:=D.waits) (ms:=D.made);rw[h1,List.filter_append];have e2:t.filter (fun m=>decide (m.ep≤e))=[]:=List.filter_eq_nil_iff.2 fun m hm=>by rw[h2 m hm];simp;omega
  rw[e2,List.append_nil]
theorem upto_all {D:DD}{e:Nat}(h:D.puts.length≤e+1):D.upto e=D.made:=by
  unfold upto;exact List.filter_eq_self.2 fun m hm=>by have:=(made_mem hm).1;simp;omega
end DD
end Go.Proofs.YteehbddkcnkhfaaGreatDoor

namespace Go.Proofs.YteehbddkcnkhfaaGreatDoor.S8
section
open Sc (LL J0p)
attribute [local irreducible] hs
def J5x (V:Nat)(L:List UInt8)(c:Nat):Nat:=lo (hs ([3,1]++lb 32 V++L++[u8 c,0]))
def J4f (V:Nat)(L:List UInt8)(c:Nat):Pr:=pm (dPt (J5x V L c)) 8
def J24 (V:Nat)(L:List UInt8)(c:Nat):Bool:=dOk (J5x V L c) && !decide (J4f V L c=p0)
def Z5s (V:Nat)(L:List UInt8):Nat→Nat→Option Nat
  |0,_=>none
  |f+1,c=>if J24 V L c=true then some c else Z5s V L f (c+1)
def vpt (V:Nat)(L:List UInt8):Option Nat:=Z5s V L 256 0
theorem Q07 (V:Nat)(L:List UInt8)(c:Nat):J5x V L c<2^256:=lo_lt _
theorem Q5d {V:Nat}{L:List UInt8}{r:Nat}:∀f c,Z5s V L f c=some r→r<c+f∧J24 V L r=true∧∀i,c≤i→i<r→J24 V L i=false
  |0,c,h=>by cases h
  |f+1,c,h=>by
    unfold Z5s at h
    by_cases e:J24 V L c=true
    · rw[if_pos e] at h
      obtain rfl:=Option.some.inj h;exact⟨by omega,e,fun i h1 h2=>by omega⟩
    · rw[if_neg e] at h
      obtain⟨h1,h2,h3⟩:=Q5d f (c+1) h;refine⟨by omega,h2,fun i h4 h5=> ?_⟩
      by_cases e2:i=c
      · subst e2;simpa using e
      · exact h3 i (by omega) h5
theorem Q5e {V:Nat}{L:List UInt8}:∀f c,Z5s V L f c=none→∀i,c≤i→i<c+f→J24 V L i=false
  |0,c,_,i,h1,h2=>by omega
  |f+1,c,h,i,h1,h2=>by
    unfold Z5s at h
    by_cases e:J24 V L c=true
    · rw[if_pos e] at h;cases h
    · rw[if_neg e] at h
      by_cases e2:i=c
      · subst e2;simpa using e
      · exact Q5e f (c+1) h i (by omega) (by omega)
theorem vpt_some {V r:Nat}{L:List UInt8}(h:vpt V L=some r):r<256∧J24 V L r=true∧∀i,i<r→J24 V L i=false:=by
  obtain⟨h1,h2,h3⟩:=Q5d 256 0 h;exact⟨by omega,h2,fun i hi=>h3 i (Nat.zero_le _) hi⟩
theorem Y14 {V:Nat}{L:List UInt8}(h:vpt V L=none):∀i,i<256→J24 V L i=false:=fun i hi=>Q5e 256 0 h i (Nat.zero_le _) (by omega)
theorem candOk_iff {V c:Nat}{L:List UInt8}:J24 V L c=true↔dOk (J5x V L c)=true∧¬J4f V L c=p0:=by
  unfold J24;simp
theorem Q8v {V c:Nat}{L:List UInt8}(h:J24 V L c=false)(hd:dOk (J5x V L c)=true):J4f V L c=p0:=by
  unfold J24 at h;rw[hd] at h;simpa using h
def chH (V:Nat)(a b c d:Pr):Nat:=hs ([3,2]++lb 32 V++lb 32 (enc a)++lb 32 (enc b)++lb 32 (enc c)++lb 32 (enc d)++[0])
def J3e:Nat:=340282366920938463463374607431768211456
def ch (V:Nat)(a b c d:Pr):Nat:=chH V a b c d % J3e
def pG (P:Nat):Nat:=P % 2^256
def pC (P:Nat):Nat:=P / 2^256 % J3e
def pN (P:Nat):Nat:=P / 2^256 / J3e
def vK' (S:Nat)(h:Pr):Nat:=hs (lb 32 (kD S)++lb 32 (enc h)) % LL
def vC (S:Nat)(h:Pr):Nat:=ch (kP S) h (pm h (kN S)) (pm BP (vK' S h)) (pm h (vK' S h))
def vN (S:Nat)(h:Pr):Nat:=(vK' S h+vC S h % LL*(kN S % LL) % LL) % LL
def vPr (S:Nat)(h:Pr):Nat:=enc (pm h (kN S))+2^256*(vC S h+J3e*vN S h)
def Y5s (P:Nat):Nat:=hs ([3,3]++lb 32 (enc (pm (dPt (pG P)) 8))++[0])
end

section
set_option maxHeartbeats 1000000
attribute [local irreducible] wpList Y5 wpX
variable {kn : Kn}
open Sc (LL J0p)
attribute [local irreducible] hs
structure PQ where
 X:Nat
 Y:Nat
 Z:Nat
 T:Nat
 a:Pr
abbrev pq4 (q:PQ):Array Value:=p4 q.X q.Y q.Z q.T
theorem p4z {X Y Z T:Nat}:(p4 X Y Z T).size=16:=rfl
def pqC (q:PQ):List Value:=(pq4 q).toList
def bvF (bs:List (Value×List UInt8)):List Nat:=bs.flatMap fun b=>(sb b.1 b.2).toList
def bvK (bs:List (Value×List UInt8))(W:World):Prop:=∀b∈bs,Sl W b.1 b.2
abbrev bvT (bs:List (Value×List UInt8)):As:=.p (bvF bs) (bvK bs)
abbrev bv1 (b:Value×List UInt8):List Value:=[b.1]
theorem Q5f {bs:List (Value×List UInt8)}{w:World}(h:bvK bs w):(bvT bs).holds w:=by
 refine⟨h,fun k hk=> ?_,fun W' _ e b hb=>J8d (h b hb) fun k hk=>e k (List.mem_flatMap.2 ⟨b,hb,by rw[hk];simp⟩)⟩;obtain⟨b,hb,h1⟩:=List.mem_flatMap.1 hk;exact Sl.lt (h b hb) k (As.mem_toList h1)
theorem Y1d {W:World}{p V:Nat}(h:Blk W p (J1 .u8 32 (J4 V)) 23):Sl W (.slice (some ⟨p,0,none⟩) 32 32) (lb 32 V):=V1 (V:=V) (n:=32) (off:=0) (c:=32) h ap0 (by decide) (by decide)
theorem Y1e {p n c k:Nat}{l:List UInt8}(h:k∈(sb (.slice (some ⟨p,0,none⟩) n c) l).toList):k=p:=by
 unfold sb at h
 split at h
 ·
  cases h
 simpa[Value.ownBlock,eq_comm] using h
theorem Y1f {F:List Nat}{w W:World}{e p V:Nat}{u:Value}{l:List UInt8}(h:SH F w W [.b e #[u,.slice (some ⟨p,0,none⟩) 32 32] 22,.o u l,.b p (J1 .u8 32 (J4 V)) 23]):
  SH F w W [.r 22 1 (.slice (some ⟨e,0,none⟩) 2 2) ([(u,l),(.slice (some ⟨p,0,none⟩) 32 32,lb 32 V)].map bv1),bvT [(u,l),(.slice (some ⟨p,0,none⟩) 32 32,lb 32 V)]]:=by
 have h1:=h.b2r (k:=1) (es:=[(u,l),(.slice (some ⟨p,0,none⟩) 32 32,lb 32 V)].map bv1) (n:=2) (by rfl) (by intro e he;obtain⟨b,_,rfl⟩:=List.mem_map.1 he;rfl) rfl (by decide);have ho:=(h1.own (i:=1) rfl).sl;have hb:=Y1d (h1.blk (i:=2) rfl);have h3:=SH.foldF (N:=[.o u l,.b p (J1 .u8 32 (J4 V)) 23]) (R:=[.r 22 1 (.slice (some ⟨e,0,none⟩) 2 2) ([(u,l),(.slice (some ⟨p,0,none⟩) 32 32,lb 32 V)].map bv1)]) (h1.pick [1,2,0]) (Q5f (bs:=[(u,l),(.slice (some ⟨p,0,none⟩) 32 32,lb 32 V)]) fun b D=> ?_) fun k hk=> ?_
 ·
  exact h3.pick [1,0]
 ·
  rcases List.mem_cons.1 D with rfl|D
  ·
   exact ho
  rw[List.mem_singleton.1 D];exact hb
 obtain⟨b,D,h4⟩:=List.mem_flatMap.1 hk;rcases List.mem_cons.1 D with rfl|D
 ·
  exact⟨.o u l,by simp,fun T K e=>(by cases e),by rw[show(As.o u l).foot=u.ownBlock.toList from rfl,J3r (As.mem_toList h4)];simp⟩
 rw[List.mem_singleton.1 D] at h4;exact⟨.b p (J1 .u8 32 (J4 V)) 23,by simp,fun T K e=>(by cases e),by rw[Y1e h4];simp[As.foot]⟩
theorem Y5y {F:List Nat}{w W:World}{H:List As}{p U:Nat}{bs:List (Value×List UInt8)}(h:SH F w W (.b p (J1 .u8 32 (J4 U)) 23::bvT bs::H)):SH F w W (bvT (bs++[(.slice (some ⟨p,0,none⟩) 32 32,lb 32 U)])::H):=by
 have hb:=Y1d (h.blk (i:=0) rfl);have h3:bvK bs W:=(h.at_ (i:=1) rfl).1;refine SH.foldF (N:=[.b p (J1 .u8 32 (J4 U)) 23,bvT bs]) h (Q5f fun b D=> ?_) fun k hk=> ?_
 ·
  rcases List.mem_append.1 D with D|D
  ·
   exact h3 b D
  rw[List.mem_singleton.1 D];exact hb
 obtain⟨b,D,h4⟩:=List.mem_flatMap.1 hk;rcases List.mem_append.1 D with D|D
 ·
  exact⟨bvT bs,by simp,fun T K e=>(by cases e),List.mem_flatMap.2 ⟨b,D,h4⟩⟩
 rw[List.mem_singleton.1 D] at h4;exact⟨.b p (J1 .u8 32 (J4 U)) 23,by simp,fun T K e=>(by cases e),by rw[Y1e h4];simp[As.foot]⟩
def mkP (V:Nat)(qs:List PQ):List (List UInt8):=[3,2]::lb 32 V::qs.map fun q=>lb 32 (enc q.a)
theorem Y1g {V:Nat}{qs:List PQ}{i:Nat}{q:PQ}(h:qs[i]?=some q):mkP V (qs.take i)++[lb 32 (enc q.a)]=mkP V (qs.take (i+1)):=by
 unfold mkP;rw[List.take_add_one,h,List.map_append];rfl
theorem Q8w {W:World}{v u:Value}{bs:List (Value×List UInt8)}(hr:Row 22 1 W v (bs.map bv1++[[u]]))(hb:bvK bs W){l:List UInt8}(hu:Sl W u l):
  ∃A c,v=.slice A (bs.map (·.2)++[l]).length c∧∀(i:Nat)(x:List UInt8),(bs.map (·.2)++[l])[i]?=some x→∃ad y,A=some ad∧W.cell? (ad.add i)=some y∧Sl W y x:=by
 have e:bs.map bv1++[[u]]=(bs++[(u,l)]).map bv1:=by rw[List.map_append];rfl
 have e2:bs.map (·.2)++[l]=(bs++[(u,l)]).map (·.2):=by rw[List.map_append];rfl
 have hk:bvK (bs++[(u,l)]) W:=fun b D=>(List.mem_append.1 D).elim (hb b) fun h=>by rw[List.mem_singleton.1 h];exact hu
 rw[e] at hr;rw[e2];obtain⟨A,c,hv,h1,h0,h2⟩:=hr.rr;rw[List.length_map] at hv;refine⟨A,c,by rw[List.length_map];exact hv,fun i x hx=> ?_⟩;rw[List.getElem?_map] at hx;cases hq:(bs++[(u,l)])[i]? with
 |none=>rw[hq] at hx;cases hx
 |some b=>
  rw[hq] at hx;obtain rfl:=Option.some.inj hx;obtain⟨g,o,rfl,hc⟩:=h2 i (bv1 b) (by rw[List.getElem?_map,hq];rfl);exact⟨_,b.1,rfl,by rw[Addr.add_mid];have h3:=hc 0 b.1 rfl;rw[Nat.mul_one,Nat.add_zero] at h3;exact h3,hk b (List.mem_of_getElem? hq)⟩
theorem V7h {W:World}{A:Option Addr}{n c i g o:Nat}{qs:List PQ}{y:PQ}(h:RR 16 W (.slice A n c) (qs.map pqC))(yh:qs[i]?=some y)(hA:A=some ⟨g,o,none⟩):∀(j:Nat) (v:Value),(pq4 y)[j]?=some v→W.cell? ⟨g,o+i*16+j,none⟩=some v:=fun j v hv=>
 RR.cellat h (by rw[List.getElem?_map,yh];rfl) hA j v (by unfold pqC;rw[Array.getElem?_toList];exact hv)

theorem V31 (qs:List PQ):((qs.map fun q=>lb 32 (enc q.a)).flatten).length=32*qs.length:=by
 induction qs with
 |nil=>rfl
 |cons q r ih=>rw[List.map_cons,List.flatten_cons,List.length_append,J8,ih,List.length_cons];omega
theorem V2n {V X:Nat}{qs:List PQ}{v:Value}(hq:∀q∈qs,RN q.X q.Y q.Z q.T q.a)(hn:qs.length≤1000)(hX:RowKit.Hid (X=hs ([3,2]++lb 32 V++(qs.map fun q=>lb 32 (enc q.a)).flatten++[0])))(w:World)(hG:GA kn w)(hr:RR 16 w v (qs.map pqC)):
  Calls Tryz.prog 73 #[.agg (J1 .u8 32 (J4 V)),v] w fun e w' => ∃p,e=.returned (.slice (some ⟨p,0,none⟩) 16 64)∧SH [] w w' [.b p (J1 .u8 64 (J4 X)) 89]:=by
 obtain⟨Aq,cq,rfl,θ,ζ⟩:=RR.opf hr;have hS:=SH.nil [] w
 go_enter Tryz.func73,Tryz.ntmps73
 go_upto_region 0 with fail;refine RL hS ?_;clear hS;refine MN (z:=J1 .u8 32 (J4 V)) (t:=23) ?_;intro K1;refine MV ?_;refine MZ fun W hS=> ?_;go_upto_region 1 with fail;refine RL hS ?_;clear hS;refine MO (m:=[3,2]) (n:=2) (z:= #[.int .u8 3,.int .u8 2]) ?_;intro α;refine MW ?_ (v:=.slice (some ⟨K1,0,none⟩) 32 32);refine MB (z:= #[α,.slice (some ⟨K1,0,none⟩) 32 32]) (t:=22) (n:=2) (c:=2) ?_ (hr:=fun W hS=>X7 [α,.slice (some ⟨K1,0,none⟩) 32 32] rfl rfl (vsc (Q1 (hS.osl (i:=0) rfl)).1 (vsc (Q1 (V1 (V:=V) (n:=32) (off:=0) (c:=32) (hS.blk (i:=1) rfl) ap0 (by decide) (by decide))).1 vs0)) Tryz.underlying168 (by kernel_rfl) (by kernel_rfl) rfl (by decide) (by decide));intro ρ;refine MV ?_;refine MZ fun W hS=> ?_;go_upto_region 2 with fail;refine RL hS ?_;clear hS;refine MV ?_;refine MV ?_;refine W0 ?_;refine MZ fun W hS=> ?_;have hS:=hS.pick [0,1,2];have hS:=Y1f hS
 go_wp2_with fail
 go_loopw [5,15] (fun rr ii wr=> ∃(i:Nat)(bs:List (Value×List UInt8)) (rv:Value),(i≤qs.length)∧(RowKit.Hid (bs.map (·.2)=mkP V (qs.take i)))∧(rv=rr)∧(ii=.int .i64 (i:Int))∧SH [] w wr [.r 22 1 rv (List.map bv1 bs),bvT bs])
  (fun rr ii _=>qs.length-(intOf ii).toNat)
 case atStart=>exact⟨0,_,_,Nat.zero_le _,Lib.hid rfl,rfl,rfl,hS⟩
 clear hS
 case round=>
  obtain⟨i,bs,rv,hi,G,rfl,rfl,hS⟩:=hrel;have κ:bs.length≤1002:=by have h_:=congrArg List.length G.out;unfold mkP at h_;simp only[List.length_map,List.length_cons,List.length_take] at h_;omega
  by_cases J:i<qs.length
  ·
   obtain⟨y,yh⟩:∃y,qs[i]?=some y:=⟨_,List.getElem?_eq_getElem J⟩
   have δ:=hq y (List.mem_of_getElem? yh);obtain⟨η,ε,γ,_⟩:=ζ.out i y yh;have β:=Lib.hid γ;clear γ;obtain⟨U,hU⟩:=exn (enc y.a);have bU:U<2^256:=by rw[hU];exact J9d _
   have HU:=Lib.hid hU;clear hU;go_upto_region 3 with fail;refine RL hS ?_;clear hS;refine Wt ?_;refine MZ fun W hS=> ?_;go_upto_region 4 with fail;refine RL hS ?_;clear hS;refine MW ?_ (v:=.pointer (some ⟨η,ε+i*16,none⟩)) (hv:=fun _=>K0 β.out J rfl rfl rfl Tryz.underlying218 (by kernel_rfl));refine MF (v:=.agg (p4 y.X y.Y y.Z y.T)) (fun W hS=>V2 rfl rfl (fun i_ v hv=>J0e ((V7h hr yh β.out) i_ v (by simpa using hv)) hS.ext) (by kernel_rfl) (by rw[p4z];kernel_rfl)) ?_;refine MN (z:=p4 0 0 0 0) (t:=154) ?_;intro τ;refine MR 0 ?_ (hz:=by rw[p4z];kernel_rfl) (hs:=by first|rw[p4z,p4z]|rw[p4z]|kernel_rfl);refine MZ fun W hS=> ?_;go_upto_region 5 with fail;refine RL hS ?_;clear hS;refine ML 0 ?_ (hs:=by rw[p4z];kernel_rfl);refine MC (v:=.agg (J1 .u8 32 (J4 U))) (fun W hS=>Q3q (δ.rw) HU.out W (GA_ext hG hS.ext).1) ?_;refine MN (z:=J1 .u8 32 (J4 0)) (t:=23) ?_;intro D;refine MR 0 ?_;refine MZ fun W hS=> ?_;go_upto_region 6 with fail;refine RL hS ?_;clear hS;refine MV ?_;refine MW ?_ (v:=.slice (some ⟨D,0,none⟩) 32 32);refine MB (z:= #[.slice (some ⟨D,0,none⟩) 32 32]) (t:=22) (n:=1) (c:=1) ?_ (hr:=fun W hS=>X7 [.slice (some ⟨D,0,none⟩) 32 32] rfl rfl (vsc (Q1 (V1 (V:=U) (n:=32) (off:=0) (c:=32) (hS.blk (i:=0) rfl) ap0 (by decide) (by decide))).1 vs0) Tryz.underlying168 (by kernel_rfl) (by kernel_rfl) rfl (by decide) (by decide));intro σ;refine J06 (fun W hS=>(Q1 (V1 (V:=U) (n:=32) (off:=0) (c:=32) (hS.blk (i:=1) rfl) ap0 (by decide) (by decide))).2) ?_;intro S;refine MAr 3 0 (tS:=168) (bytes:=24) (es:=(List.map bv1 bs)) (by first|omega|decide|(rw[List.length_map];omega)|(simp only[List.length_append,List.length_map,List.length_cons,List.length_nil];omega)) (e:=([.slice (some ⟨D,0,none⟩) 32 32]:List Value)) (h1:=Y3w S) ?_;intro ξ;refine MV ?_;refine MZ fun W hS=> ?_;have hS:=(hS.pick [1,4,3])
   have hS:=Y5y hS;go_wp2;go_roundw
   case rel=>exact⟨(i+1),(bs++[(.slice (some ⟨D,0,none⟩) 32 32,lb 32 U)]),_,by omega,Lib.hid (by rw[List.map_append,G.out,HU.out];exact Y1g yh),rfl,by go_num,(by have h_:=hS.pick [1,0];rw[List.map_append];exact h_)⟩
   case measure=>simp[intOf];omega
  obtain rfl:i=qs.length:=by omega
  rw[List.take_length] at G;go_upto_region 3 with fail;refine RL hS ?_;clear hS;refine Wf ?_;refine MZ fun W hS=> ?_;go_upto_region 8 with fail;refine RL hS ?_;clear hS;refine MV ?_;refine MO (m:=[0]) (n:=1) (z:= #[.int .u8 0]) ?_;intro R;refine MB (z:= #[R]) (t:=22) (n:=1) (c:=1) ?_ (hr:=fun W hS=>X7 [R] rfl rfl (vsc (Q1 (hS.osl (i:=0) rfl)).1 vs0) Tryz.underlying168 (by kernel_rfl) (by kernel_rfl) rfl (by decide) (by decide));intro ν;refine J06 (fun W hS=>(Q1 (hS.osl (i:=1) rfl)).2) ?_;intro N;refine MAr 2 0 (tS:=168) (bytes:=24) (es:=(List.map bv1 bs)) (by first|omega|decide|(rw[List.length_map];omega)|(simp only[List.length_append,List.length_map,List.length_cons,List.length_nil];omega)) (e:=([R]:List Value)) (h1:=Y3w N) ?_;intro μ;refine J06 (fun W hS=>(Q8w (l:=[0]) (hS.row (i:=2) rfl) (hS.at_ (i:=3) (x:=bvT bs) rfl).1 (hS.own (i:=1) rfl).sl).imp fun A h=>h.imp fun c h=>h.1) ?_;rintro⟨A_,c_,rfl⟩;refine MC (v:=.agg (J1 .u8 64 (J4 X))) (fun W hS=>J71 hX.out (bs.map (·.2)++[[0]]) A_ c_ (by rw[G.out];unfold mkP;simp) (by simp only[List.length_append,List.length_cons,List.length_nil,J8,V31];omega) (by rw[G.out];unfold mkP;simp;omega) W (by obtain⟨A,c,h1,h2⟩:=Q8w (l:=[0]) (hS.row (i:=2) rfl) (hS.at_ (i:=3) (x:=bvT bs) rfl).1 (hS.own (i:=1) rfl).sl;injection h1 with h1;subst h1;exact h2) (GA_ext hG hS.ext).2.1) ?_;refine MN (z:=J1 .u8 64 (J4 0)) (t:=89) ?_;intro M;refine MR 0 ?_;refine MZ fun W hS=> ?_;go_upto_region 9 with fail;refine RL hS ?_;clear hS;refine MW ?_ (v:=.slice (some ⟨M,0,none⟩) 16 64);refine MV ?_;refine MZ fun W hS=> ?_;go_wp2;exact bodyPost_ret (v:=.slice (some ⟨M,0,none⟩) 16 64) (by simp only[results,Tryz.results73];go_simp) rfl ⟨M,rfl,hS.pick [0]⟩
end

section
set_option maxHeartbeats 2000000
attribute [local irreducible] wpList Y5 wpX
variable {kn : Kn}
open Sc (LL J0p)
attribute [local irreducible] hs
theorem Q3x {A B:Nat}{v:Value}{w:World}(h:A=B)(c:Calls Tryz.prog 107 #[.agg (J1 .u8 32 (J4 B))] w fun e w' =>X5 v w w' e):Calls Tryz.prog 107 #[.agg (J1 .u8 32 (J4 A))] w fun e w' =>X5 v w w' e:=h▸c
theorem Z16 {w:World}{o:Oper}{a:Act}{x y:Operand}{t t' :TypeId}{i n:Nat}{c:Bool}(hc:decide (i<n)=c)(ho:o.op=.binOp .lss t x y t')(hx:a.eval x=.int .i64 (i:Int))(hy:a.eval y=.int .i64 (n:Int)):(execOp a.eval o).run Tryz.prog w=.ok (.value (.bool c)) w:=by
 have e:decide ((i:Int)<(n:Int))=c:=by rw[←hc];exact decide_eq_decide.2 Int.ofNat_lt
 simp only[execOp,ho,hx,hy,eqGuard,binOp,Sem.run_bind];simp[e,hc,go_sem,Sem.run_bind]
theorem Z17 {w:World}{o:Oper}{a:Act}{x:Operand}{i:Nat}(ho:o.op=.convert 3 5 x)(hx:a.eval x=.int .i64 (i:Int)):(execOp a.eval o).run Tryz.prog w=.ok (.value (.int .u8 ((u8 i).toNat:Int))) w:=by
 rw[J6n,show((i:Int) % 256)=w8 (i:Int) from(IntKind.wrap_u8 _).symm];exact Q74 ho hx

theorem Z11 (hc:kn.c){V:Nat}{L:List UInt8}(hL:L.length≤1099511627776)(c0:Nat)(h256:c0<256)(hok:J24 V L c0=true)(hlow:∀i,i<c0→J24 V L i=false):
  ∃X Y Z T,RN X Y Z T (J4f V L c0)∧∀v w,GA kn w→Sl w v L→Calls Tryz.prog 66 #[.agg (J1 .u8 32 (J4 V)),v] w fun e w' =>X5 (.tuple #[.agg (p4 X Y Z T),.int .i64 0]) w w' e:=by
 obtain⟨Γ,φ,σ,θ⟩:=Q6q (kn:=kn) hc (Q07 V L c0) (candOk_iff.1 hok).1;obtain⟨Δ,δ⟩:=exn (J5x V L c0 % 2^255);rw[←δ] at σ θ;clear δ;obtain⟨S,α,γ,ε,R,χ⟩:=Q03 (kn:=kn) σ.rw;replace R:RN S α γ ε (J4f V L c0):=R;refine⟨S,α,γ,ε,R,fun v w hG M=> ?_⟩;have hS:=SH.nil [] w
 go_enter Tryz.func66,Tryz.ntmps66
 go_upto_region 0 with fail;refine RL hS ?_;clear hS;refine MN (z:=J1 .u8 32 (J4 V)) (t:=23) ?_;intro K1;refine MN (z:=p4 0 0 0 0) (t:=154) ?_;intro Ξ;refine W0 ?_;refine MZ fun W hS=> ?_
 go_wp2_with fail
 go_loopw [10] (fun ii wr=> ∃(i:Nat),(i≤c0)∧(ii=.int .i64 (i:Int))∧SH [] w wr [.b Ξ (p4 0 0 0 0) 154,.b K1 (J1 .u8 32 (J4 V)) 23])
  (fun ii _=>(256-intOf ii).toNat)
 case atStart=>exact⟨0,Nat.zero_le _,rfl,hS⟩
 clear hS
 case round=>
  obtain⟨i,hi,rfl,hS⟩:=hrel;go_upto_region 2 with fail;refine RL hS ?_;clear hS;refine MW ?_ (v:=.bool true) (hv:=by intro W;exact Z16 (i:=i) (n:=256) (decide_eq_true (by omega)) rfl rfl rfl);refine MZ fun W hS=> ?_
  by_cases β:i=c0
  ·
   subst β;have D:=(candOk_iff.1 hok).1;have ψ:=(candOk_iff.1 hok).2;go_upto_region 4 with fail;refine RL hS ?_;clear hS;refine MO (m:=[3,1]) (n:=2) (z:= #[.int .u8 3,.int .u8 1]) ?_;intro ξ;refine MW ?_ (v:=.slice (some ⟨K1,0,none⟩) 32 32);refine MV ?_;refine MV ?_;refine MW ?_ (v:=.int .u8 ((UInt8.ofNat i).toNat:Int)) (hv:=by intro W;exact Z17 rfl rfl);refine MO (m:=[UInt8.ofNat i,0]) (n:=2) (z:= #[.int .u8 ((UInt8.ofNat i).toNat:Int),.int .u8 0]) ?_;intro ν;refine MB (z:= #[ξ,.slice (some ⟨K1,0,none⟩) 32 32,v,ν]) (t:=22) (n:=4) (c:=4) ?_ (hr:=fun W hS=>X7 [ξ,.slice (some ⟨K1,0,none⟩) 32 32,v,ν] rfl rfl (vsc (Q1 (hS.osl (i:=1) rfl)).1 (vsc (Q1 (V1 (V:=V) (n:=32) (off:=0) (c:=32) (hS.blk (i:=3) rfl) ap0 (by decide) (by decide))).1 (vsc (Q1 (J08 M hS.ext)).1 (vsc (Q1 (hS.osl (i:=0) rfl)).1 vs0)))) Tryz.underlying168 (by kernel_rfl) (by kernel_rfl) rfl (by decide) (by decide));intro ω;obtain⟨U1,μ⟩:=exh (hs ([3,1]++(lb 32 V)++L++[UInt8.ofNat i,0]));refine MC (v:=.agg (J1 .u8 64 (J4 U1))) (fun W hS=>J71 μ.out [[3,1],lb 32 V,L,[UInt8.ofNat i,0]] (some ⟨ω,0,none⟩) 4 (by simp only[List.flatten_cons,List.flatten_nil,List.append_nil,List.nil_append,List.append_assoc,List.cons_append]) (by first|omega|(simp only[List.length_append,List.length_cons,List.length_nil,J8];omega)) (by simp) W (J15 (hS.blk (i:=0) rfl) (pvc (hS.osl (i:=2) rfl) (pvc (V1 (V:=V) (n:=32) (off:=0) (c:=32) (hS.blk (i:=4) rfl) ap0 (by decide) (by decide)) (pvc (J08 M hS.ext) (pvc (hS.osl (i:=1) rfl) pv0))))) (GA_ext hG hS.ext).2.1) ?_;refine MN (z:=J1 .u8 64 (J4 0)) (t:=89) ?_;intro η;refine MR 0 ?_;refine MZ fun W hS=> ?_;go_upto_region 5 with fail;refine RL hS ?_;clear hS;refine MW ?_ (v:=.slice (some ⟨η,0,none⟩) 32 64);refine MW ?_ (v:=.pointer (some ⟨η,0,none⟩)) (hv:=by intro W;first|rfl|(go_simp;done)|(go_simp;with_reducible rfl));refine Ml 0 Z0r ?_;have G:lo U1=J5x V L i:=by rw[μ.out];rfl
   refine MC (v:=.tuple #[.agg (p4 Γ Δ 1 φ),.int .i64 0]) (fun W hS=>Q3x G (θ W (GA_ext hG hS.ext).1)) ?_;refine MV ?_;refine MV ?_;refine W0 ?_;refine MN (z:=p4 0 0 0 0) (t:=154) ?_;intro Ω;refine MR 0 ?_;refine W0 ?_;refine MZ fun W hS=> ?_;go_upto_region 7 with fail;refine RL hS ?_;clear hS;refine ML 0 ?_;refine MC (v:=.agg (p4 S α γ ε)) (fun W hS=>χ W (GA_ext hG hS.ext).1) ?_;refine MR 0 ?_;refine MZ fun W hS=> ?_;go_upto_region 8 with fail;refine RL hS ?_;clear hS;refine ML 0 ?_;refine MW ?_ (v:=.agg (p4 0 0 0 0)) (hv:=by intro W;kernel_rfl);have J:=Q6o (kn:=kn) R.rw Q29;rw[show decide (J4f V L i=p0)=false from decide_eq_false ψ] at J;refine MC (v:=.bool false) (fun W hS=>J W (GA_ext hG hS.ext).1) ?_;refine Wt ?_;refine MZ fun W hS=> ?_;go_upto_region 9 with fail;refine RL hS ?_;clear hS;refine ML 0 ?_;refine MR 5 ?_;refine W0 ?_;refine MZ fun W hS=> ?_;go_wp2;exact bodyPost_ret (X8 rfl rfl rfl (hS.blk (i:=5) rfl) (by kernel_rfl) (by kernel_rfl)) rfl ⟨rfl,hS.ext⟩
  have τ:=hlow i (by omega);go_upto_region 4 with fail;refine RL hS ?_;clear hS;refine MO (m:=[3,1]) (n:=2) (z:= #[.int .u8 3,.int .u8 1]) ?_;intro ζ;refine MW ?_ (v:=.slice (some ⟨K1,0,none⟩) 32 32);refine MV ?_;refine MV ?_;refine MW ?_ (v:=.int .u8 ((UInt8.ofNat i).toNat:Int)) (hv:=by intro W;exact Z17 rfl rfl);refine MO (m:=[UInt8.ofNat i,0]) (n:=2) (z:= #[.int .u8 ((UInt8.ofNat i).toNat:Int),.int .u8 0]) ?_;intro ρ;refine MB (z:= #[ζ,.slice (some ⟨K1,0,none⟩) 32 32,v,ρ]) (t:=22) (n:=4) (c:=4) ?_ (hr:=fun W hS=>X7 [ζ,.slice (some ⟨K1,0,none⟩) 32 32,v,ρ] rfl rfl (vsc (Q1 (hS.osl (i:=1) rfl)).1 (vsc (Q1 (V1 (V:=V) (n:=32) (off:=0) (c:=32) (hS.blk (i:=3) rfl) ap0 (by decide) (by decide))).1 (vsc (Q1 (J08 M hS.ext)).1 (vsc (Q1 (hS.osl (i:=0) rfl)).1 vs0)))) Tryz.underlying168 (by kernel_rfl) (by kernel_rfl) rfl (by decide) (by decide));intro Θ;obtain⟨U2,U⟩:=exh (hs ([3,1]++(lb 32 V)++L++[UInt8.ofNat i,0]));refine MC (v:=.agg (J1 .u8 64 (J4 U2))) (fun W hS=>J71 U.out [[3,1],lb 32 V,L,[UInt8.ofNat i,0]] (some ⟨Θ,0,none⟩) 4 (by simp only[List.flatten_cons,List.flatten_nil,List.append_nil,List.nil_append,List.append_assoc,List.cons_append]) (by first|omega|(simp only[List.length_append,List.length_cons,List.length_nil,J8];omega)) (by simp) W (J15 (hS.blk (i:=0) rfl) (pvc (hS.osl (i:=2) rfl) (pvc (V1 (V:=V) (n:=32) (off:=0) (c:=32) (hS.blk (i:=4) rfl) ap0 (by decide) (by decide)) (pvc (J08 M hS.ext) (pvc (hS.osl (i:=1) rfl) pv0))))) (GA_ext hG hS.ext).2.1) ?_;refine MN (z:=J1 .u8 64 (J4 0)) (t:=89) ?_;intro N;refine MR 0 ?_;refine MZ fun W hS=> ?_
  by_cases D:dOk (J5x V L i)=true
  ·
   go_upto_region 5 with fail;refine RL hS ?_;clear hS;refine MW ?_ (v:=.slice (some ⟨N,0,none⟩) 32 64);refine MW ?_ (v:=.pointer (some ⟨N,0,none⟩)) (hv:=by intro W;first|rfl|(go_simp;done)|(go_simp;with_reducible rfl));refine Ml 0 Z0r ?_;have G:lo U2=J5x V L i:=by rw[U.out];rfl
   obtain⟨dx,dt,dr,dc⟩:=Q6q (kn:=kn) hc (Q07 V L i) D;obtain⟨dy,κ⟩:=exn (J5x V L i % 2^255);rw[←κ] at dr dc;clear κ;refine MC (v:=.tuple #[.agg (p4 dx dy 1 dt),.int .i64 0]) (fun W hS=>Q3x G (dc W (GA_ext hG hS.ext).1)) ?_;refine MV ?_;refine MV ?_;refine W0 ?_;refine MN (z:=p4 0 0 0 0) (t:=154) ?_;intro D0;refine MR 0 ?_;refine W0 ?_;refine MZ fun W hS=> ?_;go_upto_region 7 with fail;refine RL hS ?_;clear hS;refine ML 0 ?_;obtain⟨ex,ey,ez,et,er,ec⟩:=Q03 (kn:=kn) dr.rw;refine MC (v:=.agg (p4 ex ey ez et)) (fun W hS=>ec W (GA_ext hG hS.ext).1) ?_;refine MR 0 ?_;refine MZ fun W hS=> ?_;go_upto_region 8 with fail;refine RL hS ?_;clear hS;refine ML 0 ?_;refine MW ?_ (v:=.agg (p4 0 0 0 0)) (hv:=by intro W;kernel_rfl);have J:=Q6o (kn:=kn) er.rw Q29;rw[show decide (pm (dPt (J5x V L i)) 8=p0)=true from decide_eq_true (Q8v τ D)] at J;refine MC (v:=.bool true) (fun W hS=>J W (GA_ext hG hS.ext).1) ?_;refine Wf ?_;refine MZ fun W hS=> ?_;go_upto_region 10 with fail;refine RL hS ?_;clear hS;refine MW ?_ (v:=.int .i64 (((i+1:Nat):Int))) (hv:=by intro W;go_simp;(try simp only[IntKind.wrap_i64]);(try omega));refine MV ?_;refine MZ fun W hS=> ?_;go_wp2;go_roundw
   case rel=>exact⟨i+1,by omega,by go_num,(hS.pick [5,6])⟩
   case measure=>simp[intOf];omega
  replace D:dOk (J5x V L i)=false:=by simpa using D
  go_upto_region 5 with fail;refine RL hS ?_;clear hS;refine MW ?_ (v:=.slice (some ⟨N,0,none⟩) 32 64);refine MW ?_ (v:=.pointer (some ⟨N,0,none⟩)) (hv:=by intro W;first|rfl|(go_simp;done)|(go_simp;with_reducible rfl));refine Ml 0 Z0r ?_;have G:lo U2=J5x V L i:=by rw[U.out];rfl
  refine MC (v:=.tuple #[.agg (p4 0 0 0 0),.int .i64 15]) (fun W hS=>Q3x G (Z0k (kn:=kn) hc (Q07 V L i) D W (GA_ext hG hS.ext).1)) ?_;refine MV ?_;refine MV ?_;refine MW ?_ (v:=.int .i64 15);refine MN (z:=p4 0 0 0 0) (t:=154) ?_;intro Ψ;refine MR 0 ?_;refine MW ?_ (v:=.int .i64 15);refine MZ fun W hS=> ?_;go_upto_region 10 with fail;refine RL hS ?_;clear hS;refine MW ?_ (v:=.int .i64 (((i+1:Nat):Int))) (hv:=by intro W;go_simp;(try simp only[IntKind.wrap_i64]);(try omega));refine MV ?_;refine MZ fun W hS=> ?_;go_wp2;go_roundw
  case rel=>exact⟨i+1,by omega,by go_num,(hS.pick [5,6])⟩
  case measure=>simp[intOf];omega
theorem Z12 (hc:kn.c){V:Nat}{L:List UInt8}(hL:L.length≤1099511627776)(hlow:∀i,i<256→J24 V L i=false):
  ∀v w,GA kn w→Sl w v L→Calls Tryz.prog 66 #[.agg (J1 .u8 32 (J4 V)),v] w fun e w' =>X5 (.tuple #[.agg (p4 0 0 0 0),.int .i64 15]) w w' e:=by
 intro v w hG S;have hS:=SH.nil [] w
 go_enter Tryz.func66,Tryz.ntmps66
 go_upto_region 0 with fail;refine RL hS ?_;clear hS;refine MN (z:=J1 .u8 32 (J4 V)) (t:=23) ?_;intro K1;refine MN (z:=p4 0 0 0 0) (t:=154) ?_;intro α;refine W0 ?_;refine MZ fun W hS=> ?_
 go_wp2_with fail
 go_loopw [10] (fun ii wr=> ∃(i:Nat),(i≤256)∧(ii=.int .i64 (i:Int))∧SH [] w wr [.b α (p4 0 0 0 0) 154,.b K1 (J1 .u8 32 (J4 V)) 23])
  (fun ii _=>(256-intOf ii).toNat)
 case atStart=>exact⟨0,Nat.zero_le _,rfl,hS⟩
 clear hS
 case round=>
  obtain⟨i,hi,rfl,hS⟩:=hrel
  by_cases G:i<256
  ·
   have Y:=hlow i G;go_upto_region 2 with fail;refine RL hS ?_;clear hS;refine MW ?_ (v:=.bool true) (hv:=by intro W;exact Z16 (i:=i) (n:=256) (decide_eq_true G) rfl rfl rfl);refine MZ fun W hS=> ?_;go_upto_region 4 with fail;refine RL hS ?_;clear hS;refine MO (m:=[3,1]) (n:=2) (z:= #[.int .u8 3,.int .u8 1]) ?_;intro X;refine MW ?_ (v:=.slice (some ⟨K1,0,none⟩) 32 32);refine MV ?_;refine MV ?_;refine MW ?_ (v:=.int .u8 ((UInt8.ofNat i).toNat:Int)) (hv:=by intro W;exact Z17 rfl rfl);refine MO (m:=[UInt8.ofNat i,0]) (n:=2) (z:= #[.int .u8 ((UInt8.ofNat i).toNat:Int),.int .u8 0]) ?_;intro U;refine MB (z:= #[X,.slice (some ⟨K1,0,none⟩) 32 32,v,U]) (t:=22) (n:=4) (c:=4) ?_ (hr:=fun W hS=>X7 [X,.slice (some ⟨K1,0,none⟩) 32 32,v,U] rfl rfl (vsc (Q1 (hS.osl (i:=1) rfl)).1 (vsc (Q1 (V1 (V:=V) (n:=32) (off:=0) (c:=32) (hS.blk (i:=3) rfl) ap0 (by decide) (by decide))).1 (vsc (Q1 (J08 S hS.ext)).1 (vsc (Q1 (hS.osl (i:=0) rfl)).1 vs0)))) Tryz.underlying168 (by kernel_rfl) (by kernel_rfl) rfl (by decide) (by decide));intro Z;obtain⟨U1,N⟩:=exh (hs ([3,1]++(lb 32 V)++L++[UInt8.ofNat i,0]));refine MC (v:=.agg (J1 .u8 64 (J4 U1))) (fun W hS=>J71 N.out [[3,1],lb 32 V,L,[UInt8.ofNat i,0]] (some ⟨Z,0,none⟩) 4 (by simp only[List.flatten_cons,List.flatten_nil,List.append_nil,List.nil_append,List.append_assoc,List.cons_append]) (by first|omega|(simp only[List.length_append,List.length_cons,List.length_nil,J8];omega)) (by simp) W (J15 (hS.blk (i:=0) rfl) (pvc (hS.osl (i:=2) rfl) (pvc (V1 (V:=V) (n:=32) (off:=0) (c:=32) (hS.blk (i:=4) rfl) ap0 (by decide) (by decide)) (pvc (J08 S hS.ext) (pvc (hS.osl (i:=1) rfl) pv0))))) (GA_ext hG hS.ext).2.1) ?_;refine MN (z:=J1 .u8 64 (J4 0)) (t:=89) ?_;intro M;refine MR 0 ?_;refine MZ fun W hS=> ?_
   by_cases D:dOk (J5x V L i)=true
   ·
    go_upto_region 5 with fail;refine RL hS ?_;clear hS;refine MW ?_ (v:=.slice (some ⟨M,0,none⟩) 32 64);refine MW ?_ (v:=.pointer (some ⟨M,0,none⟩)) (hv:=by intro W;first|rfl|(go_simp;done)|(go_simp;with_reducible rfl));refine Ml 0 Z0r ?_;have J:lo U1=J5x V L i:=by rw[N.out];rfl
    obtain⟨dx,dt,dr,dc⟩:=Q6q (kn:=kn) hc (Q07 V L i) D;obtain⟨dy,T⟩:=exn (J5x V L i % 2^255);rw[←T] at dr dc;clear T;refine MC (v:=.tuple #[.agg (p4 dx dy 1 dt),.int .i64 0]) (fun W hS=>Q3x J (dc W (GA_ext hG hS.ext).1)) ?_;refine MV ?_;refine MV ?_;refine W0 ?_;refine MN (z:=p4 0 0 0 0) (t:=154) ?_;intro γ;refine MR 0 ?_;refine W0 ?_;refine MZ fun W hS=> ?_;go_upto_region 7 with fail;refine RL hS ?_;clear hS;refine ML 0 ?_;obtain⟨ex,ey,ez,et,er,ec⟩:=Q03 (kn:=kn) dr.rw;refine MC (v:=.agg (p4 ex ey ez et)) (fun W hS=>ec W (GA_ext hG hS.ext).1) ?_;refine MR 0 ?_;refine MZ fun W hS=> ?_;go_upto_region 8 with fail;refine RL hS ?_;clear hS;refine ML 0 ?_;refine MW ?_ (v:=.agg (p4 0 0 0 0)) (hv:=by intro W;kernel_rfl);have R:=Q6o (kn:=kn) er.rw Q29;rw[show decide (pm (dPt (J5x V L i)) 8=p0)=true from decide_eq_true (Q8v Y D)] at R;refine MC (v:=.bool true) (fun W hS=>R W (GA_ext hG hS.ext).1) ?_;refine Wf ?_;refine MZ fun W hS=> ?_;go_upto_region 10 with fail;refine RL hS ?_;clear hS;refine MW ?_ (v:=.int .i64 (((i+1:Nat):Int))) (hv:=by intro W;go_simp;(try simp only[IntKind.wrap_i64]);(try omega));refine MV ?_;refine MZ fun W hS=> ?_;go_wp2;go_roundw
    case rel=>exact⟨i+1,by omega,by go_num,(hS.pick [5,6])⟩
    case measure=>simp[intOf];omega
   replace D:dOk (J5x V L i)=false:=by simpa using D
   go_upto_region 5 with fail;refine RL hS ?_;clear hS;refine MW ?_ (v:=.slice (some ⟨M,0,none⟩) 32 64);refine MW ?_ (v:=.pointer (some ⟨M,0,none⟩)) (hv:=by intro W;first|rfl|(go_simp;done)|(go_simp;with_reducible rfl));refine Ml 0 Z0r ?_;have J:lo U1=J5x V L i:=by rw[N.out];rfl
   refine MC (v:=.tuple #[.agg (p4 0 0 0 0),.int .i64 15]) (fun W hS=>Q3x J (Z0k (kn:=kn) hc (Q07 V L i) D W (GA_ext hG hS.ext).1)) ?_;refine MV ?_;refine MV ?_;refine MW ?_ (v:=.int .i64 15);refine MN (z:=p4 0 0 0 0) (t:=154) ?_;intro β;refine MR 0 ?_;refine MW ?_ (v:=.int .i64 15);refine MZ fun W hS=> ?_;go_upto_region 10 with fail;refine RL hS ?_;clear hS;refine MW ?_ (v:=.int .i64 (((i+1:Nat):Int))) (hv:=by intro W;go_simp;(try simp only[IntKind.wrap_i64]);(try omega));refine MV ?_;refine MZ fun W hS=> ?_;go_wp2;go_roundw
   case rel=>exact⟨i+1,by omega,by go_num,(hS.pick [5,6])⟩
   case measure=>simp[intOf];omega
  go_upto_region 2 with fail;refine RL hS ?_;clear hS;refine MW ?_ (v:=.bool false) (hv:=by intro W;exact Z16 (i:=i) (n:=256) (decide_eq_false G) rfl rfl rfl);refine MZ fun W hS=> ?_;go_upto_region 11 with fail;refine RL hS ?_;clear hS;refine MW ?_ (v:=.agg (p4 0 0 0 0)) (hv:=by intro W;kernel_rfl);refine MR 0 ?_;refine MW ?_ (v:=.int .i64 15);refine MZ fun W hS=> ?_;go_wp2;exact bodyPost_ret (X8 rfl rfl rfl (hS.blk (i:=0) rfl) (by kernel_rfl) (by kernel_rfl)) rfl ⟨rfl,hS.ext⟩
end

section
set_option maxHeartbeats 2000000
attribute [local irreducible] wpList
variable {kn : Kn}
open Sc (LL J0p)
attribute [local irreducible] hs

end

section
set_option maxHeartbeats 2000000
attribute [local irreducible] wpList
variable {kn : Kn}
open Sc (LL J0p)
attribute [local irreducible] hs
def q4 (a b c d:Array Value):Array Value:=a++b++c++d
section
variable {X1 Y1 Z1 T1 X2 Y2 Z2 T2 X3 Y3 Z3 T3 X4 Y4 Z4 T4 : Nat}
theorem Z5m {X Y Z T:Nat}:(p4 X Y Z T).size=16:=rfl
theorem V9l:∀i v,(p4 X1 Y1 Z1 T1)[i]?=some v→(q4 (p4 X1 Y1 Z1 T1) (p4 X2 Y2 Z2 T2) (p4 X3 Y3 Z3 T3) (p4 X4 Y4 Z4 T4))[0+i]?=some v:=fun i v h=>by rw[Nat.zero_add];exact J2h (J2h (J2h h))
theorem V9m:∀i v,(p4 X2 Y2 Z2 T2)[i]?=some v→(q4 (p4 X1 Y1 Z1 T1) (p4 X2 Y2 Z2 T2) (p4 X3 Y3 Z3 T3) (p4 X4 Y4 Z4 T4))[16+i]?=some v:=fun i v h=>J2h (J2h (J69 Z5m h))
theorem V9n:∀i v,(p4 X3 Y3 Z3 T3)[i]?=some v→(q4 (p4 X1 Y1 Z1 T1) (p4 X2 Y2 Z2 T2) (p4 X3 Y3 Z3 T3) (p4 X4 Y4 Z4 T4))[32+i]?=some v:=fun i v h=>J2h (J69 (by rw[Array.size_append,Z5m,Z5m]) h)
theorem V9o:∀i v,(p4 X4 Y4 Z4 T4)[i]?=some v→(q4 (p4 X1 Y1 Z1 T1) (p4 X2 Y2 Z2 T2) (p4 X3 Y3 Z3 T3) (p4 X4 Y4 Z4 T4))[48+i]?=some v:=fun i v h=>J69 (by rw[Array.size_append,Array.size_append,Z5m,Z5m,Z5m]) h
end
theorem Q70 {w:World}{gP:Nat}{cs:Array Value}{t:TypeId}(h:Blk w gP cs t){P4:Array Value}{o:Nat}(hq:∀i v,P4[i]?=some v→cs[o+i]?=some v)(i:Nat)(x:Value)(hx:P4.toList[i]?=some x):w.cell? ⟨gP,o+i,none⟩=some x:=by
  rw[J3 h];exact hq i x (by rw[Array.getElem?_toList] at hx;exact hx)
theorem V9p {w:World}{gP k:Nat}{a b c d:List Value}(ha:∀i x,a[i]?=some x→w.cell? ⟨gP,0+i,none⟩=some x)(hb:∀i x,b[i]?=some x→w.cell? ⟨gP,k+i,none⟩=some x)(hc:∀i x,c[i]?=some x→w.cell? ⟨gP,2*k+i,none⟩=some x)(hd:∀i x,d[i]?=some x→w.cell? ⟨gP,3*k+i,none⟩=some x):
    RR k w (.slice (some ⟨gP,0,none⟩) 4 4) [a,b,c,d]:=by
  refine⟨_,_,rfl,Nat.le_refl _,fun e=>by(cases e),fun j e hj=>⟨gP,0,rfl,fun i x hx=> ?_⟩⟩
  match j,hj with
  |0,hj=>obtain rfl:=Option.some.inj hj;rw[show 0+0*k+i=0+i by omega];exact ha i x hx
  |1,hj=>obtain rfl:=Option.some.inj hj;rw[show 0+1*k+i=k+i by omega];exact hb i x hx
  |2,hj=>obtain rfl:=Option.some.inj hj;rw[show 0+2*k+i=2*k+i by omega];exact hc i x hx
  |3,hj=>obtain rfl:=Option.some.inj hj;rw[show 0+3*k+i=3*k+i by omega];exact hd i x hx
theorem rr4 {X1 Y1 Z1 T1 X2 Y2 Z2 T2 X3 Y3 Z3 T3 X4 Y4 Z4 T4 gP:Nat}{w:World}{t:TypeId}(h:Blk w gP (q4 (p4 X1 Y1 Z1 T1) (p4 X2 Y2 Z2 T2) (p4 X3 Y3 Z3 T3) (p4 X4 Y4 Z4 T4)) t):
    RR 16 w (.slice (some ⟨gP,0,none⟩) 4 4) [(p4 X1 Y1 Z1 T1).toList,(p4 X2 Y2 Z2 T2).toList,(p4 X3 Y3 Z3 T3).toList,(p4 X4 Y4 Z4 T4).toList]:=
  V9p (Q70 h V9l) (Q70 h V9m) (Q70 h V9n) (Q70 h V9o)
theorem V2m {V X:Nat}{X1 Y1 Z1 T1:Nat}{a1:Pr}(h1:RN X1 Y1 Z1 T1 a1){X2 Y2 Z2 T2:Nat}{a2:Pr}(h2:RN X2 Y2 Z2 T2 a2){X3 Y3 Z3 T3:Nat}{a3:Pr}(h3:RN X3 Y3 Z3 T3 a3){X4 Y4 Z4 T4:Nat}{a4:Pr}(h4:RN X4 Y4 Z4 T4 a4)(hX:X=chH V a1 a2 a3 a4):
    ∀gP w,GA kn w→Blk w gP (q4 (p4 X1 Y1 Z1 T1) (p4 X2 Y2 Z2 T2) (p4 X3 Y3 Z3 T3) (p4 X4 Y4 Z4 T4)) 154→Calls Tryz.prog 73 #[.agg (J1 .u8 32 (J4 V)),.slice (some ⟨gP,0,none⟩) 4 4] w fun e w' => ∃p,e=.returned (.slice (some ⟨p,0,none⟩) 16 64)∧w.heap.size≤p∧Off [] w w' ∧Blk w' p (J1 .u8 64 (J4 X)) 89:=by
  intro gP w hG hP;obtain⟨qs,D⟩:∃qs:List PQ,qs=[⟨X1,Y1,Z1,T1,a1⟩,⟨X2,Y2,Z2,T2,a2⟩,⟨X3,Y3,Z3,T3,a3⟩,⟨X4,Y4,Z4,T4,a4⟩]:=⟨_,rfl⟩
  have hx:RowKit.Hid (X=hs ([3,2]++lb 32 V++(qs.map fun q=>lb 32 (enc q.a)).flatten++[0])):=Lib.hid (by
    rw[hX,D];unfold chH
    congr 1)
  have hr:RR 16 w (.slice (some ⟨gP,0,none⟩) 4 4) (qs.map pqC):=by rw[D];exact rr4 hP
  have hn:qs.length≤1000:=by rw[D];simp
  refine(V2n (qs:=qs) (fun q hq=> ?_) hn hx w hG hr).mono fun e w' ⟨p,q1,hS⟩=>⟨p,q1,?_,hS.off,hS.blk (i:=0) rfl⟩
  · rw[D] at hq
    simp only[List.mem_cons,List.not_mem_nil,or_false] at hq;rcases hq with rfl|rfl|rfl|rfl
    · exact h1
    · exact h2
    · exact h3
    exact h4
  exact Nat.not_lt.1 fun h=>by cases hS.old (.b p (J1 .u8 64 (J4 X)) 89) (by simp) rfl p (by simp[As.foot]) h
end

section
set_option maxHeartbeats 2000000
attribute [local irreducible] wpList Y5
variable {kn : Kn}
open Sc (LL J0p)
attribute [local irreducible] hs
theorem Y5r {V m j:Nat}(hj:j<m):J4 (V % 2^(8*m)) j=J4 V j:=by
  unfold J4;have e:(2:Nat)^(8*m)=2^(8*j)*2^(8*m-8*j):=by rw[←Nat.pow_add];congr 1;omega
  have e2:(2:Nat)^(8*m-8*j)=256*2^(8*m-8*j-8):=by rw[show 8*m-8*j=8+(8*m-8*j-8) by omega,Nat.pow_add,Nat.add_sub_cancel_left]
  rw[e,Nat.mod_mul_right_div_self,e2,Nat.mod_mul_right_mod]
theorem Z3t {n m off V U:Nat}(hU:∀j,j<m→J4 U j=J4 V (off+j))(h:off+m≤n):∀i v,(J1 .u8 m (J4 U))[i]?=some v→(J1 .u8 n (J4 V))[off+i]?=some v:=fun i v hv=>by
  have hi:i<m:=by have:=(Array.getElem?_eq_some_iff.1 hv).1;rwa [J0] at this
  rw[V3 _ _ _ _ hi,hU i hi] at hv;rw[V3 _ _ _ _ (by omega)];exact hv
theorem V76 {P:Nat}:∀i v,(J1 .u8 32 (J4 (pG P)))[i]?=some v→(J1 .u8 80 (J4 P))[0+i]?=some v:=Z3t (fun j hj=>by rw[Nat.zero_add];exact Y0y hj) (by decide)
theorem Y88 (P:Nat):pG P<2^256:=lo_lt P
theorem V2o (hc:kn.c){P:Nat}(hok:dOk (pG P)=false):
  ∀w,GA kn w→Calls Tryz.prog 74 #[.agg (J1 .u8 80 (J4 P))] w fun e w' =>X5 (.tuple #[.agg (J1 .u8 64 (J4 0)),.int .i64 17]) w w' e:=by
 have dc:=Z0k (kn:=kn) hc (V:=(pG P)) (Y88 P) hok;intro w hG;have D:Off [] w w:=Off.refl _ _
 go_enter Tryz.func74,Tryz.ntmps74
 go_upto_region 0 with fail;refine wp_region_lit ?_;refine Ln ?_ (z:=J1 .u8 80 (J4 P)) (t:=40);intro N W1 R hO h_;replace D:=D.o hO;have J:=h_;clear hO h_ R;refine Ln ?_ (z:=J1 .u8 64 (J4 0)) (t:=89);intro S W2 M hO h_;have T:=fbn D M;replace J:=J.o hO;replace D:=D.o hO;have G:=h_;clear hO h_ M;refine Lw ?_ (v:=.int .i64 0);refine J5 ?_;go_upto_region 1 with fail;refine wp_region_lit ?_;refine Lw ?_ (v:=.slice (some ⟨N,0,none⟩) 32 80) (hv:=by first|rfl|(go_simp;done)|(go_simp;with_reducible rfl));refine Lw ?_ (v:=.pointer (some ⟨N,0,none⟩)) (hv:=by first|rfl|(go_simp;done)|(go_simp;with_reducible rfl));refine J68 (vs:=(J1 .u8 32 (J4 (pG P))).toList) (by rfl) rfl rfl J (Z4x V76) (by kernel_rfl) (by kernel_rfl) ?_
 (try simp only[Act.put,mA,mB,mC])
 refine Lr ?_ (dc W2 (GA_ext hG D.ext).1);intro W3 hO;replace G:=G.o hO;replace D:=D.o hO;clear hO;refine Lv ?_;refine Lv ?_;refine Lw ?_ (v:=.int .i64 15);refine LnP ?_ (z:=p4 0 0 0 0) (t:=154) (cells:=p4 0 0 0 0);intro X W5 U hO h_;replace G:=G.o hO;replace D:=D.o hO;clear hO h_ U;refine Lw ?_ (v:=.int .i64 15);refine J5 ?_;go_upto_region 3 with fail;refine wp_region_lit ?_;refine Lw ?_ (v:=.agg (J1 .u8 64 (J4 0))) (hv:=by kernel_rfl);refine LpA ?_ G (k:=.u8) (n:=64) (f:=J4 0);intro W6 hO h_;replace G:Blk W6 S (J1 .u8 64 (J4 0)) 89:=h_;clear h_;replace D:=D.p hO T;clear hO;refine Lw ?_ (v:=.int .i64 17);refine J5 ?_;go_wp2;exact bodyPost_ret (X8 rfl rfl rfl G (by kernel_rfl) (by rw[J0];kernel_rfl)) rfl ⟨rfl,D.ext⟩
theorem V2p (hc:kn.c){P X:Nat}(hok:dOk (pG P)=true)(hX:X=Y5s P):
  ∀w,GA kn w→Calls Tryz.prog 74 #[.agg (J1 .u8 80 (J4 P))] w fun e w' =>X5 (.tuple #[.agg (J1 .u8 64 (J4 X)),.int .i64 0]) w w' e:=by
 obtain⟨dx,dt,dr,dc⟩:=Q6q hc (V:=(pG P)) (Y88 P) hok;obtain⟨y0,β⟩:=exn ((pG P) % 2^255);rw[←β] at dr dc;clear β;obtain⟨x1,y2,z3,t4,r5,c6⟩:=Q03 (kn:=kn) dr.rw;obtain⟨U1,U⟩:=exn (enc (pm (dPt (pG P)) 8));have Γ:U1<2^256:=by rw[U];exact J9d _
 have δ:=Lib.hid U;clear U;obtain⟨U2,Z⟩:=exh (hs ([3,3]++(lb 32 U1)++[0]));intro w hG;have D:Off [] w w:=Off.refl _ _
 go_enter Tryz.func74,Tryz.ntmps74
 go_upto_region 0 with fail;refine wp_region_lit ?_;refine Ln ?_ (z:=J1 .u8 80 (J4 P)) (t:=40);intro γ W1 κ hO h_;replace D:=D.o hO;have R:=h_;clear hO h_ κ;refine Ln ?_ (z:=J1 .u8 64 (J4 0)) (t:=89);intro τ W2 α hO h_;have φ:=fbn D α;replace R:=R.o hO;replace D:=D.o hO;have G:=h_;clear hO h_ α;refine Lw ?_ (v:=.int .i64 0);refine J5 ?_;go_upto_region 1 with fail;refine wp_region_lit ?_;refine Lw ?_ (v:=.slice (some ⟨γ,0,none⟩) 32 80) (hv:=by first|rfl|(go_simp;done)|(go_simp;with_reducible rfl));refine Lw ?_ (v:=.pointer (some ⟨γ,0,none⟩)) (hv:=by first|rfl|(go_simp;done)|(go_simp;with_reducible rfl));refine J68 (vs:=(J1 .u8 32 (J4 (pG P))).toList) (by rfl) rfl rfl R (Z4x V76) (by kernel_rfl) (by kernel_rfl) ?_
 (try simp only[Act.put,mA,mB,mC])
 refine Lr ?_ (dc W2 (GA_ext hG D.ext).1);intro W3 hO;replace G:=G.o hO;replace D:=D.o hO;clear hO;refine Lv ?_;refine Lv ?_;refine Lw ?_ (v:=.int .i64 0);refine LnP ?_ (z:=p4 0 0 0 0) (t:=154) (cells:=p4 dx y0 1 dt);intro Θ W5 χ hO h_;replace G:=G.o hO;replace D:=D.o hO;have ε:=h_;clear hO h_ χ;refine Lw ?_ (v:=.int .i64 0);refine J5 ?_;go_upto_region 4 with fail;refine wp_region_lit ?_;refine L0 ?_ ε;refine Lr ?_ (c6 W5 (GA_ext hG D.ext).1);intro W6 hO;replace G:=G.o hO;replace D:=D.o hO;clear hO;refine Lr ?_ (Q3q r5.rw δ.out W6 (GA_ext hG D.ext).1);intro W7 hO;replace G:=G.o hO;replace D:=D.o hO;clear hO;refine LnA ?_ (z:=J1 .u8 32 (J4 0)) (t:=23) (k:=.u8) (n:=32) (f:=J4 U1);intro T W9 ω hO h_;replace G:=G.o hO;replace D:=D.o hO;have M:=h_;clear hO h_ ω;refine J5 ?_;go_upto_region 5 with fail;refine wp_region_lit ?_;refine LnS ?_ (z:= #[.int .u8 3,.int .u8 3]) (t:=5) (n:=2) (c:=2);intro Y ν θ hO h_;replace G:=G.o hO;replace M:=M.o hO;replace D:=D.o hO;have J:Own ν (.slice (some ⟨Y,0,none⟩) 2 2) [3,3]:=J2e h_ (by rfl) (by show 2≤maxLen;decide);clear hO h_ θ;refine Lw ?_ (v:=.slice (some ⟨T,0,none⟩) 32 32) (hv:=by first|rfl|(go_simp;done)|(go_simp;with_reducible rfl));refine LnS ?_ (z:= #[.int .u8 0]) (t:=5) (n:=1) (c:=1);intro S μ σ hO h_;replace G:=G.o hO;replace M:=M.o hO;replace J:=Own.off J hO f0;replace D:=D.o hO;have N:Own μ (.slice (some ⟨S,0,none⟩) 1 1) [0]:=J2e h_ (by rfl) (by show 1≤maxLen;decide);clear hO h_ σ;refine LnS ?_ (z:= #[(.slice (some ⟨Y,0,none⟩) 2 2),.slice (some ⟨T,0,none⟩) 32 32,(.slice (some ⟨S,0,none⟩) 1 1)]) (t:=22) (n:=3) (c:=3) (hr:=by exact X7 [(.slice (some ⟨Y,0,none⟩) 2 2),.slice (some ⟨T,0,none⟩) 32 32,(.slice (some ⟨S,0,none⟩) 1 1)] rfl rfl (vsc ((Q4z J).1) (vsc (rfl) (vsc ((Q4z N).1) vs0))) Tryz.underlying168 (by kernel_rfl) (by kernel_rfl) rfl (by decide) (by decide));intro ψ η ξ hO h_;replace G:=G.o hO;replace M:=M.o hO;replace J:=Own.off J hO f0;replace N:=Own.off N hO f0;replace D:=D.o hO;have ζ:=h_;clear hO h_ ξ;refine Lr ?_ (J71 Z.out [[3,3],lb 32 U1,[0]] (some ⟨ψ,0,none⟩) 3 (by simp only[List.flatten_cons,List.flatten_nil,List.append_nil,List.nil_append,List.append_assoc,List.cons_append]) (by first|omega|(simp only[List.length_append,List.length_cons,List.length_nil,J8];omega)) (by simp) η (J15 ζ (pvc (J.sl) (pvc (V1 (V:=U1) (n:=32) (off:=0) M ap0 (by decide) (by decide)) (pvc (N.sl) pv0)))) (GA_ext hG D.ext).2.1);intro Δ hO;replace G:=G.o hO;replace D:=D.o hO;clear hO;refine LpA ?_ G (k:=.u8) (n:=64) (f:=J4 U2);intro ρ hO h_;replace G:Blk ρ τ (J1 .u8 64 (J4 U2)) 89:=h_;clear h_;replace D:=D.p hO φ;clear hO;refine Lw ?_ (v:=.int .i64 0);refine J5 ?_;go_wp2;rw[hX,show Y5s P=U2 by rw[Z.out,δ.out];rfl];exact bodyPost_ret (X8 rfl rfl rfl G (by kernel_rfl) (by rw[J0];kernel_rfl)) rfl ⟨rfl,D.ext⟩
theorem index_c {X:Nat}(w:World):
  Calls Tryz.prog 34 #[.agg (J1 .u8 64 (J4 X))] w fun e w' =>X5 (.agg (J1 .u8 32 (J4 (lo X)))) w w' e:=by
 have D:Off [] w w:=Off.refl _ _
 go_enter Tryz.func34,Tryz.ntmps34
 go_upto_region 0 with fail;refine wp_region_lit ?_;refine Ln ?_ (z:=J1 .u8 64 (J4 X)) (t:=89);intro M W1 R hO h_;replace D:=D.o hO;have J:=h_;clear hO h_ R;refine Ln ?_ (z:=J1 .u8 32 (J4 0)) (t:=23);intro T W2 N hO h_;have S:=fbn D N;replace J:=J.o hO;replace D:=D.o hO;have G:=h_;clear hO h_ N;refine J5 ?_;go_upto_region 1 with fail;refine wp_region_lit ?_;refine Lw ?_ (v:=.slice (some ⟨M,0,none⟩) 32 64) (hv:=by first|rfl|(go_simp;done)|(go_simp;with_reducible rfl));refine Lw ?_ (v:=.pointer (some ⟨M,0,none⟩)) (hv:=by first|rfl|(go_simp;done)|(go_simp;with_reducible rfl));refine J68 (vs:=(J1 .u8 32 (J4 (lo X))).toList) (by rfl) rfl rfl J (Z4x Z0r) (by kernel_rfl) (by kernel_rfl) ?_
 (try simp only[Act.put,mA,mB,mC])
 refine LpA ?_ G (k:=.u8) (n:=32) (f:=J4 (lo X));intro W3 hO h_;replace G:Blk W3 T (J1 .u8 32 (J4 (lo X))) 23:=h_;clear h_;replace D:=D.p hO S;clear hO;refine J5 ?_;go_wp2;exact bodyPost_ret (Z8 rfl rfl G (by kernel_rfl) (by rw[J0];kernel_rfl)) rfl ⟨rfl,D.ext⟩
end
end Go.Proofs.YteehbddkcnkhfaaGreatDoor.S8

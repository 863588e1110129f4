/- Contracts and plain laws for directHolds_holds. Conditions: the tables hold their numbers. -/
import Derived.Test.YtpljgkofbfeelaaGreatDoorJ19
open Go renaming World->AA,Value->AB,bodyPost_ret->BC,execOp->AQ,Calls->Az,Operand->AS,TypeId->AD,IntKind->AG
open Go.IntKind renaming wrap_i64->BD
open Go.Sem renaming run_bind->Ad
open _root_.List renaming length_append->Ai,length_cons->AV,mem_singleton->Ae,nil_append->BM,append_nil->Aj,append_assoc->Ak,length_nil->Al,getElem?_map->BO,mem_cons_self->BI,length_map->BS,map_cons->AX,mem_cons->AY,flatten_cons->An,cons_append->BK,mem_append->Ar,mem_of_getElem?->At,length_take->BT,map_append->BU
open _root_.Nat renaming zero_le->Ah
open Go.RowKit
set_option maxRecDepth 100000
set_option linter.unusedSimpArgs false
set_option linter.unusedVariables false
namespace Go.Proofs.YtpljgkofbfeelaaGreatDoor
section
set_option maxHeartbeats 3000000
attribute [local irreducible] wpList Z9 wpX
def eI (n:Int):List UInt8:=be8 (n % 18446744073709551616).toNat
theorem Y8 (n:Int):(eI n).length=8:=rfl
def by8 (X j:Nat):UInt8:=u8 (X / 2^(8*(7-j)))
theorem Q96 (X:Nat):∀{j:Nat},j<8→(be8 X).take (j+1)=(be8 X).take j++[by8 X j]
 |0,_=>rfl
 |1,_=>rfl
 |2,_=>rfl
 |3,_=>rfl
 |4,_=>rfl
 |5,_=>rfl
 |6,_=>rfl
 |7,_=>by unfold by8;rw[show 2^(8*(7-7))=1 from rfl,Nat.div_one];rfl
 |j+8,h=>absurd h (by omega)
theorem Q9d {a:Act}{o:Oper}{x y:AS}{t t' :AD}{W:AA}{p n:Nat}{k:AG}(hn:n≤64)(ho:o.op=.binOp .shr t x y t')(hx:a.eval x=.int .u64 (p:Int))(hy:a.eval y=.int k (n:Int)):(AQ a.eval o).run Tryz.prog W=.ok (.value (.int .u64 ((p / 2^n:Nat):Int))) W:=by
 have h2:min ((n:Int)).toNat AG.u64.bits=n:=by rw[Int.toNat_natCast];exact Nat.min_eq_left hn
 have e:(p:Int) / 2^n=((p / 2^n:Nat):Int):=by rw[Int.natCast_ediv,Int.natCast_pow];rfl
 have:(AQ a.eval o).run Tryz.prog W=.ok (.value (.int .u64 ((p:Int) / 2^n))) W:=by
  simp only[AQ,ho,hx,hy,eqGuard,binOp,Ad];simp[Op.shift,h2,go_sem,Ad]
 rw[this,e]
theorem Z3y {a:Act}{o:Oper}{x:AS}{s t:AD}{W:AA}{p:Nat}(ho:o.op=.convert s t x)(hx:a.eval x=.int .u64 (p:Int))(hs:Tryz.prog.underlying s=some (.int .u64))(ht:Tryz.prog.underlying t=some (.int .u8)):(AQ a.eval o).run Tryz.prog W=.ok (.value (.int .u8 ((u8 p).toNat:Int))) W:=by
 rw[J62,←AG.wrap_u8];simp only[AQ,ho,hx,Ad];simp[hs,ht,go_sem,Ad]
theorem lA {α:Type}{l m:List α}:(l++m).length=l.length+m.length:=Ai
theorem lM {α β:Type}{f:α→β}{l:List α}:(l.map f).length=l.length:=BS _
theorem lT {α:Type}{i:Nat}{l:List α}:(l.take i).length=min i l.length:=BT
theorem lD {α:Type}{i:Nat}{l:List α}:(l.drop i).length=l.length-i:=List.length_drop
theorem lC {α:Type}{a:α}{l:List α}:(a::l).length=l.length+1:=rfl
theorem lN {α:Type}:([]:List α).length=0:=rfl
def kTx (l:List UInt8):List UInt8:=[5]++l
def sTx (e:Int)(r:Nat):List UInt8:=[8]++eI e++lb 32 r
theorem Z0 (l:List UInt8):(kTx l).length=1+l.length:=by unfold kTx;simp;omega
theorem Z5 (e:Int)(r:Nat):(sTx e r).length=41:=by unfold sTx;simp[Y8,J7]
attribute [local irreducible] eI be8 hs4 lb
end

section
abbrev J5i:=List UInt8×List UInt8
structure Md where
  l:List UInt8
  x:List UInt8
  ep:Nat
  ver:Nat
def vct (ms:List Md)(l:List UInt8):Nat:=(ms.filter fun m=>decide (m.l=l)).length
def mdp (ms:List Md)(e:Nat)(ps:List J5i):List Md:=ps.foldl (fun ms p=>ms++[⟨p.1,p.2,e,vct ms p.1+1⟩]) ms
def mdS:List Md→Nat→List (List J5i)→List Md
  |ms,_,[]=>ms
  |ms,e,ps::r=>mdS (mdp ms e ps) (e+1) r
theorem Y03 (ms:List Md)(e:Nat)(ps:List J5i)(p:J5i):mdp ms e (ps++[p])=mdp ms e ps++[⟨p.1,p.2,e,vct (mdp ms e ps) p.1+1⟩]:=by
  unfold mdp;rw[List.foldl_append];rfl
theorem Q9m:∀(r:List (List J5i)) (ms:List Md) (e:Nat) (ps:List J5i),mdS ms e (r++[ps])=mdp (mdS ms e r) (e+r.length) ps
  |[],_,_,_=>rfl
  |q::r,ms,e,ps=>by
    show mdS (mdp ms e q) (e+1) (r++[ps])=mdp (mdS (mdp ms e q) (e+1) r) _ ps;rw[Q9m r,show e+1+r.length=e+(q::r).length by rw[AV];omega]
def nub (acc:List (List UInt8)):List (List UInt8)→List (List UInt8)
  |[]=>acc
  |l::r=>nub (if l∈acc then acc else acc++[l]) r
theorem Q9n:∀(r:List (List UInt8)) (acc:List (List UInt8)) (l:List UInt8),nub acc (r++[l])=if l∈nub acc r then nub acc r else nub acc r++[l]
  |[],_,_=>rfl
  |x::r,acc,l=>by
    show nub (if x∈acc then acc else acc++[x]) (r++[l])=_;rw[Q9n r];rfl
theorem Z4g:∀{r acc:List (List UInt8)} {l:List UInt8},l∈nub acc r↔l∈acc∨l∈r
  |[],acc,l=>by simp[nub]
  |x::r,acc,l=>by
    show l∈nub (if x∈acc then acc else acc++[x]) r↔_;rw[Z4g,AY]
    split
    · exact⟨fun h=>h.elim .inl fun h=> .inr (.inr h),fun h=>h.elim .inl fun h=>h.elim (fun h=> .inl (by rw[h];assumption)) .inr⟩
    · rw[Ar,Ae];exact or_assoc
theorem Q68:∀{r acc:List (List UInt8)},acc.Nodup→(nub acc r).Nodup
  |[],_,h=>h
  |x::r,acc,h=>by
    refine Q68 (r:=r) ?_
    split
    · exact h
    · rename_i hx
      refine List.nodup_append.2 ⟨h,List.nodup_cons.2 ⟨by simp,.nil⟩,fun a ha b hb=> ?_⟩;rw[List.mem_singleton.1 hb];exact fun e=>hx (e▸ha)
structure DD where
  id:List UInt8
  vk:Nat
  bk:Nat
  L:Nat
  P:Nat
  E:Nat
  puts:List (List J5i)
  waits:List J5i
namespace DD
def made (D:DD):List Md:=mdS [] 0 D.puts
def labs (D:DD):List (List UInt8):=nub [] ((D.puts.flatten++D.waits).map (·.1))
def put (D:DD)(l x:List UInt8):DD:={D with waits:=D.waits++[(l,x)]}
def nxt (D:DD):DD:={D with puts:=D.puts++[D.waits],waits:=[]}
theorem made_put (D:DD)(l x:List UInt8):(D.put l x).made=D.made:=rfl
theorem made_nxt (D:DD):D.nxt.made=mdp D.made D.puts.length D.waits:=by
  unfold made nxt;rw[Q9m,Nat.zero_add]
theorem labs_put (D:DD)(l x:List UInt8):(D.put l x).labs=if l∈D.labs then D.labs else D.labs++[l]:=by
  unfold labs put;show nub [] ((D.puts.flatten++(D.waits++[(l,x)])).map _)=_;rw[←Ak,BU,AX,List.map_nil,Q9n]
theorem labs_nxt (D:DD):D.nxt.labs=D.labs:=by
  unfold labs nxt;show nub [] (((D.puts++[D.waits]).flatten++[]).map _)=_;rw[Aj,List.flatten_append,An,List.flatten_nil,Aj]
theorem labs_nodup (D:DD):D.labs.Nodup:=Q68 .nil
theorem mem_labs {D:DD}{l:List UInt8}:l∈D.labs↔∃p∈D.puts.flatten++D.waits,p.1=l:=by
  unfold labs;rw[Z4g,List.mem_map];simp
end DD
theorem Z4h {e:Nat}:∀{ps:List J5i} {ms:List Md} {m:Md},m∈mdp ms e ps→m∈ms∨m.ep=e∧(m.l,m.x)∈ps
  |[],ms,m,h=> .inl h
  |p::ps,ms,m,h=>by
    rcases Z4h (ps:=ps) (ms:=ms++[⟨p.1,p.2,e,vct ms p.1+1⟩]) h with h|⟨h1,h2⟩
    · rcases List.mem_append.1 h with h|h
      · exact .inl h
      · rw[List.mem_singleton.1 h];exact .inr ⟨rfl,by simp⟩
    · exact .inr ⟨h1,by simp[h2]⟩
theorem Z4i:∀{r:List (List J5i)} {ms:List Md} {e:Nat} {m:Md},m∈mdS ms e r→m∈ms∨e≤m.ep∧m.ep<e+r.length∧(m.l,m.x)∈r.flatten
  |[],_,_,_,h=> .inl h
  |q::r,ms,e,m,h=>by
    rcases Z4i (r:=r) (ms:=mdp ms e q) h with h|⟨h1,h2,h3⟩
    · rcases Z4h h with h|⟨h1,h2⟩
      · exact .inl h
      · exact .inr ⟨by omega,by rw[List.length_cons];omega,by rw[List.flatten_cons];exact List.mem_append.2 (.inl h2)⟩
    · exact .inr ⟨by omega,by rw[List.length_cons];omega,by rw[List.flatten_cons];exact List.mem_append.2 (.inr h3)⟩
theorem Q7e {e:Nat}:∀{ps:List J5i} {ms:List Md},∃t,mdp ms e ps=ms++t∧(∀m∈t,m.ep=e)∧t.length=ps.length
  |[],ms=>⟨[],by simp[mdp],by simp,rfl⟩
  |p::ps,ms=>by
    obtain⟨t,h1,h2,h3⟩:=Q7e (e:=e) (ps:=ps) (ms:=ms++[⟨p.1,p.2,e,vct ms p.1+1⟩]);refine⟨_::t,by show mdp (ms++_) e ps=_;rw[h1,Ak];rfl,fun m hm=> ?_,by rw[AV,AV,h3]⟩;rcases AY.1 hm with rfl|hm
    · rfl
    · exact h2 m hm
namespace DD
theorem made_mem {D:DD}{m:Md}(h:m∈D.made):m.ep<D.puts.length∧(m.l,m.x)∈D.puts.flatten:=by
  rcases Z4i h with h|⟨_,h1,h2⟩
  · cases h
  exact⟨by omega,h2⟩
def upto (D:DD)(e:Nat):List Md:=D.made.filter fun m=>decide (m.ep≤e)
theorem upto_nxt_lt {D:DD}{e:Nat}(h:e<D.puts.length):D.nxt.upto e=D.upto e:=by
  unfold upto;rw[made_nxt];obtain⟨t,h1,h2,_⟩:=Q7e (e:=D.puts.length) (ps:=D.waits) (ms:=D.made);rw[h1,List.filter_append];have e2:t.filter (fun m=>decide (m.ep≤e))=[]:=List.filter_eq_nil_iff.2 fun m hm=>by rw[h2 m hm];simp;omega
  rw[e2,Aj]
theorem upto_all {D:DD}{e:Nat}(h:D.puts.length≤e+1):D.upto e=D.made:=by
  unfold upto;exact List.filter_eq_self.2 fun m hm=>by have:=(made_mem hm).1;simp;omega
end DD
end
end Go.Proofs.YtpljgkofbfeelaaGreatDoor

namespace Go.Proofs.YtpljgkofbfeelaaGreatDoor.S8
open Sc (LL J0k)
attribute [local irreducible] hs
def J5m (V:Nat)(L:List UInt8)(c:Nat):Nat:=lo (hs ([3,1]++lb 32 V++L++[u8 c,0]))
def candP (V:Nat)(L:List UInt8)(c:Nat):Pr:=pm (dPt (J5m V L c)) 8
def candOk (V:Nat)(L:List UInt8)(c:Nat):Bool:=dOk (J5m V L c) && !decide (candP V L c=p0)
def Z87 (V:Nat)(L:List UInt8):Nat→Nat→Option Nat
  |0,_=>none
  |f+1,c=>if candOk V L c=true then some c else Z87 V L f (c+1)
def vpt (V:Nat)(L:List UInt8):Option Nat:=Z87 V L 256 0
theorem Q1b (V:Nat)(L:List UInt8)(c:Nat):J5m V L c<2^256:=lo_lt _
theorem Q6t {V:Nat}{L:List UInt8}{r:Nat}:∀f c,Z87 V L f c=some r→r<c+f∧candOk V L r=true∧∀i,c≤i→i<r→candOk V L i=false
  |0,c,h=>by cases h
  |f+1,c,h=>by
    unfold Z87 at h
    by_cases e:candOk V L c=true
    · rw[if_pos e] at h
      obtain rfl:=Option.some.inj h;exact⟨by omega,e,fun i h1 h2=>by omega⟩
    · rw[if_neg e] at h
      obtain⟨h1,h2,h3⟩:=Q6t f (c+1) h;refine⟨by omega,h2,fun i h4 h5=> ?_⟩
      by_cases e2:i=c
      · subst e2;simpa using e
      · exact h3 i (by omega) h5
theorem Q6u {V:Nat}{L:List UInt8}:∀f c,Z87 V L f c=none→∀i,c≤i→i<c+f→candOk V L i=false
  |0,c,_,i,h1,h2=>by omega
  |f+1,c,h,i,h1,h2=>by
    unfold Z87 at h
    by_cases e:candOk V L c=true
    · rw[if_pos e] at h;cases h
    · rw[if_neg e] at h
      by_cases e2:i=c
      · subst e2;simpa using e
      · exact Q6u f (c+1) h i (by omega) (by omega)
theorem vpt_some {V r:Nat}{L:List UInt8}(h:vpt V L=some r):r<256∧candOk V L r=true∧∀i,i<r→candOk V L i=false:=by
  obtain⟨h1,h2,h3⟩:=Q6t 256 0 h;exact⟨by omega,h2,fun i hi=>h3 i (Ah _) hi⟩
theorem vpt_none {V:Nat}{L:List UInt8}(h:vpt V L=none):∀i,i<256→candOk V L i=false:=fun i hi=>Q6u 256 0 h i (Ah _) (by omega)
theorem candOk_iff {V c:Nat}{L:List UInt8}:candOk V L c=true↔dOk (J5m V L c)=true∧¬candP V L c=p0:=by
  unfold candOk;simp
theorem Z0t {V c:Nat}{L:List UInt8}(h:candOk V L c=false)(hd:dOk (J5m V L c)=true):candP V L c=p0:=by
  unfold candOk at h;rw[hd] at h;simpa using h
def chH (V:Nat)(a b c d:Pr):Nat:=hs ([3,2]++lb 32 V++lb 32 (enc a)++lb 32 (enc b)++lb 32 (enc c)++lb 32 (enc d)++[0])
def J2h:Nat:=340282366920938463463374607431768211456
def ch (V:Nat)(a b c d:Pr):Nat:=chH V a b c d % J2h
def pG (P:Nat):Nat:=P % 2^256
def pC (P:Nat):Nat:=P / 2^256 % J2h
def pN (P:Nat):Nat:=P / 2^256 / J2h
def vK' (S:Nat)(h:Pr):Nat:=hs (lb 32 (kD S)++lb 32 (enc h)) % LL
def vC (S:Nat)(h:Pr):Nat:=ch (kP S) h (pm h (kN S)) (pm BP (vK' S h)) (pm h (vK' S h))
def vN (S:Nat)(h:Pr):Nat:=(vK' S h+vC S h % LL*(kN S % LL) % LL) % LL
def vPr (S:Nat)(h:Pr):Nat:=enc (pm h (kN S))+2^256*(vC S h+J2h*vN S h)
def vSum (P:Nat):Nat:=hs ([3,3]++lb 32 (enc (pm (dPt (pG P)) 8))++[0])
def V0e (V P:Nat)(h:Pr):Prop:=ch V h (dPt (pG P)) (V9 (pm BP (pN P)) (pm (J40 (dPt V)) (pC P))) (V9 (pm h (pN P)) (pm (J40 (dPt (pG P))) (pC P)))=pC P
end Go.Proofs.YtpljgkofbfeelaaGreatDoor.S8

namespace Go.Proofs.YtpljgkofbfeelaaGreatDoor
section
namespace SH
variable {F : List Nat} {w W W' : AA} {H H' L L' R : List As} {x y : As} {i j : Nat}
def okT (L R:List As):List As→Prop
  |[]=>True
  |y::l=>(y∈L∨(y.mv=true∧R.all (tyOk y)=true)∨∃T K,y=.t T K∧R.all (fun z=>tyOk z y)=true)∧okT L R l
theorem Q90:∀{l:List As},okT L R l→∀y∈l,y∈L∨(y.mv=true∧R.all (tyOk y)=true)∨∃T K,y=.t T K∧R.all (fun z=>tyOk z y)=true
  |_::_,h,y,hy=>by
    rcases AY.1 hy with rfl|hy
    · exact h.1
    · exact Q90 h.2 y hy
theorem frameT (h:SH F w W (L++R))(h' :SH (feet L) W W' L')(ok:okT L R L'):SH F w W' (L' ++R):=by
  have hp:=List.pairwise_append.1 h.ap;have hR:∀z∈R,z.holds W:=fun z hz=>h.all z (by simp[hz]);have hL:∀x∈L,x.holds W:=fun x hx=>h.all x (by simp[hx])
  -- a block of what may turn is no block of R
  have hf:∀k,k∈feet L→∀z∈R,(∀T K,z≠ .t T K)→k∉z.foot:=fun k hk z hz hT=>by
    obtain⟨x,hx,hm,hk⟩:=mem_feet.1 hk;have:=(hp.2.2 x hx z hz).1 hm;cases z with
    |t T K=>exact absurd rfl (hT T K)
    |_=>exact this k hk
  have hl:∀y∈L',y.mv=true→∀z∈R,(∀T K,z≠ .t T K)→∀k∈y.foot,k∉z.foot:=fun y hy hm z hz hT k hk D=>
    hf k (h'.old y hy hm k hk (As.lt (hR z hz) k D)) z hz hT D
  refine⟨h.off.step h'.off fun k hk G=> ?_,fun z hz=> ?_,List.pairwise_append.2 ⟨h'.ap,hp.2.1,fun y hy z hz=>⟨fun hm=> ?_,fun hm=> ?_⟩⟩,fun z hz hm k hk G=> ?_⟩
  · obtain⟨x,hx,hm,hk⟩:=mem_feet.1 hk
    exact h.old x (by simp[hx]) hm k hk G
  · rcases Ar.1 hz with hz|hz
    · exact h'.all z hz
    refine As.keep h'.off (hR z hz) (fun k hk M=> ?_) fun T K e k M G ht=> ?_
    · cases z with
      |t T K=>cases hk
      |_=>exact hf k M _ hz (fun _ _ e=>by cases e) hk
    obtain⟨x,hx,hm,hk⟩:=mem_feet.1 M;have h1:=(hp.2.2 x hx z hz).1 hm;subst e;exact h1 ((As.tyOf (hL x hx) hm k hk).symm.trans ht)
  · rcases Q90 ok y hy with N|⟨_,J⟩|⟨T,K,e,_⟩
    · exact(hp.2.2 y N z hz).1 hm
    · cases z with
      |t T K=>have:=List.all_eq_true.1 J _ hz;simpa[tyOk,hm] using this
      |_=>exact hl y hy hm _ hz (fun _ _ e=>by cases e)
    subst e;cases hm
  · rcases Q90 ok y hy with N|⟨S,_⟩|⟨T,K,e,J⟩
    · exact(hp.2.2 y N z hz).2 hm
    · cases y with
      |t T K=>cases S
      |_=>exact fun k hk D=>hl _ hy S z hz (fun T K e=>by subst e;cases hm) k D hk
    subst e;have:=List.all_eq_true.1 J _ hz;simpa[tyOk,hm] using this
  rcases Ar.1 hz with hz|hz
  · by_cases U:k<W.heap.size
    · obtain⟨x,hx,V,D⟩:=mem_feet.1 (h'.old z hz hm k hk U)
      exact h.old x (by simp[hx]) V k D G
    have:=h.size;omega
  exact h.old z (by simp[hz]) hm k hk G
end SH
section
variable {P : Program} {f : FuncId} {args : Array AB} {F : List Nat} {w W : AA} {H L R : List As}
theorem V7m {α:Type}(I J:List Nat){V:α→Value}{L' H' :α→List As}(hS:SH F w W H)(hc:SH (SH.feet L) W W L→Calls P f args W fun e W' => ∃x,e=.returned (V x)∧SH (SH.feet L) W W' (L' x))(ok:∀x,SH.okT L R (L' x))(hI:pk H I=L:=by exact rfl)(hJ:pk H J=R:=by exact rfl)(hn:(I++J).Nodup:=by decide)(hH:∀x,L' x++R=H' x:=by exact fun _=>rfl):Calls P f args W fun e W' => ∃x,e=.returned (V x)∧SH F w W' (H' x):=by
  subst hI hJ
  have h:SH F w W (pk H I++pk H J):=hS.pick (I++J) (by
    exact Q7x H I J) hn
  exact(hc h.here).mono fun e W' ⟨x,h1,h2⟩=>⟨x,h1,by rw[←hH x];exact h.frameT h2 (ok x)⟩
end
end

section
def InF (N:List As)(f:List Nat):Prop:=∀k∈f,∃x∈N,(∀T K,x≠ .t T K)∧k∈x.foot
namespace SH
variable {F : List Nat} {w W W' : AA} {H H' L L' N R : List As} {x y : As} {i j : Nat} {f : List Nat} {K : AA → Prop} {T : Option AD}
theorem Q80 {z:As}(hx:x.mv=true)(h:x.apart z)(hy:y.mv=true)(ht:y.ty=x.ty)(hf:∀k∈y.foot,k∈x.foot):y.apart z:=by
  refine⟨fun _=> ?_,fun hm=> ?_⟩
  · have h1:=h.1 hx
    cases z with
    |t T K=>exact fun e=>h1 (ht▸e)
    |_=>exact fun k hk=>h1 k (hf k hk)
  have h2:=h.2 hm
  have h3:∀k∈z.foot,k∉x.foot:=by
    cases x with
    |t T K=>cases hx
    |_=>exact h2
  cases y with
  |t T K=>cases hy
  |_=>exact fun k hk D=>h3 k hk (hf k D)
theorem Y6c {u z:As}(hx:x.mv=true)(hy:y.mv=true)(h:x.apart z)(h' :y.apart z)(hu:u.mv=true)(tx:x.ty=u.ty)(hf:∀k∈u.foot,k∈x.foot∨k∈y.foot):u.apart z:=by
  refine⟨fun _=> ?_,fun hm=> ?_⟩
  · have h1:=h.1 hx
    have h1' :=h'.1 hy;cases z with
    |t T K=>exact fun e=>h1 (tx▸e)
    |_=>exact fun k hk=>(hf k hk).elim (h1 k) (h1' k)
  have h2:=h.2 hm;have h2' :=h'.2 hm
  have h3:∀k∈z.foot,k∉x.foot:=by
    cases x with
    |t T K=>cases hx
    |_=>exact h2
  have h3' :∀k∈z.foot,k∉y.foot:=by
    cases y with
    |t T K=>cases hy
    |_=>exact h2'
  cases u with
  |t T K=>cases hu
  |_=>exact fun k hk D=>(hf k D).elim (h3 k hk) (h3' k hk)
theorem asM (h:SH F w W (x::H))(hx:x.mv=true)(hy:y.mv=true)(ht:y.ty=x.ty)(hz:y.holds W)(hf:∀k∈y.foot,k∈x.foot):SH F w W (y::H):=by
  have hp:=List.pairwise_cons.1 h.ap;refine⟨h.off,fun z D=> ?_,List.pairwise_cons.2 ⟨fun z D=>Q80 hx (hp.1 z D) hy ht hf,hp.2⟩,fun z D hm k hk G=> ?_⟩
  · rcases AY.1 D with rfl|D
    · exact hz
    exact h.all z (List.mem_cons_of_mem _ D)
  rcases AY.1 D with rfl|D
  · exact h.old x (BI ..) hx k (hf k hk) G
  exact h.old z (List.mem_cons_of_mem _ D) hm k hk G
theorem merge (h:SH F w W (x::y::H))(hx:x.mv=true)(hy:y.mv=true)(tx:x.ty=T)(hz:(As.m T f K).holds W)(hf:∀k∈f,k∈x.foot∨k∈y.foot):SH F w W (.m T f K::H):=by
  have hp:=List.pairwise_cons.1 h.ap;have J:=List.pairwise_cons.1 hp.2;refine⟨h.off,fun z D=> ?_,List.pairwise_cons.2 ⟨fun z D=>Y6c hx hy (hp.1 z (List.mem_cons_of_mem _ D)) (J.1 z D) rfl tx hf,J.2⟩,fun z D hm k hk G=> ?_⟩
  · rcases AY.1 D with rfl|D
    · exact hz
    exact h.all z (List.mem_cons_of_mem _ (List.mem_cons_of_mem _ D))
  rcases AY.1 D with rfl|D
  · rcases hf k hk with hk|hk
    · exact h.old x (BI ..) hx k hk G
    exact h.old y (by simp) hy k hk G
  exact h.old z (by simp[D]) hm k hk G
theorem split {u:As}(h:SH F w W (u::H))(hu:u.mv=true)(hx:x.holds W)(hy:y.holds W)(mx:x.mv=true)(my:y.mv=true)(tx:x.ty=u.ty)(ty:y.ty=u.ty)(fx:∀k∈x.foot,k∈u.foot)(fy:∀k∈y.foot,k∈u.foot)(dj:∀k∈x.foot,k∉y.foot):SH F w W (x::y::H):=by
  have hp:=List.pairwise_cons.1 h.ap;refine⟨h.off,fun z D=> ?_,List.pairwise_cons.2 ⟨fun z D=> ?_,List.pairwise_cons.2 ⟨fun z D=>Q80 hu (hp.1 z D) my ty fy,hp.2⟩⟩,fun z D hm k hk G=> ?_⟩
  · rcases AY.1 D with rfl|D
    · exact hx
    rcases AY.1 D with rfl|D
    · exact hy
    exact h.all z (List.mem_cons_of_mem _ D)
  · rcases AY.1 D with rfl|D
    · refine⟨fun _=> ?_,fun _=> ?_⟩
      · cases z with
        |t T K=>cases my
        |_=>exact dj
      cases x with
      |t T K=>cases mx
      |_=>exact fun k hk J=>dj k J hk
    exact Q80 hu (hp.1 z D) mx tx fx
  rcases AY.1 D with rfl|D
  · exact h.old u (BI ..) hu k (fx k hk) G
  rcases AY.1 D with rfl|D
  · exact h.old u (BI ..) hu k (fy k hk) G
  exact h.old z (List.mem_cons_of_mem _ D) hm k hk G
theorem mnil (T:Option AD)(h:SH F w W H)(hz:(As.m T [] K).holds W)(ht:H.all (fun y=>tyOk (.m T [] K) y)=true):SH F w W (.m T [] K::H):=h.new (Off.refl _ _) hz (fun k hk=>by cases hk) rfl ht
theorem foldF (h:SH F w W (N++R))(hz:(As.p f K).holds W)(hf:InF N f):SH F w W (.p f K::R):=by
  have hp:=List.pairwise_append.1 h.ap;refine⟨h.off,fun z D=> ?_,List.pairwise_cons.2 ⟨fun z D=>⟨fun e=>(by cases e),fun hm k hk M=> ?_⟩,hp.2.1⟩,fun z D hm k hk J=> ?_⟩
  · rcases AY.1 D with rfl|D
    · exact hz
    exact h.all z (by simp[D])
  · obtain⟨x,hx,ht,G⟩:=hf k M
    have h2:=(hp.2.2 x hx z D).2 hm;cases x with
    |t T K=>exact ht T K rfl
    |_=>exact h2 k hk G
  rcases AY.1 D with rfl|D
  · cases hm
  exact h.old z (by simp[D]) hm k hk J
theorem feet_p:feet (L++[.p f K])=feet L:=by
  unfold feet;rw[List.filter_append,List.flatMap_append];show _++[]=_;rw[Aj]
theorem hereP (h:SH F w W (L++(N++R)))(hz:(As.p f K).holds W)(hf:InF N f):SH (feet (L++[.p f K])) W W (L++[.p f K]):=by
  rw[feet_p];have h0:=h.here;have hp:=List.pairwise_append.1 h.ap;refine⟨h0.off,fun z D=> ?_,List.pairwise_append.2 ⟨h0.ap,List.pairwise_singleton ..,fun z D y hy=> ?_⟩,fun z D hm k hk J=> ?_⟩
  · rcases Ar.1 D with D|D
    · exact h0.all z D
    rw[Ae.1 D];exact hz
  · rw[Ae.1 hy]
    refine⟨fun hm k hk M=> ?_,fun e=>by cases e⟩;obtain⟨x,hx,ht,G⟩:=hf k M;have h2:=(hp.2.2 z D x (by simp[hx])).1 hm;cases x with
    |t T K=>exact ht T K rfl
    |_=>exact h2 k hk G
  rcases Ar.1 D with D|D
  · exact h0.old z D hm k hk J
  rw[Ae.1 D] at hm;cases hm
end SH
section
variable {P : Program} {g : FuncId} {args : Array AB} {F : List Nat} {w W : AA} {H L N R : List As}
end
end
end Go.Proofs.YtpljgkofbfeelaaGreatDoor

namespace Go.Proofs.YtpljgkofbfeelaaGreatDoor.S8
section
set_option maxHeartbeats 1000000
attribute [local irreducible] wpList Z9 wpX
variable {kn : Kn}
open Sc (LL J0k)
attribute [local irreducible] hs
structure PQ where
 X:Nat
 Y:Nat
 Z:Nat
 T:Nat
 a:Pr
abbrev pq4 (q:PQ):Array AB:=p4 q.X q.Y q.Z q.T
theorem p4z {X Y Z T:Nat}:(p4 X Y Z T).size=16:=rfl
def pqC (q:PQ):List AB:=(pq4 q).toList
def bvF (bs:List (AB×List UInt8)):List Nat:=bs.flatMap fun b=>(sb b.1 b.2).toList
def bvK (bs:List (AB×List UInt8))(W:AA):Prop:=∀b∈bs,Sl W b.1 b.2
abbrev bvT (bs:List (AB×List UInt8)):As:=.p (bvF bs) (bvK bs)
abbrev bv1 (b:AB×List UInt8):List AB:=[b.1]
theorem Q6v {bs:List (AB×List UInt8)}{w:AA}(h:bvK bs w):(bvT bs).holds w:=by
 refine⟨h,fun k hk=> ?_,fun W' _ e b hb=>J77 (h b hb) fun k hk=>e k (List.mem_flatMap.2 ⟨b,hb,by rw[hk];simp⟩)⟩;obtain⟨b,hb,h1⟩:=List.mem_flatMap.1 hk;exact Sl.lt (h b hb) k (As.mem_toList h1)
theorem Y3f {W:AA}{p V:Nat}(h:Blk W p (J0 .u8 32 (J2 V)) 23):Sl W (.slice (some ⟨p,0,none⟩) 32 32) (lb 32 V):=Q7 (V:=V) (n:=32) (off:=0) (c:=32) h ap0 (by decide) (by decide)
theorem Y3g {p n c k:Nat}{l:List UInt8}(h:k∈(sb (.slice (some ⟨p,0,none⟩) n c) l).toList):k=p:=by
 unfold sb at h
 split at h
 ·
  cases h
 simpa[AB.ownBlock,eq_comm] using h
theorem Y3h {F:List Nat}{w W:AA}{e p V:Nat}{u:AB}{l:List UInt8}(h:SH F w W [.b e #[u,.slice (some ⟨p,0,none⟩) 32 32] 22,.o u l,.b p (J0 .u8 32 (J2 V)) 23]):
  SH F w W [.r 22 1 (.slice (some ⟨e,0,none⟩) 2 2) ([(u,l),(.slice (some ⟨p,0,none⟩) 32 32,lb 32 V)].map bv1),bvT [(u,l),(.slice (some ⟨p,0,none⟩) 32 32,lb 32 V)]]:=by
 have h1:=h.b2r (k:=1) (es:=[(u,l),(.slice (some ⟨p,0,none⟩) 32 32,lb 32 V)].map bv1) (n:=2) (by rfl) (by intro e he;obtain⟨b,_,rfl⟩:=List.mem_map.1 he;rfl) rfl (by decide);have ho:=(h1.own (i:=1) rfl).sl;have hb:=Y3f (h1.blk (i:=2) rfl);have h3:=SH.foldF (N:=[.o u l,.b p (J0 .u8 32 (J2 V)) 23]) (R:=[.r 22 1 (.slice (some ⟨e,0,none⟩) 2 2) ([(u,l),(.slice (some ⟨p,0,none⟩) 32 32,lb 32 V)].map bv1)]) (h1.pick [1,2,0]) (Q6v (bs:=[(u,l),(.slice (some ⟨p,0,none⟩) 32 32,lb 32 V)]) fun b D=> ?_) fun k hk=> ?_
 ·
  exact h3.pick [1,0]
 ·
  rcases AY.1 D with rfl|D
  ·
   exact ho
  rw[Ae.1 D];exact hb
 obtain⟨b,D,h4⟩:=List.mem_flatMap.1 hk;rcases AY.1 D with rfl|D
 ·
  exact⟨.o u l,by simp,fun T K e=>(by cases e),by rw[show(As.o u l).foot=u.ownBlock.toList from rfl,J3d (As.mem_toList h4)];simp⟩
 rw[Ae.1 D] at h4;exact⟨.b p (J0 .u8 32 (J2 V)) 23,by simp,fun T K e=>(by cases e),by rw[Y3g h4];simp[As.foot]⟩
theorem Y7q {F:List Nat}{w W:AA}{H:List As}{p U:Nat}{bs:List (AB×List UInt8)}(h:SH F w W (.b p (J0 .u8 32 (J2 U)) 23::bvT bs::H)):SH F w W (bvT (bs++[(.slice (some ⟨p,0,none⟩) 32 32,lb 32 U)])::H):=by
 have hb:=Y3f (h.blk (i:=0) rfl);have h3:bvK bs W:=(h.at_ (i:=1) rfl).1;refine SH.foldF (N:=[.b p (J0 .u8 32 (J2 U)) 23,bvT bs]) h (Q6v fun b D=> ?_) fun k hk=> ?_
 ·
  rcases Ar.1 D with D|D
  ·
   exact h3 b D
  rw[Ae.1 D];exact hb
 obtain⟨b,D,h4⟩:=List.mem_flatMap.1 hk;rcases Ar.1 D with D|D
 ·
  exact⟨bvT bs,by simp,fun T K e=>(by cases e),List.mem_flatMap.2 ⟨b,D,h4⟩⟩
 rw[Ae.1 D] at h4;exact⟨.b p (J0 .u8 32 (J2 U)) 23,by simp,fun T K e=>(by cases e),by rw[Y3g h4];simp[As.foot]⟩
def mkP (V:Nat)(qs:List PQ):List (List UInt8):=[3,2]::lb 32 V::qs.map fun q=>lb 32 (enc q.a)
theorem Y3i {V:Nat}{qs:List PQ}{i:Nat}{q:PQ}(h:qs[i]?=some q):mkP V (qs.take i)++[lb 32 (enc q.a)]=mkP V (qs.take (i+1)):=by
 unfold mkP;rw[List.take_add_one,h,BU];rfl
theorem Z0u {W:AA}{v u:AB}{bs:List (AB×List UInt8)}(hr:Row 22 1 W v (bs.map bv1++[[u]]))(hb:bvK bs W){l:List UInt8}(hu:Sl W u l):
  ∃A c,v=.slice A (bs.map (·.2)++[l]).length c∧∀(i:Nat)(x:List UInt8),(bs.map (·.2)++[l])[i]?=some x→∃ad y,A=some ad∧W.cell? (ad.add i)=some y∧Sl W y x:=by
 have e:bs.map bv1++[[u]]=(bs++[(u,l)]).map bv1:=by rw[BU];rfl
 have e2:bs.map (·.2)++[l]=(bs++[(u,l)]).map (·.2):=by rw[BU];rfl
 have hk:bvK (bs++[(u,l)]) W:=fun b D=>(Ar.1 D).elim (hb b) fun h=>by rw[Ae.1 h];exact hu
 rw[e] at hr;rw[e2];obtain⟨A,c,hv,h1,h0,h2⟩:=hr.rr;rw[BS] at hv;refine⟨A,c,by rw[BS];exact hv,fun i x hx=> ?_⟩;rw[BO] at hx;cases hq:(bs++[(u,l)])[i]? with
 |none=>rw[hq] at hx;cases hx
 |some b=>
  rw[hq] at hx;obtain rfl:=Option.some.inj hx;obtain⟨g,o,rfl,hc⟩:=h2 i (bv1 b) (by rw[BO,hq];rfl);exact⟨_,b.1,rfl,by rw[Addr.add_mid];have h3:=hc 0 b.1 rfl;rw[Nat.mul_one,Nat.add_zero] at h3;exact h3,hk b (At hq)⟩
theorem K0t {W:AA}{A:Option Addr}{n c i g o:Nat}{qs:List PQ}{y:PQ}(h:RR 16 W (.slice A n c) (qs.map pqC))(yh:qs[i]?=some y)(hA:A=some ⟨g,o,none⟩):∀(j:Nat) (v:AB),(pq4 y)[j]?=some v→W.cell? ⟨g,o+i*16+j,none⟩=some v:=fun j v hv=>
 RR.cellat h (by rw[BO,yh];rfl) hA j v (by unfold pqC;rw[Array.getElem?_toList];exact hv)

theorem V5h (qs:List PQ):((qs.map fun q=>lb 32 (enc q.a)).flatten).length=32*qs.length:=by
 induction qs with
 |nil=>rfl
 |cons q r ih=>rw[AX,An,Ai,J7,ih,AV];omega
theorem V58 {V X:Nat}{qs:List PQ}{v:AB}(hq:∀q∈qs,RN q.X q.Y q.Z q.T q.a)(hn:qs.length≤1000)(hX:RowKit.Hid (X=hs ([3,2]++lb 32 V++(qs.map fun q=>lb 32 (enc q.a)).flatten++[0])))(w:AA)(hG:GA kn w)(hr:RR 16 w v (qs.map pqC)):
  Az Tryz.prog 58 #[.agg (J0 .u8 32 (J2 V)),v] w fun e w' => ∃p,e=.returned (.slice (some ⟨p,0,none⟩) 16 64)∧SH [] w w' [.b p (J0 .u8 64 (J2 X)) 67]:=by
 obtain⟨Aq,cq,rfl,θ,δ⟩:=RR.opf hr;have hS:=SH.nil [] w
 go_enter Tryz.func58,Tryz.ntmps58
 go_upto_region 0 with fail;refine RL hS ?_;clear hS;refine MN (z:=J0 .u8 32 (J2 V)) (t:=23) ?_;intro K9;refine MV ?_;refine MZ fun W hS=> ?_;go_upto_region 1 with fail;refine RL hS ?_;clear hS;refine MO (m:=[3,2]) (n:=2) (z:= #[.int .u8 3,.int .u8 2]) ?_;intro γ;refine MW ?_ (v:=.slice (some ⟨K9,0,none⟩) 32 32);refine MB (z:= #[γ,.slice (some ⟨K9,0,none⟩) 32 32]) (t:=22) (n:=2) (c:=2) ?_ (hr:=fun W hS=>Y0 [γ,.slice (some ⟨K9,0,none⟩) 32 32] rfl rfl (vsc (J6 (hS.osl (i:=0) rfl)).1 (vsc (J6 (Q7 (V:=V) (n:=32) (off:=0) (c:=32) (hS.blk (i:=1) rfl) ap0 (by decide) (by decide))).1 vs0)) Tryz.underlying155 (by kernel_rfl) (by kernel_rfl) rfl (by decide) (by decide));intro κ;refine MV ?_;refine MZ fun W hS=> ?_;go_upto_region 2 with fail;refine RL hS ?_;clear hS;refine MV ?_;refine MV ?_;refine W0 ?_;refine MZ fun W hS=> ?_;have hS:=hS.pick [0,1,2];have hS:=Y3h hS
 go_wp2_with fail
 go_loopw [5,15] (fun rr ii wr=> ∃(i:Nat)(bs:List (AB×List UInt8)) (rv:AB),(i≤qs.length)∧(RowKit.Hid (bs.map (·.2)=mkP V (qs.take i)))∧(rv=rr)∧(ii=.int .i64 (i:Int))∧SH [] w wr [.r 22 1 rv (List.map bv1 bs),bvT bs])
  (fun rr ii _=>qs.length-(intOf ii).toNat)
 case atStart=>exact⟨0,_,_,Ah _,Lib.hid rfl,rfl,rfl,hS⟩
 clear hS
 case round=>
  obtain⟨i,bs,rv,hi,G,rfl,rfl,hS⟩:=hrel;have σ:bs.length≤1002:=by have h_:=congrArg List.length G.out;unfold mkP at h_;simp only[BS,AV,BT] at h_;omega
  by_cases J:i<qs.length
  ·
   obtain⟨y,yh⟩:∃y,qs[i]?=some y:=⟨_,List.getElem?_eq_getElem J⟩
   have η:=hq y (At yh);obtain⟨ζ,ε,β,_⟩:=δ.out i y yh;have α:=Lib.hid β;clear β;obtain⟨U,hU⟩:=exn (enc y.a);have bU:U<2^256:=by rw[hU];exact J8k _
   have HU:=Lib.hid hU;clear hU;go_upto_region 3 with fail;refine RL hS ?_;clear hS;refine Wt ?_;refine MZ fun W hS=> ?_;go_upto_region 4 with fail;refine RL hS ?_;clear hS;refine MW ?_ (v:=.pointer (some ⟨ζ,ε+i*16,none⟩)) (hv:=fun _=>J0m α.out J rfl rfl rfl Tryz.underlying205 (by kernel_rfl));refine MF (v:=.agg (p4 y.X y.Y y.Z y.T)) (fun W hS=>V4 rfl rfl (fun i_ v hv=>J19 ((K0t hr yh α.out) i_ v (by simpa using hv)) hS.ext) (by kernel_rfl) (by rw[p4z];kernel_rfl)) ?_;refine MN (z:=p4 0 0 0 0) (t:=140) ?_;intro τ;refine MR 0 ?_ (hz:=by rw[p4z];kernel_rfl) (hs:=by first|rw[p4z,p4z]|rw[p4z]|kernel_rfl);refine MZ fun W hS=> ?_;go_upto_region 5 with fail;refine RL hS ?_;clear hS;refine ML 0 ?_ (hs:=by rw[p4z];kernel_rfl);refine MC (v:=.agg (J0 .u8 32 (J2 U))) (fun W hS=>Q59 (η.rw) HU.out W (GA_ext hG hS.ext).1) ?_;refine MN (z:=J0 .u8 32 (J2 0)) (t:=23) ?_;intro D;refine MR 0 ?_;refine MZ fun W hS=> ?_;go_upto_region 6 with fail;refine RL hS ?_;clear hS;refine MV ?_;refine MW ?_ (v:=.slice (some ⟨D,0,none⟩) 32 32);refine MB (z:= #[.slice (some ⟨D,0,none⟩) 32 32]) (t:=22) (n:=1) (c:=1) ?_ (hr:=fun W hS=>Y0 [.slice (some ⟨D,0,none⟩) 32 32] rfl rfl (vsc (J6 (Q7 (V:=U) (n:=32) (off:=0) (c:=32) (hS.blk (i:=0) rfl) ap0 (by decide) (by decide))).1 vs0) Tryz.underlying155 (by kernel_rfl) (by kernel_rfl) rfl (by decide) (by decide));intro ν;refine K8 (fun W hS=>(J6 (Q7 (V:=U) (n:=32) (off:=0) (c:=32) (hS.blk (i:=1) rfl) ap0 (by decide) (by decide))).2) ?_;intro S;refine MAr 3 0 (tS:=155) (bytes:=24) (es:=(List.map bv1 bs)) (by first|omega|decide|(rw[BS];omega)|(simp only[Ai,BS,AV,Al];omega)) (e:=([.slice (some ⟨D,0,none⟩) 32 32]:List AB)) (h1:=Z28 S) ?_;intro μ;refine MV ?_;refine MZ fun W hS=> ?_;have hS:=(hS.pick [1,4,3])
   have hS:=Y7q hS;go_wp2;go_roundw
   case rel=>exact⟨(i+1),(bs++[(.slice (some ⟨D,0,none⟩) 32 32,lb 32 U)]),_,by omega,Lib.hid (by rw[BU,G.out,HU.out];exact Y3i yh),rfl,by go_num,(by have h_:=hS.pick [1,0];rw[BU];exact h_)⟩
   case measure=>simp[intOf];omega
  obtain rfl:i=qs.length:=by omega
  rw[List.take_length] at G;go_upto_region 3 with fail;refine RL hS ?_;clear hS;refine Wf ?_;refine MZ fun W hS=> ?_;go_upto_region 8 with fail;refine RL hS ?_;clear hS;refine MV ?_;refine MO (m:=[0]) (n:=1) (z:= #[.int .u8 0]) ?_;intro R;refine MB (z:= #[R]) (t:=22) (n:=1) (c:=1) ?_ (hr:=fun W hS=>Y0 [R] rfl rfl (vsc (J6 (hS.osl (i:=0) rfl)).1 vs0) Tryz.underlying155 (by kernel_rfl) (by kernel_rfl) rfl (by decide) (by decide));intro ξ;refine K8 (fun W hS=>(J6 (hS.osl (i:=1) rfl)).2) ?_;intro N;refine MAr 2 0 (tS:=155) (bytes:=24) (es:=(List.map bv1 bs)) (by first|omega|decide|(rw[BS];omega)|(simp only[Ai,BS,AV,Al];omega)) (e:=([R]:List AB)) (h1:=Z28 N) ?_;intro ρ;refine K8 (fun W hS=>(Z0u (l:=[0]) (hS.row (i:=2) rfl) (hS.at_ (i:=3) (x:=bvT bs) rfl).1 (hS.own (i:=1) rfl).sl).imp fun A h=>h.imp fun c h=>h.1) ?_;rintro⟨A_,c_,rfl⟩;refine MC (v:=.agg (J0 .u8 64 (J2 X))) (fun W hS=>J7m hX.out (bs.map (·.2)++[[0]]) A_ c_ (by rw[G.out];unfold mkP;simp) (by simp only[Ai,AV,Al,J7,V5h];omega) (by rw[G.out];unfold mkP;simp;omega) W (by obtain⟨A,c,h1,h2⟩:=Z0u (l:=[0]) (hS.row (i:=2) rfl) (hS.at_ (i:=3) (x:=bvT bs) rfl).1 (hS.own (i:=1) rfl).sl;injection h1 with h1;subst h1;exact h2) (GA_ext hG hS.ext).2.1) ?_;refine MN (z:=J0 .u8 64 (J2 0)) (t:=67) ?_;intro M;refine MR 0 ?_;refine MZ fun W hS=> ?_;go_upto_region 9 with fail;refine RL hS ?_;clear hS;refine MW ?_ (v:=.slice (some ⟨M,0,none⟩) 16 64);refine MV ?_;refine MZ fun W hS=> ?_;go_wp2;exact BC (v:=.slice (some ⟨M,0,none⟩) 16 64) (by simp only[results,Tryz.results58];go_simp) rfl ⟨M,rfl,hS.pick [0]⟩
end

section
set_option maxHeartbeats 2000000
attribute [local irreducible] wpList Z9 wpX
variable {kn : Kn}
open Sc (LL J0k)
attribute [local irreducible] hs
theorem Q5a {A B:Nat}{v:AB}{w:AA}(h:A=B)(c:Az Tryz.prog 95 #[.agg (J0 .u8 32 (J2 B))] w fun e w' =>V5 v w w' e):Az Tryz.prog 95 #[.agg (J0 .u8 32 (J2 A))] w fun e w' =>V5 v w w' e:=h▸c
theorem Z3b {w:AA}{o:Oper}{a:Act}{x y:AS}{t t' :AD}{i n:Nat}{c:Bool}(hc:decide (i<n)=c)(ho:o.op=.binOp .lss t x y t')(hx:a.eval x=.int .i64 (i:Int))(hy:a.eval y=.int .i64 (n:Int)):(AQ a.eval o).run Tryz.prog w=.ok (.value (.bool c)) w:=by
 have e:decide ((i:Int)<(n:Int))=c:=by rw[←hc];exact decide_eq_decide.2 Int.ofNat_lt
 simp only[AQ,ho,hx,hy,eqGuard,binOp,Ad];simp[e,hc,go_sem,Ad]
theorem Z3c {w:AA}{o:Oper}{a:Act}{x:AS}{i:Nat}(ho:o.op=.convert 3 5 x)(hx:a.eval x=.int .i64 (i:Int)):(AQ a.eval o).run Tryz.prog w=.ok (.value (.int .u8 ((u8 i).toNat:Int))) w:=by
 rw[J62,show((i:Int) % 256)=w8 (i:Int) from(AG.wrap_u8 _).symm];exact J3a ho hx

theorem Z38 (hc:kn.c){V:Nat}{L:List UInt8}(hL:L.length≤1099511627776)(c0:Nat)(h256:c0<256)(hok:candOk V L c0=true)(hlow:∀i,i<c0→candOk V L i=false):
  ∃X Y Z T,RN X Y Z T (candP V L c0)∧∀v w,GA kn w→Sl w v L→Az Tryz.prog 51 #[.agg (J0 .u8 32 (J2 V)),v] w fun e w' =>V5 (.tuple #[.agg (p4 X Y Z T),.int .i64 0]) w w' e:=by
 obtain⟨ψ,Δ,ν,θ⟩:=J8g (kn:=kn) hc (Q1b V L c0) (candOk_iff.1 hok).1;obtain⟨φ,β⟩:=exn (J5m V L c0 % 2^255);rw[←β] at ν θ;clear β;obtain⟨δ,U,α,ε,N,Γ⟩:=J6z (kn:=kn) ν.rw;replace N:RN δ U α ε (candP V L c0):=N;refine⟨δ,U,α,ε,N,fun v w hG M=> ?_⟩;have hS:=SH.nil [] w
 go_enter Tryz.func51,Tryz.ntmps51
 go_upto_region 0 with fail;refine RL hS ?_;clear hS;refine MN (z:=J0 .u8 32 (J2 V)) (t:=23) ?_;intro K9;refine MN (z:=p4 0 0 0 0) (t:=140) ?_;intro ω;refine W0 ?_;refine MZ fun W hS=> ?_
 go_wp2_with fail
 go_loopw [10] (fun ii wr=> ∃(i:Nat),(i≤c0)∧(ii=.int .i64 (i:Int))∧SH [] w wr [.b ω (p4 0 0 0 0) 140,.b K9 (J0 .u8 32 (J2 V)) 23])
  (fun ii _=>(256-intOf ii).toNat)
 case atStart=>exact⟨0,Ah _,rfl,hS⟩
 clear hS
 case round=>
  obtain⟨i,hi,rfl,hS⟩:=hrel;go_upto_region 2 with fail;refine RL hS ?_;clear hS;refine MW ?_ (v:=.bool true) (hv:=by intro W;exact Z3b (i:=i) (n:=256) (decide_eq_true (by omega)) rfl rfl rfl);refine MZ fun W hS=> ?_
  by_cases γ:i=c0
  ·
   subst γ;have D:=(candOk_iff.1 hok).1;have Ξ:=(candOk_iff.1 hok).2;go_upto_region 4 with fail;refine RL hS ?_;clear hS;refine MO (m:=[3,1]) (n:=2) (z:= #[.int .u8 3,.int .u8 1]) ?_;intro κ;refine MW ?_ (v:=.slice (some ⟨K9,0,none⟩) 32 32);refine MV ?_;refine MV ?_;refine MW ?_ (v:=.int .u8 ((UInt8.ofNat i).toNat:Int)) (hv:=by intro W;exact Z3c rfl rfl);refine MO (m:=[UInt8.ofNat i,0]) (n:=2) (z:= #[.int .u8 ((UInt8.ofNat i).toNat:Int),.int .u8 0]) ?_;intro ζ;refine MB (z:= #[κ,.slice (some ⟨K9,0,none⟩) 32 32,v,ζ]) (t:=22) (n:=4) (c:=4) ?_ (hr:=fun W hS=>Y0 [κ,.slice (some ⟨K9,0,none⟩) 32 32,v,ζ] rfl rfl (vsc (J6 (hS.osl (i:=1) rfl)).1 (vsc (J6 (Q7 (V:=V) (n:=32) (off:=0) (c:=32) (hS.blk (i:=3) rfl) ap0 (by decide) (by decide))).1 (vsc (J6 (K4 M hS.ext)).1 (vsc (J6 (hS.osl (i:=0) rfl)).1 vs0)))) Tryz.underlying155 (by kernel_rfl) (by kernel_rfl) rfl (by decide) (by decide));intro χ;obtain⟨U1,ρ⟩:=exh (hs ([3,1]++(lb 32 V)++L++[UInt8.ofNat i,0]));refine MC (v:=.agg (J0 .u8 64 (J2 U1))) (fun W hS=>J7m ρ.out [[3,1],lb 32 V,L,[UInt8.ofNat i,0]] (some ⟨χ,0,none⟩) 4 (by simp only[An,List.flatten_nil,Aj,BM,Ak,BK]) (by first|omega|(simp only[Ai,AV,Al,J7];omega)) (by simp) W (J0c (hS.blk (i:=0) rfl) (pvc (hS.osl (i:=2) rfl) (pvc (Q7 (V:=V) (n:=32) (off:=0) (c:=32) (hS.blk (i:=4) rfl) ap0 (by decide) (by decide)) (pvc (K4 M hS.ext) (pvc (hS.osl (i:=1) rfl) pv0))))) (GA_ext hG hS.ext).2.1) ?_;refine MN (z:=J0 .u8 64 (J2 0)) (t:=67) ?_;intro ξ;refine MR 0 ?_;refine MZ fun W hS=> ?_;go_upto_region 5 with fail;refine RL hS ?_;clear hS;refine MW ?_ (v:=.slice (some ⟨ξ,0,none⟩) 32 64);refine MW ?_ (v:=.pointer (some ⟨ξ,0,none⟩)) (hv:=by intro W;first|rfl|(go_simp;done)|(go_simp;with_reducible rfl));refine Ml 0 Z32 ?_;have G:lo U1=J5m V L i:=by rw[ρ.out];rfl
   refine MC (v:=.tuple #[.agg (p4 ψ φ 1 Δ),.int .i64 0]) (fun W hS=>Q5a G (θ W (GA_ext hG hS.ext).1)) ?_;refine MV ?_;refine MV ?_;refine W0 ?_;refine MN (z:=p4 0 0 0 0) (t:=140) ?_;intro Ω;refine MR 0 ?_;refine W0 ?_;refine MZ fun W hS=> ?_;go_upto_region 7 with fail;refine RL hS ?_;clear hS;refine ML 0 ?_;refine MC (v:=.agg (p4 δ U α ε)) (fun W hS=>Γ W (GA_ext hG hS.ext).1) ?_;refine MR 0 ?_;refine MZ fun W hS=> ?_;go_upto_region 8 with fail;refine RL hS ?_;clear hS;refine ML 0 ?_;refine MW ?_ (v:=.agg (p4 0 0 0 0)) (hv:=by intro W;kernel_rfl);have J:=Q14 (kn:=kn) N.rw J9a;rw[show decide (candP V L i=p0)=false from decide_eq_false Ξ] at J;refine MC (v:=.bool false) (fun W hS=>J W (GA_ext hG hS.ext).1) ?_;refine Wt ?_;refine MZ fun W hS=> ?_;go_upto_region 9 with fail;refine RL hS ?_;clear hS;refine ML 0 ?_;refine MR 5 ?_;refine W0 ?_;refine MZ fun W hS=> ?_;go_wp2;exact BC (Y7 rfl rfl rfl (hS.blk (i:=5) rfl) (by kernel_rfl) (by kernel_rfl)) rfl ⟨rfl,hS.ext⟩
  have τ:=hlow i (by omega);go_upto_region 4 with fail;refine RL hS ?_;clear hS;refine MO (m:=[3,1]) (n:=2) (z:= #[.int .u8 3,.int .u8 1]) ?_;intro η;refine MW ?_ (v:=.slice (some ⟨K9,0,none⟩) 32 32);refine MV ?_;refine MV ?_;refine MW ?_ (v:=.int .u8 ((UInt8.ofNat i).toNat:Int)) (hv:=by intro W;exact Z3c rfl rfl);refine MO (m:=[UInt8.ofNat i,0]) (n:=2) (z:= #[.int .u8 ((UInt8.ofNat i).toNat:Int),.int .u8 0]) ?_;intro σ;refine MB (z:= #[η,.slice (some ⟨K9,0,none⟩) 32 32,v,σ]) (t:=22) (n:=4) (c:=4) ?_ (hr:=fun W hS=>Y0 [η,.slice (some ⟨K9,0,none⟩) 32 32,v,σ] rfl rfl (vsc (J6 (hS.osl (i:=1) rfl)).1 (vsc (J6 (Q7 (V:=V) (n:=32) (off:=0) (c:=32) (hS.blk (i:=3) rfl) ap0 (by decide) (by decide))).1 (vsc (J6 (K4 M hS.ext)).1 (vsc (J6 (hS.osl (i:=0) rfl)).1 vs0)))) Tryz.underlying155 (by kernel_rfl) (by kernel_rfl) rfl (by decide) (by decide));intro Θ;obtain⟨U2,S⟩:=exh (hs ([3,1]++(lb 32 V)++L++[UInt8.ofNat i,0]));refine MC (v:=.agg (J0 .u8 64 (J2 U2))) (fun W hS=>J7m S.out [[3,1],lb 32 V,L,[UInt8.ofNat i,0]] (some ⟨Θ,0,none⟩) 4 (by simp only[An,List.flatten_nil,Aj,BM,Ak,BK]) (by first|omega|(simp only[Ai,AV,Al,J7];omega)) (by simp) W (J0c (hS.blk (i:=0) rfl) (pvc (hS.osl (i:=2) rfl) (pvc (Q7 (V:=V) (n:=32) (off:=0) (c:=32) (hS.blk (i:=4) rfl) ap0 (by decide) (by decide)) (pvc (K4 M hS.ext) (pvc (hS.osl (i:=1) rfl) pv0))))) (GA_ext hG hS.ext).2.1) ?_;refine MN (z:=J0 .u8 64 (J2 0)) (t:=67) ?_;intro R;refine MR 0 ?_;refine MZ fun W hS=> ?_
  by_cases D:dOk (J5m V L i)=true
  ·
   go_upto_region 5 with fail;refine RL hS ?_;clear hS;refine MW ?_ (v:=.slice (some ⟨R,0,none⟩) 32 64);refine MW ?_ (v:=.pointer (some ⟨R,0,none⟩)) (hv:=by intro W;first|rfl|(go_simp;done)|(go_simp;with_reducible rfl));refine Ml 0 Z32 ?_;have G:lo U2=J5m V L i:=by rw[S.out];rfl
   obtain⟨dx,dt,dr,dc⟩:=J8g (kn:=kn) hc (Q1b V L i) D;obtain⟨dy,μ⟩:=exn (J5m V L i % 2^255);rw[←μ] at dr dc;clear μ;refine MC (v:=.tuple #[.agg (p4 dx dy 1 dt),.int .i64 0]) (fun W hS=>Q5a G (dc W (GA_ext hG hS.ext).1)) ?_;refine MV ?_;refine MV ?_;refine W0 ?_;refine MN (z:=p4 0 0 0 0) (t:=140) ?_;intro D0;refine MR 0 ?_;refine W0 ?_;refine MZ fun W hS=> ?_;go_upto_region 7 with fail;refine RL hS ?_;clear hS;refine ML 0 ?_;obtain⟨ex,ey,ez,et,er,ec⟩:=J6z (kn:=kn) dr.rw;refine MC (v:=.agg (p4 ex ey ez et)) (fun W hS=>ec W (GA_ext hG hS.ext).1) ?_;refine MR 0 ?_;refine MZ fun W hS=> ?_;go_upto_region 8 with fail;refine RL hS ?_;clear hS;refine ML 0 ?_;refine MW ?_ (v:=.agg (p4 0 0 0 0)) (hv:=by intro W;kernel_rfl);have J:=Q14 (kn:=kn) er.rw J9a;rw[show decide (pm (dPt (J5m V L i)) 8=p0)=true from decide_eq_true (Z0t τ D)] at J;refine MC (v:=.bool true) (fun W hS=>J W (GA_ext hG hS.ext).1) ?_;refine Wf ?_;refine MZ fun W hS=> ?_;go_upto_region 10 with fail;refine RL hS ?_;clear hS;refine MW ?_ (v:=.int .i64 (((i+1:Nat):Int))) (hv:=by intro W;go_simp;(try simp only[AG.wrap_i64]);(try omega));refine MV ?_;refine MZ fun W hS=> ?_;go_wp2;go_roundw
   case rel=>exact⟨i+1,by omega,by go_num,(hS.pick [5,6])⟩
   case measure=>simp[intOf];omega
  replace D:dOk (J5m V L i)=false:=by simpa using D
  go_upto_region 5 with fail;refine RL hS ?_;clear hS;refine MW ?_ (v:=.slice (some ⟨R,0,none⟩) 32 64);refine MW ?_ (v:=.pointer (some ⟨R,0,none⟩)) (hv:=by intro W;first|rfl|(go_simp;done)|(go_simp;with_reducible rfl));refine Ml 0 Z32 ?_;have G:lo U2=J5m V L i:=by rw[S.out];rfl
  refine MC (v:=.tuple #[.agg (p4 0 0 0 0),.int .i64 15]) (fun W hS=>Q5a G (Q26 (kn:=kn) hc (Q1b V L i) D W (GA_ext hG hS.ext).1)) ?_;refine MV ?_;refine MV ?_;refine MW ?_ (v:=.int .i64 15);refine MN (z:=p4 0 0 0 0) (t:=140) ?_;intro Ψ;refine MR 0 ?_;refine MW ?_ (v:=.int .i64 15);refine MZ fun W hS=> ?_;go_upto_region 10 with fail;refine RL hS ?_;clear hS;refine MW ?_ (v:=.int .i64 (((i+1:Nat):Int))) (hv:=by intro W;go_simp;(try simp only[AG.wrap_i64]);(try omega));refine MV ?_;refine MZ fun W hS=> ?_;go_wp2;go_roundw
  case rel=>exact⟨i+1,by omega,by go_num,(hS.pick [5,6])⟩
  case measure=>simp[intOf];omega
theorem Z39 (hc:kn.c){V:Nat}{L:List UInt8}(hL:L.length≤1099511627776)(hlow:∀i,i<256→candOk V L i=false):
  ∀v w,GA kn w→Sl w v L→Az Tryz.prog 51 #[.agg (J0 .u8 32 (J2 V)),v] w fun e w' =>V5 (.tuple #[.agg (p4 0 0 0 0),.int .i64 15]) w w' e:=by
 intro v w hG X;have hS:=SH.nil [] w
 go_enter Tryz.func51,Tryz.ntmps51
 go_upto_region 0 with fail;refine RL hS ?_;clear hS;refine MN (z:=J0 .u8 32 (J2 V)) (t:=23) ?_;intro K9;refine MN (z:=p4 0 0 0 0) (t:=140) ?_;intro α;refine W0 ?_;refine MZ fun W hS=> ?_
 go_wp2_with fail
 go_loopw [10] (fun ii wr=> ∃(i:Nat),(i≤256)∧(ii=.int .i64 (i:Int))∧SH [] w wr [.b α (p4 0 0 0 0) 140,.b K9 (J0 .u8 32 (J2 V)) 23])
  (fun ii _=>(256-intOf ii).toNat)
 case atStart=>exact⟨0,Ah _,rfl,hS⟩
 clear hS
 case round=>
  obtain⟨i,hi,rfl,hS⟩:=hrel
  by_cases G:i<256
  ·
   have Y:=hlow i G;go_upto_region 2 with fail;refine RL hS ?_;clear hS;refine MW ?_ (v:=.bool true) (hv:=by intro W;exact Z3b (i:=i) (n:=256) (decide_eq_true G) rfl rfl rfl);refine MZ fun W hS=> ?_;go_upto_region 4 with fail;refine RL hS ?_;clear hS;refine MO (m:=[3,1]) (n:=2) (z:= #[.int .u8 3,.int .u8 1]) ?_;intro T;refine MW ?_ (v:=.slice (some ⟨K9,0,none⟩) 32 32);refine MV ?_;refine MV ?_;refine MW ?_ (v:=.int .u8 ((UInt8.ofNat i).toNat:Int)) (hv:=by intro W;exact Z3c rfl rfl);refine MO (m:=[UInt8.ofNat i,0]) (n:=2) (z:= #[.int .u8 ((UInt8.ofNat i).toNat:Int),.int .u8 0]) ?_;intro S;refine MB (z:= #[T,.slice (some ⟨K9,0,none⟩) 32 32,v,S]) (t:=22) (n:=4) (c:=4) ?_ (hr:=fun W hS=>Y0 [T,.slice (some ⟨K9,0,none⟩) 32 32,v,S] rfl rfl (vsc (J6 (hS.osl (i:=1) rfl)).1 (vsc (J6 (Q7 (V:=V) (n:=32) (off:=0) (c:=32) (hS.blk (i:=3) rfl) ap0 (by decide) (by decide))).1 (vsc (J6 (K4 X hS.ext)).1 (vsc (J6 (hS.osl (i:=0) rfl)).1 vs0)))) Tryz.underlying155 (by kernel_rfl) (by kernel_rfl) rfl (by decide) (by decide));intro Z;obtain⟨U1,N⟩:=exh (hs ([3,1]++(lb 32 V)++L++[UInt8.ofNat i,0]));refine MC (v:=.agg (J0 .u8 64 (J2 U1))) (fun W hS=>J7m N.out [[3,1],lb 32 V,L,[UInt8.ofNat i,0]] (some ⟨Z,0,none⟩) 4 (by simp only[An,List.flatten_nil,Aj,BM,Ak,BK]) (by first|omega|(simp only[Ai,AV,Al,J7];omega)) (by simp) W (J0c (hS.blk (i:=0) rfl) (pvc (hS.osl (i:=2) rfl) (pvc (Q7 (V:=V) (n:=32) (off:=0) (c:=32) (hS.blk (i:=4) rfl) ap0 (by decide) (by decide)) (pvc (K4 X hS.ext) (pvc (hS.osl (i:=1) rfl) pv0))))) (GA_ext hG hS.ext).2.1) ?_;refine MN (z:=J0 .u8 64 (J2 0)) (t:=67) ?_;intro M;refine MR 0 ?_;refine MZ fun W hS=> ?_
   by_cases D:dOk (J5m V L i)=true
   ·
    go_upto_region 5 with fail;refine RL hS ?_;clear hS;refine MW ?_ (v:=.slice (some ⟨M,0,none⟩) 32 64);refine MW ?_ (v:=.pointer (some ⟨M,0,none⟩)) (hv:=by intro W;first|rfl|(go_simp;done)|(go_simp;with_reducible rfl));refine Ml 0 Z32 ?_;have J:lo U1=J5m V L i:=by rw[N.out];rfl
    obtain⟨dx,dt,dr,dc⟩:=J8g (kn:=kn) hc (Q1b V L i) D;obtain⟨dy,U⟩:=exn (J5m V L i % 2^255);rw[←U] at dr dc;clear U;refine MC (v:=.tuple #[.agg (p4 dx dy 1 dt),.int .i64 0]) (fun W hS=>Q5a J (dc W (GA_ext hG hS.ext).1)) ?_;refine MV ?_;refine MV ?_;refine W0 ?_;refine MN (z:=p4 0 0 0 0) (t:=140) ?_;intro β;refine MR 0 ?_;refine W0 ?_;refine MZ fun W hS=> ?_;go_upto_region 7 with fail;refine RL hS ?_;clear hS;refine ML 0 ?_;obtain⟨ex,ey,ez,et,er,ec⟩:=J6z (kn:=kn) dr.rw;refine MC (v:=.agg (p4 ex ey ez et)) (fun W hS=>ec W (GA_ext hG hS.ext).1) ?_;refine MR 0 ?_;refine MZ fun W hS=> ?_;go_upto_region 8 with fail;refine RL hS ?_;clear hS;refine ML 0 ?_;refine MW ?_ (v:=.agg (p4 0 0 0 0)) (hv:=by intro W;kernel_rfl);have R:=Q14 (kn:=kn) er.rw J9a;rw[show decide (pm (dPt (J5m V L i)) 8=p0)=true from decide_eq_true (Z0t Y D)] at R;refine MC (v:=.bool true) (fun W hS=>R W (GA_ext hG hS.ext).1) ?_;refine Wf ?_;refine MZ fun W hS=> ?_;go_upto_region 10 with fail;refine RL hS ?_;clear hS;refine MW ?_ (v:=.int .i64 (((i+1:Nat):Int))) (hv:=by intro W;go_simp;(try simp only[AG.wrap_i64]);(try omega));refine MV ?_;refine MZ fun W hS=> ?_;go_wp2;go_roundw
    case rel=>exact⟨i+1,by omega,by go_num,(hS.pick [5,6])⟩
    case measure=>simp[intOf];omega
   replace D:dOk (J5m V L i)=false:=by simpa using D
   go_upto_region 5 with fail;refine RL hS ?_;clear hS;refine MW ?_ (v:=.slice (some ⟨M,0,none⟩) 32 64);refine MW ?_ (v:=.pointer (some ⟨M,0,none⟩)) (hv:=by intro W;first|rfl|(go_simp;done)|(go_simp;with_reducible rfl));refine Ml 0 Z32 ?_;have J:lo U1=J5m V L i:=by rw[N.out];rfl
   refine MC (v:=.tuple #[.agg (p4 0 0 0 0),.int .i64 15]) (fun W hS=>Q5a J (Q26 (kn:=kn) hc (Q1b V L i) D W (GA_ext hG hS.ext).1)) ?_;refine MV ?_;refine MV ?_;refine MW ?_ (v:=.int .i64 15);refine MN (z:=p4 0 0 0 0) (t:=140) ?_;intro γ;refine MR 0 ?_;refine MW ?_ (v:=.int .i64 15);refine MZ fun W hS=> ?_;go_upto_region 10 with fail;refine RL hS ?_;clear hS;refine MW ?_ (v:=.int .i64 (((i+1:Nat):Int))) (hv:=by intro W;go_simp;(try simp only[AG.wrap_i64]);(try omega));refine MV ?_;refine MZ fun W hS=> ?_;go_wp2;go_roundw
   case rel=>exact⟨i+1,by omega,by go_num,(hS.pick [5,6])⟩
   case measure=>simp[intOf];omega
  go_upto_region 2 with fail;refine RL hS ?_;clear hS;refine MW ?_ (v:=.bool false) (hv:=by intro W;exact Z3b (i:=i) (n:=256) (decide_eq_false G) rfl rfl rfl);refine MZ fun W hS=> ?_;go_upto_region 11 with fail;refine RL hS ?_;clear hS;refine MW ?_ (v:=.agg (p4 0 0 0 0)) (hv:=by intro W;kernel_rfl);refine MR 0 ?_;refine MW ?_ (v:=.int .i64 15);refine MZ fun W hS=> ?_;go_wp2;exact BC (Y7 rfl rfl rfl (hS.blk (i:=0) rfl) (by kernel_rfl) (by kernel_rfl)) rfl ⟨rfl,hS.ext⟩
end
end Go.Proofs.YtpljgkofbfeelaaGreatDoor.S8

/- Contracts and plain laws for bundleAny_holds. Conditions: the tables hold their numbers. -/
import Derived.Test.YtlkbneflnjmgbaaGreatDoorJ19
open Go.RowKit
set_option maxRecDepth 100000
set_option linter.unusedSimpArgs false
set_option linter.unusedVariables false
namespace Go.Proofs.YtlkbneflnjmgbaaGreatDoor
section
set_option maxHeartbeats 3000000
attribute [local irreducible] wpList Z6 wpX
abbrev lfl (x:Nat×Nat):List Value:=(lf x.1 x.2).toList
def ofT (ls:List (Nat×Nat)):TR:=ls.foldl (fun T x=>J33 x.1 x.2 T 0) .nil
theorem Q9u (ls:List (Nat×Nat))(x:Nat×Nat):ofT (ls++[x])=J33 x.1 x.2 (ofT ls) 0:=by unfold ofT;rw[List.foldl_append];rfl
theorem Y5f {ls:List (Nat×Nat)}{i:Nat}{x:Nat×Nat}(h:ls[i]?=some x):ofT (ls.take (i+1))=J33 x.1 x.2 (ofT (ls.take i)) 0:=by
 rw[List.take_add_one,h];exact Q9u _ _
theorem Q2j (K d:Nat):∀(m:Nat) (T:TR),tsz (J6l K d m T)≤m+tsz T
 |0,T=>by show tsz T≤0+tsz T;omega
 |m+1,T=>by
  unfold J6l
  split
  ·
   refine Nat.le_trans (Q2j K d m _) ?_
   split
   ·
    show m+(1+tsz T+0)≤_;omega
   ·
    show m+(1+0+tsz T)≤_;omega
  ·
   omega
theorem Z8t (a x b y d:Nat):tsz (J6m a x b y d)≤259:=by
 have h:=Z6i (J7 a) (J7 b);unfold J6m
 split
 ·
  refine Nat.le_trans (Q2j _ _ _ _) ?_;show _+(1+1+1)≤259;omega
 refine Nat.le_trans (Q2j _ _ _ _) ?_;show _+(1+1+1)≤259;omega
theorem Q5g (k v:Nat):∀(T:TR) (d:Nat),tsz (J33 k v T d)≤tsz T+260
 | .nil,_=>by show 1≤0+260;omega
 | .leaf a x,d=>by
  show tsz (if a=k then TR.leaf k v else J6m a x k v d)≤1+260
  split
  ·
   show 1≤261;omega
  ·
   have:=Z8t a x k v d;omega
 | .node e l r,d=>by
  have h1:=Q5g k v l (d+1);have h2:=Q5g k v r (d+1);show tsz (if kb k d=0 then TR.node d (J33 k v l (d+1)) r else TR.node d l (J33 k v r (d+1)))≤1+tsz l+tsz r+260
  split
  ·
   show 1+tsz (J33 k v l (d+1))+tsz r≤_;omega
  ·
   show 1+tsz l+tsz (J33 k v r (d+1))≤_;omega
theorem Z3l:∀(n:Nat) (ls:List (Nat×Nat)),tsz (ofT (ls.take n))≤260*n∧cnt (ofT (ls.take n))≤n
 |0,ls=>by rw[List.take_zero];exact⟨Nat.le_refl _,Nat.le_refl _⟩
 |n+1,ls=>by
  have ih:=Z3l n ls;cases h:ls[n]? with
  |none=>rw[List.take_add_one,h];simp only[Option.toList_none,List.append_nil];omega
  |some x=>
   rw[Y5f h];have h1:=Q5g x.1 x.2 (ofT (ls.take n)) 0;have h2:=J63 x.1 x.2 (ofT (ls.take n)) 0;omega
attribute [local irreducible] hs4 sE sL sN

theorem V8h {q:Prop}{k v:Nat}(hk:k<2^256)(hv:v<2^256){T:TR}{u:Value}(hz:tsz T<4611686018427387904)(hcn:cnt T<2305843009213693952)(w:World)(hG:GT q w)(h:TA w T u):
  Calls Tryz.prog 73 #[u,.agg (lf k v)] w fun e w' =>Q0o (J33 k v T 0) w w' e:=by
 have hS:=SH.nil [] w
 go_enter Tryz.func73,Tryz.ntmps73
 go_upto_region 0 with fail;refine RL hS ?_;clear hS;refine MN (z:=lf k v) (t:=57) ?_;intro G;refine MV ?_;refine MZ fun W hS=> ?_;go_upto_region 1 with fail;refine RL hS ?_;clear hS;refine MV ?_;refine ML 0 ?_ (hs:=by rw[J5l];kernel_rfl);refine ME (fun W hS=>J5d hS (Y5e hk hv 0 (by omega) hcn W (J0y hG hS.ext) (TA.ext h hS.ext)) rfl) ?_;intro D;refine MV ?_;refine MZ fun W hS=> ?_;go_wp2;exact bodyPost_ret (v:=D) (by simp only[results,Tryz.results73];go_simp) rfl ⟨_,rfl,hS.ext,(by exact hS.tt (i:=0) rfl)⟩
end

section
/-! ### Lists of leaves, by the document -/
end

section
/-! ### The leaves of a tree -/
def lvs:TR→List Lf
  | .nil=>[]
  | .leaf k v=>[(k,v)]
  | .node _ l r=>lvs l++lvs r
/-! ### Lists, step by step -/
end

section
set_option maxHeartbeats 3000000
attribute [local irreducible] wpList Z6 wpX
def eI (n:Int):List UInt8:=be8 (n % 18446744073709551616).toNat
theorem K5 (n:Int):(eI n).length=8:=rfl
def by8 (X j:Nat):UInt8:=u8 (X / 2^(8*(7-j)))
theorem Q9l (X:Nat):∀{j:Nat},j<8→(be8 X).take (j+1)=(be8 X).take j++[by8 X j]
 |0,_=>rfl
 |1,_=>rfl
 |2,_=>rfl
 |3,_=>rfl
 |4,_=>rfl
 |5,_=>rfl
 |6,_=>rfl
 |7,_=>by unfold by8;rw[show 2^(8*(7-7))=1 from rfl,Nat.div_one];rfl
 |j+8,h=>absurd h (by omega)
theorem Q9m {a:Act}{o:Oper}{x y:Operand}{t t' :TypeId}{W:World}{p n:Nat}{k:IntKind}(hn:n≤64)(ho:o.op=.binOp .shr t x y t')(hx:a.eval x=.int .u64 (p:Int))(hy:a.eval y=.int k (n:Int)):(execOp a.eval o).run Tryz.prog W=.ok (.value (.int .u64 ((p / 2^n:Nat):Int))) W:=by
 have h2:min ((n:Int)).toNat IntKind.u64.bits=n:=by rw[Int.toNat_natCast];exact Nat.min_eq_left hn
 have e:(p:Int) / 2^n=((p / 2^n:Nat):Int):=by rw[Int.natCast_ediv,Int.natCast_pow];rfl
 have:(execOp a.eval o).run Tryz.prog W=.ok (.value (.int .u64 ((p:Int) / 2^n))) W:=by
  simp only[execOp,ho,hx,hy,eqGuard,binOp,Sem.run_bind];simp[Op.shift,h2,go_sem,Sem.run_bind]
 rw[this,e]
theorem Z42 {a:Act}{o:Oper}{x:Operand}{s t:TypeId}{W:World}{p:Nat}(ho:o.op=.convert s t x)(hx:a.eval x=.int .u64 (p:Int))(hs:Tryz.prog.underlying s=some (.int .u64))(ht:Tryz.prog.underlying t=some (.int .u8)):(execOp a.eval o).run Tryz.prog W=.ok (.value (.int .u8 ((u8 p).toNat:Int))) W:=by
 rw[J6e,←IntKind.wrap_u8];simp only[execOp,ho,hx,Sem.run_bind];simp[hs,ht,go_sem,Sem.run_bind]
theorem lA {α:Type}{l m:List α}:(l++m).length=l.length+m.length:=List.length_append
theorem lM {α β:Type}{f:α→β}{l:List α}:(l.map f).length=l.length:=List.length_map _
theorem lT {α:Type}{i:Nat}{l:List α}:(l.take i).length=min i l.length:=List.length_take
theorem lD {α:Type}{i:Nat}{l:List α}:(l.drop i).length=l.length-i:=List.length_drop
theorem lC {α:Type}{a:α}{l:List α}:(a::l).length=l.length+1:=rfl
theorem lN {α:Type}:([]:List α).length=0:=rfl
def kTx (l:List UInt8):List UInt8:=[5]++l
def sTx (e:Int)(r:Nat):List UInt8:=[8]++eI e++lb 32 r
theorem V0 (l:List UInt8):(kTx l).length=1+l.length:=by unfold kTx;simp;omega
theorem V1 (e:Int)(r:Nat):(sTx e r).length=41:=by unfold sTx;simp[K5,J6]
attribute [local irreducible] eI be8 hs4 lb
end

section
abbrev J4a:=List UInt8×List UInt8
structure Md where
  l:List UInt8
  x:List UInt8
  ep:Nat
  ver:Nat
def vct (ms:List Md)(l:List UInt8):Nat:=(ms.filter fun m=>decide (m.l=l)).length
def mdp (ms:List Md)(e:Nat)(ps:List J4a):List Md:=ps.foldl (fun ms p=>ms++[⟨p.1,p.2,e,vct ms p.1+1⟩]) ms
def mdS:List Md→Nat→List (List J4a)→List Md
  |ms,_,[]=>ms
  |ms,e,ps::r=>mdS (mdp ms e ps) (e+1) r
theorem Y0i (ms:List Md)(e:Nat)(ps:List J4a)(p:J4a):mdp ms e (ps++[p])=mdp ms e ps++[⟨p.1,p.2,e,vct (mdp ms e ps) p.1+1⟩]:=by
  unfold mdp;rw[List.foldl_append];rfl
theorem Q9v:∀(r:List (List J4a)) (ms:List Md) (e:Nat) (ps:List J4a),mdS ms e (r++[ps])=mdp (mdS ms e r) (e+r.length) ps
  |[],_,_,_=>rfl
  |q::r,ms,e,ps=>by
    show mdS (mdp ms e q) (e+1) (r++[ps])=mdp (mdS (mdp ms e q) (e+1) r) _ ps;rw[Q9v r,show e+1+r.length=e+(q::r).length by rw[List.length_cons];omega]
def nub (acc:List (List UInt8)):List (List UInt8)→List (List UInt8)
  |[]=>acc
  |l::r=>nub (if l∈acc then acc else acc++[l]) r
theorem Q9w:∀(r:List (List UInt8)) (acc:List (List UInt8)) (l:List UInt8),nub acc (r++[l])=if l∈nub acc r then nub acc r else nub acc r++[l]
  |[],_,_=>rfl
  |x::r,acc,l=>by
    show nub (if x∈acc then acc else acc++[x]) (r++[l])=_;rw[Q9w r];rfl
theorem Z4d:∀{r acc:List (List UInt8)} {l:List UInt8},l∈nub acc r↔l∈acc∨l∈r
  |[],acc,l=>by simp[nub]
  |x::r,acc,l=>by
    show l∈nub (if x∈acc then acc else acc++[x]) r↔_;rw[Z4d,List.mem_cons]
    split
    · exact⟨fun h=>h.elim .inl fun h=> .inr (.inr h),fun h=>h.elim .inl fun h=>h.elim (fun h=> .inl (by rw[h];assumption)) .inr⟩
    · rw[List.mem_append,List.mem_singleton];exact or_assoc
theorem Q6a:∀{r acc:List (List UInt8)},acc.Nodup→(nub acc r).Nodup
  |[],_,h=>h
  |x::r,acc,h=>by
    refine Q6a (r:=r) ?_
    split
    · exact h
    · rename_i hx
      refine List.nodup_append.2 ⟨h,List.nodup_cons.2 ⟨by simp,.nil⟩,fun a ha b hb=> ?_⟩;rw[List.mem_singleton.1 hb];exact fun e=>hx (e▸ha)
structure DD where
  id:List UInt8
  vk:Nat
  bk:Nat
  L:Nat
  P:Nat
  E:Nat
  puts:List (List J4a)
  waits:List J4a
namespace DD
def made (D:DD):List Md:=mdS [] 0 D.puts
def labs (D:DD):List (List UInt8):=nub [] ((D.puts.flatten++D.waits).map (·.1))
def put (D:DD)(l x:List UInt8):DD:={D with waits:=D.waits++[(l,x)]}
def nxt (D:DD):DD:={D with puts:=D.puts++[D.waits],waits:=[]}
theorem made_put (D:DD)(l x:List UInt8):(D.put l x).made=D.made:=rfl
theorem made_nxt (D:DD):D.nxt.made=mdp D.made D.puts.length D.waits:=by
  unfold made nxt;rw[Q9v,Nat.zero_add]
theorem labs_put (D:DD)(l x:List UInt8):(D.put l x).labs=if l∈D.labs then D.labs else D.labs++[l]:=by
  unfold labs put;show nub [] ((D.puts.flatten++(D.waits++[(l,x)])).map _)=_;rw[←List.append_assoc,List.map_append,List.map_cons,List.map_nil,Q9w]
theorem labs_nxt (D:DD):D.nxt.labs=D.labs:=by
  unfold labs nxt;show nub [] (((D.puts++[D.waits]).flatten++[]).map _)=_;rw[List.append_nil,List.flatten_append,List.flatten_cons,List.flatten_nil,List.append_nil]
theorem labs_nodup (D:DD):D.labs.Nodup:=Q6a .nil
theorem mem_labs {D:DD}{l:List UInt8}:l∈D.labs↔∃p∈D.puts.flatten++D.waits,p.1=l:=by
  unfold labs;rw[Z4d,List.mem_map];simp
end DD
theorem Z4e {e:Nat}:∀{ps:List J4a} {ms:List Md} {m:Md},m∈mdp ms e ps→m∈ms∨m.ep=e∧(m.l,m.x)∈ps
  |[],ms,m,h=> .inl h
  |p::ps,ms,m,h=>by
    rcases Z4e (ps:=ps) (ms:=ms++[⟨p.1,p.2,e,vct ms p.1+1⟩]) h with h|⟨h1,h2⟩
    · rcases List.mem_append.1 h with h|h
      · exact .inl h
      · rw[List.mem_singleton.1 h];exact .inr ⟨rfl,by simp⟩
    · exact .inr ⟨h1,by simp[h2]⟩
theorem Z4f:∀{r:List (List J4a)} {ms:List Md} {e:Nat} {m:Md},m∈mdS ms e r→m∈ms∨e≤m.ep∧m.ep<e+r.length∧(m.l,m.x)∈r.flatten
  |[],_,_,_,h=> .inl h
  |q::r,ms,e,m,h=>by
    rcases Z4f (r:=r) (ms:=mdp ms e q) h with h|⟨h1,h2,h3⟩
    · rcases Z4e h with h|⟨h1,h2⟩
      · exact .inl h
      · exact .inr ⟨by omega,by rw[List.length_cons];omega,by rw[List.flatten_cons];exact List.mem_append.2 (.inl h2)⟩
    · exact .inr ⟨by omega,by rw[List.length_cons];omega,by rw[List.flatten_cons];exact List.mem_append.2 (.inr h3)⟩
theorem Z4g {e:Nat}:∀{ps:List J4a} {ms:List Md},∃t,mdp ms e ps=ms++t∧(∀m∈t,m.ep=e)∧t.length=ps.length
  |[],ms=>⟨[],by simp[mdp],by simp,rfl⟩
  |p::ps,ms=>by
    obtain⟨t,h1,h2,h3⟩:=Z4g (e:=e) (ps:=ps) (ms:=ms++[⟨p.1,p.2,e,vct ms p.1+1⟩]);refine⟨_::t,by show mdp (ms++_) e ps=_;rw[h1,List.append_assoc];rfl,fun m hm=> ?_,by rw[List.length_cons,List.length_cons,h3]⟩;rcases List.mem_cons.1 hm with rfl|hm
    · rfl
    · exact h2 m hm
namespace DD
theorem made_mem {D:DD}{m:Md}(h:m∈D.made):m.ep<D.puts.length∧(m.l,m.x)∈D.puts.flatten:=by
  rcases Z4f h with h|⟨_,h1,h2⟩
  · cases h
  exact⟨by omega,h2⟩
def upto (D:DD)(e:Nat):List Md:=D.made.filter fun m=>decide (m.ep≤e)
theorem upto_nxt_lt {D:DD}{e:Nat}(h:e<D.puts.length):D.nxt.upto e=D.upto e:=by
  unfold upto;rw[made_nxt];obtain⟨t,h1,h2,_⟩:=Z4g (e:=D.puts.length) (ps:=D.waits) (ms:=D.made);rw[h1,List.filter_append];have e2:t.filter (fun m=>decide (m.ep≤e))=[]:=List.filter_eq_nil_iff.2 fun m hm=>by rw[h2 m hm];simp;omega
  rw[e2,List.append_nil]
theorem upto_all {D:DD}{e:Nat}(h:D.puts.length≤e+1):D.upto e=D.made:=by
  unfold upto;exact List.filter_eq_self.2 fun m hm=>by have:=(made_mem hm).1;simp;omega
end DD
end
end Go.Proofs.YtlkbneflnjmgbaaGreatDoor

namespace Go.Proofs.YtlkbneflnjmgbaaGreatDoor.S8
open Sc (LL J10)
attribute [local irreducible] hs
def J6y (V:Nat)(L:List UInt8)(c:Nat):Nat:=lo (hs ([3,1]++lb 32 V++L++[u8 c,0]))
def J49 (V:Nat)(L:List UInt8)(c:Nat):Pr:=pm (dPt (J6y V L c)) 8
def J2j (V:Nat)(L:List UInt8)(c:Nat):Bool:=dOk (J6y V L c) && !decide (J49 V L c=p0)
def Z8a (V:Nat)(L:List UInt8):Nat→Nat→Option Nat
  |0,_=>none
  |f+1,c=>if J2j V L c=true then some c else Z8a V L f (c+1)
def vpt (V:Nat)(L:List UInt8):Option Nat:=Z8a V L 256 0
theorem Q1r (V:Nat)(L:List UInt8)(c:Nat):J6y V L c<2^256:=lo_lt _
theorem Q6w {V:Nat}{L:List UInt8}{r:Nat}:∀f c,Z8a V L f c=some r→r<c+f∧J2j V L r=true∧∀i,c≤i→i<r→J2j V L i=false
  |0,c,h=>by cases h
  |f+1,c,h=>by
    unfold Z8a at h
    by_cases e:J2j V L c=true
    · rw[if_pos e] at h
      obtain rfl:=Option.some.inj h;exact⟨by omega,e,fun i h1 h2=>by omega⟩
    · rw[if_neg e] at h
      obtain⟨h1,h2,h3⟩:=Q6w f (c+1) h;refine⟨by omega,h2,fun i h4 h5=> ?_⟩
      by_cases e2:i=c
      · subst e2;simpa using e
      · exact h3 i (by omega) h5
theorem Q6x {V:Nat}{L:List UInt8}:∀f c,Z8a V L f c=none→∀i,c≤i→i<c+f→J2j V L i=false
  |0,c,_,i,h1,h2=>by omega
  |f+1,c,h,i,h1,h2=>by
    unfold Z8a at h
    by_cases e:J2j V L c=true
    · rw[if_pos e] at h;cases h
    · rw[if_neg e] at h
      by_cases e2:i=c
      · subst e2;simpa using e
      · exact Q6x f (c+1) h i (by omega) (by omega)
theorem vpt_some {V r:Nat}{L:List UInt8}(h:vpt V L=some r):r<256∧J2j V L r=true∧∀i,i<r→J2j V L i=false:=by
  obtain⟨h1,h2,h3⟩:=Q6w 256 0 h;exact⟨by omega,h2,fun i hi=>h3 i (Nat.zero_le _) hi⟩
theorem Y4c {V:Nat}{L:List UInt8}(h:vpt V L=none):∀i,i<256→J2j V L i=false:=fun i hi=>Q6x 256 0 h i (Nat.zero_le _) (by omega)
theorem candOk_iff {V c:Nat}{L:List UInt8}:J2j V L c=true↔dOk (J6y V L c)=true∧¬J49 V L c=p0:=by
  unfold J2j;simp
theorem Z0z {V c:Nat}{L:List UInt8}(h:J2j V L c=false)(hd:dOk (J6y V L c)=true):J49 V L c=p0:=by
  unfold J2j at h;rw[hd] at h;simpa using h
def chH (V:Nat)(a b c d:Pr):Nat:=hs ([3,2]++lb 32 V++lb 32 (enc a)++lb 32 (enc b)++lb 32 (enc c)++lb 32 (enc d)++[0])
def J3s:Nat:=340282366920938463463374607431768211456
def ch (V:Nat)(a b c d:Pr):Nat:=chH V a b c d % J3s
def pG (P:Nat):Nat:=P % 2^256
def pC (P:Nat):Nat:=P / 2^256 % J3s
def pN (P:Nat):Nat:=P / 2^256 / J3s
def vK' (S:Nat)(h:Pr):Nat:=hs (lb 32 (kD S)++lb 32 (enc h)) % LL
def vC (S:Nat)(h:Pr):Nat:=ch (kP S) h (pm h (kN S)) (pm BP (vK' S h)) (pm h (vK' S h))
def vN (S:Nat)(h:Pr):Nat:=(vK' S h+vC S h % LL*(kN S % LL) % LL) % LL
def vPr (S:Nat)(h:Pr):Nat:=enc (pm h (kN S))+2^256*(vC S h+J3s*vN S h)
def Y9a (P:Nat):Nat:=hs ([3,3]++lb 32 (enc (pm (dPt (pG P)) 8))++[0])
end Go.Proofs.YtlkbneflnjmgbaaGreatDoor.S8

namespace Go.Proofs.YtlkbneflnjmgbaaGreatDoor
section
namespace SH
variable {F : List Nat} {w W W' : World} {H H' L L' R : List As} {x y : As} {i j : Nat}
def okT (L R:List As):List As→Prop
  |[]=>True
  |y::l=>(y∈L∨(y.mv=true∧R.all (tyOk y)=true)∨∃T K,y=.t T K∧R.all (fun z=>tyOk z y)=true)∧okT L R l
theorem Q90:∀{l:List As},okT L R l→∀y∈l,y∈L∨(y.mv=true∧R.all (tyOk y)=true)∨∃T K,y=.t T K∧R.all (fun z=>tyOk z y)=true
  |_::_,h,y,hy=>by
    rcases List.mem_cons.1 hy with rfl|hy
    · exact h.1
    · exact Q90 h.2 y hy
theorem frameT (h:SH F w W (L++R))(h' :SH (feet L) W W' L')(ok:okT L R L'):SH F w W' (L' ++R):=by
  have hp:=List.pairwise_append.1 h.ap;have hR:∀z∈R,z.holds W:=fun z hz=>h.all z (by simp[hz]);have hL:∀x∈L,x.holds W:=fun x hx=>h.all x (by simp[hx])
  -- a block of what may turn is no block of R
  have hf:∀k,k∈feet L→∀z∈R,(∀T K,z≠ .t T K)→k∉z.foot:=fun k hk z hz hT=>by
    obtain⟨x,hx,hm,hk⟩:=mem_feet.1 hk;have:=(hp.2.2 x hx z hz).1 hm;cases z with
    |t T K=>exact absurd rfl (hT T K)
    |_=>exact this k hk
  have hl:∀y∈L',y.mv=true→∀z∈R,(∀T K,z≠ .t T K)→∀k∈y.foot,k∉z.foot:=fun y hy hm z hz hT k hk D=>
    hf k (h'.old y hy hm k hk (As.lt (hR z hz) k D)) z hz hT D
  refine⟨h.off.step h'.off fun k hk G=> ?_,fun z hz=> ?_,List.pairwise_append.2 ⟨h'.ap,hp.2.1,fun y hy z hz=>⟨fun hm=> ?_,fun hm=> ?_⟩⟩,fun z hz hm k hk G=> ?_⟩
  · obtain⟨x,hx,hm,hk⟩:=mem_feet.1 hk
    exact h.old x (by simp[hx]) hm k hk G
  · rcases List.mem_append.1 hz with hz|hz
    · exact h'.all z hz
    refine As.keep h'.off (hR z hz) (fun k hk M=> ?_) fun T K e k M G ht=> ?_
    · cases z with
      |t T K=>cases hk
      |_=>exact hf k M _ hz (fun _ _ e=>by cases e) hk
    obtain⟨x,hx,hm,hk⟩:=mem_feet.1 M;have h1:=(hp.2.2 x hx z hz).1 hm;subst e;exact h1 ((As.tyOf (hL x hx) hm k hk).symm.trans ht)
  · rcases Q90 ok y hy with N|⟨_,J⟩|⟨T,K,e,_⟩
    · exact(hp.2.2 y N z hz).1 hm
    · cases z with
      |t T K=>have:=List.all_eq_true.1 J _ hz;simpa[tyOk,hm] using this
      |_=>exact hl y hy hm _ hz (fun _ _ e=>by cases e)
    subst e;cases hm
  · rcases Q90 ok y hy with N|⟨S,_⟩|⟨T,K,e,J⟩
    · exact(hp.2.2 y N z hz).2 hm
    · cases y with
      |t T K=>cases S
      |_=>exact fun k hk D=>hl _ hy S z hz (fun T K e=>by subst e;cases hm) k D hk
    subst e;have:=List.all_eq_true.1 J _ hz;simpa[tyOk,hm] using this
  rcases List.mem_append.1 hz with hz|hz
  · by_cases U:k<W.heap.size
    · obtain⟨x,hx,V,D⟩:=mem_feet.1 (h'.old z hz hm k hk U)
      exact h.old x (by simp[hx]) V k D G
    have:=h.size;omega
  exact h.old z (by simp[hz]) hm k hk G
end SH
section
variable {P : Program} {f : FuncId} {args : Array Value} {F : List Nat} {w W : World} {H L R : List As}
theorem V8j {α:Type}(I J:List Nat){V:α→Value}{L' H' :α→List As}(hS:SH F w W H)(hc:SH (SH.feet L) W W L→Calls P f args W fun e W' => ∃x,e=.returned (V x)∧SH (SH.feet L) W W' (L' x))(ok:∀x,SH.okT L R (L' x))(hI:pk H I=L:=by exact rfl)(hJ:pk H J=R:=by exact rfl)(hn:(I++J).Nodup:=by decide)(hH:∀x,L' x++R=H' x:=by exact fun _=>rfl):Calls P f args W fun e W' => ∃x,e=.returned (V x)∧SH F w W' (H' x):=by
  subst hI hJ
  have h:SH F w W (pk H I++pk H J):=hS.pick (I++J) (by
    exact Q80 H I J) hn
  exact(hc h.here).mono fun e W' ⟨x,h1,h2⟩=>⟨x,h1,by rw[←hH x];exact h.frameT h2 (ok x)⟩
end
end

section
def InF (N:List As)(f:List Nat):Prop:=∀k∈f,∃x∈N,(∀T K,x≠ .t T K)∧k∈x.foot
namespace SH
variable {F : List Nat} {w W W' : World} {H H' L L' N R : List As} {x y : As} {i j : Nat} {f : List Nat} {K : World → Prop} {T : Option TypeId}
theorem Q83 {z:As}(hx:x.mv=true)(h:x.apart z)(hy:y.mv=true)(ht:y.ty=x.ty)(hf:∀k∈y.foot,k∈x.foot):y.apart z:=by
  refine⟨fun _=> ?_,fun hm=> ?_⟩
  · have h1:=h.1 hx
    cases z with
    |t T K=>exact fun e=>h1 (ht▸e)
    |_=>exact fun k hk=>h1 k (hf k hk)
  have h2:=h.2 hm
  have h3:∀k∈z.foot,k∉x.foot:=by
    cases x with
    |t T K=>cases hx
    |_=>exact h2
  cases y with
  |t T K=>cases hy
  |_=>exact fun k hk D=>h3 k hk (hf k D)
theorem Y80 {u z:As}(hx:x.mv=true)(hy:y.mv=true)(h:x.apart z)(h' :y.apart z)(hu:u.mv=true)(tx:x.ty=u.ty)(hf:∀k∈u.foot,k∈x.foot∨k∈y.foot):u.apart z:=by
  refine⟨fun _=> ?_,fun hm=> ?_⟩
  · have h1:=h.1 hx
    have h1' :=h'.1 hy;cases z with
    |t T K=>exact fun e=>h1 (tx▸e)
    |_=>exact fun k hk=>(hf k hk).elim (h1 k) (h1' k)
  have h2:=h.2 hm;have h2' :=h'.2 hm
  have h3:∀k∈z.foot,k∉x.foot:=by
    cases x with
    |t T K=>cases hx
    |_=>exact h2
  have h3' :∀k∈z.foot,k∉y.foot:=by
    cases y with
    |t T K=>cases hy
    |_=>exact h2'
  cases u with
  |t T K=>cases hu
  |_=>exact fun k hk D=>(hf k D).elim (h3 k hk) (h3' k hk)
theorem asM (h:SH F w W (x::H))(hx:x.mv=true)(hy:y.mv=true)(ht:y.ty=x.ty)(hz:y.holds W)(hf:∀k∈y.foot,k∈x.foot):SH F w W (y::H):=by
  have hp:=List.pairwise_cons.1 h.ap;refine⟨h.off,fun z D=> ?_,List.pairwise_cons.2 ⟨fun z D=>Q83 hx (hp.1 z D) hy ht hf,hp.2⟩,fun z D hm k hk G=> ?_⟩
  · rcases List.mem_cons.1 D with rfl|D
    · exact hz
    exact h.all z (List.mem_cons_of_mem _ D)
  rcases List.mem_cons.1 D with rfl|D
  · exact h.old x (List.mem_cons_self ..) hx k (hf k hk) G
  exact h.old z (List.mem_cons_of_mem _ D) hm k hk G
theorem merge (h:SH F w W (x::y::H))(hx:x.mv=true)(hy:y.mv=true)(tx:x.ty=T)(hz:(As.m T f K).holds W)(hf:∀k∈f,k∈x.foot∨k∈y.foot):SH F w W (.m T f K::H):=by
  have hp:=List.pairwise_cons.1 h.ap;have J:=List.pairwise_cons.1 hp.2;refine⟨h.off,fun z D=> ?_,List.pairwise_cons.2 ⟨fun z D=>Y80 hx hy (hp.1 z (List.mem_cons_of_mem _ D)) (J.1 z D) rfl tx hf,J.2⟩,fun z D hm k hk G=> ?_⟩
  · rcases List.mem_cons.1 D with rfl|D
    · exact hz
    exact h.all z (List.mem_cons_of_mem _ (List.mem_cons_of_mem _ D))
  rcases List.mem_cons.1 D with rfl|D
  · rcases hf k hk with hk|hk
    · exact h.old x (List.mem_cons_self ..) hx k hk G
    exact h.old y (by simp) hy k hk G
  exact h.old z (by simp[D]) hm k hk G
theorem split {u:As}(h:SH F w W (u::H))(hu:u.mv=true)(hx:x.holds W)(hy:y.holds W)(mx:x.mv=true)(my:y.mv=true)(tx:x.ty=u.ty)(ty:y.ty=u.ty)(fx:∀k∈x.foot,k∈u.foot)(fy:∀k∈y.foot,k∈u.foot)(dj:∀k∈x.foot,k∉y.foot):SH F w W (x::y::H):=by
  have hp:=List.pairwise_cons.1 h.ap;refine⟨h.off,fun z D=> ?_,List.pairwise_cons.2 ⟨fun z D=> ?_,List.pairwise_cons.2 ⟨fun z D=>Q83 hu (hp.1 z D) my ty fy,hp.2⟩⟩,fun z D hm k hk G=> ?_⟩
  · rcases List.mem_cons.1 D with rfl|D
    · exact hx
    rcases List.mem_cons.1 D with rfl|D
    · exact hy
    exact h.all z (List.mem_cons_of_mem _ D)
  · rcases List.mem_cons.1 D with rfl|D
    · refine⟨fun _=> ?_,fun _=> ?_⟩
      · cases z with
        |t T K=>cases my
        |_=>exact dj
      cases x with
      |t T K=>cases mx
      |_=>exact fun k hk J=>dj k J hk
    exact Q83 hu (hp.1 z D) mx tx fx
  rcases List.mem_cons.1 D with rfl|D
  · exact h.old u (List.mem_cons_self ..) hu k (fx k hk) G
  rcases List.mem_cons.1 D with rfl|D
  · exact h.old u (List.mem_cons_self ..) hu k (fy k hk) G
  exact h.old z (List.mem_cons_of_mem _ D) hm k hk G
theorem mnil (T:Option TypeId)(h:SH F w W H)(hz:(As.m T [] K).holds W)(ht:H.all (fun y=>tyOk (.m T [] K) y)=true):SH F w W (.m T [] K::H):=h.new (Off.refl _ _) hz (fun k hk=>by cases hk) rfl ht
theorem foldF (h:SH F w W (N++R))(hz:(As.p f K).holds W)(hf:InF N f):SH F w W (.p f K::R):=by
  have hp:=List.pairwise_append.1 h.ap;refine⟨h.off,fun z D=> ?_,List.pairwise_cons.2 ⟨fun z D=>⟨fun e=>(by cases e),fun hm k hk J=> ?_⟩,hp.2.1⟩,fun z D hm k hk G=> ?_⟩
  · rcases List.mem_cons.1 D with rfl|D
    · exact hz
    exact h.all z (by simp[D])
  · obtain⟨x,hx,ht,M⟩:=hf k J
    have h2:=(hp.2.2 x hx z D).2 hm;cases x with
    |t T K=>exact ht T K rfl
    |_=>exact h2 k hk M
  rcases List.mem_cons.1 D with rfl|D
  · cases hm
  exact h.old z (by simp[D]) hm k hk G
theorem feet_p:feet (L++[.p f K])=feet L:=by
  unfold feet;rw[List.filter_append,List.flatMap_append];show _++[]=_;rw[List.append_nil]
theorem hereP (h:SH F w W (L++(N++R)))(hz:(As.p f K).holds W)(hf:InF N f):SH (feet (L++[.p f K])) W W (L++[.p f K]):=by
  rw[feet_p];have h0:=h.here;have hp:=List.pairwise_append.1 h.ap;refine⟨h0.off,fun z D=> ?_,List.pairwise_append.2 ⟨h0.ap,List.pairwise_singleton ..,fun z D y hy=> ?_⟩,fun z D hm k hk G=> ?_⟩
  · rcases List.mem_append.1 D with D|D
    · exact h0.all z D
    rw[List.mem_singleton.1 D];exact hz
  · rw[List.mem_singleton.1 hy]
    refine⟨fun hm k hk J=> ?_,fun e=>by cases e⟩;obtain⟨x,hx,ht,M⟩:=hf k J;have h2:=(hp.2.2 z D x (by simp[hx])).1 hm;cases x with
    |t T K=>exact ht T K rfl
    |_=>exact h2 k hk M
  rcases List.mem_append.1 D with D|D
  · exact h0.old z D hm k hk G
  rw[List.mem_singleton.1 D] at hm;cases hm
end SH
section
variable {P : Program} {g : FuncId} {args : Array Value} {F : List Nat} {w W : World} {H L N R : List As}
end
end
end Go.Proofs.YtlkbneflnjmgbaaGreatDoor

namespace Go.Proofs.YtlkbneflnjmgbaaGreatDoor.S8
set_option maxHeartbeats 1000000
attribute [local irreducible] wpList Z6 wpX
variable {kn : Kn}
open Sc (LL J10)
attribute [local irreducible] hs
structure PQ where
 X:Nat
 Y:Nat
 Z:Nat
 T:Nat
 a:Pr
abbrev pq4 (q:PQ):Array Value:=p4 q.X q.Y q.Z q.T
theorem p4z {X Y Z T:Nat}:(p4 X Y Z T).size=16:=rfl
def pqC (q:PQ):List Value:=(pq4 q).toList
def bvF (bs:List (Value×List UInt8)):List Nat:=bs.flatMap fun b=>(sb b.1 b.2).toList
def bvK (bs:List (Value×List UInt8))(W:World):Prop:=∀b∈bs,Sl W b.1 b.2
abbrev bvT (bs:List (Value×List UInt8)):As:=.p (bvF bs) (bvK bs)
abbrev bv1 (b:Value×List UInt8):List Value:=[b.1]
theorem Q6y {bs:List (Value×List UInt8)}{w:World}(h:bvK bs w):(bvT bs).holds w:=by
 refine⟨h,fun k hk=> ?_,fun W' _ e b hb=>Q14 (h b hb) fun k hk=>e k (List.mem_flatMap.2 ⟨b,hb,by rw[hk];simp⟩)⟩;obtain⟨b,hb,h1⟩:=List.mem_flatMap.1 hk;exact Sl.lt (h b hb) k (As.mem_toList h1)
theorem Y4l {W:World}{p V:Nat}(h:Blk W p (J0 .u8 32 (J7 V)) 22):Sl W (.slice (some ⟨p,0,none⟩) 32 32) (lb 32 V):=V5 (V:=V) (n:=32) (off:=0) (c:=32) h ap0 (by decide) (by decide)
theorem Y4m {p n c k:Nat}{l:List UInt8}(h:k∈(sb (.slice (some ⟨p,0,none⟩) n c) l).toList):k=p:=by
 unfold sb at h
 split at h
 ·
  cases h
 simpa[Value.ownBlock,eq_comm] using h
theorem Y4n {F:List Nat}{w W:World}{e p V:Nat}{u:Value}{l:List UInt8}(h:SH F w W [.b e #[u,.slice (some ⟨p,0,none⟩) 32 32] 35,.o u l,.b p (J0 .u8 32 (J7 V)) 22]):
  SH F w W [.r 35 1 (.slice (some ⟨e,0,none⟩) 2 2) ([(u,l),(.slice (some ⟨p,0,none⟩) 32 32,lb 32 V)].map bv1),bvT [(u,l),(.slice (some ⟨p,0,none⟩) 32 32,lb 32 V)]]:=by
 have h1:=h.b2r (k:=1) (es:=[(u,l),(.slice (some ⟨p,0,none⟩) 32 32,lb 32 V)].map bv1) (n:=2) (by rfl) (by intro e he;obtain⟨b,_,rfl⟩:=List.mem_map.1 he;rfl) rfl (by decide);have ho:=(h1.own (i:=1) rfl).sl;have hb:=Y4l (h1.blk (i:=2) rfl);have h3:=SH.foldF (N:=[.o u l,.b p (J0 .u8 32 (J7 V)) 22]) (R:=[.r 35 1 (.slice (some ⟨e,0,none⟩) 2 2) ([(u,l),(.slice (some ⟨p,0,none⟩) 32 32,lb 32 V)].map bv1)]) (h1.pick [1,2,0]) (Q6y (bs:=[(u,l),(.slice (some ⟨p,0,none⟩) 32 32,lb 32 V)]) fun b D=> ?_) fun k hk=> ?_
 ·
  exact h3.pick [1,0]
 ·
  rcases List.mem_cons.1 D with rfl|D
  ·
   exact ho
  rw[List.mem_singleton.1 D];exact hb
 obtain⟨b,D,h4⟩:=List.mem_flatMap.1 hk;rcases List.mem_cons.1 D with rfl|D
 ·
  exact⟨.o u l,by simp,fun T K e=>(by cases e),by rw[show(As.o u l).foot=u.ownBlock.toList from rfl,J2x (As.mem_toList h4)];simp⟩
 rw[List.mem_singleton.1 D] at h4;exact⟨.b p (J0 .u8 32 (J7 V)) 22,by simp,fun T K e=>(by cases e),by rw[Y4m h4];simp[As.foot]⟩
theorem Y9g {F:List Nat}{w W:World}{H:List As}{p U:Nat}{bs:List (Value×List UInt8)}(h:SH F w W (.b p (J0 .u8 32 (J7 U)) 22::bvT bs::H)):SH F w W (bvT (bs++[(.slice (some ⟨p,0,none⟩) 32 32,lb 32 U)])::H):=by
 have hb:=Y4l (h.blk (i:=0) rfl);have h3:bvK bs W:=(h.at_ (i:=1) rfl).1;refine SH.foldF (N:=[.b p (J0 .u8 32 (J7 U)) 22,bvT bs]) h (Q6y fun b D=> ?_) fun k hk=> ?_
 ·
  rcases List.mem_append.1 D with D|D
  ·
   exact h3 b D
  rw[List.mem_singleton.1 D];exact hb
 obtain⟨b,D,h4⟩:=List.mem_flatMap.1 hk;rcases List.mem_append.1 D with D|D
 ·
  exact⟨bvT bs,by simp,fun T K e=>(by cases e),List.mem_flatMap.2 ⟨b,D,h4⟩⟩
 rw[List.mem_singleton.1 D] at h4;exact⟨.b p (J0 .u8 32 (J7 U)) 22,by simp,fun T K e=>(by cases e),by rw[Y4m h4];simp[As.foot]⟩
def mkP (V:Nat)(qs:List PQ):List (List UInt8):=[3,2]::lb 32 V::qs.map fun q=>lb 32 (enc q.a)
theorem Y4o {V:Nat}{qs:List PQ}{i:Nat}{q:PQ}(h:qs[i]?=some q):mkP V (qs.take i)++[lb 32 (enc q.a)]=mkP V (qs.take (i+1)):=by
 unfold mkP;rw[List.take_add_one,h,List.map_append];rfl
theorem Z10 {W:World}{v u:Value}{bs:List (Value×List UInt8)}(hr:Row 35 1 W v (bs.map bv1++[[u]]))(hb:bvK bs W){l:List UInt8}(hu:Sl W u l):
  ∃A c,v=.slice A (bs.map (·.2)++[l]).length c∧∀(i:Nat)(x:List UInt8),(bs.map (·.2)++[l])[i]?=some x→∃ad y,A=some ad∧W.cell? (ad.add i)=some y∧Sl W y x:=by
 have e:bs.map bv1++[[u]]=(bs++[(u,l)]).map bv1:=by rw[List.map_append];rfl
 have e2:bs.map (·.2)++[l]=(bs++[(u,l)]).map (·.2):=by rw[List.map_append];rfl
 have hk:bvK (bs++[(u,l)]) W:=fun b D=>(List.mem_append.1 D).elim (hb b) fun h=>by rw[List.mem_singleton.1 h];exact hu
 rw[e] at hr;rw[e2];obtain⟨A,c,hv,h1,h0,h2⟩:=hr.rr;rw[List.length_map] at hv;refine⟨A,c,by rw[List.length_map];exact hv,fun i x hx=> ?_⟩;rw[List.getElem?_map] at hx;cases hq:(bs++[(u,l)])[i]? with
 |none=>rw[hq] at hx;cases hx
 |some b=>
  rw[hq] at hx;obtain rfl:=Option.some.inj hx;obtain⟨g,o,rfl,hc⟩:=h2 i (bv1 b) (by rw[List.getElem?_map,hq];rfl);exact⟨_,b.1,rfl,by rw[Addr.add_mid];have h3:=hc 0 b.1 rfl;rw[Nat.mul_one,Nat.add_zero] at h3;exact h3,hk b (List.mem_of_getElem? hq)⟩
theorem K1a {W:World}{A:Option Addr}{n c i g o:Nat}{qs:List PQ}{y:PQ}(h:RR 16 W (.slice A n c) (qs.map pqC))(yh:qs[i]?=some y)(hA:A=some ⟨g,o,none⟩):∀(j:Nat) (v:Value),(pq4 y)[j]?=some v→W.cell? ⟨g,o+i*16+j,none⟩=some v:=fun j v hv=>
 RR.cellat h (by rw[List.getElem?_map,yh];rfl) hA j v (by unfold pqC;rw[Array.getElem?_toList];exact hv)

theorem V6q (qs:List PQ):((qs.map fun q=>lb 32 (enc q.a)).flatten).length=32*qs.length:=by
 induction qs with
 |nil=>rfl
 |cons q r ih=>rw[List.map_cons,List.flatten_cons,List.length_append,J6,ih,List.length_cons];omega
theorem V6c {V X:Nat}{qs:List PQ}{v:Value}(hq:∀q∈qs,RN q.X q.Y q.Z q.T q.a)(hn:qs.length≤1000)(hX:RowKit.Hid (X=hs ([3,2]++lb 32 V++(qs.map fun q=>lb 32 (enc q.a)).flatten++[0])))(w:World)(hG:GA kn w)(hr:RR 16 w v (qs.map pqC)):
  Calls Tryz.prog 104 #[.agg (J0 .u8 32 (J7 V)),v] w fun e w' => ∃p,e=.returned (.slice (some ⟨p,0,none⟩) 16 64)∧SH [] w w' [.b p (J0 .u8 64 (J7 X)) 163]:=by
 obtain⟨Aq,cq,rfl,θ,δ⟩:=RR.opf hr;have hS:=SH.nil [] w
 go_enter Tryz.func104,Tryz.ntmps104
 go_upto_region 0 with fail;refine RL hS ?_;clear hS;refine MN (z:=J0 .u8 32 (J7 V)) (t:=22) ?_;intro Z8;refine MV ?_;refine MZ fun W hS=> ?_;go_upto_region 1 with fail;refine RL hS ?_;clear hS;refine MO (m:=[3,2]) (n:=2) (z:= #[.int .u8 3,.int .u8 2]) ?_;intro γ;refine MW ?_ (v:=.slice (some ⟨Z8,0,none⟩) 32 32);refine MB (z:= #[γ,.slice (some ⟨Z8,0,none⟩) 32 32]) (t:=35) (n:=2) (c:=2) ?_ (hr:=fun W hS=>J0a [γ,.slice (some ⟨Z8,0,none⟩) 32 32] rfl rfl (vsc (Q1 (hS.osl (i:=0) rfl)).1 (vsc (Q1 (V5 (V:=V) (n:=32) (off:=0) (c:=32) (hS.blk (i:=1) rfl) ap0 (by decide) (by decide))).1 vs0)) Tryz.underlying187 (by kernel_rfl) (by kernel_rfl) rfl (by decide) (by decide));intro κ;refine MV ?_;refine MZ fun W hS=> ?_;go_upto_region 2 with fail;refine RL hS ?_;clear hS;refine MV ?_;refine MV ?_;refine W0 ?_;refine MZ fun W hS=> ?_;have hS:=hS.pick [0,1,2];have hS:=Y4n hS
 go_wp2_with fail
 go_loopw [5,15] (fun rr ii wr=> ∃(i:Nat)(bs:List (Value×List UInt8)) (rv:Value),(i≤qs.length)∧(RowKit.Hid (bs.map (·.2)=mkP V (qs.take i)))∧(rv=rr)∧(ii=.int .i64 (i:Int))∧SH [] w wr [.r 35 1 rv (List.map bv1 bs),bvT bs])
  (fun rr ii _=>qs.length-(intOf ii).toNat)
 case atStart=>exact⟨0,_,_,Nat.zero_le _,Lib.hid rfl,rfl,rfl,hS⟩
 clear hS
 case round=>
  obtain⟨i,bs,rv,hi,G,rfl,rfl,hS⟩:=hrel;have τ:bs.length≤1002:=by have h_:=congrArg List.length G.out;unfold mkP at h_;simp only[List.length_map,List.length_cons,List.length_take] at h_;omega
  by_cases J:i<qs.length
  ·
   obtain⟨y,yh⟩:∃y,qs[i]?=some y:=⟨_,List.getElem?_eq_getElem J⟩
   have ζ:=hq y (List.mem_of_getElem? yh);obtain⟨ε,η,β,_⟩:=δ.out i y yh;have α:=Lib.hid β;clear β;obtain⟨U,hU⟩:=exn (enc y.a);have bU:U<2^256:=by rw[hU];exact Q0l _
   have HU:=Lib.hid hU;clear hU;go_upto_region 3 with fail;refine RL hS ?_;clear hS;refine Wt ?_;refine MZ fun W hS=> ?_;go_upto_region 4 with fail;refine RL hS ?_;clear hS;refine MW ?_ (v:=.pointer (some ⟨ε,η+i*16,none⟩)) (hv:=fun _=>J2l α.out J rfl rfl rfl Tryz.underlying252 (by kernel_rfl));refine MF (v:=.agg (p4 y.X y.Y y.Z y.T)) (fun W hS=>J1y rfl rfl (fun i_ v hv=>J0q ((K1a hr yh α.out) i_ v (by simpa using hv)) hS.ext) (by kernel_rfl) (by rw[p4z];kernel_rfl)) ?_;refine MN (z:=p4 0 0 0 0) (t:=196) ?_;intro μ;refine MR 0 ?_ (hz:=by rw[p4z];kernel_rfl) (hs:=by first|rw[p4z,p4z]|rw[p4z]|kernel_rfl);refine MZ fun W hS=> ?_;go_upto_region 5 with fail;refine RL hS ?_;clear hS;refine ML 0 ?_ (hs:=by rw[p4z];kernel_rfl);refine MC (v:=.agg (J0 .u8 32 (J7 U))) (fun W hS=>Q53 (ζ.rw) HU.out W (GA_ext hG hS.ext).1) ?_;refine MN (z:=J0 .u8 32 (J7 0)) (t:=22) ?_;intro D;refine MR 0 ?_;refine MZ fun W hS=> ?_;go_upto_region 6 with fail;refine RL hS ?_;clear hS;refine MV ?_;refine MW ?_ (v:=.slice (some ⟨D,0,none⟩) 32 32);refine MB (z:= #[.slice (some ⟨D,0,none⟩) 32 32]) (t:=35) (n:=1) (c:=1) ?_ (hr:=fun W hS=>J0a [.slice (some ⟨D,0,none⟩) 32 32] rfl rfl (vsc (Q1 (V5 (V:=U) (n:=32) (off:=0) (c:=32) (hS.blk (i:=0) rfl) ap0 (by decide) (by decide))).1 vs0) Tryz.underlying187 (by kernel_rfl) (by kernel_rfl) rfl (by decide) (by decide));intro ρ;refine J0g (fun W hS=>(Q1 (V5 (V:=U) (n:=32) (off:=0) (c:=32) (hS.blk (i:=1) rfl) ap0 (by decide) (by decide))).2) ?_;intro S;refine MAr 3 0 (tS:=187) (bytes:=24) (es:=(List.map bv1 bs)) (by first|omega|decide|(rw[List.length_map];omega)|(simp only[List.length_append,List.length_map,List.length_cons,List.length_nil];omega)) (e:=([.slice (some ⟨D,0,none⟩) 32 32]:List Value)) (h1:=Y73 S) ?_;intro σ;refine MV ?_;refine MZ fun W hS=> ?_;have hS:=(hS.pick [1,4,3])
   have hS:=Y9g hS;go_wp2;go_roundw
   case rel=>exact⟨(i+1),(bs++[(.slice (some ⟨D,0,none⟩) 32 32,lb 32 U)]),_,by omega,Lib.hid (by rw[List.map_append,G.out,HU.out];exact Y4o yh),rfl,by go_num,(by have h_:=hS.pick [1,0];rw[List.map_append];exact h_)⟩
   case measure=>simp[intOf];omega
  obtain rfl:i=qs.length:=by omega
  rw[List.take_length] at G;go_upto_region 3 with fail;refine RL hS ?_;clear hS;refine Wf ?_;refine MZ fun W hS=> ?_;go_upto_region 8 with fail;refine RL hS ?_;clear hS;refine MV ?_;refine MO (m:=[0]) (n:=1) (z:= #[.int .u8 0]) ?_;intro R;refine MB (z:= #[R]) (t:=35) (n:=1) (c:=1) ?_ (hr:=fun W hS=>J0a [R] rfl rfl (vsc (Q1 (hS.osl (i:=0) rfl)).1 vs0) Tryz.underlying187 (by kernel_rfl) (by kernel_rfl) rfl (by decide) (by decide));intro ξ;refine J0g (fun W hS=>(Q1 (hS.osl (i:=1) rfl)).2) ?_;intro N;refine MAr 2 0 (tS:=187) (bytes:=24) (es:=(List.map bv1 bs)) (by first|omega|decide|(rw[List.length_map];omega)|(simp only[List.length_append,List.length_map,List.length_cons,List.length_nil];omega)) (e:=([R]:List Value)) (h1:=Y73 N) ?_;intro ν;refine J0g (fun W hS=>(Z10 (l:=[0]) (hS.row (i:=2) rfl) (hS.at_ (i:=3) (x:=bvT bs) rfl).1 (hS.own (i:=1) rfl).sl).imp fun A h=>h.imp fun c h=>h.1) ?_;rintro⟨A_,c_,rfl⟩;refine MC (v:=.agg (J0 .u8 64 (J7 X))) (fun W hS=>J81 hX.out (bs.map (·.2)++[[0]]) A_ c_ (by rw[G.out];unfold mkP;simp) (by simp only[List.length_append,List.length_cons,List.length_nil,J6,V6q];omega) (by rw[G.out];unfold mkP;simp;omega) W (by obtain⟨A,c,h1,h2⟩:=Z10 (l:=[0]) (hS.row (i:=2) rfl) (hS.at_ (i:=3) (x:=bvT bs) rfl).1 (hS.own (i:=1) rfl).sl;injection h1 with h1;subst h1;exact h2) (GA_ext hG hS.ext).2.1) ?_;refine MN (z:=J0 .u8 64 (J7 0)) (t:=163) ?_;intro M;refine MR 0 ?_;refine MZ fun W hS=> ?_;go_upto_region 9 with fail;refine RL hS ?_;clear hS;refine MW ?_ (v:=.slice (some ⟨M,0,none⟩) 16 64);refine MV ?_;refine MZ fun W hS=> ?_;go_wp2;exact bodyPost_ret (v:=.slice (some ⟨M,0,none⟩) 16 64) (by simp only[results,Tryz.results104];go_simp) rfl ⟨M,rfl,hS.pick [0]⟩
end Go.Proofs.YtlkbneflnjmgbaaGreatDoor.S8

/- Contracts and plain laws for superSeals_holds. Conditions: the tables hold their numbers. -/
import Derived.Test.YtdjacgmmidbieaaGreatDoorJ5
import Derived.Test.YtdjacgmmidbieaaGreatDoorRows
import Derived.ProofKit
import Derived.OpenShut
import Derived.Deep.Slices
import Derived.Deep.DeepHandedRow
import Derived.Lib.LaidTab
open Go renaming undef->AU,World->AA,Value->AB,bodyPost_ret->BH,execOp->AV,Calls->BI,Program->AD,TypeId->AE,IntKind->AI
open Go.IntKind renaming wrap_i64->AJ,wrap_u64->AK
open Go.Sem renaming run_bind->Ah
open _root_.List renaming getElem?_eq_getElem->Aj,mem_cons->Ad,mem_append->Ay
open _root_.Nat renaming le_refl->AM,zero_le->An,not_lt->BB,zero_add->AP,mul_one->AS
open Go.RowKit
set_option maxRecDepth 100000
set_option linter.unusedSimpArgs false
set_option linter.unusedVariables false
namespace Go.Proofs.YtdjacgmmidbieaaGreatDoor
section
attribute [local irreducible] wpList K1 wpX
abbrev X4 (x:Nat):List AB:=(J0 .u8 32 (J6 x)).toList
theorem RR.opf {α:Type}{f:α→List AB}{k:Nat}{w:AA}{u:AB}{ls:List α}(h:RR k w u (ls.map f)):∃A c,u=.slice A ls.length c∧ls.length≤c∧Hid (∀(j:Nat) (x:α),ls[j]?=some x→∃g o,A=some ⟨g,o,none⟩∧∀(i:Nat) (v:AB),(f x)[i]?=some v→w.cell? ⟨g,o+j*k+i,none⟩=some v):=by
 obtain⟨A,c,h1,h2,_,h3⟩:=h;rw[List.length_map] at h1 h2;exact⟨A,c,h1,h2,Lib.hid fun j x hj=>h3 j (f x) (by rw[List.getElem?_map,hj];rfl)⟩
def TXS (W:AA)(us:List AB)(ts:List (List UInt8)):Prop:=us.length=ts.length∧∀(i:Nat) (u:AB) (t:List UInt8),us[i]?=some u→ts[i]?=some t→Sl W u t
def txF:List AB→List (List UInt8)→List Nat
 |u::us,t::ts=>(sb u t).toList++txF us ts
 |_,_=>[]
theorem mem_txF {k:Nat}:∀{us:List AB} {ts:List (List UInt8)},k∈txF us ts↔∃(i:Nat) (u:AB) (t:List UInt8),us[i]?=some u∧ts[i]?=some t∧sb u t=some k
 |[],_=>⟨fun h=>(by cases h),fun⟨i,u,t,h,_⟩=>by simp at h⟩
 |_::_,[]=>⟨fun h=>(by cases h),fun⟨i,u,t,_,h,_⟩=>by simp at h⟩
 |u::us,t::ts=>by
  show k∈(sb u t).toList++txF us ts↔_;rw[Ay,mem_txF];constructor
  ·
   rintro(h|⟨i,v,s,h1,h2,h3⟩)
   ·
    exact⟨0,u,t,rfl,rfl,As.mem_toList h⟩
   ·
    exact⟨i+1,v,s,h1,h2,h3⟩
  ·
   rintro⟨i,v,s,h1,h2,h3⟩;cases i with
   |zero=>
    obtain rfl:u=v:=by simpa using h1
    obtain rfl:t=s:=by simpa using h2
    exact .inl (by rw[h3];simp)
   |succ i=>exact .inr ⟨i,v,s,by simpa using h1,by simpa using h2,h3⟩
theorem Z2p {w W:AA}{v:AB}{l:List UInt8}(h:Sl w v l)(e:∀b,sb v l=some b→W.heap[b]?=w.heap[b]?):Sl W v l:=by
 obtain⟨A,c,rfl,h1,h2,h0,h3⟩:=h;refine⟨A,c,rfl,h1,h2,h0,fun j x hj=> ?_⟩;obtain⟨ad,hA,hc⟩:=h3 j x hj;refine⟨ad,hA,?_⟩
 have hb:sb (.slice A l.length c) l=some ad.block:=by
  unfold sb;rw[if_neg (by rintro rfl;simp at hj),hA];rfl
 have h4:=e _ hb;rw[←hc];exact AA.cell?_of_block (a:=ad.add j) (w:=w) (w' :=W) (by rw[show(ad.add j).block=ad.block from by unfold Addr.add;split<;>rfl];exact h4)
theorem TXS.holds {W:AA}{us:List AB}{ts:List (List UInt8)}(h:TXS W us ts):(As.p (txF us ts) (fun W=>TXS W us ts)).holds W:=
 ⟨h,fun k hk=>by obtain⟨i,u,t,h1,h2,h3⟩:=mem_txF.1 hk;exact Sl.lt (h.2 i u t h1 h2) k h3,
 fun W' _ e=>⟨h.1,fun i u t h1 h2=>Z2p (h.2 i u t h1 h2) fun b hb=>e b (mem_txF.2 ⟨i,u,t,h1,h2,hb⟩)⟩⟩
namespace SH
variable {F : List Nat} {w W W' : AA} {H X : List As} {i j : Nat}
theorem addp {f:List Nat}{K:AA→Prop}(h:SH F w W H)(hz:(As.p f K).holds W)(hf:∀k∈f,∃(i:Nat) (x:As),H[i]?=some x∧x.mv=false∧k∈x.foot):SH F w W (.p f K::H):=by
 refine⟨h.off,fun y hy=> ?_,List.pairwise_cons.2 ⟨fun y hy=>⟨fun h=>by(cases h),fun hm k hk J=> ?_⟩,h.ap⟩,fun y hy hm k hk G=> ?_⟩
 ·
  rcases Ad.1 hy with rfl|hy
  ·
   exact hz
  exact h.all y hy
 ·
  obtain⟨i,x,hi,hx,D⟩:=hf k J;obtain⟨j,hj,e⟩:=List.mem_iff_getElem.1 hy;have hj' :H[j]?=some y:=by rw[Aj hj,e]
  have hn:j≠i:=fun e=>by subst e;rw[hi] at hj';obtain rfl:=Option.some.inj hj';rw[hx] at hm;cases hm
  have h1:=(h.ap2 hj' hi hn).1 hm;cases x with
  |t T K=>cases D
  |_=>exact h1 k hk D
 rcases Ad.1 hy with rfl|hy
 ·
  cases hm
 exact h.old y hy hm k hk G
theorem newL (h:SH F w W H)(h' :SH [] W W' X)(hf:∀y∈X,y.mv=false→∀k∈y.foot,W.heap.size≤k)(hx:X.all (fun y=>(match y with| .t _ _=>false|_=>true) && H.all (tyOk y))=true):SH F w W' (X++H):=by
 have hn:∀y∈X,∀k∈y.foot,W.heap.size≤k:=fun y hy k hk=>by
  cases hm:y.mv with
  |false=>exact hf y hy hm k hk
  |true=>exact Nat.le_of_not_lt fun G=>by have:=h'.old y hy hm k hk G;cases this
 have h2:=h.next h'.off;refine⟨h2.off,fun y hy=> ?_,List.pairwise_append.2 ⟨h'.ap,h2.ap,fun y hy z hz=>⟨fun hm=> ?_,fun hm=> ?_⟩⟩,fun y hy hm k hk G=> ?_⟩
 ·
  rcases Ay.1 hy with hy|hy
  ·
   exact h'.all y hy
  exact h2.all y hy
 ·
  have h3:=List.all_eq_true.1 hx y hy;have h4:=As.lt (h.all z hz);cases z with
  |t T K=>
   have h5:=List.all_eq_true.1 (Bool.and_eq_true_iff.1 h3).2 _ hz
   simpa[tyOk,hm] using h5
  |_=>exact fun k hk D=>BB.2 (hn y hy k hk) (h4 k D)
 ·
  have h3:=List.all_eq_true.1 hx y hy;have h4:=As.lt (h.all z hz);cases y with
  |t T K=>simp at h3
  |_=>exact fun k hk D=>BB.2 (hn _ hy k D) (h4 k hk)
 rcases Ay.1 hy with hy|hy
 ·
  have:=hn y hy k hk;have:=h.size;omega
 exact h2.old y hy hm k hk G
end SH
theorem J6z {P:AD}{ops:Array Oper}{k:Wk}{F:List Nat}{w:AA}{H:List As}{l:List Oper}{a:Act}{p:Prop}(hp:∀W,SH F w W H→p)(h:p→wpM P ops k F w H l a):wpM P ops k F w H l a:=fun W hS=>h (hp W hS) W hS
theorem Y91 {P:AD}{α:Type}{f:FuncId}{args:Array AB}{F:List Nat}{w W:AA}{H:List As}{V:α→AB}{X:α→List As}(hS:SH F w W H)(hc:BI P f args W fun e W' => ∃x,e=.returned (V x)∧SH [] W W' (X x)∧∀y∈X x,y.mv=false→∀k∈y.foot,W.heap.size≤k)(ht:∀x,(X x).all (fun y=>(match y with| .t _ _=>false|_=>true) && H.all (SH.tyOk y))=true):
  BI P f args W fun e W' => ∃x,e=.returned (V x)∧SH F w W' (X x++H):=
 hc.mono fun e W' ⟨x,h1,h2,h3⟩=>⟨x,h1,hS.newL h2 h3 (ht x)⟩
theorem Q38 {P:Program}{a:Act}{o:Oper}{x:Operand}{tS t:TypeId}{W:World}{A:Option Addr}{n c:Nat}(ho:o.op=.call {callee:=.builtin .len,args:= #[x],argTypes:= #[tS]})(hx:a.eval x=.slice A n c)(ht:P.underlying tS=some (.slice t)):(execOp a.eval o).run P W=.ok (.value (.int .i64 (n:Int))) W:=by
 unfold AV;simp only[ho,resolve,invoke,builtin,Ah,Sem.run_pure,Result.andThen_ok,List.map_toArray,List.map_cons,List.map_nil,hx];simp[Builtin.len_,run_underlying ht,goInt,Ah]
theorem J24 {P:AD}{α:Type}{f:FuncId}{args:Array AB}{F:List Nat}{w W:AA}{H:List As}{V:α→AB}{X:α→As}(hS:SH F w W H)(hc:BI P f args W fun e W' => ∃x,e=.returned (V x)∧SH [] W W' [X x])(ht:∀x,(X x).mv=true∧H.all (SH.tyOk (X x))=true):
  BI P f args W fun e W' => ∃x,e=.returned (V x)∧SH F w W' (X x::H):=
 hc.mono fun e W' ⟨x,h1,h2⟩=>⟨x,h1,SH.frame (L:=[]) (L' :=[X x]) (R:=H) hS h2 ⟨.inr (ht x),trivial⟩⟩
theorem J6n {P:AD}{fn:Func}{p q:Tmp}{ty t:AE}{tmps:Array AB}{w:AA}{g:Nat}{cs:Array AB}{v:AB}(h:fn.results= #[.cell p ty,.tmp q])
  (hp:tmps.getD p AU=.pointer (some ⟨g,0,none⟩)) (hq:tmps.getD q AU=v) (hB:Blk w g cs t) (hk:(P.underlying ty).map TypeDesc.isRow=some true) (hi:(P.info? ty).map (·.size)=some cs.size):
  (results fn tmps).run P w=.ok (.tuple #[.agg cs,v]) w:=by
 cases hu:P.underlying ty with
 |none=>simp[hu] at hk
 |some d=>
  have hd:d.isRow=true:=by simpa[hu] using hk
  have hp' :tmps[p]?.getD AU=.pointer (some ⟨g,0,none⟩):=by simpa using hp
  have hq' :tmps[q]?.getD AU=v:=by simpa using hq
  simp[results,h,hp',hq',asAddr,run_loadVar_row w g t ty cs _ d hB hu (by cases d<;>simp_all [TypeDesc.isRow]) hi]
theorem Row.form {α:Type}{f:α→List AB}{ls:List α}{t:AE}{k:Nat}{w:AA}{v:AB}(h:Row t k w v (ls.map f)):∃A c,v=.slice A ls.length c:=by
 obtain⟨A,c,h1,_⟩:=RR.opf h.rr;exact⟨A,c,h1⟩
end

section
open Go.ChangeShapes Go.WideShapes Go.ChangeAt Go.RowKit Go.Deep
theorem own:ownKnob Tryz.prog.godebug=none:=by kernel_rfl
theorem Z2t:laidOutB Tryz.prog=true:=by kernel_rfl
theorem Z2u:Tryz.prog.cellsOf 5=1:=by kernel_rfl
theorem Y2z {cs:List AB}{o s o' :Nat}(h:o' =o+s):cs.drop o=(cs.drop o).take s++cs.drop o' :=by
  subst h;rw[←List.drop_drop,List.take_append_drop]
section
variable {H : Type} {enc : AE × AB → H} {W : AA} {base : Nat} {sp : Nat → Bool} {held : Bool}
theorem Z0m {fuel:Nat}{t e:AE}{n:Nat}{cs:List AB}{x:DataW H×List MemPlace}(ht:Tryz.prog.underlying t=some (.array n e))(he:Tryz.prog.underlying e=some (.int .u8))(hc:Tryz.prog.cellsOf e=1)(hct:Tryz.prog.cellsOf t=n)
    (h:DataW.trod enc Tryz.prog W base sp held fuel t cs=some x):∃S:List UInt8,cs=bs8 S∧S.length=n:=by
  obtain⟨xs,m,_,_,hl,G,hg⟩:=DataW.trod_array ht h;rw[hct] at hl
  have D:∀i,i<n→∃c:UInt8,cs[i]?=some (.int .u8 (c.toNat:Int)):=by
    intro i hi;have h1:=hg i hi;rw[hc,AS,Aj (by omega)] at h1;obtain⟨z,hz,_,hw⟩:=DataW.trod_int he h1;have hb:=bounds_u8 hw;have h0:=congrArg (fun l:List AB=>l[0]?) hz;rw[List.getElem?_take_of_lt (by omega),List.getElem?_drop] at h0;refine⟨UInt8.ofNat z.toNat,?_⟩
    have e:((UInt8.ofNat z.toNat).toNat:Int)=z:=by
      rw[UInt8.toNat_ofNat'];omega
    rw[e]
    simpa using h0
  refine⟨(List.range n).map fun i=>if h:i<n then Classical.choose (D i h) else 0,?_,by simp⟩;apply List.ext_getElem?;intro i
  by_cases hi:i<n
  · have:=Classical.choose_spec (D i hi)
    rw[this];simp[bs8,hi]
  rw[List.getElem?_eq_none (by omega),List.getElem?_eq_none (by simp[bs8];omega)]
theorem Q5b {fuel:Nat}{t:AE}{n:Nat}{cs:List AB}{x:DataW H×List MemPlace}(ht:Tryz.prog.underlying t=some (.array n 5))(hct:Tryz.prog.cellsOf t=n)
    (h:DataW.trod enc Tryz.prog W base sp held fuel t cs=some x):∃X:Nat,X<2^(8*n)∧cs=(J0 .u8 n (J6 X)).toList:=by
  obtain⟨L,rfl,hl⟩:=Z0m ht Tryz.underlying5 Z2u hct h;exact⟨le L,by rw[←hl];exact Q82 L,by rw[V34,Z0b hl]⟩
theorem Y95 {fuel:Nat}{t:AE}{cs:List AB}{x:DataW H×List MemPlace}(ht:Tryz.prog.underlying t=some (.int .i64))(h:DataW.trod enc Tryz.prog W base sp held fuel t cs=some x):∃n:Int,(-9223372036854775808≤n∧n<9223372036854775808)∧cs=[.int .i64 n]:=by
  obtain⟨n,hn,_,hw⟩:=DataW.trod_int ht h;exact⟨n,by have:=bounds_i64 hw;omega,hn⟩
theorem Y30 {fuel:Nat}{t:AE}{cs:List AB}{x:DataW H×List MemPlace}(ht:Tryz.prog.underlying t=some .bool)(h:DataW.trod enc Tryz.prog W base sp held fuel t cs=some x):∃b:Bool,True∧cs=[.bool b]:=by
  obtain⟨b,hb,_⟩:=DataW.trod_bool ht h;exact⟨b,trivial,hb⟩
theorem Z0n {fuel:Nat}{cs:List AB}{x:DataW H×List MemPlace}(h:DataW.trod enc Tryz.prog W base sp held fuel 45 cs=some x):∃u l,(Sl W u l∧l.length≤maxLen)∧cs=[u]:=by
  rcases open_slice Tryz.underlying45 h with⟨rfl,_⟩|⟨a,G,S,m,n,D,Pl,rfl,_,hl,hm,R,_,hi⟩
  · exact⟨_,[],⟨Y8p W,by simp⟩,rfl⟩
  have X:G≤m:=by rw[R];split<;>omega
  have M:∀i,i<G→∃c:UInt8,W.cell? (a.add i)=some (.int .u8 (c.toNat:Int)):=by
    intro i U;obtain⟨V,h1,h2⟩:=hi i (by omega);rw[Z2u,AS] at h1;obtain⟨_,T,J⟩:=AA.cells?_some h1;obtain⟨z,hz,_,hw⟩:=DataW.trod_int Tryz.underlying5 h2;have hb:=bounds_u8 hw;refine⟨UInt8.ofNat z.toNat,?_⟩;have e:((UInt8.ofNat z.toNat).toNat:Int)=z:=by rw[UInt8.toNat_ofNat'];omega
    have:=J 0 (by omega);rw[hz] at this;rw[e];have e0:∀b:Addr,b.add 0=b:=fun b=>by unfold Addr.add;simp
    rw[e0] at this
    simpa using this
  refine⟨_,(List.range G).map fun i=>if h:i<G then Classical.choose (M i h) else 0,⟨⟨some a,S,by simp,by simpa using hl,hm,(fun h=>by cases h),fun j x hj=>⟨a,rfl,?_⟩⟩,by simp;omega⟩,rfl⟩;have N:j<G:=by have:=(List.getElem?_eq_some_iff.1 hj).1;simpa using this
  simp[N] at hj;subst hj;exact Classical.choose_spec (M j N)
theorem J9z {fuel:Nat}{cs:List AB}{x:DataW H×List MemPlace}(h:DataW.trod enc Tryz.prog W base sp held fuel 56 cs=some x):∃(v1:AB) (l2:List UInt8) (b3:Bool) (n4:Int) (X5:Nat),(Sl W v1 l2∧l2.length≤maxLen)∧True∧(-9223372036854775808≤n4∧n4<9223372036854775808)∧X5<2^(8*32)∧cs=fcs [.c v1,.c (.bool b3),.c (.int .i64 n4),.a 32 X5]:=by
  obtain⟨xs,n,_,_,hl,N,hg⟩:=DataW.trod_struct Tryz.underlying56 h;rw[show Tryz.prog.cellsOf 56=35 by kernel_rfl] at hl;have R:xs.length=4:=N;have g0:DataW.trod enc Tryz.prog W base sp held n 45 ((cs.drop 0).take (Tryz.prog.cellsOf 45))=xs[0]?:=hg 0 _ rfl;rw[show Tryz.prog.cellsOf 45=1 by kernel_rfl,Aj (by omega)] at g0;replace g0 : DataW.trod enc Tryz.prog W base sp held n 45 ((cs.drop 0).take 1) = some (xs[0]'(by omega)) := g0;obtain⟨v1,l2,D,e0⟩:=Z0n g0;have g1:DataW.trod enc Tryz.prog W base sp held n 4 ((cs.drop 1).take (Tryz.prog.cellsOf 4))=xs[1]?:=hg 1 _ rfl;rw[show Tryz.prog.cellsOf 4=1 by kernel_rfl,Aj (by omega)] at g1;replace g1 : DataW.trod enc Tryz.prog W base sp held n 4 ((cs.drop 1).take 1) = some (xs[1]'(by omega)) := g1;obtain⟨b3,G,e1⟩:=Y30 Tryz.underlying4 g1;have g2:DataW.trod enc Tryz.prog W base sp held n 3 ((cs.drop 2).take (Tryz.prog.cellsOf 3))=xs[2]?:=hg 2 _ rfl;rw[show Tryz.prog.cellsOf 3=1 by kernel_rfl,Aj (by omega)] at g2;replace g2 : DataW.trod enc Tryz.prog W base sp held n 3 ((cs.drop 2).take 1) = some (xs[2]'(by omega)) := g2;obtain⟨n4,J,e2⟩:=Y95 Tryz.underlying3 g2;have g3:DataW.trod enc Tryz.prog W base sp held n 22 ((cs.drop 3).take (Tryz.prog.cellsOf 22))=xs[3]?:=hg 3 _ rfl;rw[show Tryz.prog.cellsOf 22=32 by kernel_rfl,Aj (by omega)] at g3;replace g3 : DataW.trod enc Tryz.prog W base sp held n 22 ((cs.drop 3).take 32) = some (xs[3]'(by omega)) := g3;obtain⟨X5,M,e3⟩:=Q5b Tryz.underlying22 (by kernel_rfl) g3;refine⟨v1,l2,b3,n4,X5,D,G,J,M,?_⟩;rw[show cs=cs.drop 0 from rfl];rw[Y2z (cs:=cs) (o:=0) (s:=1) (o' :=1) rfl,e0]
  conv=>lhs;rw[Y2z (cs:=cs) (o:=1) (s:=1) (o' :=2) rfl,e1]
  conv=>lhs;rw[Y2z (cs:=cs) (o:=2) (s:=1) (o' :=3) rfl,e2]
  conv=>lhs;rw[Y2z (cs:=cs) (o:=3) (s:=32) (o' :=35) rfl,e3]
  rw[List.drop_eq_nil_of_le (Nat.le_of_eq hl)];rfl
end
end

section
open Go.RowKit Go.ChangeShapes Go.WideShapes Go.ChangeAt

end

section
set_option maxHeartbeats 4000000

def xo (p q:Int):Int:=bits .xor .u64 p q
def an (p q:Int):Int:=bits .and .u64 p q
def oo (p q:Int):Int:=bits .or .u64 p q
def nt (p:Int):Int:=bits .xor .u64 18446744073709551615 p
def ad (p q:Int):Int:=AI.wrap .u64 (p+q)
def sl (p:Int)(n:Nat):Int:=AI.wrap .u64 (p*2^n)
def sr (p:Int)(n:Nat):Int:=p / 2^n
def rt (p:Int)(n:Nat):Int:=oo (sr p n) (sl p (64-n))
theorem Y2l (p q:Int):oo p q=oo q p:=by unfold oo;simp only[bits,BitVec.or_comm]
section
variable {P : AD} {w : AA} {o : Oper} {a : Act} {x y : Operand} {t t' : AE} {p q : Int}
theorem J0q (ho:o.op=.binOp .xor t x y t')(hx:a.eval x=.int .u64 p)(hy:a.eval y=.int .u64 q):(AV a.eval o).run P w=.ok (.value (.int .u64 (xo p q))) w:=by
  simp only[AV,ho,hx,hy];rfl
theorem J3z (ho:o.op=.binOp .and t x y t')(hx:a.eval x=.int .u64 p)(hy:a.eval y=.int .u64 q):(AV a.eval o).run P w=.ok (.value (.int .u64 (an p q))) w:=by
  simp only[AV,ho,hx,hy];rfl
theorem Q6g (ho:o.op=.binOp .or t x y t')(hx:a.eval x=.int .u64 p)(hy:a.eval y=.int .u64 q):(AV a.eval o).run P w=.ok (.value (.int .u64 (oo p q))) w:=by
  simp only[AV,ho,hx,hy];rfl
theorem J1e (ho:o.op=.binOp .add t x y t')(hx:a.eval x=.int .u64 p)(hy:a.eval y=.int .u64 q):(AV a.eval o).run P w=.ok (.value (.int .u64 (ad p q))) w:=by
  simp only[AV,ho,hx,hy];rfl
theorem Z2i (ho:o.op=.unOp .xor t x)(hx:a.eval x=.int .u64 p):(AV a.eval o).run P w=.ok (.value (.int .u64 (nt p))) w:=by
  simp only[AV,ho,hx];rfl
theorem J8a {k:AI}{n:Nat}(hn:n≤64)(ho:o.op=.binOp .shl t x y t')(hx:a.eval x=.int .u64 p)(hy:a.eval y=.int k (n:Int)):(AV a.eval o).run P w=.ok (.value (.int .u64 (sl p n))) w:=by
  have h:min ((n:Int)).toNat AI.u64.bits=n:=by rw[Int.toNat_natCast];exact Nat.min_eq_left hn
  simp only[AV,ho,hx,hy,eqGuard,binOp,Ah];simp[Op.shift,h,sl,go_sem,Ah]
theorem J38 {k:AI}{n:Nat}(hn:n≤64)(ho:o.op=.binOp .shr t x y t')(hx:a.eval x=.int .u64 p)(hy:a.eval y=.int k (n:Int)):(AV a.eval o).run P w=.ok (.value (.int .u64 (sr p n))) w:=by
  have h:min ((n:Int)).toNat AI.u64.bits=n:=by rw[Int.toNat_natCast];exact Nat.min_eq_left hn
  simp only[AV,ho,hx,hy,eqGuard,binOp,Ah];simp[Op.shift,h,sr,go_sem,Ah]
end
end

section
set_option maxHeartbeats 4000000
attribute [local irreducible] wpList

theorem V2z (n:Nat)(h1:1≤n)(h2:n≤63):bits .and .u64 (18446744073709551616-(n:Int)) 63=((64-n:Nat):Int):=by
  obtain⟨m,hm⟩:∃m:Nat,m=18446744073709551616-n:=⟨_,rfl⟩
  have e:(18446744073709551616-(n:Int))=(m:Int):=by omega
  have G:(BitVec.ofInt 64 63).toNat=2^6-1:=by decide
  have D:(BitVec.ofInt 64 (m:Int) &&& BitVec.ofInt 64 63).toNat=m % 2^6:=by
    rw[BitVec.toNat_and,BitVec.toNat_ofInt,G,Nat.and_two_pow_sub_one_eq_mod];omega
  rw[e];show AI.u64.wrap ((BitVec.ofInt 64 (m:Int) &&& BitVec.ofInt 64 63).toNat:Nat)=_;rw[D,AI.wrap_u64];omega

theorem Y8t (p:Int)(n:Nat)(h1:1≤n)(h2:n≤63)(w:AA):
  BI Tryz.prog 155 #[.int .u64 p,.int .i64 (-(n:Int))] w fun e w' =>V4 (.int .u64 (rt p n)) w w' e:=by
 have n0:(1:Int)≤(n:Int):=by omega
 have n1:(n:Int)≤63:=by omega
 have ha:=V2z n h1 h2;have D:Off [] w w:=Off.refl _ _
 go_enter Tryz.func155,Tryz.ntmps155
 go_upto_region 1 with fail;refine wp_region_lit ?_;refine Lv ?_;refine Lw ?_ (v:=.int .u64 (18446744073709551616-(n:Int))) (hv:=by go_simp;(try simp only[AI.wrap_u64,AI.wrap_i64]);(try omega));refine Lw ?_ (v:=.int .u64 (((64-n:Nat):Int))) (hv:=by first|(go_simp;done)|(go_simp;(try rw[ha]);(try omega)));refine Lv ?_;refine V5 ?_;go_upto_region 2 with fail;refine wp_region_lit ?_;refine Lv ?_;refine Lv ?_;refine Lw ?_ (v:=.int .u64 (sl p (64-n))) (hv:=J8a (n:=(64-n)) (by omega) rfl rfl rfl);refine Lv ?_;refine Lv ?_;refine Lw ?_ (v:=.int .u64 ((n:Int))) (hv:=by go_simp;(try simp only[AI.wrap_u64,AI.wrap_i64]);(try omega));refine Lw ?_ (v:=.int .u64 (sr p n)) (hv:=J38 (n:=n) (by omega) rfl rfl rfl);refine Lw ?_ (v:=.int .u64 (oo (sl p (64-n)) (sr p n))) (hv:=Q6g rfl rfl rfl);refine Lv ?_;refine V5 ?_;go_wp2;exact BH (v:=.int .u64 (oo (sl p (64-n)) (sr p n))) (by simp only[results,Tryz.results155];go_simp) rfl ⟨congrArg (fun z=>Ending.returned (.int .u64 z)) (Y2l _ _),D.ext⟩
theorem J5s (p:Int)(n:Nat)(h1:1≤n)(h2:n≤63)(w:AA):
  BI Tryz.prog 136 #[.int .u64 p,.int .i64 (n:Int)] w fun e w' =>V4 (.int .u64 (rt p n)) w w' e:=by
 have n0:(1:Int)≤(n:Int):=by omega
 have n1:(n:Int)≤63:=by omega
 have D:Off [] w w:=Off.refl _ _
 go_enter Tryz.func136,Tryz.ntmps136
 go_upto_region 1 with fail;refine wp_region_lit ?_;refine Lv ?_;refine Lv ?_;refine Lw ?_ (v:=.int .i64 (-(n:Int))) (hv:=by go_simp;(try simp only[AI.wrap_u64,AI.wrap_i64]);(try omega));refine Lr ?_ (Y8t p n h1 h2 w);intro W1 hO;replace D:=D.o hO;clear hO;refine Lv ?_;refine V5 ?_;go_wp2;exact BH (v:=.int .u64 (rt p n)) (by simp only[results,Tryz.results136];go_simp) rfl ⟨rfl,D.ext⟩
theorem J40 (p:Int)(n:Nat)(h1:1≤n)(h2:n≤63)(w:AA):
  BI Tryz.prog 71 #[.int .u64 p,.int .i64 (n:Int)] w fun e w' =>V4 (.int .u64 (rt p n)) w w' e:=by
 have n0:(1:Int)≤(n:Int):=by omega
 have n1:(n:Int)≤63:=by omega
 have D:Off [] w w:=Off.refl _ _
 go_enter Tryz.func71,Tryz.ntmps71
 go_upto_region 1 with fail;refine J9k 9 [] (by kernel_rfl) (fun x hx=>by cases hx) (by kernel_rfl) ?_;simp only[List.take_succ_cons,List.take_zero,List.take_nil]
 (try simp only[Act.put,mA,mB,mC])
 refine Xv ?_;refine Xv ?_;refine Xw ?_ (v:=.int .u64 (sr p n)) (hv:=fun _ _=>J38 (n:=n) (by omega) rfl rfl rfl);refine Xv ?_;refine Xv ?_;refine Xw ?_ (v:=.int .i64 (((64-n:Nat):Int))) (hv:=fun _ _=>by go_simp;(try simp only[AI.wrap_u64,AI.wrap_i64]);(try omega));refine Xw ?_ (v:=.int .u64 (sl p (64-n))) (hv:=fun _ _=>J8a (n:=(64-n)) (by omega) rfl rfl rfl);refine Xw ?_ (v:=.int .u64 (oo (sr p n) (sl p (64-n)))) (hv:=fun _ _=>Q6g rfl rfl rfl);refine Xv ?_;refine J0o ?_;intro β W1 hE hN hD;clear hN hD;simp only[J0j,Act.put,mA,mB,mC,List.drop_succ_cons,List.drop_zero,List.drop_nil,List.length_nil,Nat.add_zero];have hO:=J1v hE;replace D:=D.o hO;clear hO hE β;refine LN ?_;go_wp2;exact BH (v:=.int .u64 (oo (sr p n) (sl p (64-n)))) (by simp only[results,Tryz.results71];go_simp) rfl ⟨rfl,D.ext⟩
end

section
set_option maxHeartbeats 4000000
attribute [local irreducible] wpList

theorem Z7n {w:AA}{o:Oper}{a:Act}{x:Operand}{c:UInt8}(ho:o.op=.convert 5 105 x)(hx:a.eval x=.int .u8 (c.toNat:Int)):(AV a.eval o).run Tryz.prog w=.ok (.value (.int .u64 (c.toNat:Int))) w:=by
  have hc:=c.toNat_lt;have hw:AI.wrap .u64 (c.toNat:Int)=(c.toNat:Int):=by rw[AI.wrap_u64];omega
  simp[AV,ho,hx,convert,run_underlying Tryz.underlying5,run_underlying Tryz.underlying105,Ah,Conv.intToInt,hw]
def wrd (b:Nat→Int)(i:Nat):Nat→Int
  |0=>0
  |k+1=>oo (sl (wrd b i k) 8) (b (8*i+k))
def sg (f:Nat→Int)(i:Nat):Int:=ad (ad (ad (f (i-16)) (xo (xo (rt (f (i-15)) 1) (rt (f (i-15)) 8)) (sr (f (i-15)) 7))) (f (i-7))) (xo (xo (rt (f (i-2)) 19) (rt (f (i-2)) 61)) (sr (f (i-2)) 6))
def Q8 (b:Nat→Int):Nat→Nat→Int
  |0=>fun _=>0
  |i+1=>upd (Q8 b i) i (if i<16 then wrd b i 8 else sg (Q8 b i) i)
theorem Z7o {b:Nat→Int}{i:Nat}(h:16≤i):upd (Q8 b i) i (sg (Q8 b i) i)=Q8 b (i+1):=by
  show _=upd (Q8 b i) i (if i<16 then wrd b i 8 else sg (Q8 b i) i);rw[if_neg (by omega)]
theorem Z7p (b:Nat→Int):∀i,i≤16→∀j,Q8 b i j=if j<i then wrd b j 8 else 0
  |0,_,j=>by simp[Q8]
  |i+1,h,j=>by
    show upd (Q8 b i) i (if i<16 then wrd b i 8 else sg (Q8 b i) i) j=_;rw[if_pos (by omega)];unfold upd
    by_cases hj:j=i
    · rw[if_pos hj,if_pos (by omega),hj]
    · rw[if_neg hj,Z7p b i (by omega) j]
      by_cases hl:j<i
      · rw[if_pos hl,if_pos (by omega)]
      · rw[if_neg hl,if_neg (by omega)]
def fst (b:Nat→Int)(n j:Nat):Int:=if j<n / 8 then wrd b j 8 else if j=n / 8 then wrd b j (n % 8) else 0
theorem Q8e (b:Nat→Int)(n:Nat):upd (fst b n) (n / 8) (oo (sl (fst b n (n / 8)) 8) (b n))=fst b (n+1):=by
  funext j
  have e:fst b n (n / 8)=wrd b (n / 8) (n % 8):=by unfold fst;rw[if_neg (by omega),if_pos rfl]
  have hb:b n=b (8*(n / 8)+n % 8):=by rw[Nat.div_add_mod]
  rw[e,hb];show(if j=n / 8 then wrd b (n / 8) (n % 8+1) else fst b n j)=fst b (n+1) j;unfold fst
  by_cases hm:n % 8=7
  · have h1:(n+1) / 8=n / 8+1:=by omega
    have h2:(n+1) % 8=0:=by omega
    rw[h1,h2,hm]
    by_cases hj:j=n / 8
    · rw[if_pos hj,if_pos (by omega),hj]
    rw[if_neg hj]
    by_cases hl:j<n / 8
    · rw[if_pos hl,if_pos (by omega)]
    rw[if_neg hl,if_neg hj,if_neg (by omega)]
    split
    · rfl
    rfl
  have h1:(n+1) / 8=n / 8:=by omega
  have h2:(n+1) % 8=n % 8+1:=by omega
  rw[h1,h2]
  by_cases hj:j=n / 8
  · rw[if_pos hj,if_neg (by omega),if_pos hj,hj]
  rw[if_neg hj]
  by_cases hl:j<n / 8
  · rw[if_pos hl,if_pos hl]
  rw[if_neg hl,if_neg hj,if_neg hl,if_neg hj]
theorem Z2j (b:Nat→Int):fst b 128=Q8 b 16:=by
  funext j
  rw[Z7p b 16 (AM _) j];unfold fst
  by_cases h:j<16
  · rw[if_pos (by omega),if_pos h]
  rw[if_neg (by omega),if_neg h]
  split
  · rename_i h2;rw[show 128 % 8=0 by rfl];rfl
  rfl
theorem Q8f (b:Nat→Int):fst b 0=fun _=>0:=by
  funext j
  unfold fst;rw[if_neg (by omega)]
  split<;>rfl


theorem Z7q (l:List UInt8)(adr:Addr)(c:Nat)(hl:128≤l.length)(w:AA)(hs:Sl w (.slice (some adr) l.length c) l):
  BI Tryz.prog 135 #[.slice (some adr) l.length c] w fun e w' =>V4 (.agg (J0 .u64 80 (Q8 (bt l) 80))) w w' e:=by
 have hS:=SH.nil [] w
 go_enter Tryz.func135,Tryz.ntmps135
 go_upto_region 0 with fail;refine RL hS ?_;clear hS;refine MN (z:=J0 .u64 80 (fun _=>0)) (t:=129) ?_;intro K9;refine MZ fun W hS=> ?_;go_upto_region 1 with fail;refine RL hS ?_;clear hS;refine MN (z:=J0 .u64 80 (fun _=>0)) (t:=129) ?_;intro D;refine MZ fun W hS=> ?_
 go_wp2_with fail
 go_loopw [8] (fun ii wr=> ∃(n:Nat),(n≤128)∧(ii=.int .i64 (n:Int))∧SH [] w wr [.b D (J0 .u64 80 (fst (bt l) n)) 129,.b K9 (J0 .u64 80 (fun _=>0)) 129])
  (fun ii _=>128-(intOf ii).toNat)
 case atStart=>exact⟨0,An _,rfl,(by rw[Q8f];exact hS)⟩
 clear hS
 case round=>
  obtain⟨n,hn,rfl,hS⟩:=hrel
  by_cases G:n<128
  ·
   go_upto_region 3 with fail;refine RL hS ?_;clear hS;refine Wt ?_;refine MZ fun W hS=> ?_;go_upto_region 5 with fail;refine RX 14 hS ?_;clear hS;refine MV ?_;refine MW ?_ (v:=.int .i64 (((n / 8:Nat):Int))) (hv:=by intro W;go_simp;(try simp only[AI.wrap_u64,AI.wrap_i64]);(try omega));refine MV ?_;refine MW ?_ (v:=.int .i64 (((n / 8:Nat):Int))) (hv:=by intro W;go_simp;(try simp only[AI.wrap_u64,AI.wrap_i64]);(try omega));refine MW ?_ (v:=.pointer (some ⟨D,0+(n / 8),none⟩)) (hv:=fun _=>X3 Tryz.underlying129 (by omega));refine MG 0 ?_ (j:=0+(n / 8)) (v:=.int .u64 ((fst (bt l) n) (n / 8))) (hj:=ag0 (by omega));refine MW ?_ (v:=.int .u64 (sl ((fst (bt l) n) (n / 8)) 8)) (hv:=fun _=>J8a (n:=8) (by decide) rfl rfl rfl);refine MV ?_;refine MV ?_;refine MW ?_ (v:=.pointer (some (adr.add n))) (hv:=fun _=>J9n (j:=n) (by omega) rfl rfl rfl);refine MF (v:=.int .u8 ((l.getD n 0).toNat:Int)) (fun W hS=>V6 rfl rfl (J9o (J3j hs hS.ext) (J1h (by omega))) (by kernel_rfl)) ?_;refine MW ?_ (v:=.int .u64 (bt l n)) (hv:=by intro W;exact Z7n rfl rfl);refine MW ?_ (v:=.int .u64 (oo (sl ((fst (bt l) n) (n / 8)) 8) (bt l n))) (hv:=fun _=>Q6g rfl rfl rfl);refine MW ?_ (v:=.pointer (some ⟨D,0+(n / 8),none⟩)) (hv:=fun _=>X3 Tryz.underlying129 (by omega));refine MZt ?_;refine MP 0 (v:=.int .u64 (oo (sl ((fst (bt l) n) (n / 8)) 8) (bt l n))) (cs' :=J0 .u64 80 (upd (fst (bt l) n) (n / 8) (oo (sl ((fst (bt l) n) (n / 8)) 8) (bt l n)))) ?_ (hs:=by rw[J1,AP];omega) (hc:=by rw[AP];exact Y9 _ _ _ _ _);refine MZn fun W hS=> ?_;go_wp2;go_roundw
   case rel=>exact⟨n+1,by omega,by go_num,(by rw[←Q8e];exact hS)⟩
   case measure=>simp[intOf];omega
  obtain rfl:n=128:=by omega
  rw[Z2j] at hS;go_upto_region 3 with fail;refine RL hS ?_;clear hS;refine Wf ?_;refine MZ fun W hS=> ?_
  go_wp2_with fail
  go_loopw [5] (fun ii wr=> ∃(i:Nat),(16≤i∧i≤80)∧(ii=.int .i64 (i:Int))∧SH [] w wr [.b D (J0 .u64 80 (Q8 (bt l) i)) 129,.b K9 (J0 .u64 80 (fun _=>0)) 129])
   (fun ii _=>80-(intOf ii).toNat)
  case atStart=>exact⟨16,⟨AM _,by decide⟩,rfl,hS⟩
  clear hS
  case round=>
   obtain⟨i,⟨hi,M⟩,rfl,hS⟩:=hrel
   by_cases J:i<80
   ·
    go_upto_region 8 with fail;refine RL hS ?_;clear hS;refine MV ?_;refine Wt ?_;refine MZ fun W hS=> ?_;go_upto_region 10 with fail;refine RS hS ?_;clear hS;refine MV ?_;refine MW ?_ (v:=.int .i64 (((i-15:Nat):Int))) (hv:=by intro W;go_simp;(try simp only[AI.wrap_u64,AI.wrap_i64]);(try omega));refine MW ?_ (v:=.pointer (some ⟨D,0+(i-15),none⟩)) (hv:=fun _=>X3 Tryz.underlying129 (by omega));refine MG 0 ?_ (j:=0+(i-15)) (v:=.int .u64 ((Q8 (bt l) i) (i-15))) (hj:=ag0 (by omega));refine MV ?_;refine MW ?_ (v:=.int .i64 (((i-2:Nat):Int))) (hv:=by intro W;go_simp;(try simp only[AI.wrap_u64,AI.wrap_i64]);(try omega));refine MW ?_ (v:=.pointer (some ⟨D,0+(i-2),none⟩)) (hv:=fun _=>X3 Tryz.underlying129 (by omega));refine MG 0 ?_ (j:=0+(i-2)) (v:=.int .u64 ((Q8 (bt l) i) (i-2))) (hj:=ag0 (by omega));refine MV ?_;refine MV ?_;refine MZx fun W hS=> ?_;go_upto_region 11 with fail;refine RX 29 hS ?_;clear hS;refine MV ?_;refine MV ?_;refine MW ?_ (v:=.int .i64 (((i-16:Nat):Int))) (hv:=by intro W;go_simp;(try simp only[AI.wrap_u64,AI.wrap_i64]);(try omega));refine MW ?_ (v:=.pointer (some ⟨D,0+(i-16),none⟩)) (hv:=fun _=>X3 Tryz.underlying129 (by omega));refine MG 0 ?_ (j:=0+(i-16)) (v:=.int .u64 ((Q8 (bt l) i) (i-16))) (hj:=ag0 (by omega));refine MV ?_;refine MC (v:=.int .u64 (rt ((Q8 (bt l) i) (i-15)) 1)) (fun W hS=>J5s ((Q8 (bt l) i) (i-15)) 1 (by decide) (by decide) W) ?_;refine MV ?_;refine MC (v:=.int .u64 (rt ((Q8 (bt l) i) (i-15)) 8)) (fun W hS=>J5s ((Q8 (bt l) i) (i-15)) 8 (by decide) (by decide) W) ?_;refine MW ?_ (v:=.int .u64 (xo (rt ((Q8 (bt l) i) (i-15)) 1) (rt ((Q8 (bt l) i) (i-15)) 8))) (hv:=fun _=>J0q rfl rfl rfl);refine MV ?_;refine MW ?_ (v:=.int .u64 (sr ((Q8 (bt l) i) (i-15)) 7)) (hv:=fun _=>J38 (n:=7) (by decide) rfl rfl rfl);refine MW ?_ (v:=.int .u64 (xo (xo (rt ((Q8 (bt l) i) (i-15)) 1) (rt ((Q8 (bt l) i) (i-15)) 8)) (sr ((Q8 (bt l) i) (i-15)) 7))) (hv:=fun _=>J0q rfl rfl rfl);refine MW ?_ (v:=.int .u64 (ad ((Q8 (bt l) i) (i-16)) (xo (xo (rt ((Q8 (bt l) i) (i-15)) 1) (rt ((Q8 (bt l) i) (i-15)) 8)) (sr ((Q8 (bt l) i) (i-15)) 7)))) (hv:=fun _=>J1e rfl rfl rfl);refine MV ?_;refine MW ?_ (v:=.int .i64 (((i-7:Nat):Int))) (hv:=by intro W;go_simp;(try simp only[AI.wrap_u64,AI.wrap_i64]);(try omega));refine MW ?_ (v:=.pointer (some ⟨D,0+(i-7),none⟩)) (hv:=fun _=>X3 Tryz.underlying129 (by omega));refine MG 0 ?_ (j:=0+(i-7)) (v:=.int .u64 ((Q8 (bt l) i) (i-7))) (hj:=ag0 (by omega));refine MW ?_ (v:=.int .u64 (ad (ad ((Q8 (bt l) i) (i-16)) (xo (xo (rt ((Q8 (bt l) i) (i-15)) 1) (rt ((Q8 (bt l) i) (i-15)) 8)) (sr ((Q8 (bt l) i) (i-15)) 7))) ((Q8 (bt l) i) (i-7)))) (hv:=fun _=>J1e rfl rfl rfl);refine MV ?_;refine MC (v:=.int .u64 (rt ((Q8 (bt l) i) (i-2)) 19)) (fun W hS=>J5s ((Q8 (bt l) i) (i-2)) 19 (by decide) (by decide) W) ?_;refine MV ?_;refine MC (v:=.int .u64 (rt ((Q8 (bt l) i) (i-2)) 61)) (fun W hS=>J5s ((Q8 (bt l) i) (i-2)) 61 (by decide) (by decide) W) ?_;refine MW ?_ (v:=.int .u64 (xo (rt ((Q8 (bt l) i) (i-2)) 19) (rt ((Q8 (bt l) i) (i-2)) 61))) (hv:=fun _=>J0q rfl rfl rfl);refine MV ?_;refine MW ?_ (v:=.int .u64 (sr ((Q8 (bt l) i) (i-2)) 6)) (hv:=fun _=>J38 (n:=6) (by decide) rfl rfl rfl);refine MW ?_ (v:=.int .u64 (xo (xo (rt ((Q8 (bt l) i) (i-2)) 19) (rt ((Q8 (bt l) i) (i-2)) 61)) (sr ((Q8 (bt l) i) (i-2)) 6))) (hv:=fun _=>J0q rfl rfl rfl);refine MW ?_ (v:=.int .u64 (ad (ad (ad ((Q8 (bt l) i) (i-16)) (xo (xo (rt ((Q8 (bt l) i) (i-15)) 1) (rt ((Q8 (bt l) i) (i-15)) 8)) (sr ((Q8 (bt l) i) (i-15)) 7))) ((Q8 (bt l) i) (i-7))) (xo (xo (rt ((Q8 (bt l) i) (i-2)) 19) (rt ((Q8 (bt l) i) (i-2)) 61)) (sr ((Q8 (bt l) i) (i-2)) 6)))) (hv:=fun _=>J1e rfl rfl rfl);refine MW ?_ (v:=.pointer (some ⟨D,0+i,none⟩)) (hv:=fun _=>X3 Tryz.underlying129 (by omega));refine MZt ?_;refine MP 0 (v:=.int .u64 (ad (ad (ad ((Q8 (bt l) i) (i-16)) (xo (xo (rt ((Q8 (bt l) i) (i-15)) 1) (rt ((Q8 (bt l) i) (i-15)) 8)) (sr ((Q8 (bt l) i) (i-15)) 7))) ((Q8 (bt l) i) (i-7))) (xo (xo (rt ((Q8 (bt l) i) (i-2)) 19) (rt ((Q8 (bt l) i) (i-2)) 61)) (sr ((Q8 (bt l) i) (i-2)) 6)))) (cs' :=J0 .u64 80 (upd (Q8 (bt l) i) i (ad (ad (ad ((Q8 (bt l) i) (i-16)) (xo (xo (rt ((Q8 (bt l) i) (i-15)) 1) (rt ((Q8 (bt l) i) (i-15)) 8)) (sr ((Q8 (bt l) i) (i-15)) 7))) ((Q8 (bt l) i) (i-7))) (xo (xo (rt ((Q8 (bt l) i) (i-2)) 19) (rt ((Q8 (bt l) i) (i-2)) 61)) (sr ((Q8 (bt l) i) (i-2)) 6))))) ?_ (hs:=by rw[J1,AP];omega) (hc:=by rw[AP];exact Y9 _ _ _ _ _);refine MZn fun W hS=> ?_;go_wp2;go_roundw
    case rel=>exact⟨i+1,⟨by omega,by omega⟩,by go_num,(by rw[←Z7o hi];exact hS)⟩
    case measure=>simp[intOf];omega
   obtain rfl:i=80:=by omega
   go_upto_region 8 with fail;refine RL hS ?_;clear hS;refine MV ?_;refine Wf ?_;refine MZ fun W hS=> ?_;go_upto_region 12 with fail;refine RL hS ?_;clear hS;refine ML 0 ?_;refine MR 1 ?_;refine MZ fun W hS=> ?_;go_wp2;refine BH (Z5 rfl rfl (hS.blk (i:=1) rfl) (by kernel_rfl) (by rw[J1];kernel_rfl)) rfl ⟨rfl,hS.ext⟩
end

section
set_option maxHeartbeats 4000000
attribute [local irreducible] wpList

def kk:List Int:=[4794697086780616226,8158064640168781261,13096744586834688815,16840607885511220156,4131703408338449720,6480981068601479193,10538285296894168987,12329834152419229976,15566598209576043074,1334009975649890238,2608012711638119052,6128411473006802146,8268148722764581231,9286055187155687089,11230858885718282805,13951009754708518548,16472876342353939154,17275323862435702243,1135362057144423861,2597628984639134821,3308224258029322869,5365058923640841347,6679025012923562964,8573033837759648693,10970295158949994411,12119686244451234320,12683024718118986047,13788192230050041572,14330467153632333762,15395433587784984357,489312712824947311,1452737877330783856,2861767655752347644,3322285676063803686,5560940570517711597,5996557281743188959,7280758554555802590,8532644243296465576,9350256976987008742,10552545826968843579,11727347734174303076,12113106623233404929,14000437183269869457,14369950271660146224,15101387698204529176,15463397548674623760,17586052441742319658,1182934255886127544,1847814050463011016,2177327727835720531,2830643537854262169,3796741975233480872,4115178125766777443,5681478168544905931,6601373596472566643,7507060721942968483,8399075790359081724,8693463985226723168,9568029438360202098,10144078919501101548,10430055236837252648,11840083180663258601,13761210420658862357,14299343276471374635,14566680578165727644,15097957966210449927,16922976911328602910,17689382322260857208,500013540394364858,748580250866718886,1242879168328830382,1977374033974150939,2944078676154940804,3659926193048069267,4368137639120453308,4836135668995329356,5532061633213252278,6448918945643986474,6902733635092675308,7801388544844847127]
def hh:List Int:=[7640891576956012808,13503953896175478587,4354685564936845355,11912009170470909681,5840696475078001361,11170449401992604703,2270897969802886507,6620516959819538809]
def kf (i:Nat):Int:=kk.getD i 0
def hf (i:Nat):Int:=hh.getD i 0
def GS (w:AA):Prop:=Rd w 11 (J0 .u64 80 kf)∧Rd w 4 (J0 .u64 8 hf)
theorem Q6h {w W:AA}(h:GS w)(e:Ext w W):GS W:=⟨h.1.ext e,h.2.ext e⟩
def rT (k w:Nat→Int)(i:Nat)(v:Nat→Int):Int:=ad (ad (ad (ad (v 7) (xo (xo (rt (v 4) 14) (rt (v 4) 18)) (rt (v 4) 41))) (xo (an (v 4) (v 5)) (an (nt (v 4)) (v 6)))) (k i)) (w i)
def rU (v:Nat→Int):Int:=ad (xo (xo (rt (v 0) 28) (rt (v 0) 34)) (rt (v 0) 39)) (xo (xo (an (v 0) (v 1)) (an (v 0) (v 2))) (an (v 1) (v 2)))
def rnd (k w:Nat→Int)(i:Nat)(v:Nat→Int):Nat→Int
  |0=>ad (rT k w i v) (rU v)
  |1=>v 0
  |2=>v 1
  |3=>v 2
  |4=>ad (v 3) (rT k w i v)
  |5=>v 4
  |6=>v 5
  |7=>v 6
  |_=>0
def Q1 (k w v:Nat→Int):Nat→Nat→Int
  |0=>v
  |i+1=>rnd k w i (Q1 k w v i)
def prs (h b:Nat→Int)(j:Nat):Int:=ad (h j) (Q1 kf (Q8 b 80) h 80 j)
def mx (h v:Nat→Int)(i j:Nat):Int:=if j<i then ad (h j) (v j) else h j
theorem Z2k (h v:Nat→Int)(i:Nat):upd (mx h v i) i (ad (mx h v i i) (v i))=mx h v (i+1):=by
  funext j
  unfold upd mx
  by_cases hj:j=i
  · subst hj;rw[if_pos rfl,if_neg (by omega),if_pos (by omega)]
  rw[if_neg hj]
  by_cases hl:j<i
  · rw[if_pos hl,if_pos (by omega)]
  rw[if_neg hl,if_neg (by omega)]
theorem Z2l (h v:Nat→Int):mx h v 0=h:=by funext j;unfold mx;rw[if_neg (by omega)]
theorem Z7r (h b:Nat→Int):J0 .u64 8 (mx h (Q1 kf (Q8 b 80) h 80) 8)=J0 .u64 8 (prs h b):=K6 _ _ _ _ fun j hj=>by unfold mx prs;rw[if_pos hj]

theorem Y2n (h:Nat→Int)(l:List UInt8)(adr:Addr)(c:Nat)(hl:128≤l.length)(w:AA)(hs:Sl w (.slice (some adr) l.length c) l)(hG:GS w):
  BI Tryz.prog 100 #[.agg (J0 .u64 8 h),.slice (some adr) l.length c] w fun e w' =>V4 (.agg (J0 .u64 8 (prs h (bt l)))) w w' e:=by
 have HG:=Lib.hid hG;clear hG;have hS:=SH.nil [] w
 go_enter Tryz.func100,Tryz.ntmps100
 go_upto_region 0 with fail;refine RL hS ?_;clear hS;refine MN (z:=J0 .u64 8 h) (t:=128) ?_;intro K9;refine MN (z:=J0 .u64 8 (fun _=>0)) (t:=128) ?_;intro J;refine MZ fun W hS=> ?_;go_upto_region 1 with fail;refine RL hS ?_;clear hS;refine MV ?_;refine MC (v:=.agg (J0 .u64 80 (Q8 (bt l) 80))) (fun W hS=>Z7q l adr c hl W (J3j hs hS.ext)) ?_;refine MN (z:=J0 .u64 80 (fun _=>0)) (t:=129) ?_;intro G;refine MR 0 ?_;refine MZ fun W hS=> ?_;go_upto_region 2 with fail;refine RL hS ?_;clear hS;refine ML 2 ?_;refine MN (z:=J0 .u64 8 (fun _=>0)) (t:=128) ?_;intro D;refine MR 0 ?_;refine MZ fun W hS=> ?_
 go_wp2_with fail
 go_loopw [14] (fun ii wr=> ∃(i:Nat),(i≤80)∧(ii=.int .i64 (i:Int))∧SH [] w wr [.b D (J0 .u64 8 (Q1 kf (Q8 (bt l) 80) h i)) 128,.b G (J0 .u64 80 (Q8 (bt l) 80)) 129,.b J (J0 .u64 8 (fun _=>0)) 128,.b K9 (J0 .u64 8 h) 128])
  (fun ii _=>80-(intOf ii).toNat)
 case atStart=>exact⟨0,An _,rfl,hS⟩
 clear hS
 case round=>
  obtain⟨i,hi,rfl,hS⟩:=hrel
  by_cases M:i<80
  ·
   go_upto_region 4 with fail;refine RL hS ?_;clear hS;refine Wt ?_;refine MZ fun W hS=> ?_;go_upto_region 6 with fail;refine RS hS ?_;clear hS;refine MW ?_ (v:=.pointer (some ⟨D,0+7,none⟩)) (hv:=fun _=>X3 Tryz.underlying128 (by omega));refine MG 0 ?_ (j:=0+7) (v:=.int .u64 ((Q1 kf (Q8 (bt l) 80) h i) 7)) (hj:=ag0 (by omega));refine MW ?_ (v:=.pointer (some ⟨D,0+4,none⟩)) (hv:=fun _=>X3 Tryz.underlying128 (by omega));refine MG 0 ?_ (j:=0+4) (v:=.int .u64 ((Q1 kf (Q8 (bt l) 80) h i) 4)) (hj:=ag0 (by omega));refine MC (v:=.int .u64 (rt ((Q1 kf (Q8 (bt l) 80) h i) 4) 14)) (fun W hS=>J5s ((Q1 kf (Q8 (bt l) 80) h i) 4) 14 (by decide) (by decide) W) ?_;refine MW ?_ (v:=.pointer (some ⟨D,0+4,none⟩)) (hv:=fun _=>X3 Tryz.underlying128 (by omega));refine MG 0 ?_ (j:=0+4) (v:=.int .u64 ((Q1 kf (Q8 (bt l) 80) h i) 4)) (hj:=ag0 (by omega));refine MC (v:=.int .u64 (rt ((Q1 kf (Q8 (bt l) 80) h i) 4) 18)) (fun W hS=>J5s ((Q1 kf (Q8 (bt l) 80) h i) 4) 18 (by decide) (by decide) W) ?_;refine MW ?_ (v:=.int .u64 (xo (rt ((Q1 kf (Q8 (bt l) 80) h i) 4) 14) (rt ((Q1 kf (Q8 (bt l) 80) h i) 4) 18))) (hv:=fun _=>J0q rfl rfl rfl);refine MW ?_ (v:=.pointer (some ⟨D,0+4,none⟩)) (hv:=fun _=>X3 Tryz.underlying128 (by omega));refine MG 0 ?_ (j:=0+4) (v:=.int .u64 ((Q1 kf (Q8 (bt l) 80) h i) 4)) (hj:=ag0 (by omega));refine MC (v:=.int .u64 (rt ((Q1 kf (Q8 (bt l) 80) h i) 4) 41)) (fun W hS=>J5s ((Q1 kf (Q8 (bt l) 80) h i) 4) 41 (by decide) (by decide) W) ?_;refine MW ?_ (v:=.int .u64 (xo (xo (rt ((Q1 kf (Q8 (bt l) 80) h i) 4) 14) (rt ((Q1 kf (Q8 (bt l) 80) h i) 4) 18)) (rt ((Q1 kf (Q8 (bt l) 80) h i) 4) 41))) (hv:=fun _=>J0q rfl rfl rfl);refine MW ?_ (v:=.int .u64 (ad ((Q1 kf (Q8 (bt l) 80) h i) 7) (xo (xo (rt ((Q1 kf (Q8 (bt l) 80) h i) 4) 14) (rt ((Q1 kf (Q8 (bt l) 80) h i) 4) 18)) (rt ((Q1 kf (Q8 (bt l) 80) h i) 4) 41)))) (hv:=fun _=>J1e rfl rfl rfl);refine MW ?_ (v:=.pointer (some ⟨D,0+4,none⟩)) (hv:=fun _=>X3 Tryz.underlying128 (by omega));refine MG 0 ?_ (j:=0+4) (v:=.int .u64 ((Q1 kf (Q8 (bt l) 80) h i) 4)) (hj:=ag0 (by omega));refine MW ?_ (v:=.pointer (some ⟨D,0+5,none⟩)) (hv:=fun _=>X3 Tryz.underlying128 (by omega));refine MG 0 ?_ (j:=0+5) (v:=.int .u64 ((Q1 kf (Q8 (bt l) 80) h i) 5)) (hj:=ag0 (by omega));refine MW ?_ (v:=.int .u64 (an ((Q1 kf (Q8 (bt l) 80) h i) 4) ((Q1 kf (Q8 (bt l) 80) h i) 5))) (hv:=fun _=>J3z rfl rfl rfl);refine MW ?_ (v:=.pointer (some ⟨D,0+4,none⟩)) (hv:=fun _=>X3 Tryz.underlying128 (by omega));refine MG 0 ?_ (j:=0+4) (v:=.int .u64 ((Q1 kf (Q8 (bt l) 80) h i) 4)) (hj:=ag0 (by omega));refine MW ?_ (v:=.int .u64 (nt ((Q1 kf (Q8 (bt l) 80) h i) 4))) (hv:=fun _=>Z2i rfl rfl);refine MW ?_ (v:=.pointer (some ⟨D,0+6,none⟩)) (hv:=fun _=>X3 Tryz.underlying128 (by omega));refine MG 0 ?_ (j:=0+6) (v:=.int .u64 ((Q1 kf (Q8 (bt l) 80) h i) 6)) (hj:=ag0 (by omega));refine MW ?_ (v:=.int .u64 (an (nt ((Q1 kf (Q8 (bt l) 80) h i) 4)) ((Q1 kf (Q8 (bt l) 80) h i) 6))) (hv:=fun _=>J3z rfl rfl rfl);refine MW ?_ (v:=.int .u64 (xo (an ((Q1 kf (Q8 (bt l) 80) h i) 4) ((Q1 kf (Q8 (bt l) 80) h i) 5)) (an (nt ((Q1 kf (Q8 (bt l) 80) h i) 4)) ((Q1 kf (Q8 (bt l) 80) h i) 6)))) (hv:=fun _=>J0q rfl rfl rfl);refine MW ?_ (v:=.int .u64 (ad (ad ((Q1 kf (Q8 (bt l) 80) h i) 7) (xo (xo (rt ((Q1 kf (Q8 (bt l) 80) h i) 4) 14) (rt ((Q1 kf (Q8 (bt l) 80) h i) 4) 18)) (rt ((Q1 kf (Q8 (bt l) 80) h i) 4) 41))) (xo (an ((Q1 kf (Q8 (bt l) 80) h i) 4) ((Q1 kf (Q8 (bt l) 80) h i) 5)) (an (nt ((Q1 kf (Q8 (bt l) 80) h i) 4)) ((Q1 kf (Q8 (bt l) 80) h i) 6))))) (hv:=fun _=>J1e rfl rfl rfl);refine MV ?_;refine MW ?_ (v:=.pointer (some ⟨11,0+i,none⟩)) (hv:=fun _=>X3 Tryz.underlying129 (by omega));refine MF (v:=.int .u64 (kf i)) (fun W hS=>V6 rfl rfl (((Q6h HG.out hS.ext).1).1 _ _ (ag0 (by omega))) (by kernel_rfl)) ?_;refine MW ?_ (v:=.int .u64 (ad (ad (ad ((Q1 kf (Q8 (bt l) 80) h i) 7) (xo (xo (rt ((Q1 kf (Q8 (bt l) 80) h i) 4) 14) (rt ((Q1 kf (Q8 (bt l) 80) h i) 4) 18)) (rt ((Q1 kf (Q8 (bt l) 80) h i) 4) 41))) (xo (an ((Q1 kf (Q8 (bt l) 80) h i) 4) ((Q1 kf (Q8 (bt l) 80) h i) 5)) (an (nt ((Q1 kf (Q8 (bt l) 80) h i) 4)) ((Q1 kf (Q8 (bt l) 80) h i) 6)))) (kf i))) (hv:=fun _=>J1e rfl rfl rfl);refine MV ?_;refine MW ?_ (v:=.pointer (some ⟨G,0+i,none⟩)) (hv:=fun _=>X3 Tryz.underlying129 (by omega));refine MG 1 ?_ (j:=0+i) (v:=.int .u64 ((Q8 (bt l) 80) i)) (hj:=ag0 (by omega));refine MW ?_ (v:=.int .u64 (rT kf (Q8 (bt l) 80) i (Q1 kf (Q8 (bt l) 80) h i)));refine MV ?_;refine MZx fun W hS=> ?_;go_upto_region 7 with fail;refine RS hS ?_;clear hS;refine MW ?_ (v:=.pointer (some ⟨D,0+0,none⟩)) (hv:=fun _=>X3 Tryz.underlying128 (by omega));refine MG 0 ?_ (j:=0+0) (v:=.int .u64 ((Q1 kf (Q8 (bt l) 80) h i) 0)) (hj:=ag0 (by omega));refine MC (v:=.int .u64 (rt ((Q1 kf (Q8 (bt l) 80) h i) 0) 28)) (fun W hS=>J5s ((Q1 kf (Q8 (bt l) 80) h i) 0) 28 (by decide) (by decide) W) ?_;refine MW ?_ (v:=.pointer (some ⟨D,0+0,none⟩)) (hv:=fun _=>X3 Tryz.underlying128 (by omega));refine MG 0 ?_ (j:=0+0) (v:=.int .u64 ((Q1 kf (Q8 (bt l) 80) h i) 0)) (hj:=ag0 (by omega));refine MC (v:=.int .u64 (rt ((Q1 kf (Q8 (bt l) 80) h i) 0) 34)) (fun W hS=>J5s ((Q1 kf (Q8 (bt l) 80) h i) 0) 34 (by decide) (by decide) W) ?_;refine MW ?_ (v:=.int .u64 (xo (rt ((Q1 kf (Q8 (bt l) 80) h i) 0) 28) (rt ((Q1 kf (Q8 (bt l) 80) h i) 0) 34))) (hv:=fun _=>J0q rfl rfl rfl);refine MW ?_ (v:=.pointer (some ⟨D,0+0,none⟩)) (hv:=fun _=>X3 Tryz.underlying128 (by omega));refine MG 0 ?_ (j:=0+0) (v:=.int .u64 ((Q1 kf (Q8 (bt l) 80) h i) 0)) (hj:=ag0 (by omega));refine MC (v:=.int .u64 (rt ((Q1 kf (Q8 (bt l) 80) h i) 0) 39)) (fun W hS=>J5s ((Q1 kf (Q8 (bt l) 80) h i) 0) 39 (by decide) (by decide) W) ?_;refine MW ?_ (v:=.int .u64 (xo (xo (rt ((Q1 kf (Q8 (bt l) 80) h i) 0) 28) (rt ((Q1 kf (Q8 (bt l) 80) h i) 0) 34)) (rt ((Q1 kf (Q8 (bt l) 80) h i) 0) 39))) (hv:=fun _=>J0q rfl rfl rfl);refine MW ?_ (v:=.pointer (some ⟨D,0+0,none⟩)) (hv:=fun _=>X3 Tryz.underlying128 (by omega));refine MG 0 ?_ (j:=0+0) (v:=.int .u64 ((Q1 kf (Q8 (bt l) 80) h i) 0)) (hj:=ag0 (by omega));refine MW ?_ (v:=.pointer (some ⟨D,0+1,none⟩)) (hv:=fun _=>X3 Tryz.underlying128 (by omega));refine MG 0 ?_ (j:=0+1) (v:=.int .u64 ((Q1 kf (Q8 (bt l) 80) h i) 1)) (hj:=ag0 (by omega));refine MW ?_ (v:=.int .u64 (an ((Q1 kf (Q8 (bt l) 80) h i) 0) ((Q1 kf (Q8 (bt l) 80) h i) 1))) (hv:=fun _=>J3z rfl rfl rfl);refine MW ?_ (v:=.pointer (some ⟨D,0+0,none⟩)) (hv:=fun _=>X3 Tryz.underlying128 (by omega));refine MG 0 ?_ (j:=0+0) (v:=.int .u64 ((Q1 kf (Q8 (bt l) 80) h i) 0)) (hj:=ag0 (by omega));refine MW ?_ (v:=.pointer (some ⟨D,0+2,none⟩)) (hv:=fun _=>X3 Tryz.underlying128 (by omega));refine MG 0 ?_ (j:=0+2) (v:=.int .u64 ((Q1 kf (Q8 (bt l) 80) h i) 2)) (hj:=ag0 (by omega));refine MW ?_ (v:=.int .u64 (an ((Q1 kf (Q8 (bt l) 80) h i) 0) ((Q1 kf (Q8 (bt l) 80) h i) 2))) (hv:=fun _=>J3z rfl rfl rfl);refine MW ?_ (v:=.int .u64 (xo (an ((Q1 kf (Q8 (bt l) 80) h i) 0) ((Q1 kf (Q8 (bt l) 80) h i) 1)) (an ((Q1 kf (Q8 (bt l) 80) h i) 0) ((Q1 kf (Q8 (bt l) 80) h i) 2)))) (hv:=fun _=>J0q rfl rfl rfl);refine MW ?_ (v:=.pointer (some ⟨D,0+1,none⟩)) (hv:=fun _=>X3 Tryz.underlying128 (by omega));refine MG 0 ?_ (j:=0+1) (v:=.int .u64 ((Q1 kf (Q8 (bt l) 80) h i) 1)) (hj:=ag0 (by omega));refine MW ?_ (v:=.pointer (some ⟨D,0+2,none⟩)) (hv:=fun _=>X3 Tryz.underlying128 (by omega));refine MG 0 ?_ (j:=0+2) (v:=.int .u64 ((Q1 kf (Q8 (bt l) 80) h i) 2)) (hj:=ag0 (by omega));refine MW ?_ (v:=.int .u64 (an ((Q1 kf (Q8 (bt l) 80) h i) 1) ((Q1 kf (Q8 (bt l) 80) h i) 2))) (hv:=fun _=>J3z rfl rfl rfl);refine MW ?_ (v:=.int .u64 (xo (xo (an ((Q1 kf (Q8 (bt l) 80) h i) 0) ((Q1 kf (Q8 (bt l) 80) h i) 1)) (an ((Q1 kf (Q8 (bt l) 80) h i) 0) ((Q1 kf (Q8 (bt l) 80) h i) 2))) (an ((Q1 kf (Q8 (bt l) 80) h i) 1) ((Q1 kf (Q8 (bt l) 80) h i) 2)))) (hv:=fun _=>J0q rfl rfl rfl);refine MW ?_ (v:=.int .u64 (rU (Q1 kf (Q8 (bt l) 80) h i)));refine MV ?_;refine MZx fun W hS=> ?_;go_upto_region 8 with fail;refine RL hS ?_;clear hS;refine MV ?_;refine MV ?_;refine MW ?_ (v:=.int .u64 (ad (rT kf (Q8 (bt l) 80) i (Q1 kf (Q8 (bt l) 80) h i)) (rU (Q1 kf (Q8 (bt l) 80) h i)))) (hv:=fun _=>J1e rfl rfl rfl);refine MW ?_ (v:=.pointer (some ⟨D,0+0,none⟩)) (hv:=fun _=>X3 Tryz.underlying128 (by omega));refine MG 0 ?_ (j:=0+0) (v:=.int .u64 ((Q1 kf (Q8 (bt l) 80) h i) 0)) (hj:=ag0 (by omega));refine MW ?_ (v:=.pointer (some ⟨D,0+1,none⟩)) (hv:=fun _=>X3 Tryz.underlying128 (by omega));refine MG 0 ?_ (j:=0+1) (v:=.int .u64 ((Q1 kf (Q8 (bt l) 80) h i) 1)) (hj:=ag0 (by omega));refine MW ?_ (v:=.pointer (some ⟨D,0+2,none⟩)) (hv:=fun _=>X3 Tryz.underlying128 (by omega));refine MG 0 ?_ (j:=0+2) (v:=.int .u64 ((Q1 kf (Q8 (bt l) 80) h i) 2)) (hj:=ag0 (by omega));refine MW ?_ (v:=.pointer (some ⟨D,0+3,none⟩)) (hv:=fun _=>X3 Tryz.underlying128 (by omega));refine MG 0 ?_ (j:=0+3) (v:=.int .u64 ((Q1 kf (Q8 (bt l) 80) h i) 3)) (hj:=ag0 (by omega));refine MV ?_;refine MW ?_ (v:=.int .u64 (ad ((Q1 kf (Q8 (bt l) 80) h i) 3) (rT kf (Q8 (bt l) 80) i (Q1 kf (Q8 (bt l) 80) h i)))) (hv:=fun _=>J1e rfl rfl rfl);refine MW ?_ (v:=.pointer (some ⟨D,0+4,none⟩)) (hv:=fun _=>X3 Tryz.underlying128 (by omega));refine MG 0 ?_ (j:=0+4) (v:=.int .u64 ((Q1 kf (Q8 (bt l) 80) h i) 4)) (hj:=ag0 (by omega));refine MW ?_ (v:=.pointer (some ⟨D,0+5,none⟩)) (hv:=fun _=>X3 Tryz.underlying128 (by omega));refine MG 0 ?_ (j:=0+5) (v:=.int .u64 ((Q1 kf (Q8 (bt l) 80) h i) 5)) (hj:=ag0 (by omega));refine MW ?_ (v:=.pointer (some ⟨D,0+6,none⟩)) (hv:=fun _=>X3 Tryz.underlying128 (by omega));refine MG 0 ?_ (j:=0+6) (v:=.int .u64 ((Q1 kf (Q8 (bt l) 80) h i) 6)) (hj:=ag0 (by omega));refine MW ?_ (v:=.agg (J0 .u64 8 (Q1 kf (Q8 (bt l) 80) h (i+1)))) (hv:=by intro W;first|rfl|(go_simp;rfl));refine MR 0 ?_;refine MZ fun W hS=> ?_;go_wp2;go_roundw
   case rel=>exact⟨i+1,by omega,by go_num,hS⟩
   case measure=>simp[intOf];omega
  obtain rfl:i=80:=by omega
  go_upto_region 4 with fail;refine RL hS ?_;clear hS;refine Wf ?_;refine MZ fun W hS=> ?_
  go_wp2_with fail
  go_loopw [102] (fun ii wr=> ∃(i:Nat),(i≤8)∧(ii=.int .i64 (i:Int))∧SH [] w wr [.b D (J0 .u64 8 (Q1 kf (Q8 (bt l) 80) h 80)) 128,.b G (J0 .u64 80 (Q8 (bt l) 80)) 129,.b J (J0 .u64 8 (fun _=>0)) 128,.b K9 (J0 .u64 8 (mx h (Q1 kf (Q8 (bt l) 80) h 80) i)) 128])
   (fun ii _=>8-(intOf ii).toNat)
  case atStart=>exact⟨0,An _,rfl,(by rw[Z2l];exact hS)⟩
  clear hS
  case round=>
   obtain⟨i,hi,rfl,hS⟩:=hrel
   by_cases h8:i<8
   ·
    go_upto_region 11 with fail;refine RL hS ?_;clear hS;refine Wt ?_;refine MZ fun W hS=> ?_;go_upto_region 13 with fail;refine RX 8 hS ?_;clear hS;refine MV ?_;refine MW ?_ (v:=.pointer (some ⟨K9,0+i,none⟩)) (hv:=fun _=>X3 Tryz.underlying128 (by omega));refine MG 3 ?_ (j:=0+i) (v:=.int .u64 ((mx h (Q1 kf (Q8 (bt l) 80) h 80) i) i)) (hj:=ag0 (by omega));refine MV ?_;refine MW ?_ (v:=.pointer (some ⟨D,0+i,none⟩)) (hv:=fun _=>X3 Tryz.underlying128 (by omega));refine MG 0 ?_ (j:=0+i) (v:=.int .u64 ((Q1 kf (Q8 (bt l) 80) h 80) i)) (hj:=ag0 (by omega));refine MW ?_ (v:=.int .u64 (ad ((mx h (Q1 kf (Q8 (bt l) 80) h 80) i) i) ((Q1 kf (Q8 (bt l) 80) h 80) i))) (hv:=fun _=>J1e rfl rfl rfl);refine MW ?_ (v:=.pointer (some ⟨K9,0+i,none⟩)) (hv:=fun _=>X3 Tryz.underlying128 (by omega));refine MZt ?_;refine MP 3 (v:=.int .u64 (ad ((mx h (Q1 kf (Q8 (bt l) 80) h 80) i) i) ((Q1 kf (Q8 (bt l) 80) h 80) i))) (cs' :=J0 .u64 8 (upd (mx h (Q1 kf (Q8 (bt l) 80) h 80) i) i (ad ((mx h (Q1 kf (Q8 (bt l) 80) h 80) i) i) ((Q1 kf (Q8 (bt l) 80) h 80) i)))) ?_ (hs:=by rw[J1,AP];omega) (hc:=by rw[AP];exact Y9 _ _ _ _ _);refine MZn fun W hS=> ?_;go_wp2;go_roundw
    case rel=>exact⟨i+1,by omega,by go_num,(by rw[←Z2k];exact hS)⟩
    case measure=>simp[intOf];omega
   obtain rfl:i=8:=by omega
   rw[Z7r] at hS;go_upto_region 11 with fail;refine RL hS ?_;clear hS;refine Wf ?_;refine MZ fun W hS=> ?_;go_upto_region 15 with fail;refine RL hS ?_;clear hS;refine ML 3 ?_;refine MR 2 ?_;refine MZ fun W hS=> ?_;go_wp2;refine BH (Z5 rfl rfl (hS.blk (i:=2) rfl) (by kernel_rfl) (by rw[J1];kernel_rfl)) rfl ⟨rfl,hS.ext⟩
end
end Go.Proofs.YtdjacgmmidbieaaGreatDoor

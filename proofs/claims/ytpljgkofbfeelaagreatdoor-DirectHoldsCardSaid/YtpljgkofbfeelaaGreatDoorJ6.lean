/- Contracts and plain laws for directHolds_holds. Conditions: the tables hold their numbers. -/
import Derived.Test.YtpljgkofbfeelaaGreatDoorJ5
import Derived.Test.YtpljgkofbfeelaaGreatDoorRows
import Derived.ProofKit
import Derived.OpenShut
import Derived.Deep.Slices
import Derived.Deep.DeepHandedRow
import Derived.Lib.LaidTab
open Go renaming undef->AP,World->AA,Value->AB,Calls->Az,Program->AC,TypeId->AD,maxLen->Ab
open _root_.List renaming length_append->Ai,getElem?_eq_getElem->Af,mem_cons->AY,mem_append->Ar,getElem?_append_left->BA,getElem?_append_right->BB
set_option linter.unusedSimpArgs false
set_option linter.unusedVariables false
namespace Go.Proofs.YtpljgkofbfeelaaGreatDoor
section
open Go.RowKit
attribute [local irreducible] wpList Z9 wpX
abbrev J0d (x:Nat):List AB:=(J0 .u8 32 (J2 x)).toList
theorem RR.opf {α:Type}{f:α→List AB}{k:Nat}{w:AA}{u:AB}{ls:List α}(h:RR k w u (ls.map f)):∃A c,u=.slice A ls.length c∧ls.length≤c∧Hid (∀(j:Nat) (x:α),ls[j]?=some x→∃g o,A=some ⟨g,o,none⟩∧∀(i:Nat) (v:AB),(f x)[i]?=some v→w.cell? ⟨g,o+j*k+i,none⟩=some v):=by
 obtain⟨A,c,h1,h2,_,h3⟩:=h;rw[List.length_map] at h1 h2;exact⟨A,c,h1,h2,Lib.hid fun j x hj=>h3 j (f x) (by rw[List.getElem?_map,hj];rfl)⟩
def TXS (W:AA)(us:List AB)(ts:List (List UInt8)):Prop:=us.length=ts.length∧∀(i:Nat) (u:AB) (t:List UInt8),us[i]?=some u→ts[i]?=some t→Sl W u t
def txF:List AB→List (List UInt8)→List Nat
 |u::us,t::ts=>(sb u t).toList++txF us ts
 |_,_=>[]
theorem mem_txF {k:Nat}:∀{us:List AB} {ts:List (List UInt8)},k∈txF us ts↔∃(i:Nat) (u:AB) (t:List UInt8),us[i]?=some u∧ts[i]?=some t∧sb u t=some k
 |[],_=>⟨fun h=>(by cases h),fun⟨i,u,t,h,_⟩=>by simp at h⟩
 |_::_,[]=>⟨fun h=>(by cases h),fun⟨i,u,t,_,h,_⟩=>by simp at h⟩
 |u::us,t::ts=>by
  show k∈(sb u t).toList++txF us ts↔_;rw[Ar,mem_txF];constructor
  ·
   rintro(h|⟨i,v,s,h1,h2,h3⟩)
   ·
    exact⟨0,u,t,rfl,rfl,As.mem_toList h⟩
   ·
    exact⟨i+1,v,s,h1,h2,h3⟩
  ·
   rintro⟨i,v,s,h1,h2,h3⟩;cases i with
   |zero=>
    obtain rfl:u=v:=by simpa using h1
    obtain rfl:t=s:=by simpa using h2
    exact .inl (by rw[h3];simp)
   |succ i=>exact .inr ⟨i,v,s,by simpa using h1,by simpa using h2,h3⟩
theorem J77 {w W:AA}{v:AB}{l:List UInt8}(h:Sl w v l)(e:∀b,sb v l=some b→W.heap[b]?=w.heap[b]?):Sl W v l:=by
 obtain⟨A,c,rfl,h1,h2,h0,h3⟩:=h;refine⟨A,c,rfl,h1,h2,h0,fun j x hj=> ?_⟩;obtain⟨ad,hA,hc⟩:=h3 j x hj;refine⟨ad,hA,?_⟩
 have hb:sb (.slice A l.length c) l=some ad.block:=by
  unfold sb;rw[if_neg (by rintro rfl;simp at hj),hA];rfl
 have h4:=e _ hb;rw[←hc];exact AA.cell?_of_block (a:=ad.add j) (w:=w) (w' :=W) (by rw[show(ad.add j).block=ad.block from by unfold Addr.add;split<;>rfl];exact h4)
theorem TXS.holds {W:AA}{us:List AB}{ts:List (List UInt8)}(h:TXS W us ts):(As.p (txF us ts) (fun W=>TXS W us ts)).holds W:=
 ⟨h,fun k hk=>by obtain⟨i,u,t,h1,h2,h3⟩:=mem_txF.1 hk;exact Sl.lt (h.2 i u t h1 h2) k h3,
 fun W' _ e=>⟨h.1,fun i u t h1 h2=>J77 (h.2 i u t h1 h2) fun b hb=>e b (mem_txF.2 ⟨i,u,t,h1,h2,hb⟩)⟩⟩
theorem Y6b (W:AA):TXS W [] []:=⟨rfl,fun i u t h=>by simp at h⟩
theorem Y1n {W:AA}{us:List AB}{ts:List (List UInt8)}{u:AB}{t:List UInt8}(h:TXS W us ts)(hu:Sl W u t):TXS W (us++[u]) (ts++[t]):=by
 refine⟨by rw[Ai,Ai,h.1];rfl,fun i v s h1 h2=> ?_⟩;rcases Nat.lt_or_ge i us.length with hi|hi
 ·
  rw[BA hi] at h1;rw[BA (by rw[←h.1];exact hi)] at h2;exact h.2 i v s h1 h2
 rw[BB hi] at h1;rw[BB (by rw[←h.1];exact hi),←h.1] at h2;rcases Nat.eq_zero_or_pos (i-us.length) with h0|h0
 ·
  rw[h0] at h1 h2;obtain rfl:u=v:=by simpa using h1
  obtain rfl:t=s:=by simpa using h2
  exact hu
 rw[List.getElem?_eq_none (by simp;omega)] at h1;cases h1
theorem Z02 {us:List AB}{ts:List (List UInt8)}{u:AB}{t:List UInt8}{k:Nat}(hl:us.length=ts.length)(h:k∈txF (us++[u]) (ts++[t])):k∈txF us ts∨sb u t=some k:=by
 obtain⟨i,v,s,h1,h2,h3⟩:=mem_txF.1 h;rcases Nat.lt_or_ge i us.length with hi|hi
 ·
  rw[BA hi] at h1;rw[BA (by rw[←hl];exact hi)] at h2;exact .inl (mem_txF.2 ⟨i,v,s,h1,h2,h3⟩)
 rw[BB hi] at h1;rw[BB (by rw[←hl];exact hi),←hl] at h2;rcases Nat.eq_zero_or_pos (i-us.length) with h0|h0
 ·
  rw[h0] at h1 h2;obtain rfl:u=v:=by simpa using h1
  obtain rfl:t=s:=by simpa using h2
  exact .inr h3
 rw[List.getElem?_eq_none (by simp;omega)] at h1;cases h1
namespace SH
variable {F : List Nat} {w W W' : AA} {H X : List As} {i j : Nat}
theorem addp {f:List Nat}{K:AA→Prop}(h:SH F w W H)(hz:(As.p f K).holds W)(hf:∀k∈f,∃(i:Nat) (x:As),H[i]?=some x∧x.mv=false∧k∈x.foot):SH F w W (.p f K::H):=by
 refine⟨h.off,fun y hy=> ?_,List.pairwise_cons.2 ⟨fun y hy=>⟨fun h=>by(cases h),fun hm k hk G=> ?_⟩,h.ap⟩,fun y hy hm k hk J=> ?_⟩
 ·
  rcases AY.1 hy with rfl|hy
  ·
   exact hz
  exact h.all y hy
 ·
  obtain⟨i,x,hi,hx,D⟩:=hf k G;obtain⟨j,hj,e⟩:=List.mem_iff_getElem.1 hy;have hj' :H[j]?=some y:=by rw[Af hj,e]
  have hn:j≠i:=fun e=>by subst e;rw[hi] at hj';obtain rfl:=Option.some.inj hj';rw[hx] at hm;cases hm
  have h1:=(h.ap2 hj' hi hn).1 hm;cases x with
  |t T K=>cases D
  |_=>exact h1 k hk D
 rcases AY.1 hy with rfl|hy
 ·
  cases hm
 exact h.old y hy hm k hk J
theorem txs {us:List AB}{ts:List (List UInt8)}{u:AB}{t:List UInt8}(h:SH F w W H)(hi:H[i]?=some (.p (txF us ts) (fun W=>TXS W us ts)))(hj:H[j]?=some (.s u t)):SH F w W (.p (txF (us++[u]) (ts++[t])) (fun W=>TXS W (us++[u]) (ts++[t]))::H):=
 h.addp (Y1n (h.pp hi) (h.sl hj)).holds fun k hk=>by
  rcases Z02 (h.pp hi).1 hk with hk|hk
  ·
   exact⟨i,_,hi,rfl,hk⟩
  ·
   exact⟨j,_,hj,rfl,by show k∈(sb u t).toList;rw[hk];simp⟩
theorem txn (h:SH F w W H):SH F w W (.p (txF [] []) (fun W=>TXS W [] [])::H):=h.addp (Y6b W).holds fun k hk=>by cases hk
theorem fresh {u:AB}{t:List UInt8}(h:SH [] w W H)(hj:H[j]?=some (.o u t)){us:List AB}{ts:List (List UInt8)}(hl:us.length=ts.length)(hf:∀k∈txF us ts,w.heap.size≤k):∀k∈txF (us++[u]) (ts++[t]),w.heap.size≤k:=fun k hk=>by
 rcases Z02 hl hk with hk|hk
 ·
  exact hf k hk
 ·
  refine Nat.le_of_not_lt fun D=> ?_;have:=h.old _ (mem hj) rfl k (by show k∈(AB.ownBlock u).toList;rw[J3d hk];simp) D;cases this
theorem newL (h:SH F w W H)(h' :SH [] W W' X)(hf:∀y∈X,y.mv=false→∀k∈y.foot,W.heap.size≤k)(hx:X.all (fun y=>(match y with| .t _ _=>false|_=>true) && H.all (tyOk y))=true):SH F w W' (X++H):=by
 have hn:∀y∈X,∀k∈y.foot,W.heap.size≤k:=fun y hy k hk=>by
  cases hm:y.mv with
  |false=>exact hf y hy hm k hk
  |true=>exact Nat.le_of_not_lt fun D=>by have:=h'.old y hy hm k hk D;cases this
 have h2:=h.next h'.off;refine⟨h2.off,fun y hy=> ?_,List.pairwise_append.2 ⟨h'.ap,h2.ap,fun y hy z hz=>⟨fun hm=> ?_,fun hm=> ?_⟩⟩,fun y hy hm k hk D=> ?_⟩
 ·
  rcases Ar.1 hy with hy|hy
  ·
   exact h'.all y hy
  exact h2.all y hy
 ·
  have h3:=List.all_eq_true.1 hx y hy;have h4:=As.lt (h.all z hz);cases z with
  |t T K=>
   have h5:=List.all_eq_true.1 (Bool.and_eq_true_iff.1 h3).2 _ hz
   simpa[tyOk,hm] using h5
  |_=>exact fun k hk G=>Nat.not_lt.2 (hn y hy k hk) (h4 k G)
 ·
  have h3:=List.all_eq_true.1 hx y hy;have h4:=As.lt (h.all z hz);cases y with
  |t T K=>simp at h3
  |_=>exact fun k hk G=>Nat.not_lt.2 (hn _ hy k G) (h4 k hk)
 rcases Ar.1 hy with hy|hy
 ·
  have:=hn y hy k hk;have:=h.size;omega
 exact h2.old y hy hm k hk D
end SH
theorem K8 {P:AC}{ops:Array Oper}{k:Wk}{F:List Nat}{w:AA}{H:List As}{l:List Oper}{a:Act}{p:Prop}(hp:∀W,SH F w W H→p)(h:p→wpM P ops k F w H l a):wpM P ops k F w H l a:=fun W hS=>h (hp W hS) W hS
theorem Z1x {P:AC}{α:Type}{f:FuncId}{args:Array AB}{F:List Nat}{w W:AA}{H:List As}{V:α→AB}{X:α→List As}(hS:SH F w W H)(hc:Az P f args W fun e W' => ∃x,e=.returned (V x)∧SH [] W W' (X x)∧∀y∈X x,y.mv=false→∀k∈y.foot,W.heap.size≤k)(ht:∀x,(X x).all (fun y=>(match y with| .t _ _=>false|_=>true) && H.all (SH.tyOk y))=true):
  Az P f args W fun e W' => ∃x,e=.returned (V x)∧SH F w W' (X x++H):=
 hc.mono fun e W' ⟨x,h1,h2,h3⟩=>⟨x,h1,hS.newL h2 h3 (ht x)⟩
theorem J8b {P:Program}{a:Act}{o:Oper}{x:Operand}{tS t:TypeId}{W:World}{A:Option Addr}{n c:Nat}(ho:o.op=.call {callee:=.builtin .len,args:= #[x],argTypes:= #[tS]})(hx:a.eval x=.slice A n c)(ht:P.underlying tS=some (.slice t)):(execOp a.eval o).run P W=.ok (.value (.int .i64 (n:Int))) W:=by
 unfold execOp;simp only[ho,resolve,invoke,builtin,Sem.run_bind,Sem.run_pure,Result.andThen_ok,List.map_toArray,List.map_cons,List.map_nil,hx];simp[Builtin.len_,run_underlying ht,goInt,Sem.run_bind]
theorem V3h {w:AA}{t:AD}{n:Nat}{v:AB}{es:List (List AB)}{f:List Nat}{K:AA→Prop}(h:∀k∈f,w.heap.size≤k):∀y∈[As.r t n v es,As.p f K],y.mv=false→∀k∈y.foot,w.heap.size≤k:=fun y hy hm=>by
 rcases AY.1 hy with rfl|hy
 ·
  cases hm
 ·
  rw[List.mem_singleton.1 hy];exact h
theorem Q4s {W:AA}{us:List AB}{ts:List (List UInt8)}(h:TXS W us ts){n:Nat}{t:List UInt8}(ht:ts[n]?=some t):∃u,us[n]?=some u∧Sl W u t:=by
 have h1:=(List.getElem?_eq_some_iff.1 ht).1;have h2:n<us.length:=by rw[h.1];exact h1
 exact⟨us[n],Af h2,h.2 n _ t (Af h2) ht⟩
theorem J1y {P:AC}{α:Type}{f:FuncId}{args:Array AB}{F:List Nat}{w W:AA}{H:List As}{V:α→AB}{X:α→As}(hS:SH F w W H)(hc:Az P f args W fun e W' => ∃x,e=.returned (V x)∧SH [] W W' [X x])(ht:∀x,(X x).mv=true∧H.all (SH.tyOk (X x))=true):
  Az P f args W fun e W' => ∃x,e=.returned (V x)∧SH F w W' (X x::H):=
 hc.mono fun e W' ⟨x,h1,h2⟩=>⟨x,h1,SH.frame (L:=[]) (L' :=[X x]) (R:=H) hS h2 ⟨.inr (ht x),trivial⟩⟩
theorem J6l {P:AC}{fn:Func}{p q r:Tmp}{ty t:AD}{tmps:Array AB}{w:AA}{g:Nat}{cs:Array AB}{v u:AB}(h:fn.results= #[.cell p ty,.tmp q,.tmp r])
  (hp:tmps.getD p AP=.pointer (some ⟨g,0,none⟩)) (hq:tmps.getD q AP=v) (hr:tmps.getD r AP=u) (hB:Blk w g cs t) (hk:(P.underlying ty).map TypeDesc.isRow=some true) (hi:(P.info? ty).map (·.size)=some cs.size):
  (results fn tmps).run P w=.ok (.tuple #[.agg cs,v,u]) w:=by
 cases hu:P.underlying ty with
 |none=>simp[hu] at hk
 |some d=>
  have hd:d.isRow=true:=by simpa[hu] using hk
  have hp' :tmps[p]?.getD AP=.pointer (some ⟨g,0,none⟩):=by simpa using hp
  have hq' :tmps[q]?.getD AP=v:=by simpa using hq
  have hr' :tmps[r]?.getD AP=u:=by simpa using hr
  simp[results,h,hp',hq',hr',asAddr,run_loadVar_row w g t ty cs _ d hB hu (by cases d<;>simp_all [TypeDesc.isRow]) hi]
theorem Y1o {P:AC}{fn:Func}{p q r:Tmp}{ty t:AD}{tmps:Array AB}{w:AA}{g:Nat}{cs:Array AB}{v u:AB}(h:fn.results= #[.tmp q,.cell p ty,.tmp r])
  (hp:tmps.getD p AP=.pointer (some ⟨g,0,none⟩)) (hq:tmps.getD q AP=v) (hr:tmps.getD r AP=u) (hB:Blk w g cs t) (hk:(P.underlying ty).map TypeDesc.isRow=some true) (hi:(P.info? ty).map (·.size)=some cs.size):
  (results fn tmps).run P w=.ok (.tuple #[v,.agg cs,u]) w:=by
 cases hu:P.underlying ty with
 |none=>simp[hu] at hk
 |some d=>
  have hd:d.isRow=true:=by simpa[hu] using hk
  have hp' :tmps[p]?.getD AP=.pointer (some ⟨g,0,none⟩):=by simpa using hp
  have hq' :tmps[q]?.getD AP=v:=by simpa using hq
  have hr' :tmps[r]?.getD AP=u:=by simpa using hr
  simp[results,h,hp',hq',hr',asAddr,run_loadVar_row w g t ty cs _ d hB hu (by cases d<;>simp_all [TypeDesc.isRow]) hi]
theorem Row.form {α:Type}{f:α→List AB}{ls:List α}{t:AD}{k:Nat}{w:AA}{v:AB}(h:Row t k w v (ls.map f)):∃A c,v=.slice A ls.length c:=by
 obtain⟨A,c,h1,_⟩:=RR.opf h.rr;exact⟨A,c,h1⟩
end

section
set_option maxRecDepth 100000
open Go.ChangeShapes Go.WideShapes Go.ChangeAt Go.RowKit Go.Deep
theorem own:ownKnob Tryz.prog.godebug=none:=by kernel_rfl
theorem Q86:laidOutB Tryz.prog=true:=by kernel_rfl
theorem Z5i:Tryz.prog.cellsOf 5=1:=by kernel_rfl
theorem Q10 {cs:List AB}{o s o' :Nat}(h:o' =o+s):cs.drop o=(cs.drop o).take s++cs.drop o' :=by
  subst h;rw[←List.drop_drop,List.take_append_drop]
section
variable {H : Type} {enc : AD × AB → H} {W : AA} {base : Nat} {sp : Nat → Bool} {held : Bool}
theorem V8t {t:AD}(hr:Tryz.prog.readableRec t=true)(hrow:t<Tryz.prog.types.size){W W' :AA}{sp' :Nat→Bool}{v:AB}{d:DataW H}
    (h:DataW.Trod enc Tryz.prog W 0 (fun _=>true) true t v d []):DataW.Trod enc Tryz.prog W' 0 sp' true t v d []:=
  WideElems.Trod_stays Q86 hr hrow h (fun _ hp=>by cases hp) (fun _ hp=>by cases hp)
theorem Z2l {fuel:Nat}{t e:AD}{n:Nat}{cs:List AB}{x:DataW H×List MemPlace}(ht:Tryz.prog.underlying t=some (.array n e))(he:Tryz.prog.underlying e=some (.int .u8))(hc:Tryz.prog.cellsOf e=1)(hct:Tryz.prog.cellsOf t=n)
    (h:DataW.trod enc Tryz.prog W base sp held fuel t cs=some x):∃S:List UInt8,cs=bs8 S∧S.length=n:=by
  obtain⟨xs,m,_,_,hl,G,hg⟩:=DataW.trod_array ht h;rw[hct] at hl
  have D:∀i,i<n→∃c:UInt8,cs[i]?=some (.int .u8 (c.toNat:Int)):=by
    intro i hi;have h1:=hg i hi;rw[hc,Nat.mul_one,Af (by omega)] at h1;obtain⟨z,hz,_,hw⟩:=DataW.trod_int he h1;have hb:=bounds_u8 hw;have h0:=congrArg (fun l:List AB=>l[0]?) hz;rw[List.getElem?_take_of_lt (by omega),List.getElem?_drop] at h0;refine⟨UInt8.ofNat z.toNat,?_⟩
    have e:((UInt8.ofNat z.toNat).toNat:Int)=z:=by
      rw[UInt8.toNat_ofNat'];omega
    rw[e]
    simpa using h0
  refine⟨(List.range n).map fun i=>if h:i<n then Classical.choose (D i h) else 0,?_,by simp⟩;apply List.ext_getElem?;intro i
  by_cases hi:i<n
  · have:=Classical.choose_spec (D i hi)
    rw[this];simp[bs8,hi]
  rw[List.getElem?_eq_none (by omega),List.getElem?_eq_none (by simp[bs8];omega)]
theorem Q6l {fuel:Nat}{t:AD}{n:Nat}{cs:List AB}{x:DataW H×List MemPlace}(ht:Tryz.prog.underlying t=some (.array n 5))(hct:Tryz.prog.cellsOf t=n)
    (h:DataW.trod enc Tryz.prog W base sp held fuel t cs=some x):∃X:Nat,X<2^(8*n)∧cs=(J0 .u8 n (J2 X)).toList:=by
  obtain⟨L,rfl,hl⟩:=Z2l ht Tryz.underlying5 Z5i hct h;exact⟨le L,by rw[←hl];exact Q95 L,by rw[K2t,Q76 hl]⟩
theorem Q02 {fuel:Nat}{t:AD}{cs:List AB}{x:DataW H×List MemPlace}(ht:Tryz.prog.underlying t=some (.int .i64))(h:DataW.trod enc Tryz.prog W base sp held fuel t cs=some x):∃n:Int,(-9223372036854775808≤n∧n<9223372036854775808)∧cs=[.int .i64 n]:=by
  obtain⟨n,hn,_,hw⟩:=DataW.trod_int ht h;exact⟨n,by have:=bounds_i64 hw;omega,hn⟩
theorem Q03 {fuel:Nat}{cs:List AB}{x:DataW H×List MemPlace}(h:DataW.trod enc Tryz.prog W base sp held fuel 22 cs=some x):∃u l,(Sl W u l∧l.length≤Ab)∧cs=[u]:=by
  rcases open_slice Tryz.underlying22 h with⟨rfl,_⟩|⟨a,G,S,m,n,D,Pl,rfl,_,hl,hm,R,_,hi⟩
  · exact⟨_,[],⟨Q1p W,by simp⟩,rfl⟩
  have T:G≤m:=by rw[R];split<;>omega
  have M:∀i,i<G→∃c:UInt8,W.cell? (a.add i)=some (.int .u8 (c.toNat:Int)):=by
    intro i X;obtain⟨V,h1,h2⟩:=hi i (by omega);rw[Z5i,Nat.mul_one] at h1;obtain⟨_,U,J⟩:=AA.cells?_some h1;obtain⟨z,hz,_,hw⟩:=DataW.trod_int Tryz.underlying5 h2;have hb:=bounds_u8 hw;refine⟨UInt8.ofNat z.toNat,?_⟩;have e:((UInt8.ofNat z.toNat).toNat:Int)=z:=by rw[UInt8.toNat_ofNat'];omega
    have:=J 0 (by omega);rw[hz] at this;rw[e];have e0:∀b:Addr,b.add 0=b:=fun b=>by unfold Addr.add;simp
    rw[e0] at this
    simpa using this
  refine⟨_,(List.range G).map fun i=>if h:i<G then Classical.choose (M i h) else 0,⟨⟨some a,S,by simp,by simpa using hl,hm,(fun h=>by cases h),fun j x hj=>⟨a,rfl,?_⟩⟩,by simp;omega⟩,rfl⟩;have N:j<G:=by have:=(List.getElem?_eq_some_iff.1 hj).1;simpa using this
  simp[N] at hj;subst hj;exact Classical.choose_spec (M j N)
theorem V3q {r:Reach}{b0:Nat}{v:AB}{d:DataW H}{ps:List MemPlace}(hval:AB.okWide Tryz.prog W r b0 3 v)(hd:DataW.Trod enc Tryz.prog W base sp held 3 v d ps):∃n:Int,v=.int .i64 n∧ps=[]∧(-9223372036854775808≤n∧n<9223372036854775808):=by
  obtain⟨n,h1,_,hp,hw⟩:=open_int Tryz.underlying3 hval hd;exact⟨n,h1,hp,by have:=bounds_i64 hw;omega⟩
theorem Q22 {fuel:Nat}{cs:List AB}{x:DataW H×List MemPlace}(h:DataW.trod enc Tryz.prog W base sp held fuel 25 cs=some x):∃(X1:Nat) (X2:Nat),X1<2^(8*32)∧X2<2^(8*32)∧cs=fcs [.a 32 X1,.a 32 X2]:=by
  obtain⟨xs,n,_,_,hl,J,hg⟩:=DataW.trod_struct Tryz.underlying25 h;rw[show Tryz.prog.cellsOf 25=64 by kernel_rfl] at hl;have M:xs.length=2:=J;have g0:DataW.trod enc Tryz.prog W base sp held n 23 ((cs.drop 0).take (Tryz.prog.cellsOf 23))=xs[0]?:=hg 0 _ rfl;rw[show Tryz.prog.cellsOf 23=32 by kernel_rfl,Af (by omega)] at g0;replace g0 : DataW.trod enc Tryz.prog W base sp held n 23 ((cs.drop 0).take 32) = some (xs[0]'(by omega)) := g0;obtain⟨X1,G,e0⟩:=Q6l Tryz.underlying23 (by kernel_rfl) g0;have g1:DataW.trod enc Tryz.prog W base sp held n 23 ((cs.drop 32).take (Tryz.prog.cellsOf 23))=xs[1]?:=hg 1 _ rfl;rw[show Tryz.prog.cellsOf 23=32 by kernel_rfl,Af (by omega)] at g1;replace g1 : DataW.trod enc Tryz.prog W base sp held n 23 ((cs.drop 32).take 32) = some (xs[1]'(by omega)) := g1;obtain⟨X2,D,e1⟩:=Q6l Tryz.underlying23 (by kernel_rfl) g1;refine⟨X1,X2,G,D,?_⟩;rw[show cs=cs.drop 0 from rfl];rw[Q10 (cs:=cs) (o:=0) (s:=32) (o' :=32) rfl,e0]
  conv=>lhs;rw[Q10 (cs:=cs) (o:=32) (s:=32) (o' :=64) rfl,e1]
  rw[List.drop_eq_nil_of_le (Nat.le_of_eq hl)];rfl
theorem J61 {fuel:Nat}{cs:List AB}{x:DataW H×List MemPlace}(h:DataW.trod enc Tryz.prog W base sp held fuel 27 cs=some x):∃(n1:Int) (n2:Int) (n3:Int),(-9223372036854775808≤n1∧n1<9223372036854775808)∧(-9223372036854775808≤n2∧n2<9223372036854775808)∧(-9223372036854775808≤n3∧n3<9223372036854775808)∧cs=fcs [.c (.int .i64 n1),.c (.int .i64 n2),.c (.int .i64 n3)]:=by
  obtain⟨xs,n,_,_,hl,M,hg⟩:=DataW.trod_struct Tryz.underlying27 h;rw[show Tryz.prog.cellsOf 27=3 by kernel_rfl] at hl;have N:xs.length=3:=M;have g0:DataW.trod enc Tryz.prog W base sp held n 3 ((cs.drop 0).take (Tryz.prog.cellsOf 3))=xs[0]?:=hg 0 _ rfl;rw[show Tryz.prog.cellsOf 3=1 by kernel_rfl,Af (by omega)] at g0;replace g0 : DataW.trod enc Tryz.prog W base sp held n 3 ((cs.drop 0).take 1) = some (xs[0]'(by omega)) := g0;obtain⟨n1,D,e0⟩:=Q02 Tryz.underlying3 g0;have g1:DataW.trod enc Tryz.prog W base sp held n 3 ((cs.drop 1).take (Tryz.prog.cellsOf 3))=xs[1]?:=hg 1 _ rfl;rw[show Tryz.prog.cellsOf 3=1 by kernel_rfl,Af (by omega)] at g1;replace g1 : DataW.trod enc Tryz.prog W base sp held n 3 ((cs.drop 1).take 1) = some (xs[1]'(by omega)) := g1;obtain⟨n2,J,e1⟩:=Q02 Tryz.underlying3 g1;have g2:DataW.trod enc Tryz.prog W base sp held n 3 ((cs.drop 2).take (Tryz.prog.cellsOf 3))=xs[2]?:=hg 2 _ rfl;rw[show Tryz.prog.cellsOf 3=1 by kernel_rfl,Af (by omega)] at g2;replace g2 : DataW.trod enc Tryz.prog W base sp held n 3 ((cs.drop 2).take 1) = some (xs[2]'(by omega)) := g2;obtain⟨n3,G,e2⟩:=Q02 Tryz.underlying3 g2;refine⟨n1,n2,n3,D,J,G,?_⟩;rw[show cs=cs.drop 0 from rfl];rw[Q10 (cs:=cs) (o:=0) (s:=1) (o' :=1) rfl,e0]
  conv=>lhs;rw[Q10 (cs:=cs) (o:=1) (s:=1) (o' :=2) rfl,e1]
  conv=>lhs;rw[Q10 (cs:=cs) (o:=2) (s:=1) (o' :=3) rfl,e2]
  rw[List.drop_eq_nil_of_le (Nat.le_of_eq hl)];rfl
theorem J6n {fuel:Nat}{cs:List AB}{x:DataW H×List MemPlace}(h:DataW.trod enc Tryz.prog W base sp held fuel 29 cs=some x):∃(v1:AB) (l2:List UInt8) (X3:Nat) (X4:Nat) (n5:Int) (n6:Int) (n7:Int),(Sl W v1 l2∧l2.length≤Ab)∧X3<2^(8*32)∧X4<2^(8*32)∧(-9223372036854775808≤n5∧n5<9223372036854775808)∧(-9223372036854775808≤n6∧n6<9223372036854775808)∧(-9223372036854775808≤n7∧n7<9223372036854775808)∧cs=fcs [.c v1,.a 32 X3,.a 32 X4,.c (.int .i64 n5),.c (.int .i64 n6),.c (.int .i64 n7)]:=by
  obtain⟨xs,n,_,_,hl,S,hg⟩:=DataW.trod_struct Tryz.underlying29 h;rw[show Tryz.prog.cellsOf 29=68 by kernel_rfl] at hl;have T:xs.length=3:=S;have g0:DataW.trod enc Tryz.prog W base sp held n 22 ((cs.drop 0).take (Tryz.prog.cellsOf 22))=xs[0]?:=hg 0 _ rfl;rw[show Tryz.prog.cellsOf 22=1 by kernel_rfl,Af (by omega)] at g0;replace g0 : DataW.trod enc Tryz.prog W base sp held n 22 ((cs.drop 0).take 1) = some (xs[0]'(by omega)) := g0;obtain⟨v1,l2,D,e0⟩:=Q03 g0;have g1:DataW.trod enc Tryz.prog W base sp held n 25 ((cs.drop 1).take (Tryz.prog.cellsOf 25))=xs[1]?:=hg 1 _ rfl;rw[show Tryz.prog.cellsOf 25=64 by kernel_rfl,Af (by omega)] at g1;replace g1 : DataW.trod enc Tryz.prog W base sp held n 25 ((cs.drop 1).take 64) = some (xs[1]'(by omega)) := g1;obtain⟨X3,X4,M,R,e1⟩:=Q22 g1;have g2:DataW.trod enc Tryz.prog W base sp held n 27 ((cs.drop 65).take (Tryz.prog.cellsOf 27))=xs[2]?:=hg 2 _ rfl;rw[show Tryz.prog.cellsOf 27=3 by kernel_rfl,Af (by omega)] at g2;replace g2 : DataW.trod enc Tryz.prog W base sp held n 27 ((cs.drop 65).take 3) = some (xs[2]'(by omega)) := g2;obtain⟨n5,n6,n7,J,N,G,e2⟩:=J61 g2;refine⟨v1,l2,X3,X4,n5,n6,n7,D,M,R,J,N,G,?_⟩;rw[show cs=cs.drop 0 from rfl];rw[Q10 (cs:=cs) (o:=0) (s:=1) (o' :=1) rfl,e0]
  conv=>lhs;rw[Q10 (cs:=cs) (o:=1) (s:=64) (o' :=65) rfl,e1]
  conv=>lhs;rw[Q10 (cs:=cs) (o:=65) (s:=3) (o' :=68) rfl,e2]
  rw[List.drop_eq_nil_of_le (Nat.le_of_eq hl)];rfl
theorem J6m {r:Reach}{b0:Nat}{v:AB}{d:DataW H}{ps:List MemPlace}(hval:AB.okWide Tryz.prog W r b0 29 v)(hd:DataW.Trod enc Tryz.prog W base sp held 29 v d ps):∃(v1:AB) (l2:List UInt8) (X3:Nat) (X4:Nat) (n5:Int) (n6:Int) (n7:Int),(Sl W v1 l2∧l2.length≤Ab)∧X3<2^(8*32)∧X4<2^(8*32)∧(-9223372036854775808≤n5∧n5<9223372036854775808)∧(-9223372036854775808≤n6∧n6<9223372036854775808)∧(-9223372036854775808≤n7∧n7<9223372036854775808)∧v=.agg (Q2 [.c v1,.a 32 X3,.a 32 X4,.c (.int .i64 n5),.c (.int .i64 n6),.c (.int .i64 n7)]):=by
  obtain⟨cs,rfl,_⟩:=okWide_struct Tryz.underlying29 hval;obtain⟨D,hf⟩:=hd;obtain⟨v1,l2,X3,X4,n5,n6,n7,h0,h1,h2,h3,h4,h5,e⟩:=J6n hf;exact⟨v1,l2,X3,X4,n5,n6,n7,h0,h1,h2,h3,h4,h5,by rw[show cs=Q2 [.c v1,.a 32 X3,.a 32 X4,.c (.int .i64 n5),.c (.int .i64 n6),.c (.int .i64 n7)] from Array.toList_inj.1 e]⟩
theorem J7j {fuel:Nat}{cs:List AB}{x:DataW H×List MemPlace}(h:DataW.trod enc Tryz.prog W base sp held fuel 63 cs=some x):∃(n1:Int) (n2:Int) (v3:AB) (l4:List UInt8) (v5:AB) (l6:List UInt8) (n7:Int) (n8:Int),(-9223372036854775808≤n1∧n1<9223372036854775808)∧(-9223372036854775808≤n2∧n2<9223372036854775808)∧(Sl W v3 l4∧l4.length≤Ab)∧(Sl W v5 l6∧l6.length≤Ab)∧(-9223372036854775808≤n7∧n7<9223372036854775808)∧(-9223372036854775808≤n8∧n8<9223372036854775808)∧cs=fcs [.c (.int .i64 n1),.c (.int .i64 n2),.c v3,.c v5,.c (.int .i64 n7),.c (.int .i64 n8)]:=by
  obtain⟨xs,n,_,_,hl,S,hg⟩:=DataW.trod_struct Tryz.underlying63 h;rw[show Tryz.prog.cellsOf 63=6 by kernel_rfl] at hl;have T:xs.length=6:=S;have g0:DataW.trod enc Tryz.prog W base sp held n 3 ((cs.drop 0).take (Tryz.prog.cellsOf 3))=xs[0]?:=hg 0 _ rfl;rw[show Tryz.prog.cellsOf 3=1 by kernel_rfl,Af (by omega)] at g0;replace g0 : DataW.trod enc Tryz.prog W base sp held n 3 ((cs.drop 0).take 1) = some (xs[0]'(by omega)) := g0;obtain⟨n1,D,e0⟩:=Q02 Tryz.underlying3 g0;have g1:DataW.trod enc Tryz.prog W base sp held n 3 ((cs.drop 1).take (Tryz.prog.cellsOf 3))=xs[1]?:=hg 1 _ rfl;rw[show Tryz.prog.cellsOf 3=1 by kernel_rfl,Af (by omega)] at g1;replace g1 : DataW.trod enc Tryz.prog W base sp held n 3 ((cs.drop 1).take 1) = some (xs[1]'(by omega)) := g1;obtain⟨n2,R,e1⟩:=Q02 Tryz.underlying3 g1;have g2:DataW.trod enc Tryz.prog W base sp held n 22 ((cs.drop 2).take (Tryz.prog.cellsOf 22))=xs[2]?:=hg 2 _ rfl;rw[show Tryz.prog.cellsOf 22=1 by kernel_rfl,Af (by omega)] at g2;replace g2 : DataW.trod enc Tryz.prog W base sp held n 22 ((cs.drop 2).take 1) = some (xs[2]'(by omega)) := g2;obtain⟨v3,l4,N,e2⟩:=Q03 g2;have g3:DataW.trod enc Tryz.prog W base sp held n 22 ((cs.drop 3).take (Tryz.prog.cellsOf 22))=xs[3]?:=hg 3 _ rfl;rw[show Tryz.prog.cellsOf 22=1 by kernel_rfl,Af (by omega)] at g3;replace g3 : DataW.trod enc Tryz.prog W base sp held n 22 ((cs.drop 3).take 1) = some (xs[3]'(by omega)) := g3;obtain⟨v5,l6,G,e3⟩:=Q03 g3;have g4:DataW.trod enc Tryz.prog W base sp held n 3 ((cs.drop 4).take (Tryz.prog.cellsOf 3))=xs[4]?:=hg 4 _ rfl;rw[show Tryz.prog.cellsOf 3=1 by kernel_rfl,Af (by omega)] at g4;replace g4 : DataW.trod enc Tryz.prog W base sp held n 3 ((cs.drop 4).take 1) = some (xs[4]'(by omega)) := g4;obtain⟨n7,J,e4⟩:=Q02 Tryz.underlying3 g4;have g5:DataW.trod enc Tryz.prog W base sp held n 3 ((cs.drop 5).take (Tryz.prog.cellsOf 3))=xs[5]?:=hg 5 _ rfl;rw[show Tryz.prog.cellsOf 3=1 by kernel_rfl,Af (by omega)] at g5;replace g5 : DataW.trod enc Tryz.prog W base sp held n 3 ((cs.drop 5).take 1) = some (xs[5]'(by omega)) := g5;obtain⟨n8,M,e5⟩:=Q02 Tryz.underlying3 g5;refine⟨n1,n2,v3,l4,v5,l6,n7,n8,D,R,N,G,J,M,?_⟩;rw[show cs=cs.drop 0 from rfl];rw[Q10 (cs:=cs) (o:=0) (s:=1) (o' :=1) rfl,e0]
  conv=>lhs;rw[Q10 (cs:=cs) (o:=1) (s:=1) (o' :=2) rfl,e1]
  conv=>lhs;rw[Q10 (cs:=cs) (o:=2) (s:=1) (o' :=3) rfl,e2]
  conv=>lhs;rw[Q10 (cs:=cs) (o:=3) (s:=1) (o' :=4) rfl,e3]
  conv=>lhs;rw[Q10 (cs:=cs) (o:=4) (s:=1) (o' :=5) rfl,e4]
  conv=>lhs;rw[Q10 (cs:=cs) (o:=5) (s:=1) (o' :=6) rfl,e5]
  rw[List.drop_eq_nil_of_le (Nat.le_of_eq hl)];rfl
end
end

section
open Go.RowKit Go.ChangeShapes Go.WideShapes Go.ChangeAt

end
end Go.Proofs.YtpljgkofbfeelaaGreatDoor

/- Contracts and plain laws for directHolds_holds. Conditions: the tables hold their numbers. -/
import Derived.Test.YtpljgkofbfeelaaGreatDoorGb
import Derived.Deep.AppendLies
import Derived.Deep.Draws
open Go renaming World->AA,Value->AB,execOp->AQ,wpList->AR,Program->AC,Operand->AS,TypeId->AD,Oper->AT,Exit->AF,maxLen->Ab,IntKind->AG
open Go.Region renaming wanted->AU
open Go.Sem renaming run_bind->Ad
open _root_.List renaming mem_singleton->Ae,getElem?_eq_getElem->Af,length_drop->AW,map_cons->AX,map_nil->Ag
open _root_.Nat renaming le_refl->AJ,zero_le->Ah,le_trans->AZ,zero_add->AL,two_pow_pos->AM,mul_one->AO
open _root_.Option renaming some.inj->Aa
open Go.RowKit
set_option linter.unusedSimpArgs false
set_option linter.unusedVariables false
namespace Go.Proofs.YtpljgkofbfeelaaGreatDoor
section

structure Off (F:List Nat)(w w' :AA):Prop where
  os:w'.os=w.os
  tape:w'.tape=w.tape
  output:w'.output=w.output
  size:w.heap.size≤w'.heap.size
  block:∀k,k<w.heap.size→k∉F→w'.heap[k]?=w.heap[k]?
theorem Off.refl (F:List Nat)(w:AA):Off F w w:=⟨rfl,rfl,rfl,AJ _,fun _ _ _=>rfl⟩
theorem Off.trans {F G H:List Nat}{a b c:AA}(h:Off F a b)(k:Off G b c)(hF:∀x∈F,x∈H)(hG:∀x∈G,x<a.heap.size→x∈H):Off H a c:=
  ⟨k.os.trans h.os,k.tape.trans h.tape,k.output.trans h.output,AZ h.size k.size,fun i hi hn=>
    (k.block i (Nat.lt_of_lt_of_le hi h.size) (fun hx=>hn (hG i hx hi))).trans (h.block i hi (fun hx=>hn (hF i hx)))⟩
theorem Off.mono {F H:List Nat}{a b:AA}(h:Off F a b)(hF:∀x∈F,x<a.heap.size→x∈H):Off H a b:=
  ⟨h.os,h.tape,h.output,h.size,fun i hi hn=>h.block i hi fun hx=>hn (hF i hx hi)⟩
theorem J1t {w w' :AA}(h:Ext w w'):Off [] w w' :=⟨h.os,h.tape,h.output,h.size,fun i hi _=>h.block i hi⟩
theorem Off.ext {w w' :AA}(h:Off [] w w'):Ext w w' :=⟨h.os,h.tape,h.output,h.size,fun i hi=>h.block i hi (by simp)⟩
theorem Q1w (w:AA)(o:Obj):Off [] w (w.alloc o):=J1t ((Below.refl _ _).alloc (AJ _) _)
theorem J93 {w w' :AA}{row:Option Nat}(h:w.grownBy w' row):Off row.toList w w' :=
  ⟨h.os,h.tape,h.output,h.size,fun i hi hn=>h.block i hi (fun e=>hn (by rw[←e];simp))⟩
theorem Off.below {F:List Nat}{B:Nat}{a w w' :AA}(h:Below B a w)(k:Off F w w')(hB:B≤w.heap.size)(hF:∀x∈F,B≤x):Below B a w' :=
  h.trans ⟨k.os,k.tape,k.output,k.size,fun i hi=>k.block i (by omega) (fun hx=>by have:=hF i hx;omega)⟩
theorem Q3i {F:List Nat}{w w' :AA}{b:Nat}{cs:Array AB}{t:AD}(h:Blk w b cs t)(k:Off F w w')(hb:b∉F):Blk w' b cs t:=by
  unfold Blk at*;rw[k.block b (V8 h) hb];exact h
theorem nm0 {b:Nat}:b∉([]:List Nat):=by simp
theorem nm1 {b p:Nat}(h:b≠p):b∉[p]:=by simp[h]
theorem f0 {O:Option Nat}:∀x∈([]:List Nat),O≠some x:=by simp
theorem f1 {O:Option Nat}{b:Nat}(h:O≠some b):∀x∈[b],O≠some x:=by simpa using h
abbrev Fr (O:Option Nat)(n:Nat)(F:List Nat):Prop:=∀x,O=some x→x<n→x∈F
abbrev Fb (b n:Nat)(F:List Nat):Prop:=b<n→b∈F
theorem i0 {n:Nat}{F:List Nat}:∀x∈([]:List Nat),x<n→x∈F:=by simp
theorem i1 {n b:Nat}{F:List Nat}(h:Fb b n F):∀x∈[b],x<n→x∈F:=fun x hx=>by rw[Ae.1 hx];exact h
theorem Off.step {F G:List Nat}{a b c:AA}(h:Off F a b)(k:Off G b c)(hG:∀x∈G,x<a.heap.size→x∈F):Off F a c:=h.trans k (fun _ hx=>hx) hG
theorem Blk.o {w w' :AA}{b:Nat}{cs:Array AB}{t:AD}(h:Blk w b cs t)(k:Off [] w w'):Blk w' b cs t:=Q3i h k nm0
theorem Blk.p {w w' :AA}{b p:Nat}{cs:Array AB}{t:AD}(h:Blk w b cs t)(k:Off [p] w w')(q:b≠p):Blk w' b cs t:=Q3i h k (nm1 q)
theorem Off.o {F:List Nat}{a b c:AA}(h:Off F a b)(k:Off [] b c):Off F a c:=h.step k i0
theorem Off.p {F:List Nat}{a b c:AA}{p:Nat}(h:Off F a b)(k:Off [p] b c)(q:Fb p a.heap.size F):Off F a c:=h.step k (i1 q)
abbrev Of (R O:Option Nat)(n:Nat):Prop:=Fr R n O.toList
theorem Z56 {O R:Option Nat}{n:Nat}(h:R=O∨R=some n):Of R O n:=by
  intro x hx D;rcases h with h|h
  · rw[←h,hx];simp
  rw[hx] at h;have:=Aa h;omega
theorem V34 {O:Option Nat}{x:Nat}(h:x∈O.toList):O=some x:=by
  cases O with
  |none=>simp at h
  |some g=>simp at h;rw[h]
theorem V35 {n e:Nat}{F:List Nat}(he:n≤e):Fb e n F:=fun h=>by omega
/-! ### Bytes -/
theorem J5o (a:Addr)(n:Nat):(a.add n).block=a.block:=by unfold Addr.add;split<;>rfl
theorem Q7q {w:AA}{a:Addr}{v:AB}(h:w.cell? a=some v):a.block<w.heap.size:=AA.block_lt_of_cell? w a h
def bs8 (l:List UInt8):List AB:=l.map fun c=> .int .u8 (c.toNat:Int)
theorem Q9 (l:List UInt8):(bs8 l).length=l.length:=by simp[bs8]
theorem J49 (l m:List UInt8):bs8 (l++m)=bs8 l++bs8 m:=by simp[bs8]
theorem J94 (l:List UInt8):∀u∈bs8 l,u.oneCell' =true:=by
  intro u hu;simp only[bs8,List.mem_map] at hu;obtain⟨c,_,rfl⟩:=hu;rfl
theorem Q7r {l:List UInt8}{j:Nat}{x:UInt8}(h:l[j]?=some x):(bs8 l)[j]?=some (.int .u8 (x.toNat:Int)):=by simp[bs8,h]
def V3 (l:List UInt8):AB:=.string ⟨l.toArray⟩
def Sl (w:AA)(v:AB)(l:List UInt8):Prop:=
  ∃A c,v=.slice A l.length c∧l.length≤c∧c≤Ab∧(A=none→c=0)∧∀j x,l[j]?=some x→∃ad,A=some ad∧w.cell? (ad.add j)=some (.int .u8 (x.toNat:Int))
def Own (w:AA)(v:AB)(l:List UInt8):Prop:=w.ownsRow 0 5 1 v l.length (bs8 l)
def sb (v:AB)(l:List UInt8):Option Nat:=if l=[] then none else v.ownBlock
theorem Sl.lt {w:AA}{v:AB}{l:List UInt8}(h:Sl w v l):∀x,sb v l=some x→x<w.heap.size:=by
  intro x hx;obtain⟨A,c,rfl,h1,h2,h0,h3⟩:=h;unfold sb at hx
  split at hx
  · cases hx
  rename_i hl;cases l with
  |nil=>exact absurd rfl hl
  |cons y r=>
    obtain⟨ad,rfl,hc⟩:=h3 0 y rfl;have:=Q7q hc;rw[J5o] at this;obtain rfl:ad.block=x:=Aa hx;exact this
theorem Sl.off {F:List Nat}{w w' :AA}{v:AB}{l:List UInt8}(h:Sl w v l)(k:Off F w w')(hF:∀b∈F,sb v l≠some b):Sl w' v l:=by
  obtain⟨A,c,rfl,h1,h2,h0,h3⟩:=h;refine⟨A,c,rfl,h1,h2,h0,fun j x hj=> ?_⟩;obtain⟨ad,rfl,hc⟩:=h3 j x hj;refine⟨ad,rfl,?_⟩;have hl:l≠[]:=fun e=>by subst e;simp at hj
  rw[AA.cell?_of_block (w:=w) (k.block _ (Q7q hc) (fun hx=>hF _ hx (by unfold sb;rw[if_neg hl];simp[AB.ownBlock,J5o])))];exact hc
theorem Own.off {F:List Nat}{w w' :AA}{v:AB}{l:List UInt8}(h:Own w v l)(k:Off F w w')(hF:∀b∈F,v.ownBlock≠some b):Own w' v l:=by
  obtain⟨h1,h2⟩:=h;refine⟨h1,h2.imp id ?_⟩;rintro⟨g,G,D,rfl,hb,hh,r⟩;exact⟨g,G,D,rfl,hb,by rw[k.block g (lt_of_block hh) (fun hx=>hF g hx rfl)];exact hh,r⟩
theorem Own.sl {w:AA}{v:AB}{l:List UInt8}(h:Own w v l):Sl w v l:=by
  obtain⟨h1,h2⟩:=h;rcases h2 with⟨rfl,hn⟩|⟨g,G,D,rfl,_,hh,hc,hm,hs,ht⟩
  · exact⟨none,0,by rw[hn],by omega,by unfold Ab;omega,fun _=>rfl,fun j x hj=>by
      have:=(List.getElem?_eq_some_iff.1 hj).1;omega⟩
  refine⟨some ⟨g,0,none⟩,G,rfl,hc,hm,(fun h=>by cases h),fun j x hj=>⟨_,rfl,?_⟩⟩;have hl:=(List.getElem?_eq_some_iff.1 hj).1;rw[Addr.add_mid,cell_of_row w g _ D _ _ hh,AL];have e:=Q7r hj;rw[←ht,List.getElem?_take_of_lt (by omega)] at e
  simpa using e
theorem Q7s (w:AA):Own w (.slice none 0 0) []:=⟨rfl,.inl ⟨rfl,rfl⟩⟩
theorem Q1p (w:AA):Sl w (.slice none 0 0) []:=(Q7s w).sl
theorem Own.lt {w:AA}{v:AB}{l:List UInt8}(h:Own w v l):∀g,v.ownBlock=some g→g<w.heap.size:=by
  intro g hg;rcases h.2 with⟨rfl,_⟩|⟨g',G,D,rfl,_,hh,_⟩
  · cases hg
  obtain rfl:g' =g:=Aa hg;exact lt_of_block hh
theorem Own.len {w:AA}{v:AB}{l:List UInt8}(h:Own w v l):∃A c,v=.slice A l.length c∧l.length≤c:=by
  obtain⟨A,c,rfl,h1,_⟩:=h.sl;exact⟨A,c,rfl,h1⟩
theorem Y5w {w:AA}{g:Nat}{l:List UInt8}{cs:Array AB}(h:Blk w g cs 5)(hc:cs.toList=bs8 l)(hm:l.length≤Ab):Own w (.slice (some ⟨g,0,none⟩) l.length l.length) l:=by
  have hs:cs.size=l.length:=by rw[←Array.length_toList,hc,Q9]
  exact⟨by rw[Q9,AO],.inr ⟨g,l.length,cs,rfl,Ah _,h,AJ _,hm,by rw[hs,AO],by rw[hc,List.take_of_length_le (by rw[Q9];omega)]⟩⟩
theorem Y11 {w:AA}{g o n c:Nat}{l:List UInt8}{cs:Array AB}{t:AD}(h:Blk w g cs t)(hn:n=l.length)(hc:n≤c)(hm:c≤Ab)(hl:∀j x,l[j]?=some x→cs[o+j]?=some (.int .u8 (x.toNat:Int))):Sl w (.slice (some ⟨g,o,none⟩) n c) l:=by
  subst hn;exact⟨some ⟨g,o,none⟩,c,rfl,hc,hm,(fun h=>by cases h),fun j x hj=>⟨_,rfl,by rw[Addr.add_mid,J3 h];exact hl j x hj⟩⟩

/-! ### The operations -/
section
variable {P : AC} {ops : Array AT} {Q : AF → Act → AA → Prop} {w : AA} {l : List AT} {o : AT} {a : Act}
theorem J38 {v:AB}{W:AA}(hw:AU o (yielded ops a.tmps)=true)(hr:(AQ a.eval o).run P w=.ok (.value v) W)(h:AR P ops Q l (a.put o.dst v) W):AR P ops Q (o::l) a w:=by
  unfold AR;rw[if_pos hw];refine .inl ?_;unfold AT.wp;rw[hr];exact h
theorem Z57 {z:Array AB}{t:AD}(hw:AU o (yielded ops a.tmps)=true)(hr:(AQ a.eval o).run P w=.ok (.value (.pointer (some ⟨w.heap.size,0,none⟩))) (w.alloc (.cells z t)))
    (h:∀(b:Nat)(W:AA),w.heap.size≤b→Off [] w W→Blk W b z t→AR P ops Q l (a.put o.dst (.pointer (some ⟨b,0,none⟩))) W):AR P ops Q (o::l) a w:=by
  unfold AR;rw[if_pos hw];refine .inl ?_;unfold AT.wp;rw[hr];exact h _ _ (AJ _) (Q1w _ _) (X6 _ _ rfl)
theorem Q9r {z:Array AB}{t:AD}{n c:Nat}(hw:AU o (yielded ops a.tmps)=true)(hr:(AQ a.eval o).run P w=.ok (.value (.slice (some ⟨w.heap.size,0,none⟩) n c)) (w.alloc (.cells z t)))
    (h:∀(b:Nat)(W:AA),w.heap.size≤b→Off [] w W→Blk W b z t→AR P ops Q l (a.put o.dst (.slice (some ⟨b,0,none⟩) n c)) W):AR P ops Q (o::l) a w:=by
  unfold AR;rw[if_pos hw];refine .inl ?_;unfold AT.wp;rw[hr];exact h _ _ (AJ _) (Q1w _ _) (X6 _ _ rfl)
theorem Q0u {w:AA}{b off:Nat}{cs:Array AB}{t ty:AD}{y:AB}(hB:Blk w b cs t)(ho:off+y.cells.size≤cs.size)(hi:(P.info? ty).map (·.size)=some y.cells.size)(h1:y.cells.all (·.oneCell')=true):
    (Instr.storeAt ty (.pointer (some ⟨b,off,none⟩)) y).run P w=.ok () (w.setCells b off y.cells.toList):=by
  have ht:∀j,j<y.cells.size→(w.cell? ⟨b,off+j,none⟩).isSome=true∧w.frozen? ⟨b,off+j,none⟩=false:=fun j hj=>by
    rw[J3 hB,K7 hB];exact⟨by rw[Array.getElem?_eq_getElem (by omega)];rfl,rfl⟩
  have:=run_storeCells_cells (P:=P) b off y.cells.toList 0 w (fun j hj=>by simpa using(ht j (by simpa using hj)).1) (fun j hj=>by simpa using(ht j (by simpa using hj)).2)
    (fun v hv=>(Array.all_eq_true_iff_forall_mem.1 h1) v (by simpa using hv))
  cases hq:P.info? ty with
  |none=>simp[hq] at hi
  |some i=>
    have hs:y.cells.size=i.size:=by simp[hq] at hi;omega
    simp only[Nat.add_zero] at this;simp[Instr.storeAt,Instr.sureAddr,Ad,storeVar,sizeOf,typeInfo,hq,hs,this]
def spl (cs:Array AB):Nat→List AB→Array AB
  |_,[]=>cs
  |i,v::r=>spl (cs.setIfInBounds i v) (i+1) r
theorem Q0v {b:Nat}{t:AD}:∀(vs:List AB) (i:Nat) (cs:Array AB) (w:AA),Blk w b cs t→Blk (w.setCells b i vs) b (spl cs i vs) t∧Off [b] w (w.setCells b i vs)
  |[],_,_,w,h=>⟨h,Off.refl _ _⟩
  |v::r,i,cs,w,h=>by
    have h1:=J1k h i v;obtain⟨h2,h3⟩:=Q0v r (i+1) _ _ h1;have h0:Off [b] w (w.setCell ⟨b,i,none⟩ v):=⟨rfl,rfl,rfl,by simp[AA.setCell],fun k _ hk=>Below.heap_setCell w ⟨b,i,none⟩ v k (by simpa using hk)⟩
    rw[AA.setCells];exact⟨h2,h0.trans h3 (fun _ hx=>hx) (fun _ hx _=>hx)⟩
theorem Z58 {ty t:AD}{x y:AS}{b off:Nat}{cs:Array AB}{v:AB}(hw:AU o (yielded ops a.tmps)=true)(ho:o.op=.store ty x y)(hx:a.eval x=.pointer (some ⟨b,off,none⟩))(hy:a.eval y=v)
    (hB:Blk w b cs t) (hs:off+v.cells.size≤cs.size) (hi:(P.info? ty).map (·.size)=some v.cells.size) (h1:v.cells.all (·.oneCell')=true)
    (h:∀W,Off [b] w W→Blk W b (spl cs off v.cells.toList) t→AR P ops Q l (a.put o.dst undef) W):AR P ops Q (o::l) a w:=by
  unfold AR;rw[if_pos hw];refine .inl ?_;unfold AT.wp
  have hr:(AQ a.eval o).run P w=.ok .skip (w.setCells b off v.cells.toList):=by
    simp[AQ,ho,hx,hy,Ad,Q0u hB hs hi h1]
  rw[hr];obtain⟨h2,h3⟩:=Q0v v.cells.toList off cs w hB;exact h _ h3 h2
theorem Q4k {ty t:AD}{x y:AS}{g:Nat}{cells old:Array AB}(hw:AU o (yielded ops a.tmps)=true)(ho:o.op=.store ty x y)(hx:a.eval x=.pointer (some ⟨g,0,none⟩))(hy:a.eval y=.agg cells)
    (hB:Blk w g old t) (hi:(P.info? ty).map (·.size)=some cells.size) (hs:old.size=cells.size) (h1:cells.all (·.oneCell')=true)
    (h:∀W,Off [g] w W→Blk W g cells t→AR P ops Q l (a.put o.dst undef) W):AR P ops Q (o::l) a w:=
  Q6h hw ho hx hy hB hi hs h1 (h _ ⟨rfl,rfl,rfl,by simp,fun k _ hk=>setRow_other w g k cells (by simpa using hk)⟩ (J2o hB cells))
theorem J6 {w:AA}{v:AB}{l:List UInt8}(h:Sl w v l):v.cells= #[v]∧v.oneCell' =true:=by
  obtain⟨A,c,rfl,_⟩:=h;exact⟨rfl,rfl⟩
theorem Q9s {ty t:AD}{x y:AS}{b off:Nat}{cs:Array AB}{v:AB}(hv:v.cells= #[v]∧v.oneCell' =true)(hw:AU o (yielded ops a.tmps)=true)(ho:o.op=.store ty x y)(hx:a.eval x=.pointer (some ⟨b,off,none⟩))(hy:a.eval y=v)
    (hB:Blk w b cs t) (hs:off<cs.size) (hi:(P.info? ty).map (·.size)=some 1)
    (h:∀W,Off [b] w W→Blk W b (cs.setIfInBounds off v) t→AR P ops Q l (a.put o.dst undef) W):AR P ops Q (o::l) a w:=by
  refine Z58 (v:=v) hw ho hx hy hB (by rw[hv.1];exact hs) (by rw[hv.1];exact hi) (by rw[hv.1];simp[hv.2]) fun W hO D=>h W hO ?_;rw[hv.1] at D;exact D
theorem Y5x {b j:Nat}{cs:Array AB}{t ty:AD}{v:AB}{x:AS}(hw:AU o (yielded ops a.tmps)=true)(ho:o.op=.load ty x)(hx:a.eval x=.pointer (some ⟨b,j,none⟩))
    (hB:Blk w b cs t) (hj:cs[j]?=some v) (hk:(P.underlying ty).map TypeDesc.isRow=some false) (h:AR P ops Q l (a.put o.dst v) w):AR P ops Q (o::l) a w:=by
  refine J3s hw ?_ h;have hc:w.cell? ⟨b,j,none⟩=some v:=by rw[J3 hB];exact hj
  cases hu:P.underlying ty with
  |none=>simp[hu] at hk
  |some d=>
    have hd:d.isRow=false:=by simpa[hu] using hk
    unfold AQ;simp only[ho,hx];cases d<;>simp_all [Instr.loadAt,Instr.sureAddr,Ad,Sem.run_pure,Result.andThen_ok,run_underlying hu,TypeDesc.isRow]
    all_goals simp[loadVar,isAgg,Ad,Sem.run_pure,Result.andThen_ok,run_underlying hu,TypeDesc.isRow,hc]
theorem Y5y {b:Nat}{cs:Array AB}{ty:AD}{x:AS}(hw:AU o (yielded ops a.tmps)=true)(ho:o.op=.load ty x)(hx:a.eval x=.pointer (some ⟨b,0,none⟩))
    (hB:Rd w b cs) (hk:(P.underlying ty).map TypeDesc.isRow=some true) (hi:(P.info? ty).map (·.size)=some cs.size) (h:AR P ops Q l (a.put o.dst (.agg cs)) w):AR P ops Q (o::l) a w:=by
  refine J3s hw ?_ h;cases hu:P.underlying ty with
  |none=>simp[hu] at hk
  |some d=>
    have hd:d.isRow=true:=by simpa[hu] using hk
    have:=run_loadAt_mid (P:=P) w b 0 ty cs.toList d (fun i v hv=>by rw[AL];exact hB.1 i v (by simpa using hv)) hu (by cases d<;>simp_all [TypeDesc.isRow]) (by simpa using hi);simp[AQ,ho,hx,Ad,this]
theorem Y12 {f:FuncId}{xl:List Operand}{ts:Array TypeId}{args:Array Value}{R:Value→World→Prop}(hc:Calls P f args w fun e W=> ∃v,e=.returned v∧R v W)(hw:Region.wanted o (yielded ops a.tmps)=true)
    (ho:o.op=.call {callee:=.value (.func f),args:=xl.toArray,argTypes:=ts}) (hg:Q5x P f=true) (ha:(xl.map a.eval).toArray=args)
    (h:∀v W,R v W→wpList P ops Q l (a.put o.dst v) W):wpList P ops Q (o::l) a w:=by
  unfold AR;rw[if_pos hw];refine .inl ?_;unfold AT.wp;rw[Q00 ho rfl hg w,ha];exact hc.mono fun e W ⟨v,he,hR⟩=>by subst he;exact h v W hR
theorem Z7f {f:FuncId}{xl:List Operand}{ts:Array TypeId}{args:Array Value}{v:Value}{R:World→Prop}(hc:Calls P f args w fun e W=>e=.returned v∧R W)(hw:Region.wanted o (yielded ops a.tmps)=true)
    (ho:o.op=.call {callee:=.value (.func f),args:=xl.toArray,argTypes:=ts}) (hg:Q5x P f=true) (ha:(xl.map a.eval).toArray=args)
    (h:∀W,R W→wpList P ops Q l (a.put o.dst v) W):wpList P ops Q (o::l) a w:=by
  unfold AR;rw[if_pos hw];refine .inl ?_;unfold AT.wp;rw[Q00 ho rfl hg w,ha];exact hc.mono fun e W ⟨he,hR⟩=>by subst he;exact h W hR
theorem Z59 {f:FuncId}{xl:List Operand}{ts:Array TypeId}{args:Array Value}{v:Value}(hc:Calls P f args w fun e W=>V5 v w W e)(hw:Region.wanted o (yielded ops a.tmps)=true)
    (ho:o.op=.call {callee:=.value (.func f),args:=xl.toArray,argTypes:=ts}) (hg:Q5x P f=true) (ha:(xl.map a.eval).toArray=args)
    (h:∀W,Off [] w W→wpList P ops Q l (a.put o.dst v) W):wpList P ops Q (o::l) a w:=
  Z7f hc hw ho hg ha fun W hW=>h W (J1t hW)
end
theorem J5p:(Tryz.prog.info? 5).map (fun i=>(i.zero,i.size,i.bytes))=some (some (.int .u8 0),1,1):=by kernel_rfl
theorem Q21 (w:AA)(ty:AD){v u:AB}{l m:List UInt8}(hown:Own w v l)(hs:Sl w u m)(hlen:l.length+m.length≤140737488355328):
    ∃v' W,(Builtin.append_ #[22,22] ty #[v,u]).run Tryz.prog w=.ok v' W∧Own W v' (l++m)∧Off v.ownBlock.toList w W∧(v'.ownBlock=v.ownBlock∨v'.ownBlock=some w.heap.size)∧(v' =.slice none 0 0↔v=.slice none 0 0∧m=[]):=by
  obtain⟨i,hi,hz,N,J⟩:=info_parts J5p;obtain⟨A,c,rfl,hc,hm,_,D⟩:=hs;rcases A with _|ad
  · have:m=[]:=by
      cases m with
      |nil=>rfl
      |cons x r=>obtain⟨ad,h,_⟩:=D 0 x rfl;cases h
    subst this;refine⟨v,w,?_,by rw[List.append_nil];exact hown,Off.refl _ _,.inl rfl,by simp⟩;rcases hown.2 with⟨rfl,_⟩|⟨g,U,S,rfl,_,_,M,_⟩
    · simp[Builtin.append_,run_underlying Tryz.underlying22,sizeOf,typeInfo,hi,Builtin.lenOf,Builtin.firstCells]
    simp[Builtin.append_,run_underlying Tryz.underlying22,sizeOf,typeInfo,hi,Builtin.lenOf,Builtin.firstCells,M,storeCells]
  obtain⟨v',W,G,h2,h3,h4,h5⟩:=run_append_own_at (P:=Tryz.prog) w 0 22 ty 5 i (.int .u8 0) 1 1 Tryz.underlying22 hi hz N J rfl (by omega) v l.length (bs8 l) hown ad m.length c (bs8 m)
    (by rw[Q9,AO]) (fun j u hu=>by
      simp only[bs8,List.getElem?_map,Option.map_eq_some_iff] at hu;obtain⟨x,hx,rfl⟩:=hu;obtain⟨T,h,R⟩:=D j x hx;obtain rfl:=Aa h
      exact R) (J94 m) (by unfold Ab;omega) (by omega) (Ah _)
  refine⟨v',W,G,?_,J93 h3,h5,?_⟩
  · unfold Own;rw[List.length_append,J49];exact h2
  rw[h4];simp
theorem Z2d {ops:Array Oper}{Q:Exit→Act→World→Prop}{w:World}{l:List Oper}{o:Oper}{a:Act}{s x:Operand}{v u:Value}{xs ys:List UInt8}(hw:Region.wanted o (yielded ops a.tmps)=true)
    (ho:o.op=.call {callee:=.builtin .append,args:= #[s,x],argTypes:= #[22,22]}) (hs:a.eval s=v) (hx:a.eval x=u) (hown:Own w v xs) (hsl:Sl w u ys) (hlen:xs.length+ys.length≤140737488355328)
    (h:∀v' W,Own W v' (xs++ys)→Off v.ownBlock.toList w W→Of v'.ownBlock v.ownBlock w.heap.size→(v' =.slice none 0 0↔v=.slice none 0 0∧ys=[])→wpList Tryz.prog ops Q l (a.put o.dst v') W):wpList Tryz.prog ops Q (o::l) a w:=by
  obtain⟨v',W,D,h1,h2,h3,h4⟩:=Q21 w o.type hown hsl hlen;refine J38 hw (v:=v') (W:=W) ?_ (h v' W h1 h2 (Z56 h3) h4);unfold AQ;simp only[ho,resolve,invoke,builtin,Ad,Sem.run_pure,Result.andThen_ok,List.map_toArray,AX,Ag,hs,hx,D]
end

section

theorem Y9d (l m:List UInt8):((⟨l.toArray⟩:ByteArray)==⟨m.toArray⟩)=decide (l=m):=by
  have h:((⟨l.toArray⟩:ByteArray)==⟨m.toArray⟩)=(l.toArray==m.toArray):=rfl;rw[h,Bool.eq_iff_iff,beq_iff_eq,decide_eq_true_iff];exact⟨fun h=>by simpa using h,fun h=>by rw[h]⟩
theorem J7d (l:List UInt8):(⟨l.toArray⟩:ByteArray).size=l.length:=by simp[ByteArray.size]
theorem Z7g (l m:List UInt8):(⟨l.toArray⟩:ByteArray)++⟨m.toArray⟩=⟨(l++m).toArray⟩:=by
  apply ByteArray.ext;simp[ByteArray.data_append]
theorem Z2e (l:List UInt8)(a b:Nat):(⟨l.toArray⟩:ByteArray).extract a b=⟨((l.take b).drop a).toArray⟩:=by
  apply ByteArray.ext;simp[ByteArray.data_extract,List.drop_take]
theorem Y5z {w:AA}{v:AB}{l:List UInt8}(h:Sl w v l):(convert 22 9 v).run Tryz.prog w=.ok (V3 l) w:=by
  obtain⟨A,c,rfl,h1,h2,h0,h3⟩:=h;rcases A with _|ad
  · have:l=[]:=by
      cases l with
      |nil=>rfl
      |cons x r=>obtain⟨ad,h,_⟩:=h3 0 x rfl;cases h
    subst this;exact run_convert_bytes_nil w 22 5 Tryz.underlying22 Tryz.underlying5 _ _ 9 Tryz.underlying9
  exact run_convert_bytes_back w 22 9 5 ad c l Tryz.underlying22 Tryz.underlying5 Tryz.underlying9 (fun j hj=>by
    obtain⟨D,h,hc⟩:=h3 j _ (Af hj);obtain rfl:=Aa h
    exact hc)
section
variable {ops : Array AT} {Q : AF → Act → AA → Prop} {w : AA} {r : List AT} {o : AT} {a : Act} {E : Act → Prop}
theorem Y56 {x y:AS}{t:AD}{l m:List UInt8}(ho:o.op=.binOp .add 9 x y t)(hx:a.eval x=V3 l)(hy:a.eval y=V3 m)(hlen:l.length+m.length≤9223372036854775807):(AQ a.eval o).run Tryz.prog w=.ok (.value (V3 (l++m))) w:=by
  simp only[AQ,ho,hx,hy,V3,Ad];simp[eqGuard,binOp,run_underlying Tryz.underlying9,go_sem,Ad,J7d];rw[if_neg (by omega),Z7g]
theorem Z7h {x y:AS}{t:AD}{l m:List UInt8}(ho:o.op=.binOp .eql 9 x y t)(hx:a.eval x=V3 l)(hy:a.eval y=V3 m):(AQ a.eval o).run Tryz.prog w=.ok (.value (.bool (decide (l=m)))) w:=by
  have e:=Y9d l m;simp only[AQ,ho,hx,hy,V3];simp[eqGuard,binOp,Op.stringOp,go_sem,Ad,e];rw[Bool.eq_iff_iff,beq_iff_eq,decide_eq_true_iff]
theorem Z7i {x y:AS}{t:AD}{l m:List UInt8}(ho:o.op=.binOp .neq 9 x y t)(hx:a.eval x=V3 l)(hy:a.eval y=V3 m):(AQ a.eval o).run Tryz.prog w=.ok (.value (.bool (!decide (l=m)))) w:=by
  have e:=Y9d l m;have e2:((⟨l.toArray⟩:ByteArray) !=⟨m.toArray⟩)= !decide (l=m):=by rw[bne,e]
  simp only[AQ,ho,hx,hy,V3];simp[eqGuard,binOp,Op.stringOp,go_sem,Ad,e2];rw[Bool.eq_iff_iff,beq_iff_eq,decide_eq_true_iff]
theorem J0w {x:Operand}{l:List UInt8}(ho:o.op=.call {callee:=.builtin .len,args:= #[x],argTypes:= #[9]})(hx:a.eval x=V3 l):(execOp a.eval o).run Tryz.prog w=.ok (.value (.int .i64 (l.length:Int))) w:=by
  have:=J7d l;unfold AQ;simp only[ho,resolve,invoke,builtin,Ad,Sem.run_pure,Result.andThen_ok,List.map_toArray,AX,Ag,hx,V3];simp[Builtin.len_,run_underlying Tryz.underlying9,this,goInt,Ad]
end
def Blz (w:AA)(b:Nat)(cs:Array AB)(t:AD):Prop:=∃fz:Nat×Nat,w.heap[b]?=some (.cells cs t fz)∧cs.size≤fz.1
theorem Y13 {w:AA}{b:Nat}{cs:Array AB}{t:AD}(h:Blz w b cs t):b<w.heap.size:=by obtain⟨fz,h,_⟩:=h;exact lt_of_block h
theorem Y60 {F:List Nat}{w w' :AA}{b:Nat}{cs:Array AB}{t:AD}(h:Blz w b cs t)(k:Off F w w')(hb:b∉F):Blz w' b cs t:=by
  have hl:=Y13 h;obtain⟨fz,h,h2⟩:=h;exact⟨fz,by rw[k.block b hl hb];exact h,h2⟩
theorem Z7j (w:AA)(l:List UInt8)(hl:l.length≤140737488355328):∃W cs b c,(convert 9 22 (V3 l)).run Tryz.prog w=.ok (.slice (some ⟨b,0,none⟩) l.length c) W∧w.heap.size≤b∧Off [] w W∧Blz W b cs 5∧l.length≤c∧c≤Ab∧cs.size=c∧cs.toList.take l.length=bs8 l:=by
  have h:=run_bytes_of_string (P:=Tryz.prog) w 9 22 5 ⟨l.toArray⟩ Tryz.underlying9 Tryz.underlying22 Tryz.underlying5;rw[J7d] at h;have D:=grownCap_ge w l.length 0 5
  have hs:(bytesRow ⟨l.toArray⟩ (grownCap w l.length 0 5)).size=grownCap w l.length 0 5:=by
    unfold bytesRow;rw[J7d];simp;omega
  refine⟨_,bytesRow ⟨l.toArray⟩ (grownCap w l.length 0 5),w.heap.size,grownCap w l.length 0 5,h,AJ _,J1t ((Below.refl _ _).drew.alloc (AJ _) _),⟨((bytesRow ⟨l.toArray⟩ (grownCap w l.length 0 5)).size,(bytesRow ⟨l.toArray⟩ (grownCap w l.length 0 5)).size+1),?_,AJ _⟩,D,grownCap_le_maxLen _ _ _ _ (by unfold Ab;omega),hs,?_⟩
  · show(w.heap.push _)[w.heap.size]?=_
    simp
  unfold bytesRow bs8;simp
section
variable {ops : Array AT} {Q : AF → Act → AA → Prop} {w : AA} {r : List AT} {o : AT} {a : Act} {E : Act → Prop}
theorem Z7k {x:AS}{l:List UInt8}(hl:l.length≤140737488355328)(hw:AU o (yielded ops a.tmps)=true)(ho:o.op=.convert 9 22 x)(hx:a.eval x=V3 l)
    (h:∀b c cs W,w.heap.size≤b→Off [] w W→Blz W b cs 5→l.length≤c→c≤Ab→cs.size=c→cs.toList.take l.length=bs8 l→AR Tryz.prog ops Q r (a.put o.dst (.slice (some ⟨b,0,none⟩) l.length c)) W):AR Tryz.prog ops Q (o::r) a w:=by
  obtain⟨W,cs,b,c,D,h1,h2,h3,h4,h5,h6,h7⟩:=Z7j w l hl;refine J38 hw (W:=W) ?_ (h b c cs W h1 h2 h3 h4 h5 h6 h7);simp[AQ,ho,hx,Ad,D]
end
section
variable {ops : Array AT} {Q : AF → Act → AA → Prop} {w : AA} {r : List AT} {o : AT} {a : Act} {E : Act → Prop}
theorem J59:(Tryz.prog.info? 5).map (·.size)=some 1:=by kernel_rfl
theorem Q3j {w:AA}{x y:AS}{k:AG}{ad:Addr}{n c j:Nat}(hj:j<n)(ho:o.op=.indexAddr 22 x y)(hx:a.eval x=.slice (some ad) n c)(hy:a.eval y=.int k (j:Int)):
    (AQ a.eval o).run Tryz.prog w=.ok (.value (.pointer (some (ad.add j)))) w:=by
  have h1:=J59;cases hq:Tryz.prog.info? 5 with
  |none=>simp[hq] at h1
  |some i=>
    have hs:i.size=1:=by simpa[hq] using h1
    simp[AQ,ho,hx,hy,Instr.indexAt,asIntOf,run_underlying Tryz.underlying22,Ad,sizeOf,typeInfo,hq,hs,hj]
end
theorem J3d {v:AB}{l:List UInt8}{x:Nat}(h:sb v l=some x):v.ownBlock=some x:=by
  unfold sb at h
  split at h
  · cases h
  exact h
theorem Q9t (w:AA)(g n:Nat)(cs:Array AB)(t:AD)(fz:Nat×Nat)(h:w.heap[g]?=some (.cells cs t fz)):∃fz',(w.freeze ⟨g,n,none⟩ 1).heap[g]?=some (.cells cs t fz'):=by
  have D:=lt_of_block h;have h' :w.heap[g]=.cells cs t fz:=by simpa[Array.getElem?_eq_getElem D] using h
  unfold AA.freeze;rw[if_neg (by decide)];refine⟨if fz.1==fz.2 then(n,n+1) else(min fz.1 n,max fz.2 (n+1)),?_⟩;show(w.heap.modify g _)[g]?=_;rw[Array.getElem?_eq_getElem (by simpa using D),Array.getElem_modify_self,h']
theorem Y14 {w:AA}{v:AB}{l:List UInt8}{g:Nat}(hs:Own w v l)(hg:v.ownBlock=some g):∃W,(convert 22 22 v).run Tryz.prog w=.ok v W∧Off v.ownBlock.toList w W∧Sl W v l:=by
  have M:=hs.sl;rcases hs.2 with⟨rfl,_⟩|⟨g',N,D,rfl,_,hh,hc,hm,R,ht⟩
  · cases hg
  obtain rfl:g' =g:=Aa hg;have J:w.shape? g' =some (5,D.size):=by unfold AA.shape?;rw[hh]
  obtain⟨fz,hf⟩:=Q9t w g' D.size D _ _ hh;refine⟨w.freeze ⟨g',D.size,none⟩ 1,?_,⟨rfl,rfl,rfl,?_,?_⟩,?_⟩
  · simp[convert,run_underlying Tryz.underlying22,run_underlying Tryz.underlying5,Ad,markStringish,J]
  · unfold AA.freeze;rw[if_neg (by decide)];simp
  · intro k hk hn
    have:k≠g' :=fun e=>hn (by rw[e];simp[AB.ownBlock]);unfold AA.freeze;rw[if_neg (by decide)];show(w.heap.modify g' _)[k]?=_;rw[Array.getElem?_modify,if_neg (by omega)]
  obtain⟨A,c,e,h1,h2,h0,h3⟩:=M;injection e with e1 e2 e3
  subst e1;subst e3;refine⟨some ⟨g',0,none⟩,N,rfl,h1,h2,h0,fun j x hj=> ?_⟩;obtain⟨ad,e,G⟩:=h3 j x hj;obtain rfl:=Aa e;refine⟨_,rfl,?_⟩;rw[Addr.add_mid] at G⊢;rw[cell_of_row _ g' _ D _ fz hf];rw[cell_of_row _ g' _ D _ _ hh] at G;exact G
theorem Y15 {ops:Array AT}{Q:AF→Act→AA→Prop}{w:AA}{r:List AT}{o:AT}{a:Act}{x:AS}{v:AB}{l:List UInt8}{g:Nat}(hs:Own w v l)(hg:v.ownBlock=some g)(hw:AU o (yielded ops a.tmps)=true)(ho:o.op=.convert 22 22 x)(hx:a.eval x=v)
    (h:∀W,Off v.ownBlock.toList w W→Sl W v l→AR Tryz.prog ops Q r (a.put o.dst v) W):AR Tryz.prog ops Q (o::r) a w:=by
  obtain⟨W,D,h1,h2⟩:=Y14 hs hg;exact J38 hw (W:=W) (by simp[AQ,ho,hx,D,Ad]) (h W h1 h2)
abbrev Sub (u:AB)(l' :List UInt8)(O:Option Nat):Prop:=∀x,sb u l' =some x→O=some x
theorem J2n {v:AB}{l:List UInt8}:Sub v l (sb v l):=fun _ h=>h
theorem Y16 {w:AA}{v:AB}{l:List UInt8}{n:Nat}(hs:Sl w v l)(hn:n≤l.length):∃u,(∀W,(Instr.sliceAt 22 v none (some (.int .i64 (n:Int))) none).run Tryz.prog W=.ok u W)∧Sl w u (l.take n)∧Sub u (l.take n) (sb v l)∧(0<n→∃ad c,u=.slice (some ad) n c):=by
  obtain⟨A,c,rfl,h1,h2,h0,h3⟩:=hs
  have hr:∀W,(Instr.sliceAt 22 (.slice A l.length c) none (some (.int .i64 (n:Int))) none).run Tryz.prog W=.ok (.slice (if c=0 then A else A.map (·.add 0)) n c) W:=by
    intro W;have D:n≤c:=by omega
    have h1:=J59;cases hq:Tryz.prog.info? 5 with
    |none=>simp[hq] at h1
    |some i=>simp[Instr.sliceAt,Instr.slice,Instr.sliceBounds,Instr.sliceBound,asIntOf,run_underlying Tryz.underlying22,Ad,sizeOf,typeInfo,hq,D]
  have hA:(if c=0 then A else A.map (·.add 0))=A:=by
    have:∀a:Addr,a.add 0=a:=fun a=>by unfold Addr.add;simp
    cases A<;>simp[this]
  rw[hA] at hr;have G:(l.take n).length=n:=by rw[List.length_take];omega
  refine⟨_,hr,⟨A,c,by rw[G],by omega,h2,h0,fun j x hj=>h3 j x ?_⟩,fun x hx=> ?_,fun hp=> ?_⟩
  · rw[List.getElem?_take] at hj
    split at hj
    · exact hj
    cases hj
  · unfold sb at hx⊢
    split at hx
    · cases hx
    rename_i hne;rw[if_neg (fun e=>hne (by rw[e];simp))];cases A<;>exact hx
  have hl:0<l.length:=by omega
  obtain⟨ad,rfl,_⟩:=h3 0 l[0] (Af hl);exact⟨ad,c,rfl⟩
theorem Y17 {w:AA}{v:AB}{l:List UInt8}{n:Nat}(hs:Sl w v l)(hn:n≤l.length):∃u,(∀W,(Instr.sliceAt 22 v (some (.int .i64 (n:Int))) none none).run Tryz.prog W=.ok u W)∧Sl w u (l.drop n)∧Sub u (l.drop n) (sb v l):=by
  obtain⟨A,c,rfl,h1,h2,h0,h3⟩:=hs
  have hr:∀W,(Instr.sliceAt 22 (.slice A l.length c) (some (.int .i64 (n:Int))) none none).run Tryz.prog W=.ok (.slice (if c=n then A else A.map (·.add n)) (l.length-n) (c-n)) W:=by
    intro W;have D:n≤c:=by omega
    have h1:=J59;cases hq:Tryz.prog.info? 5 with
    |none=>simp[hq] at h1
    |some i=>
      have hs:i.size=1:=by simpa[hq] using h1
      simp[Instr.sliceAt,Instr.slice,Instr.sliceBounds,Instr.sliceBound,asIntOf,run_underlying Tryz.underlying22,Ad,sizeOf,typeInfo,hq,hs,hn]
  refine⟨_,hr,⟨_,c-n,by rw[AW],by rw[AW];omega,by omega,fun h=> ?_,fun j x hj=> ?_⟩,fun x hx=> ?_⟩
  · split at h
    · omega
    have:A=none:=by simpa using h
    have:=h0 this;omega
  · rw[List.getElem?_drop] at hj
    obtain⟨ad,rfl,hc⟩:=h3 _ _ hj;have hl:=(List.getElem?_eq_some_iff.1 hj).1;rw[if_neg (by omega)];refine⟨ad.add n,rfl,?_⟩
    have:(ad.add n).add j=ad.add (n+j):=by
      unfold Addr.add
      by_cases hi:n=0<;>by_cases hj:j=0<;>simp[hi,hj,Nat.add_assoc]
    rw[this];exact hc
  unfold sb at hx⊢
  split at hx
  · cases hx
  rename_i hne;rw[if_neg (fun e=>hne (by rw[e];simp))];have:c≠n:=fun e=>hne (List.drop_eq_nil_of_le (by omega));rw[if_neg this] at hx;cases A with
  |none=>cases hx
  |some ad=>simpa[AB.ownBlock,J5o] using hx
section
variable {ops : Array AT} {Q : AF → Act → AA → Prop} {w : AA} {r : List AT} {o : AT} {a : Act} {E : Act → Prop}
end
theorem Q7t {w:AA}{v:AB}{l:List UInt8}(hs:Sl w v l)(hp:0<l.length):∃ad c,v=.slice (some ad) l.length c∧∀j x,l[j]?=some x→w.cell? (ad.add j)=some (.int .u8 (x.toNat:Int)):=by
  obtain⟨A,c,rfl,h1,h2,h0,h3⟩:=hs;obtain⟨ad,rfl,_⟩:=h3 0 l[0] (Af hp);refine⟨ad,c,rfl,fun j x hj=> ?_⟩;obtain⟨D,e,hc⟩:=h3 j x hj;obtain rfl:=Aa e;exact hc
theorem Z2f:∀n,(madeCells #[.int .u8 0] (n*1)).toList=bs8 (List.replicate n 0):=by
  intro n;rw[AO];apply List.ext_getElem?;intro i
  by_cases hi:i<n
  · simp[madeCells,bs8,hi,Nat.mod_one]
  simp[madeCells,bs8,hi]
theorem Y18 {ops:Array AT}{Q:AF→Act→AA→Prop}{w:AA}{r:List AT}{o:AT}{a:Act}{x y:AS}{n:Nat}(hn:n≤140737488355328)(hw:AU o (yielded ops a.tmps)=true)(ho:o.op=.makeSlice 22 x y)(hx:a.eval x=.int .i64 (n:Int))(hy:a.eval y=.int .i64 (n:Int))
    (h:∀b W,w.heap.size≤b→Off [] w W→Own W (.slice (some ⟨b,0,none⟩) n n) (List.replicate n 0)→AR Tryz.prog ops Q r (a.put o.dst (.slice (some ⟨b,0,none⟩) n n)) W):AR Tryz.prog ops Q (o::r) a w:=by
  obtain⟨i,hi,hz,G,J⟩:=info_parts J5p;obtain⟨W,D,h1,h2⟩:=run_make_full (P:=Tryz.prog) w 0 22 5 i (.int .u8 0) 1 Tryz.underlying22 hi hz G .i64 .i64 n (by rw[J];omega) (by unfold Ab;omega) (Ah _);refine J38 hw (W:=W) (by simp[AQ,ho,hx,hy,D,Ad]) (h _ W (AJ _) (J93 h2) ?_);unfold Own;rw[List.length_replicate,←Z2f n];exact h1
theorem J19 {w W:AA}{ad:Addr}{v:AB}(h:w.cell? ad=some v)(hW:Ext w W):W.cell? ad=some v:=by
  rw[AA.cell?_of_block (w:=w) (hW.block _ (Q7q h))];exact h
theorem Q4l {w:AA}{ad:Addr}{n c j:Nat}{l:List UInt8}{x:UInt8}(h:Sl w (.slice (some ad) n c) l)(hj:l[j]?=some x):w.cell? (ad.add j)=some (.int .u8 (x.toNat:Int)):=by
  obtain⟨A,cc,e,h1,h2,h0,h3⟩:=h;injection e with e1
  subst e1;obtain⟨D,e,hc⟩:=h3 j x hj;obtain rfl:=Aa e;exact hc
section
variable {P : AC} {ops : Array AT} {w : AA} {E : Act → Prop} {l : List AT} {o : AT} {a : Act}
end
def bt (l:List UInt8)(j:Nat):Int:=((l.getD j 0).toNat:Int)
theorem J2a {l:List UInt8}{j:Nat}(h:j<l.length):l[j]?=some (l.getD j 0):=by
  rw[List.getD_eq_getElem?_getD,Af h];rfl
theorem Q3w (l:List UInt8)(j:Nat):0≤bt l j∧bt l j≤255:=by
  have:=(l.getD j 0).toNat_lt;unfold bt;omega
end

section

section
variable {w : AA} {o : AT} {a : Act} {x y : AS}
theorem Z7l {P:AC}{t e:AD}{k:AG}{m b off j:Nat}(hm:1<m)(hj:j<m)(ht:P.underlying t=some (.array m e))(he:(P.info? e).map (·.size)=some 1)(ho:o.op=.indexAddr t x y)(hx:a.eval x=.pointer (some ⟨b,off,none⟩))(hy:a.eval y=.int k (j:Int)):
    (AQ a.eval o).run P w=.ok (.value (.pointer (some ⟨b,off+j,none⟩))) w:=by
  cases hq:P.info? e with
  |none=>simp[hq] at he
  |some i=>
    have hs:i.size=1:=by simpa[hq] using he
    simp[AQ,ho,hx,hy,Instr.indexAt,asIntOf,Instr.sureAddr,run_underlying ht,Ad,sizeOf,typeInfo,hq,hs,hj,Addr.add_mid]
theorem rxa {P:Program}{t e:TypeId}{k:IntKind}{m b off j:Nat}(ht:P.underlying t=some (.array m e))(hj:j<m)(hm:1<m:=by decide)(he:(P.info? e).map (·.size)=some 1:=by kernel_rfl)(ho:o.op=.indexAddr t x y:=by exact rfl)(hx:a.eval x=.pointer (some ⟨b,off,none⟩):=by exact rfl)(hy:a.eval y=.int k (j:Int):=by exact rfl):
    (execOp a.eval o).run P w=.ok (.value (.pointer (some ⟨b,off+j,none⟩))) w:=Z7l hm hj ht he ho hx hy
end
theorem J2p {a b:Array AB}{i:Nat}{v:AB}(h:a[i]?=some v):(a++b)[i]?=some v:=by
  have hi:=(Array.getElem?_eq_some_iff.1 h).1;rw[Array.getElem?_append_left hi];exact h
theorem J69 {a b:Array AB}{n i:Nat}{v:AB}(hn:a.size=n)(h:b[i]?=some v):(a++b)[n+i]?=some v:=by
  rw[Array.getElem?_append_right (by omega),←hn,Nat.add_sub_cancel_left];exact h
section
variable {P : AC} {ops : Array AT} {w : AA} {l : List AT} {o : AT} {a : Act} {E : Act → Prop} {Q : AF → Act → AA → Prop}
theorem J1a {ρ:AS→AB}{o:AT}{t t2:AD}{x y:AS}{xs ys:Array AB}{b:Bool}{W:AA}(hv:(Op.equalIn 10000 t (.agg xs) (.agg ys)).run P W=.ok b W)(hg:P.eqGuardType P.depth t=false)
    (ho:o.op=.binOp .neq t x y t2) (hx:ρ x=.agg xs) (hy:ρ y=.agg ys):(AQ ρ o).run P W=.ok (.value (.bool (!b))) W:=by
  have h:=run_neq_struct (P:=P) W t xs ys;rw[hv] at h;simp[AQ,ho,hx,hy,eqGuard,hg,h,Ad]
end

/-! ### Short forms -/
section
variable {P : AC} {ops : Array AT} {Q : AF → Act → AA → Prop} {w : AA} {l : List AT} {o : AT} {a a' : Act} {E : Act → Prop}
theorem Ln {z:Array Value}{t:TypeId}{a' :Nat→Act}(h:∀(b:Nat) (W:World),w.heap.size≤b→Off [] w W→Blk W b z t→wpList P ops Q l (a' b) W)(hw:Region.wanted o (yielded ops a.tmps)=true:=by exact rfl)
    (hr:(execOp a.eval o).run P w=.ok (.value (.pointer (some ⟨w.heap.size,0,none⟩))) (w.alloc (.cells z t)):=by first|kernel_rfl|(go_simp;done)|(go_simp;rfl))
    (hp:∀b,a.put o.dst (.pointer (some ⟨b,0,none⟩))=a' b:=by intro b;first|exact pl (by dsimp only[mB,mC];first|done|exact rfl)|exact pn|exact rfl):wpList P ops Q (o::l) a w:=
  Z57 hw hr fun b W h1 h2 h3=>by rw[hp];exact h b W h1 h2 h3
theorem Lp {ty t:TypeId}{x y:Operand}{g:Nat}{cells old:Array Value}(h:∀W,Off [g] w W→Blk W g cells t→wpList P ops Q l a' W)(hB:Blk w g old t)(hw:Region.wanted o (yielded ops a.tmps)=true:=by exact rfl)(ho:o.op=.store ty x y:=by exact rfl)(hx:a.eval x=.pointer (some ⟨g,0,none⟩):=by exact rfl)(hy:a.eval y=.agg cells:=by exact rfl)
    (hi:(P.info? ty).map (·.size)=some cells.size:=by kernel_rfl) (hs:old.size=cells.size:=by kernel_rfl) (h1:cells.all (·.oneCell')=true:=by kernel_rfl) (hp:a.put o.dst undef=a' :=by first|exact pl (by dsimp only[mB,mC];first|done|exact rfl)|exact pn|exact rfl):wpList P ops Q (o::l) a w:=by
  subst hp;exact Q4k hw ho hx hy hB hi hs h1 h
theorem Lg {b j:Nat}{cs:Array Value}{t ty:TypeId}{v:Value}{x:Operand}(h:wpList P ops Q l a' w)(hB:Blk w b cs t)(hw:Region.wanted o (yielded ops a.tmps)=true:=by exact rfl)(ho:o.op=.load ty x:=by exact rfl)(hx:a.eval x=.pointer (some ⟨b,j,none⟩):=by exact rfl)
    (hj:cs[j]?=some v:=by rfl) (hk:(P.underlying ty).map TypeDesc.isRow=some false:=by as_aux_lemma=>kernel_rfl) (hp:a.put o.dst v=a' :=by first|exact pl (by dsimp only[mB,mC];first|done|exact rfl)|exact pn|exact rfl):wpList P ops Q (o::l) a w:=by
  subst hp;exact Y5x hw ho hx hB hj hk h
theorem Lr {f:FuncId}{xl:List Operand}{ts:Array TypeId}{args:Array Value}{v:Value}(h:∀W,Off [] w W→wpList P ops Q l a' W)(hc:Calls P f args w fun e W=>V5 v w W e)(hw:Region.wanted o (yielded ops a.tmps)=true:=by exact rfl)
    (ho:o.op=.call {callee:=.value (.func f),args:=xl.toArray,argTypes:=ts}:=by with_reducible rfl) (hg:Q5x P f=true:=by as_aux_lemma=>kernel_rfl) (ha:(xl.map a.eval).toArray=args:=by exact rfl) (hp:a.put o.dst v=a' :=by first|exact pl (by dsimp only[mB,mC];first|done|exact rfl)|exact pn|exact rfl):wpList P ops Q (o::l) a w:=by
  subst hp;exact Z59 hc hw ho hg ha h
end
theorem bwo {B g:Nat}{w W1 W2 W3:AA}(h:Below B w W1)(e:Ext W1 W2)(q:Off [g] W2 W3)(hB:B≤W1.heap.size)(hg:B≤g):Below B w W3:=Off.below (J27 h e hB) q (AZ hB e.size) (fun x hx=>by rw[Ae.1 hx];exact hg)
theorem ko {b g:Nat}{cs:Array AB}{t:AD}{W1 W2 W3:AA}(h:Blk W1 b cs t)(e:Ext W1 W2)(q:Off [g] W2 W3)(hb:b≠g):Blk W3 b cs t:=Q3i (J4 h e) q (nm1 hb)
theorem fbn {F:List Nat}{w W:AA}{e:Nat}(h:Off F w W)(n:W.heap.size≤e):Fb e w.heap.size F:=V35 (AZ h.size n)
end

section
section
variable {P : AC} {w : AA} {o : AT} {a : Act} {x y : AS} {t t' : AD} {i m : Nat}
theorem Q9u (hm:0<m)(hi:i<9223372036854775808)(ho:o.op=.binOp .quo t x y t')(hx:a.eval x=.int .i64 (i:Int))(hy:a.eval y=.int .i64 (m:Int)):(AQ a.eval o).run P w=.ok (.value (.int .i64 ((i / m:Nat):Int))) w:=by
  have h0:¬m=0:=by omega
  have h1:=IntWalk.i64_quo (i:Int) (m:Int) (by omega);rw[Int.tdiv_eq_ediv_of_nonneg (by omega)] at h1;simp only[AQ,ho,hx,hy,eqGuard,binOp,Ad];simp[Op.intDiv,h0,h1,go_sem,Ad]
theorem Q9v (hm:0<m)(hi:i<9223372036854775808)(ho:o.op=.binOp .rem t x y t')(hx:a.eval x=.int .i64 (i:Int))(hy:a.eval y=.int .i64 (m:Int)):(AQ a.eval o).run P w=.ok (.value (.int .i64 ((i % m:Nat):Int))) w:=by
  have h0:¬m=0:=by omega
  have h1:(i:Int).tmod (m:Int)=((i % m:Nat):Int):=by rw[Int.tmod_eq_emod_of_nonneg (by omega)];rfl
  have G:=Nat.mod_lt i hm;have D:=Nat.mod_le i m;have h2:AG.i64.wrap ((i % m:Nat):Int)=((i % m:Nat):Int):=IntWalk.i64_in _ (by omega);simp only[AQ,ho,hx,hy,eqGuard,binOp,Ad];simp only[Op.intDiv];simp[h0,h1,h2,go_sem,Ad]
end
theorem Q9w {P:AC}{w:AA}{o:AT}{a:Act}{x y:AS}{t t' :AD}{p:Int}{k:AG}{n:Nat}(hn:n≤8)(ho:o.op=.binOp .shr t x y t')(hx:a.eval x=.int .u8 p)(hy:a.eval y=.int k (n:Int)):(AQ a.eval o).run P w=.ok (.value (.int .u8 (p / 2^n))) w:=by
  have h:min ((n:Int)).toNat AG.u8.bits=n:=by rw[Int.toNat_natCast];exact Nat.min_eq_left hn
  simp only[AQ,ho,hx,hy,eqGuard,binOp,Ad];simp[Op.shift,h,go_sem,Ad]
end

section

def Q32 (k:AG)(n:Nat)(f:Nat→Int):List AB:=(List.range n).map fun i=>AB.int k (f i)
theorem J6a (k:AG)(n:Nat)(f:Nat→Int):(Q32 k n f).length=n:=by simp[Q32]
theorem Q0w (bs:Nat→Int)(h:∀j,J7b (bs j)):∀n j,j<n→J2 (J13 bs n) j=bs j
  |0,j,hj=>by omega
  |n+1,j,hj=>by
    have hl:=J68 bs h n;obtain⟨b0,b1⟩:=h n;show J2 (J13 bs n+(bs n).toNat*2^(8*n)) j=_
    by_cases he:j=n
    · subst he
      unfold J2;rw[Nat.add_mul_div_right _ _ (AM _),Nat.div_eq_of_lt hl];omega
    · rw[←Q0w bs h n j (by omega)]
      unfold J2;obtain⟨d,rfl⟩:∃d,n=j+1+d:=⟨n-j-1,by omega⟩
      rw[show 8*(j+1+d)=8*j+(8+8*d) by omega,Nat.pow_add 2 (8*j),Nat.mul_left_comm,Nat.add_mul_div_left _ _ (AM _),Nat.pow_add 2 8,Nat.mul_left_comm,show(2:Nat)^8=256 by decide,Nat.add_mul_mod_self_left]

end
end Go.Proofs.YtpljgkofbfeelaaGreatDoor

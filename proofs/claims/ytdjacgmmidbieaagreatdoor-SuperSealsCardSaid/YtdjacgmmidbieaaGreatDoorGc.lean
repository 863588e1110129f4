/- Contracts and plain laws for superSeals_holds. Conditions: the tables hold their numbers. -/
import Derived.Test.YtdjacgmmidbieaaGreatDoorGb
import Derived.Deep.AppendLies
import Derived.Deep.Draws
open Go renaming World->AA,Value->AB,execOp->AV,wpList->AC,Program->AD,Operand->AW,TypeId->AE,Oper->AF,Exit->AG,maxLen->Ag,IntKind->AI
open Go.Region renaming wanted->AX
open Go.Sem renaming run_bind->Ah
open _root_.List renaming mem_singleton->Ai,getElem?_eq_getElem->Aj,length_drop->AZ,map_cons->Ac,map_nil->Ak
open _root_.Nat renaming le_refl->AM,zero_le->An,le_trans->Ae,zero_add->AP,two_pow_pos->AQ,mul_one->AS
open _root_.Option renaming some.inj->Af
open Go.RowKit
set_option linter.unusedSimpArgs false
set_option linter.unusedVariables false
namespace Go.Proofs.YtdjacgmmidbieaaGreatDoor
section

structure Off (F:List Nat)(w w' :AA):Prop where
  os:w'.os=w.os
  tape:w'.tape=w.tape
  output:w'.output=w.output
  size:w.heap.size≤w'.heap.size
  block:∀k,k<w.heap.size→k∉F→w'.heap[k]?=w.heap[k]?
theorem Off.refl (F:List Nat)(w:AA):Off F w w:=⟨rfl,rfl,rfl,AM _,fun _ _ _=>rfl⟩
theorem Off.trans {F G H:List Nat}{a b c:AA}(h:Off F a b)(k:Off G b c)(hF:∀x∈F,x∈H)(hG:∀x∈G,x<a.heap.size→x∈H):Off H a c:=
  ⟨k.os.trans h.os,k.tape.trans h.tape,k.output.trans h.output,Ae h.size k.size,fun i hi hn=>
    (k.block i (Nat.lt_of_lt_of_le hi h.size) (fun hx=>hn (hG i hx hi))).trans (h.block i hi (fun hx=>hn (hF i hx)))⟩
theorem Off.mono {F H:List Nat}{a b:AA}(h:Off F a b)(hF:∀x∈F,x<a.heap.size→x∈H):Off H a b:=
  ⟨h.os,h.tape,h.output,h.size,fun i hi hn=>h.block i hi fun hx=>hn (hF i hx hi)⟩
theorem J1v {w w' :AA}(h:Ext w w'):Off [] w w' :=⟨h.os,h.tape,h.output,h.size,fun i hi _=>h.block i hi⟩
theorem Off.ext {w w' :AA}(h:Off [] w w'):Ext w w' :=⟨h.os,h.tape,h.output,h.size,fun i hi=>h.block i hi (by simp)⟩
theorem V2s {F:List Nat}{w W:AA}(_:Off F w W):∃X,X=W:=⟨W,rfl⟩
theorem Q54 (w:AA)(o:Obj):Off [] w (w.alloc o):=J1v ((Below.refl _ _).alloc (AM _) _)
theorem Q0l {w w' :AA}{row:Option Nat}(h:w.grownBy w' row):Off row.toList w w' :=
  ⟨h.os,h.tape,h.output,h.size,fun i hi hn=>h.block i hi (fun e=>hn (by rw[←e];simp))⟩
theorem Off.below {F:List Nat}{B:Nat}{a w w' :AA}(h:Below B a w)(k:Off F w w')(hB:B≤w.heap.size)(hF:∀x∈F,B≤x):Below B a w' :=
  h.trans ⟨k.os,k.tape,k.output,k.size,fun i hi=>k.block i (by omega) (fun hx=>by have:=hF i hx;omega)⟩
theorem Q1v {F:List Nat}{w w' :AA}{b:Nat}{cs:Array AB}{t:AE}(h:Blk w b cs t)(k:Off F w w')(hb:b∉F):Blk w' b cs t:=by
  unfold Blk at*;rw[k.block b (Q3 h) hb];exact h
theorem nm0 {b:Nat}:b∉([]:List Nat):=by simp
theorem nm1 {b p:Nat}(h:b≠p):b∉[p]:=by simp[h]
theorem f0 {O:Option Nat}:∀x∈([]:List Nat),O≠some x:=by simp
theorem f1 {O:Option Nat}{b:Nat}(h:O≠some b):∀x∈[b],O≠some x:=by simpa using h
abbrev Fr (O:Option Nat)(n:Nat)(F:List Nat):Prop:=∀x,O=some x→x<n→x∈F
abbrev Fb (b n:Nat)(F:List Nat):Prop:=b<n→b∈F
theorem i0 {n:Nat}{F:List Nat}:∀x∈([]:List Nat),x<n→x∈F:=by simp
theorem i1 {n b:Nat}{F:List Nat}(h:Fb b n F):∀x∈[b],x<n→x∈F:=fun x hx=>by rw[Ai.1 hx];exact h
theorem Off.step {F G:List Nat}{a b c:AA}(h:Off F a b)(k:Off G b c)(hG:∀x∈G,x<a.heap.size→x∈F):Off F a c:=h.trans k (fun _ hx=>hx) hG
theorem Blk.o {w w' :AA}{b:Nat}{cs:Array AB}{t:AE}(h:Blk w b cs t)(k:Off [] w w'):Blk w' b cs t:=Q1v h k nm0
theorem Blk.p {w w' :AA}{b p:Nat}{cs:Array AB}{t:AE}(h:Blk w b cs t)(k:Off [p] w w')(q:b≠p):Blk w' b cs t:=Q1v h k (nm1 q)
theorem Off.o {F:List Nat}{a b c:AA}(h:Off F a b)(k:Off [] b c):Off F a c:=h.step k i0
theorem Off.p {F:List Nat}{a b c:AA}{p:Nat}(h:Off F a b)(k:Off [p] b c)(q:Fb p a.heap.size F):Off F a c:=h.step k (i1 q)
abbrev Of (R O:Option Nat)(n:Nat):Prop:=Fr R n O.toList
theorem Z2c {O R:Option Nat}{n:Nat}(h:R=O∨R=some n):Of R O n:=by
  intro x hx D;rcases h with h|h
  · rw[←h,hx];simp
  rw[hx] at h;have:=Af h;omega
theorem Y8n {O:Option Nat}{x:Nat}(h:x∈O.toList):O=some x:=by
  cases O with
  |none=>simp at h
  |some g=>simp at h;rw[h]
theorem Y8o {n e:Nat}{F:List Nat}(he:n≤e):Fb e n F:=fun h=>by omega
/-! ### Bytes -/
theorem J55 (a:Addr)(n:Nat):(a.add n).block=a.block:=by unfold Addr.add;split<;>rfl
theorem Q67 {w:AA}{a:Addr}{v:AB}(h:w.cell? a=some v):a.block<w.heap.size:=AA.block_lt_of_cell? w a h
def bs8 (l:List UInt8):List AB:=l.map fun c=> .int .u8 (c.toNat:Int)
theorem X8 (l:List UInt8):(bs8 l).length=l.length:=by simp[bs8]
theorem J56 (l m:List UInt8):bs8 (l++m)=bs8 l++bs8 m:=by simp[bs8]
theorem Q1w (l:List UInt8):∀u∈bs8 l,u.oneCell' =true:=by
  intro u hu;simp only[bs8,List.mem_map] at hu;obtain⟨c,_,rfl⟩:=hu;rfl
theorem Q68 {l:List UInt8}{j:Nat}{x:UInt8}(h:l[j]?=some x):(bs8 l)[j]?=some (.int .u8 (x.toNat:Int)):=by simp[bs8,h]
def Z9 (l:List UInt8):AB:=.string ⟨l.toArray⟩
def Sl (w:AA)(v:AB)(l:List UInt8):Prop:=
  ∃A c,v=.slice A l.length c∧l.length≤c∧c≤Ag∧(A=none→c=0)∧∀j x,l[j]?=some x→∃ad,A=some ad∧w.cell? (ad.add j)=some (.int .u8 (x.toNat:Int))
def Own (w:AA)(v:AB)(l:List UInt8):Prop:=w.ownsRow 0 5 1 v l.length (bs8 l)
def sb (v:AB)(l:List UInt8):Option Nat:=if l=[] then none else v.ownBlock
theorem Sl.lt {w:AA}{v:AB}{l:List UInt8}(h:Sl w v l):∀x,sb v l=some x→x<w.heap.size:=by
  intro x hx;obtain⟨A,c,rfl,h1,h2,h0,h3⟩:=h;unfold sb at hx
  split at hx
  · cases hx
  rename_i hl;cases l with
  |nil=>exact absurd rfl hl
  |cons y r=>
    obtain⟨ad,rfl,hc⟩:=h3 0 y rfl;have:=Q67 hc;rw[J55] at this;obtain rfl:ad.block=x:=Af hx;exact this
theorem Sl.off {F:List Nat}{w w' :AA}{v:AB}{l:List UInt8}(h:Sl w v l)(k:Off F w w')(hF:∀b∈F,sb v l≠some b):Sl w' v l:=by
  obtain⟨A,c,rfl,h1,h2,h0,h3⟩:=h;refine⟨A,c,rfl,h1,h2,h0,fun j x hj=> ?_⟩;obtain⟨ad,rfl,hc⟩:=h3 j x hj;refine⟨ad,rfl,?_⟩;have hl:l≠[]:=fun e=>by subst e;simp at hj
  rw[AA.cell?_of_block (w:=w) (k.block _ (Q67 hc) (fun hx=>hF _ hx (by unfold sb;rw[if_neg hl];simp[AB.ownBlock,J55])))];exact hc
theorem Own.off {F:List Nat}{w w' :AA}{v:AB}{l:List UInt8}(h:Own w v l)(k:Off F w w')(hF:∀b∈F,v.ownBlock≠some b):Own w' v l:=by
  obtain⟨h1,h2⟩:=h;refine⟨h1,h2.imp id ?_⟩;rintro⟨g,G,D,rfl,hb,hh,r⟩;exact⟨g,G,D,rfl,hb,by rw[k.block g (lt_of_block hh) (fun hx=>hF g hx rfl)];exact hh,r⟩
theorem Own.sl {w:AA}{v:AB}{l:List UInt8}(h:Own w v l):Sl w v l:=by
  obtain⟨h1,h2⟩:=h;rcases h2 with⟨rfl,hn⟩|⟨g,G,D,rfl,_,hh,hc,hm,hs,ht⟩
  · exact⟨none,0,by rw[hn],by omega,by unfold Ag;omega,fun _=>rfl,fun j x hj=>by
      have:=(List.getElem?_eq_some_iff.1 hj).1;omega⟩
  refine⟨some ⟨g,0,none⟩,G,rfl,hc,hm,(fun h=>by cases h),fun j x hj=>⟨_,rfl,?_⟩⟩;have hl:=(List.getElem?_eq_some_iff.1 hj).1;rw[Addr.add_mid,cell_of_row w g _ D _ _ hh,AP];have e:=Q68 hj;rw[←ht,List.getElem?_take_of_lt (by omega)] at e
  simpa using e
theorem Q69 (w:AA):Own w (.slice none 0 0) []:=⟨rfl,.inl ⟨rfl,rfl⟩⟩
theorem Y8p (w:AA):Sl w (.slice none 0 0) []:=(Q69 w).sl
theorem Own.lt {w:AA}{v:AB}{l:List UInt8}(h:Own w v l):∀g,v.ownBlock=some g→g<w.heap.size:=by
  intro g hg;rcases h.2 with⟨rfl,_⟩|⟨g',G,D,rfl,_,hh,_⟩
  · cases hg
  obtain rfl:g' =g:=Af hg;exact lt_of_block hh
theorem Own.len {w:AA}{v:AB}{l:List UInt8}(h:Own w v l):∃A c,v=.slice A l.length c∧l.length≤c:=by
  obtain⟨A,c,rfl,h1,_⟩:=h.sl;exact⟨A,c,rfl,h1⟩
theorem Y2d {w:AA}{g:Nat}{l:List UInt8}{cs:Array AB}(h:Blk w g cs 5)(hc:cs.toList=bs8 l)(hm:l.length≤Ag):Own w (.slice (some ⟨g,0,none⟩) l.length l.length) l:=by
  have hs:cs.size=l.length:=by rw[←Array.length_toList,hc,X8]
  exact⟨by rw[X8,AS],.inr ⟨g,l.length,cs,rfl,An _,h,AM _,hm,by rw[hs,AS],by rw[hc,List.take_of_length_le (by rw[X8];omega)]⟩⟩
theorem Z7f {w:AA}{g o n c:Nat}{l:List UInt8}{cs:Array AB}{t:AE}(h:Blk w g cs t)(hn:n=l.length)(hc:n≤c)(hm:c≤Ag)(hl:∀j x,l[j]?=some x→cs[o+j]?=some (.int .u8 (x.toNat:Int))):Sl w (.slice (some ⟨g,o,none⟩) n c) l:=by
  subst hn;exact⟨some ⟨g,o,none⟩,c,rfl,hc,hm,(fun h=>by cases h),fun j x hj=>⟨_,rfl,by rw[Addr.add_mid,J5 h];exact hl j x hj⟩⟩

/-! ### The operations -/
section
variable {P : AD} {ops : Array AF} {Q : AG → Act → AA → Prop} {w : AA} {l : List AF} {o : AF} {a : Act}
theorem J6h {v:AB}{W:AA}(hw:AX o (yielded ops a.tmps)=true)(hr:(AV a.eval o).run P w=.ok (.value v) W)(h:AC P ops Q l (a.put o.dst v) W):AC P ops Q (o::l) a w:=by
  unfold AC;rw[if_pos hw];refine .inl ?_;unfold AF.wp;rw[hr];exact h
theorem Z2d {z:Array AB}{t:AE}(hw:AX o (yielded ops a.tmps)=true)(hr:(AV a.eval o).run P w=.ok (.value (.pointer (some ⟨w.heap.size,0,none⟩))) (w.alloc (.cells z t)))
    (h:∀(b:Nat)(W:AA),w.heap.size≤b→Off [] w W→Blk W b z t→AC P ops Q l (a.put o.dst (.pointer (some ⟨b,0,none⟩))) W):AC P ops Q (o::l) a w:=by
  unfold AC;rw[if_pos hw];refine .inl ?_;unfold AF.wp;rw[hr];exact h _ _ (AM _) (Q54 _ _) (Y4 _ _ rfl)
theorem Q2t {z:Array AB}{t:AE}{n c:Nat}(hw:AX o (yielded ops a.tmps)=true)(hr:(AV a.eval o).run P w=.ok (.value (.slice (some ⟨w.heap.size,0,none⟩) n c)) (w.alloc (.cells z t)))
    (h:∀(b:Nat)(W:AA),w.heap.size≤b→Off [] w W→Blk W b z t→AC P ops Q l (a.put o.dst (.slice (some ⟨b,0,none⟩) n c)) W):AC P ops Q (o::l) a w:=by
  unfold AC;rw[if_pos hw];refine .inl ?_;unfold AF.wp;rw[hr];exact h _ _ (AM _) (Q54 _ _) (Y4 _ _ rfl)
theorem J9l {w:AA}{b off:Nat}{cs:Array AB}{t ty:AE}{y:AB}(hB:Blk w b cs t)(ho:off+y.cells.size≤cs.size)(hi:(P.info? ty).map (·.size)=some y.cells.size)(h1:y.cells.all (·.oneCell')=true):
    (Instr.storeAt ty (.pointer (some ⟨b,off,none⟩)) y).run P w=.ok () (w.setCells b off y.cells.toList):=by
  have ht:∀j,j<y.cells.size→(w.cell? ⟨b,off+j,none⟩).isSome=true∧w.frozen? ⟨b,off+j,none⟩=false:=fun j hj=>by
    rw[J5 hB,V3 hB];exact⟨by rw[Array.getElem?_eq_getElem (by omega)];rfl,rfl⟩
  have:=run_storeCells_cells (P:=P) b off y.cells.toList 0 w (fun j hj=>by simpa using(ht j (by simpa using hj)).1) (fun j hj=>by simpa using(ht j (by simpa using hj)).2)
    (fun v hv=>(Array.all_eq_true_iff_forall_mem.1 h1) v (by simpa using hv))
  cases hq:P.info? ty with
  |none=>simp[hq] at hi
  |some i=>
    have hs:y.cells.size=i.size:=by simp[hq] at hi;omega
    simp only[Nat.add_zero] at this;simp[Instr.storeAt,Instr.sureAddr,Ah,storeVar,sizeOf,typeInfo,hq,hs,this]
def spl (cs:Array AB):Nat→List AB→Array AB
  |_,[]=>cs
  |i,v::r=>spl (cs.setIfInBounds i v) (i+1) r
theorem J9m {b:Nat}{t:AE}:∀(vs:List AB) (i:Nat) (cs:Array AB) (w:AA),Blk w b cs t→Blk (w.setCells b i vs) b (spl cs i vs) t∧Off [b] w (w.setCells b i vs)
  |[],_,_,w,h=>⟨h,Off.refl _ _⟩
  |v::r,i,cs,w,h=>by
    have h1:=Z7 h i v;obtain⟨h2,h3⟩:=J9m r (i+1) _ _ h1;have h0:Off [b] w (w.setCell ⟨b,i,none⟩ v):=⟨rfl,rfl,rfl,by simp[AA.setCell],fun k _ hk=>Below.heap_setCell w ⟨b,i,none⟩ v k (by simpa using hk)⟩
    rw[AA.setCells];exact⟨h2,h0.trans h3 (fun _ hx=>hx) (fun _ hx _=>hx)⟩
theorem Q6a {ty t:AE}{x y:AW}{b off:Nat}{cs:Array AB}{v:AB}(hw:AX o (yielded ops a.tmps)=true)(ho:o.op=.store ty x y)(hx:a.eval x=.pointer (some ⟨b,off,none⟩))(hy:a.eval y=v)
    (hB:Blk w b cs t) (hs:off+v.cells.size≤cs.size) (hi:(P.info? ty).map (·.size)=some v.cells.size) (h1:v.cells.all (·.oneCell')=true)
    (h:∀W,Off [b] w W→Blk W b (spl cs off v.cells.toList) t→AC P ops Q l (a.put o.dst undef) W):AC P ops Q (o::l) a w:=by
  unfold AC;rw[if_pos hw];refine .inl ?_;unfold AF.wp
  have hr:(AV a.eval o).run P w=.ok .skip (w.setCells b off v.cells.toList):=by
    simp[AV,ho,hx,hy,Ah,J9l hB hs hi h1]
  rw[hr];obtain⟨h2,h3⟩:=J9m v.cells.toList off cs w hB;exact h _ h3 h2
theorem Q2u {ty t:AE}{x y:AW}{g:Nat}{cells old:Array AB}(hw:AX o (yielded ops a.tmps)=true)(ho:o.op=.store ty x y)(hx:a.eval x=.pointer (some ⟨g,0,none⟩))(hy:a.eval y=.agg cells)
    (hB:Blk w g old t) (hi:(P.info? ty).map (·.size)=some cells.size) (hs:old.size=cells.size) (h1:cells.all (·.oneCell')=true)
    (h:∀W,Off [g] w W→Blk W g cells t→AC P ops Q l (a.put o.dst undef) W):AC P ops Q (o::l) a w:=
  Q53 hw ho hx hy hB hi hs h1 (h _ ⟨rfl,rfl,rfl,by simp,fun k _ hk=>setRow_other w g k cells (by simpa using hk)⟩ (X6 hB cells))
theorem V9 {w:AA}{v:AB}{l:List UInt8}(h:Sl w v l):v.cells= #[v]∧v.oneCell' =true:=by
  obtain⟨A,c,rfl,_⟩:=h;exact⟨rfl,rfl⟩
theorem Q88 {ty t:AE}{x y:AW}{b off:Nat}{cs:Array AB}{v:AB}(hv:v.cells= #[v]∧v.oneCell' =true)(hw:AX o (yielded ops a.tmps)=true)(ho:o.op=.store ty x y)(hx:a.eval x=.pointer (some ⟨b,off,none⟩))(hy:a.eval y=v)
    (hB:Blk w b cs t) (hs:off<cs.size) (hi:(P.info? ty).map (·.size)=some 1)
    (h:∀W,Off [b] w W→Blk W b (cs.setIfInBounds off v) t→AC P ops Q l (a.put o.dst undef) W):AC P ops Q (o::l) a w:=by
  refine Q6a (v:=v) hw ho hx hy hB (by rw[hv.1];exact hs) (by rw[hv.1];exact hi) (by rw[hv.1];simp[hv.2]) fun W hO D=>h W hO ?_;rw[hv.1] at D;exact D
theorem Y2e {b j:Nat}{cs:Array AB}{t ty:AE}{v:AB}{x:AW}(hw:AX o (yielded ops a.tmps)=true)(ho:o.op=.load ty x)(hx:a.eval x=.pointer (some ⟨b,j,none⟩))
    (hB:Blk w b cs t) (hj:cs[j]?=some v) (hk:(P.underlying ty).map TypeDesc.isRow=some false) (h:AC P ops Q l (a.put o.dst v) w):AC P ops Q (o::l) a w:=by
  refine J2r hw ?_ h;have hc:w.cell? ⟨b,j,none⟩=some v:=by rw[J5 hB];exact hj
  cases hu:P.underlying ty with
  |none=>simp[hu] at hk
  |some d=>
    have hd:d.isRow=false:=by simpa[hu] using hk
    unfold AV;simp only[ho,hx];cases d<;>simp_all [Instr.loadAt,Instr.sureAddr,Ah,Sem.run_pure,Result.andThen_ok,run_underlying hu,TypeDesc.isRow]
    all_goals simp[loadVar,isAgg,Ah,Sem.run_pure,Result.andThen_ok,run_underlying hu,TypeDesc.isRow,hc]
theorem Z4w {b:Nat}{cs:Array AB}{t ty:AE}{x:AW}(hw:AX o (yielded ops a.tmps)=true)(ho:o.op=.load ty x)(hx:a.eval x=.pointer (some ⟨b,0,none⟩))
    (hB:Blk w b cs t) (hk:(P.underlying ty).map TypeDesc.isRow=some true) (hi:(P.info? ty).map (·.size)=some cs.size) (h:AC P ops Q l (a.put o.dst (.agg cs)) w):AC P ops Q (o::l) a w:=by
  refine J2r hw ?_ h;cases hu:P.underlying ty with
  |none=>simp[hu] at hk
  |some d=>
    have hd:d.isRow=true:=by simpa[hu] using hk
    have:=run_loadAt_mid (P:=P) w b 0 ty cs.toList d (fun i v hv=>by rw[J5 hB,AP];simpa using hv) hu (by cases d<;>simp_all [TypeDesc.isRow]) (by simpa using hi);simp[AV,ho,hx,Ah,this]
theorem Y2f {b:Nat}{cs:Array AB}{ty:AE}{x:AW}(hw:AX o (yielded ops a.tmps)=true)(ho:o.op=.load ty x)(hx:a.eval x=.pointer (some ⟨b,0,none⟩))
    (hB:Rd w b cs) (hk:(P.underlying ty).map TypeDesc.isRow=some true) (hi:(P.info? ty).map (·.size)=some cs.size) (h:AC P ops Q l (a.put o.dst (.agg cs)) w):AC P ops Q (o::l) a w:=by
  refine J2r hw ?_ h;cases hu:P.underlying ty with
  |none=>simp[hu] at hk
  |some d=>
    have hd:d.isRow=true:=by simpa[hu] using hk
    have:=run_loadAt_mid (P:=P) w b 0 ty cs.toList d (fun i v hv=>by rw[AP];exact hB.1 i v (by simpa using hv)) hu (by cases d<;>simp_all [TypeDesc.isRow]) (by simpa using hi);simp[AV,ho,hx,Ah,this]
theorem Z7g {f:FuncId}{xl:List Operand}{ts:Array TypeId}{args:Array Value}{R:Value→World→Prop}(hc:Calls P f args w fun e W=> ∃v,e=.returned v∧R v W)(hw:Region.wanted o (yielded ops a.tmps)=true)
    (ho:o.op=.call {callee:=.value (.func f),args:=xl.toArray,argTypes:=ts}) (hg:Q2r P f=true) (ha:(xl.map a.eval).toArray=args)
    (h:∀v W,R v W→wpList P ops Q l (a.put o.dst v) W):wpList P ops Q (o::l) a w:=by
  unfold AC;rw[if_pos hw];refine .inl ?_;unfold AF.wp;rw[J90 ho rfl hg w,ha];exact hc.mono fun e W ⟨v,he,hR⟩=>by subst he;exact h v W hR
theorem Q55 {f:FuncId}{xl:List Operand}{ts:Array TypeId}{args:Array Value}{v:Value}{R:World→Prop}(hc:Calls P f args w fun e W=>e=.returned v∧R W)(hw:Region.wanted o (yielded ops a.tmps)=true)
    (ho:o.op=.call {callee:=.value (.func f),args:=xl.toArray,argTypes:=ts}) (hg:Q2r P f=true) (ha:(xl.map a.eval).toArray=args)
    (h:∀W,R W→wpList P ops Q l (a.put o.dst v) W):wpList P ops Q (o::l) a w:=by
  unfold AC;rw[if_pos hw];refine .inl ?_;unfold AF.wp;rw[J90 ho rfl hg w,ha];exact hc.mono fun e W ⟨he,hR⟩=>by subst he;exact h W hR
theorem Z2e {f:FuncId}{xl:List Operand}{ts:Array TypeId}{args:Array Value}{v:Value}(hc:Calls P f args w fun e W=>V4 v w W e)(hw:Region.wanted o (yielded ops a.tmps)=true)
    (ho:o.op=.call {callee:=.value (.func f),args:=xl.toArray,argTypes:=ts}) (hg:Q2r P f=true) (ha:(xl.map a.eval).toArray=args)
    (h:∀W,Off [] w W→wpList P ops Q l (a.put o.dst v) W):wpList P ops Q (o::l) a w:=
  Q55 hc hw ho hg ha fun W hW=>h W (J1v hW)
end
theorem J6i:(Tryz.prog.info? 5).map (fun i=>(i.zero,i.size,i.bytes))=some (some (.int .u8 0),1,1):=by kernel_rfl
theorem Q0m (w:AA)(ty:AE){v u:AB}{l m:List UInt8}(hown:Own w v l)(hs:Sl w u m)(hlen:l.length+m.length≤140737488355328):
    ∃v' W,(Builtin.append_ #[45,45] ty #[v,u]).run Tryz.prog w=.ok v' W∧Own W v' (l++m)∧Off v.ownBlock.toList w W∧(v'.ownBlock=v.ownBlock∨v'.ownBlock=some w.heap.size)∧(v' =.slice none 0 0↔v=.slice none 0 0∧m=[]):=by
  obtain⟨i,hi,hz,N,J⟩:=info_parts J6i;obtain⟨A,c,rfl,hc,hm,_,D⟩:=hs;rcases A with _|ad
  · have:m=[]:=by
      cases m with
      |nil=>rfl
      |cons x r=>obtain⟨ad,h,_⟩:=D 0 x rfl;cases h
    subst this;refine⟨v,w,?_,by rw[List.append_nil];exact hown,Off.refl _ _,.inl rfl,by simp⟩;rcases hown.2 with⟨rfl,_⟩|⟨g,T,S,rfl,_,_,R,_⟩
    · simp[Builtin.append_,run_underlying Tryz.underlying45,sizeOf,typeInfo,hi,Builtin.lenOf,Builtin.firstCells]
    simp[Builtin.append_,run_underlying Tryz.underlying45,sizeOf,typeInfo,hi,Builtin.lenOf,Builtin.firstCells,R,storeCells]
  obtain⟨v',W,G,h2,h3,h4,h5⟩:=run_append_own_at (P:=Tryz.prog) w 0 45 ty 5 i (.int .u8 0) 1 1 Tryz.underlying45 hi hz N J rfl (by omega) v l.length (bs8 l) hown ad m.length c (bs8 m)
    (by rw[X8,AS]) (fun j u hu=>by
      simp only[bs8,List.getElem?_map,Option.map_eq_some_iff] at hu;obtain⟨x,hx,rfl⟩:=hu;obtain⟨U,h,M⟩:=D j x hx;obtain rfl:=Af h
      exact M) (Q1w m) (by unfold Ag;omega) (by omega) (An _)
  refine⟨v',W,G,?_,Q0l h3,h5,?_⟩
  · unfold Own;rw[List.length_append,J56];exact h2
  rw[h4];simp
theorem Z0e {ops:Array Oper}{Q:Exit→Act→World→Prop}{w:World}{l:List Oper}{o:Oper}{a:Act}{s x:Operand}{v u:Value}{xs ys:List UInt8}(hw:Region.wanted o (yielded ops a.tmps)=true)
    (ho:o.op=.call {callee:=.builtin .append,args:= #[s,x],argTypes:= #[45,45]}) (hs:a.eval s=v) (hx:a.eval x=u) (hown:Own w v xs) (hsl:Sl w u ys) (hlen:xs.length+ys.length≤140737488355328)
    (h:∀v' W,Own W v' (xs++ys)→Off v.ownBlock.toList w W→Of v'.ownBlock v.ownBlock w.heap.size→(v' =.slice none 0 0↔v=.slice none 0 0∧ys=[])→wpList Tryz.prog ops Q l (a.put o.dst v') W):wpList Tryz.prog ops Q (o::l) a w:=by
  obtain⟨v',W,D,h1,h2,h3,h4⟩:=Q0m w o.type hown hsl hlen;refine J6h hw (v:=v') (W:=W) ?_ (h v' W h1 h2 (Z2c h3) h4);unfold AV;simp only[ho,resolve,invoke,builtin,Ah,Sem.run_pure,Result.andThen_ok,List.map_toArray,Ac,Ak,hs,hx,D]
end

section

theorem V2t (l m:List UInt8):((⟨l.toArray⟩:ByteArray)==⟨m.toArray⟩)=decide (l=m):=by
  have h:((⟨l.toArray⟩:ByteArray)==⟨m.toArray⟩)=(l.toArray==m.toArray):=rfl;rw[h,Bool.eq_iff_iff,beq_iff_eq,decide_eq_true_iff];exact⟨fun h=>by simpa using h,fun h=>by rw[h]⟩
theorem J4w (l:List UInt8):(⟨l.toArray⟩:ByteArray).size=l.length:=by simp[ByteArray.size]
theorem Z4x (l m:List UInt8):(⟨l.toArray⟩:ByteArray)++⟨m.toArray⟩=⟨(l++m).toArray⟩:=by
  apply ByteArray.ext;simp[ByteArray.data_append]
theorem J91 (l:List UInt8)(a b:Nat):(⟨l.toArray⟩:ByteArray).extract a b=⟨((l.take b).drop a).toArray⟩:=by
  apply ByteArray.ext;simp[ByteArray.data_extract,List.drop_take]
theorem Y2g {w:AA}{v:AB}{l:List UInt8}(h:Sl w v l):(convert 45 9 v).run Tryz.prog w=.ok (Z9 l) w:=by
  obtain⟨A,c,rfl,h1,h2,h0,h3⟩:=h;rcases A with _|ad
  · have:l=[]:=by
      cases l with
      |nil=>rfl
      |cons x r=>obtain⟨ad,h,_⟩:=h3 0 x rfl;cases h
    subst this;exact run_convert_bytes_nil w 45 5 Tryz.underlying45 Tryz.underlying5 _ _ 9 Tryz.underlying9
  exact run_convert_bytes_back w 45 9 5 ad c l Tryz.underlying45 Tryz.underlying5 Tryz.underlying9 (fun j hj=>by
    obtain⟨D,h,hc⟩:=h3 j _ (Aj hj);obtain rfl:=Af h
    exact hc)
section
variable {ops : Array AF} {Q : AG → Act → AA → Prop} {w : AA} {r : List AF} {o : AF} {a : Act} {E : Act → Prop}
theorem J1d {x y:AW}{t:AE}{l m:List UInt8}(ho:o.op=.binOp .add 9 x y t)(hx:a.eval x=Z9 l)(hy:a.eval y=Z9 m)(hlen:l.length+m.length≤9223372036854775807):(AV a.eval o).run Tryz.prog w=.ok (.value (Z9 (l++m))) w:=by
  simp only[AV,ho,hx,hy,Z9,Ah];simp[eqGuard,binOp,run_underlying Tryz.underlying9,go_sem,Ah,J4w];rw[if_neg (by omega),Z4x]
theorem Z4y {x y:AW}{t:AE}{l m:List UInt8}(ho:o.op=.binOp .neq 9 x y t)(hx:a.eval x=Z9 l)(hy:a.eval y=Z9 m):(AV a.eval o).run Tryz.prog w=.ok (.value (.bool (!decide (l=m)))) w:=by
  have e:=V2t l m;have e2:((⟨l.toArray⟩:ByteArray) !=⟨m.toArray⟩)= !decide (l=m):=by rw[bne,e]
  simp only[AV,ho,hx,hy,Z9];simp[eqGuard,binOp,Op.stringOp,go_sem,Ah,e2];rw[Bool.eq_iff_iff,beq_iff_eq,decide_eq_true_iff]
theorem Q2v {x:Operand}{l:List UInt8}(ho:o.op=.call {callee:=.builtin .len,args:= #[x],argTypes:= #[9]})(hx:a.eval x=Z9 l):(execOp a.eval o).run Tryz.prog w=.ok (.value (.int .i64 (l.length:Int))) w:=by
  have:=J4w l;unfold AV;simp only[ho,resolve,invoke,builtin,Ah,Sem.run_pure,Result.andThen_ok,List.map_toArray,Ac,Ak,hx,Z9];simp[Builtin.len_,run_underlying Tryz.underlying9,this,goInt,Ah]
theorem Z4z {x y:AW}{t:AE}{l:List UInt8}{n:Nat}(hn:n≤l.length)(ho:o.op=.slice t x none (some y) none)(ht:Tryz.prog.underlying t=some .string)(hx:a.eval x=Z9 l)(hy:a.eval y=.int .i64 (n:Int)):(AV a.eval o).run Tryz.prog w=.ok (.value (Z9 (l.take n))) w:=by
  have h1:=J4w l;have h2:=J91 l 0 n;unfold AV;simp only[ho,hx,hy,Z9,Option.map];simp[Instr.sliceAt,Instr.slice,Instr.sliceBounds,Instr.sliceBound,asIntOf,run_underlying ht,Ah,h1,h2,hn]
end
def Blz (w:AA)(b:Nat)(cs:Array AB)(t:AE):Prop:=∃fz:Nat×Nat,w.heap[b]?=some (.cells cs t fz)∧cs.size≤fz.1
theorem Z7h {w:AA}{b:Nat}{cs:Array AB}{t:AE}(h:Blz w b cs t):b<w.heap.size:=by obtain⟨fz,h,_⟩:=h;exact lt_of_block h
theorem Y2h {F:List Nat}{w w' :AA}{b:Nat}{cs:Array AB}{t:AE}(h:Blz w b cs t)(k:Off F w w')(hb:b∉F):Blz w' b cs t:=by
  have hl:=Z7h h;obtain⟨fz,h,h2⟩:=h;exact⟨fz,by rw[k.block b hl hb];exact h,h2⟩
theorem Z50 (w:AA)(l:List UInt8)(hl:l.length≤140737488355328):∃W cs b c,(convert 9 45 (Z9 l)).run Tryz.prog w=.ok (.slice (some ⟨b,0,none⟩) l.length c) W∧w.heap.size≤b∧Off [] w W∧Blz W b cs 5∧l.length≤c∧c≤Ag∧cs.size=c∧cs.toList.take l.length=bs8 l:=by
  have h:=run_bytes_of_string (P:=Tryz.prog) w 9 45 5 ⟨l.toArray⟩ Tryz.underlying9 Tryz.underlying45 Tryz.underlying5;rw[J4w] at h;have D:=grownCap_ge w l.length 0 5
  have hs:(bytesRow ⟨l.toArray⟩ (grownCap w l.length 0 5)).size=grownCap w l.length 0 5:=by
    unfold bytesRow;rw[J4w];simp;omega
  refine⟨_,bytesRow ⟨l.toArray⟩ (grownCap w l.length 0 5),w.heap.size,grownCap w l.length 0 5,h,AM _,J1v ((Below.refl _ _).drew.alloc (AM _) _),⟨((bytesRow ⟨l.toArray⟩ (grownCap w l.length 0 5)).size,(bytesRow ⟨l.toArray⟩ (grownCap w l.length 0 5)).size+1),?_,AM _⟩,D,grownCap_le_maxLen _ _ _ _ (by unfold Ag;omega),hs,?_⟩
  · show(w.heap.push _)[w.heap.size]?=_
    simp
  unfold bytesRow bs8;simp
section
variable {ops : Array AF} {Q : AG → Act → AA → Prop} {w : AA} {r : List AF} {o : AF} {a : Act} {E : Act → Prop}
theorem Z51 {x:AW}{l:List UInt8}(hl:l.length≤140737488355328)(hw:AX o (yielded ops a.tmps)=true)(ho:o.op=.convert 9 45 x)(hx:a.eval x=Z9 l)
    (h:∀b c cs W,w.heap.size≤b→Off [] w W→Blz W b cs 5→l.length≤c→c≤Ag→cs.size=c→cs.toList.take l.length=bs8 l→AC Tryz.prog ops Q r (a.put o.dst (.slice (some ⟨b,0,none⟩) l.length c)) W):AC Tryz.prog ops Q (o::r) a w:=by
  obtain⟨W,cs,b,c,D,h1,h2,h3,h4,h5,h6,h7⟩:=Z50 w l hl;refine J6h hw (W:=W) ?_ (h b c cs W h1 h2 h3 h4 h5 h6 h7);simp[AV,ho,hx,Ah,D]
end
section
variable {ops : Array AF} {Q : AG → Act → AA → Prop} {w : AA} {r : List AF} {o : AF} {a : Act} {E : Act → Prop}
theorem J6j:(Tryz.prog.info? 5).map (·.size)=some 1:=by kernel_rfl
theorem J9n {w:AA}{x y:AW}{k:AI}{ad:Addr}{n c j:Nat}(hj:j<n)(ho:o.op=.indexAddr 45 x y)(hx:a.eval x=.slice (some ad) n c)(hy:a.eval y=.int k (j:Int)):
    (AV a.eval o).run Tryz.prog w=.ok (.value (.pointer (some (ad.add j)))) w:=by
  have h1:=J6j;cases hq:Tryz.prog.info? 5 with
  |none=>simp[hq] at h1
  |some i=>
    have hs:i.size=1:=by simpa[hq] using h1
    simp[AV,ho,hx,hy,Instr.indexAt,asIntOf,run_underlying Tryz.underlying45,Ah,sizeOf,typeInfo,hq,hs,hj]
end
theorem Q2w {v:AB}{l:List UInt8}{x:Nat}(h:sb v l=some x):v.ownBlock=some x:=by
  unfold sb at h
  split at h
  · cases h
  exact h
abbrev Sub (u:AB)(l' :List UInt8)(O:Option Nat):Prop:=∀x,sb u l' =some x→O=some x
theorem J2o {v:AB}{l:List UInt8}:Sub v l (sb v l):=fun _ h=>h
theorem Z7i {w:AA}{v:AB}{l:List UInt8}{n:Nat}(hs:Sl w v l)(hn:n≤l.length):∃u,(∀W,(Instr.sliceAt 45 v none (some (.int .i64 (n:Int))) none).run Tryz.prog W=.ok u W)∧Sl w u (l.take n)∧Sub u (l.take n) (sb v l)∧(0<n→∃ad c,u=.slice (some ad) n c):=by
  obtain⟨A,c,rfl,h1,h2,h0,h3⟩:=hs
  have hr:∀W,(Instr.sliceAt 45 (.slice A l.length c) none (some (.int .i64 (n:Int))) none).run Tryz.prog W=.ok (.slice (if c=0 then A else A.map (·.add 0)) n c) W:=by
    intro W;have G:n≤c:=by omega
    have h1:=J6j;cases hq:Tryz.prog.info? 5 with
    |none=>simp[hq] at h1
    |some i=>simp[Instr.sliceAt,Instr.slice,Instr.sliceBounds,Instr.sliceBound,asIntOf,run_underlying Tryz.underlying45,Ah,sizeOf,typeInfo,hq,G]
  have hA:(if c=0 then A else A.map (·.add 0))=A:=by
    have:∀a:Addr,a.add 0=a:=fun a=>by unfold Addr.add;simp
    cases A<;>simp[this]
  rw[hA] at hr;have D:(l.take n).length=n:=by rw[List.length_take];omega
  refine⟨_,hr,⟨A,c,by rw[D],by omega,h2,h0,fun j x hj=>h3 j x ?_⟩,fun x hx=> ?_,fun hp=> ?_⟩
  · rw[List.getElem?_take] at hj
    split at hj
    · exact hj
    cases hj
  · unfold sb at hx⊢
    split at hx
    · cases hx
    rename_i hne;rw[if_neg (fun e=>hne (by rw[e];simp))];cases A<;>exact hx
  have hl:0<l.length:=by omega
  obtain⟨ad,rfl,_⟩:=h3 0 l[0] (Aj hl);exact⟨ad,c,rfl⟩
theorem Z7j {w:AA}{v:AB}{l:List UInt8}{n:Nat}(hs:Sl w v l)(hn:n≤l.length):∃u,(∀W,(Instr.sliceAt 45 v (some (.int .i64 (n:Int))) none none).run Tryz.prog W=.ok u W)∧Sl w u (l.drop n)∧Sub u (l.drop n) (sb v l):=by
  obtain⟨A,c,rfl,h1,h2,h0,h3⟩:=hs
  have hr:∀W,(Instr.sliceAt 45 (.slice A l.length c) (some (.int .i64 (n:Int))) none none).run Tryz.prog W=.ok (.slice (if c=n then A else A.map (·.add n)) (l.length-n) (c-n)) W:=by
    intro W;have D:n≤c:=by omega
    have h1:=J6j;cases hq:Tryz.prog.info? 5 with
    |none=>simp[hq] at h1
    |some i=>
      have hs:i.size=1:=by simpa[hq] using h1
      simp[Instr.sliceAt,Instr.slice,Instr.sliceBounds,Instr.sliceBound,asIntOf,run_underlying Tryz.underlying45,Ah,sizeOf,typeInfo,hq,hs,hn]
  refine⟨_,hr,⟨_,c-n,by rw[AZ],by rw[AZ];omega,by omega,fun h=> ?_,fun j x hj=> ?_⟩,fun x hx=> ?_⟩
  · split at h
    · omega
    have:A=none:=by simpa using h
    have:=h0 this;omega
  · rw[List.getElem?_drop] at hj
    obtain⟨ad,rfl,hc⟩:=h3 _ _ hj;have hl:=(List.getElem?_eq_some_iff.1 hj).1;rw[if_neg (by omega)];refine⟨ad.add n,rfl,?_⟩
    have:(ad.add n).add j=ad.add (n+j):=by
      unfold Addr.add
      by_cases hi:n=0<;>by_cases hj:j=0<;>simp[hi,hj,Nat.add_assoc]
    rw[this];exact hc
  unfold sb at hx⊢
  split at hx
  · cases hx
  rename_i hne;rw[if_neg (fun e=>hne (by rw[e];simp))];have:c≠n:=fun e=>hne (List.drop_eq_nil_of_le (by omega));rw[if_neg this] at hx;cases A with
  |none=>cases hx
  |some ad=>simpa[AB.ownBlock,J55] using hx
section
variable {ops : Array AF} {Q : AG → Act → AA → Prop} {w : AA} {r : List AF} {o : AF} {a : Act} {E : Act → Prop}
end
theorem Q6b {w:AA}{v:AB}{l:List UInt8}(hs:Sl w v l)(hp:0<l.length):∃ad c,v=.slice (some ad) l.length c∧∀j x,l[j]?=some x→w.cell? (ad.add j)=some (.int .u8 (x.toNat:Int)):=by
  obtain⟨A,c,rfl,h1,h2,h0,h3⟩:=hs;obtain⟨ad,rfl,_⟩:=h3 0 l[0] (Aj hp);refine⟨ad,c,rfl,fun j x hj=> ?_⟩;obtain⟨D,e,hc⟩:=h3 j x hj;obtain rfl:=Af e;exact hc
theorem U0 {w W:AA}{ad:Addr}{v:AB}(h:w.cell? ad=some v)(hW:Ext w W):W.cell? ad=some v:=by
  rw[AA.cell?_of_block (w:=w) (hW.block _ (Q67 h))];exact h
theorem J9o {w:AA}{ad:Addr}{n c j:Nat}{l:List UInt8}{x:UInt8}(h:Sl w (.slice (some ad) n c) l)(hj:l[j]?=some x):w.cell? (ad.add j)=some (.int .u8 (x.toNat:Int)):=by
  obtain⟨A,cc,e,h1,h2,h0,h3⟩:=h;injection e with e1
  subst e1;obtain⟨D,e,hc⟩:=h3 j x hj;obtain rfl:=Af e;exact hc
section
variable {P : AD} {ops : Array AF} {w : AA} {E : Act → Prop} {l : List AF} {o : AF} {a : Act}
end
def bt (l:List UInt8)(j:Nat):Int:=((l.getD j 0).toNat:Int)
theorem J1h {l:List UInt8}{j:Nat}(h:j<l.length):l[j]?=some (l.getD j 0):=by
  rw[List.getD_eq_getElem?_getD,Aj h];rfl
theorem Q2b (l:List UInt8)(j:Nat):0≤bt l j∧bt l j≤255:=by
  have:=(l.getD j 0).toNat_lt;unfold bt;omega
end

section

section
variable {w : AA} {o : AF} {a : Act} {x y : AW}
theorem Z52 {P:AD}{t e:AE}{k:AI}{m b off j:Nat}(hm:1<m)(hj:j<m)(ht:P.underlying t=some (.array m e))(he:(P.info? e).map (·.size)=some 1)(ho:o.op=.indexAddr t x y)(hx:a.eval x=.pointer (some ⟨b,off,none⟩))(hy:a.eval y=.int k (j:Int)):
    (AV a.eval o).run P w=.ok (.value (.pointer (some ⟨b,off+j,none⟩))) w:=by
  cases hq:P.info? e with
  |none=>simp[hq] at he
  |some i=>
    have hs:i.size=1:=by simpa[hq] using he
    simp[AV,ho,hx,hy,Instr.indexAt,asIntOf,Instr.sureAddr,run_underlying ht,Ah,sizeOf,typeInfo,hq,hs,hj,Addr.add_mid]
theorem X3 {P:Program}{t e:TypeId}{k:IntKind}{m b off j:Nat}(ht:P.underlying t=some (.array m e))(hj:j<m)(hm:1<m:=by decide)(he:(P.info? e).map (·.size)=some 1:=by kernel_rfl)(ho:o.op=.indexAddr t x y:=by exact rfl)(hx:a.eval x=.pointer (some ⟨b,off,none⟩):=by exact rfl)(hy:a.eval y=.int k (j:Int):=by exact rfl):
    (execOp a.eval o).run P w=.ok (.value (.pointer (some ⟨b,off+j,none⟩))) w:=Z52 hm hj ht he ho hx hy
end
theorem J3l {a b:Array AB}{i:Nat}{v:AB}(h:a[i]?=some v):(a++b)[i]?=some v:=by
  have hi:=(Array.getElem?_eq_some_iff.1 h).1;rw[Array.getElem?_append_left hi];exact h
theorem J6x {a b:Array AB}{n i:Nat}{v:AB}(hn:a.size=n)(h:b[i]?=some v):(a++b)[n+i]?=some v:=by
  rw[Array.getElem?_append_right (by omega),←hn,Nat.add_sub_cancel_left];exact h
section
variable {P : AD} {ops : Array AF} {w : AA} {l : List AF} {o : AF} {a : Act} {E : Act → Prop} {Q : AG → Act → AA → Prop}
theorem J0s {ρ:AW→AB}{o:AF}{t t2:AE}{x y:AW}{xs ys:Array AB}{b:Bool}{W:AA}(hv:(Op.equalIn 10000 t (.agg xs) (.agg ys)).run P W=.ok b W)(hg:P.eqGuardType P.depth t=false)
    (ho:o.op=.binOp .neq t x y t2) (hx:ρ x=.agg xs) (hy:ρ y=.agg ys):(AV ρ o).run P W=.ok (.value (.bool (!b))) W:=by
  have h:=run_neq_struct (P:=P) W t xs ys;rw[hv] at h;simp[AV,ho,hx,hy,eqGuard,hg,h,Ah]
end

/-! ### Short forms -/
section
variable {P : AD} {ops : Array AF} {Q : AG → Act → AA → Prop} {w : AA} {l : List AF} {o : AF} {a a' : Act} {E : Act → Prop}
theorem Ln {z:Array Value}{t:TypeId}{a' :Nat→Act}(h:∀(b:Nat) (W:World),w.heap.size≤b→Off [] w W→Blk W b z t→wpList P ops Q l (a' b) W)(hw:Region.wanted o (yielded ops a.tmps)=true:=by exact rfl)
    (hr:(execOp a.eval o).run P w=.ok (.value (.pointer (some ⟨w.heap.size,0,none⟩))) (w.alloc (.cells z t)):=by first|kernel_rfl|(go_simp;done)|(go_simp;rfl))
    (hp:∀b,a.put o.dst (.pointer (some ⟨b,0,none⟩))=a' b:=by intro b;first|exact pl (by dsimp only[mB,mC];first|done|exact rfl)|exact pn|exact rfl):wpList P ops Q (o::l) a w:=
  Z2d hw hr fun b W h1 h2 h3=>by rw[hp];exact h b W h1 h2 h3
theorem Lp {ty t:TypeId}{x y:Operand}{g:Nat}{cells old:Array Value}(h:∀W,Off [g] w W→Blk W g cells t→wpList P ops Q l a' W)(hB:Blk w g old t)(hw:Region.wanted o (yielded ops a.tmps)=true:=by exact rfl)(ho:o.op=.store ty x y:=by exact rfl)(hx:a.eval x=.pointer (some ⟨g,0,none⟩):=by exact rfl)(hy:a.eval y=.agg cells:=by exact rfl)
    (hi:(P.info? ty).map (·.size)=some cells.size:=by kernel_rfl) (hs:old.size=cells.size:=by kernel_rfl) (h1:cells.all (·.oneCell')=true:=by kernel_rfl) (hp:a.put o.dst undef=a' :=by first|exact pl (by dsimp only[mB,mC];first|done|exact rfl)|exact pn|exact rfl):wpList P ops Q (o::l) a w:=by
  subst hp;exact Q2u hw ho hx hy hB hi hs h1 h
theorem Lg {b j:Nat}{cs:Array Value}{t ty:TypeId}{v:Value}{x:Operand}(h:wpList P ops Q l a' w)(hB:Blk w b cs t)(hw:Region.wanted o (yielded ops a.tmps)=true:=by exact rfl)(ho:o.op=.load ty x:=by exact rfl)(hx:a.eval x=.pointer (some ⟨b,j,none⟩):=by exact rfl)
    (hj:cs[j]?=some v:=by rfl) (hk:(P.underlying ty).map TypeDesc.isRow=some false:=by as_aux_lemma=>kernel_rfl) (hp:a.put o.dst v=a' :=by first|exact pl (by dsimp only[mB,mC];first|done|exact rfl)|exact pn|exact rfl):wpList P ops Q (o::l) a w:=by
  subst hp;exact Y2e hw ho hx hB hj hk h
theorem L0 {b:Nat}{cs:Array Value}{t ty:TypeId}{x:Operand}(h:wpList P ops Q l a' w)(hB:Blk w b cs t)(hw:Region.wanted o (yielded ops a.tmps)=true:=by exact rfl)(ho:o.op=.load ty x:=by exact rfl)(hx:a.eval x=.pointer (some ⟨b,0,none⟩):=by exact rfl)
    (hk:(P.underlying ty).map TypeDesc.isRow=some true:=by as_aux_lemma=>kernel_rfl) (hi:(P.info? ty).map (·.size)=some cs.size:=by kernel_rfl) (hp:a.put o.dst (.agg cs)=a' :=by first|exact pl (by dsimp only[mB,mC];first|done|exact rfl)|exact pn|exact rfl):wpList P ops Q (o::l) a w:=by
  subst hp;exact Z4w hw ho hx hB hk hi h
theorem L0A {b:Nat}{cs:Array Value}{t ty:TypeId}{x:Operand}(h:wpList P ops Q l a' w)(hB:Blk w b cs t)(hw:Region.wanted o (yielded ops a.tmps)=true:=by exact rfl)(ho:o.op=.load ty x:=by exact rfl)(hx:a.eval x=.pointer (some ⟨b,0,none⟩):=by exact rfl)
    (hk:(P.underlying ty).map TypeDesc.isRow=some true:=by as_aux_lemma=>kernel_rfl) (hi:(P.info? ty).map (·.size)=some cs.size:=by rw[J1];kernel_rfl) (hp:a.put o.dst (.agg cs)=a' :=by first|exact pl (by dsimp only[mB,mC];first|done|exact rfl)|exact pn|exact rfl):wpList P ops Q (o::l) a w:=
  L0 h hB hw ho hx hk hi hp
theorem Lr {f:FuncId}{xl:List Operand}{ts:Array TypeId}{args:Array Value}{v:Value}(h:∀W,Off [] w W→wpList P ops Q l a' W)(hc:Calls P f args w fun e W=>V4 v w W e)(hw:Region.wanted o (yielded ops a.tmps)=true:=by exact rfl)
    (ho:o.op=.call {callee:=.value (.func f),args:=xl.toArray,argTypes:=ts}:=by with_reducible rfl) (hg:Q2r P f=true:=by as_aux_lemma=>kernel_rfl) (ha:(xl.map a.eval).toArray=args:=by exact rfl) (hp:a.put o.dst v=a' :=by first|exact pl (by dsimp only[mB,mC];first|done|exact rfl)|exact pn|exact rfl):wpList P ops Q (o::l) a w:=by
  subst hp;exact Z2e hc hw ho hg ha h
end
theorem bwo {B g:Nat}{w W1 W2 W3:AA}(h:Below B w W1)(e:Ext W1 W2)(q:Off [g] W2 W3)(hB:B≤W1.heap.size)(hg:B≤g):Below B w W3:=Off.below (K5 h e hB) q (Ae hB e.size) (fun x hx=>by rw[Ai.1 hx];exact hg)
theorem ko {b g:Nat}{cs:Array AB}{t:AE}{W1 W2 W3:AA}(h:Blk W1 b cs t)(e:Ext W1 W2)(q:Off [g] W2 W3)(hb:b≠g):Blk W3 b cs t:=Q1v (J3 h e) q (nm1 hb)
theorem fbn {F:List Nat}{w W:AA}{e:Nat}(h:Off F w W)(n:W.heap.size≤e):Fb e w.heap.size F:=Y8o (Ae h.size n)
end

section
section
variable {P : AD} {w : AA} {o : AF} {a : Act} {x y : AW} {t t' : AE} {i m : Nat}
theorem Q89 (hm:0<m)(hi:i<9223372036854775808)(ho:o.op=.binOp .quo t x y t')(hx:a.eval x=.int .i64 (i:Int))(hy:a.eval y=.int .i64 (m:Int)):(AV a.eval o).run P w=.ok (.value (.int .i64 ((i / m:Nat):Int))) w:=by
  have h0:¬m=0:=by omega
  have h1:=IntWalk.i64_quo (i:Int) (m:Int) (by omega);rw[Int.tdiv_eq_ediv_of_nonneg (by omega)] at h1;simp only[AV,ho,hx,hy,eqGuard,binOp,Ah];simp[Op.intDiv,h0,h1,go_sem,Ah]
theorem Q2x (hm:0<m)(hi:i<9223372036854775808)(ho:o.op=.binOp .rem t x y t')(hx:a.eval x=.int .i64 (i:Int))(hy:a.eval y=.int .i64 (m:Int)):(AV a.eval o).run P w=.ok (.value (.int .i64 ((i % m:Nat):Int))) w:=by
  have h0:¬m=0:=by omega
  have h1:(i:Int).tmod (m:Int)=((i % m:Nat):Int):=by rw[Int.tmod_eq_emod_of_nonneg (by omega)];rfl
  have G:=Nat.mod_lt i hm;have D:=Nat.mod_le i m;have h2:AI.i64.wrap ((i % m:Nat):Int)=((i % m:Nat):Int):=IntWalk.i64_in _ (by omega);simp only[AV,ho,hx,hy,eqGuard,binOp,Ah];simp only[Op.intDiv];simp[h0,h1,h2,go_sem,Ah]
theorem Z7k {p q:Nat}(hq:0<q)(hp:p<256)(ho:o.op=.binOp .rem t x y t')(hx:a.eval x=.int .u8 (p:Int))(hy:a.eval y=.int .u8 (q:Int)):(AV a.eval o).run P w=.ok (.value (.int .u8 ((p % q:Nat):Int))) w:=by
  have h0:¬q=0:=by omega
  have h1:(p:Int).tmod (q:Int)=((p % q:Nat):Int):=by rw[Int.tmod_eq_emod_of_nonneg (by omega)];rfl
  have D:=Nat.mod_le p q;have h2:AI.u8.wrap ((p % q:Nat):Int)=((p % q:Nat):Int):=IntWalk.u8_in _ (by omega);simp only[AV,ho,hx,hy,eqGuard,binOp,Ah];simp only[Op.intDiv];simp[h0,h1,h2,go_sem,Ah]
end
theorem Q2y {P:AD}{w:AA}{o:AF}{a:Act}{x y:AW}{t t' :AE}{p:Int}{k:AI}{n:Nat}(hn:n≤8)(ho:o.op=.binOp .shr t x y t')(hx:a.eval x=.int .u8 p)(hy:a.eval y=.int k (n:Int)):(AV a.eval o).run P w=.ok (.value (.int .u8 (p / 2^n))) w:=by
  have h:min ((n:Int)).toNat AI.u8.bits=n:=by rw[Int.toNat_natCast];exact Nat.min_eq_left hn
  simp only[AV,ho,hx,hy,eqGuard,binOp,Ah];simp[Op.shift,h,go_sem,Ah]
end

section

def J5g (k:AI)(n:Nat)(f:Nat→Int):List AB:=(List.range n).map fun i=>AB.int k (f i)
theorem J5l (k:AI)(n:Nat)(f:Nat→Int):(J5g k n f).length=n:=by simp[J5g]
theorem J89 (k:AI)(n:Nat)(f:Nat→Int):J5g k (n+1) f=J5g k n f++[.int k (f n)]:=by simp[J5g,List.range_succ]
theorem Z7l (k:AI)(n:Nat)(f:Nat→Int)(i:Nat)(h:i<n):(J5g k n f)[i]?=some (.int k (f i)):=by simp[J5g,h]
def J9p (n:Nat)(f:Nat→Int):AB:=.string (strOfNums ((List.range n).map f))
theorem Z0f (n:Nat)(f g:Nat→Int)(h:∀i,i<n→f i=g i):J9p n f=J9p n g:=by
  unfold J9p;rw[List.map_congr_left (fun i hi=>h i (by simpa using hi))]
theorem J7h {P:AD}{w:AA}{base src e n:Nat}{v:AB}{f:Nat→Int}(hs:P.underlying src=some (.slice e))(he:P.underlying e=some (.int .u8))
    (hown:w.ownsRow base e 1 v n (J5g .u8 n f)):∀dst,P.underlying dst=some .string→(convert src dst v).run P w=.ok (J9p n f) w:=by
  intro dst hd;have h:=hown;obtain⟨_,⟨rfl,rfl⟩|⟨g,D,G,rfl,_,_,_,_,_,_⟩⟩:=h
  · exact run_convert_bytes_nil w src e hs he _ _ dst hd
  refine run_convert_bytes_arg w src e hs he g 0 n D ((List.range n).map f) (by simp) (fun i hi=> ?_) dst hd;rw[AP,hown.cellAt i (by omega),Z7l _ _ _ _ hi];simp[List.getD,hi]
theorem Q8a:(Tryz.prog.info? 5).map (fun i=>(i.zero,i.size,i.bytes))=some (some (.int .u8 0),1,1):=by kernel_rfl
theorem Q56 {B:Nat}{w w' :AA}{row:Option Nat}{a:AA}(h:Below B a w)(hg:w.grownBy w' row)(hB:B≤w.heap.size)(hr:∀k,row=some k→B≤k):Below B a w' :=h.grown hg hB hr
theorem Q57 {w w' :AA}{b:Nat}{cs:Array AB}{t:AE}{row:Option Nat}(h:Blk w b cs t)(hg:w.grownBy w' row)(hr:∀k,row=some k→b<k):Blk w' b cs t:=by
  refine Q4s h ((Below.refl (b+1) w).grown hg (Q3 h) (fun k hk=>hr k hk)) (by omega)

theorem Q2z (bs:Nat→Int)(h:∀j,J4v (bs j)):∀n j,j<n→J6 (J0t bs n) j=bs j
  |0,j,hj=>by omega
  |n+1,j,hj=>by
    have hl:=J5j bs h n;obtain⟨b0,b1⟩:=h n;show J6 (J0t bs n+(bs n).toNat*2^(8*n)) j=_
    by_cases he:j=n
    · subst he
      unfold J6;rw[Nat.add_mul_div_right _ _ (AQ _),Nat.div_eq_of_lt hl];omega
    · rw[←Q2z bs h n j (by omega)]
      unfold J6;obtain⟨d,rfl⟩:∃d,n=j+1+d:=⟨n-j-1,by omega⟩
      rw[show 8*(j+1+d)=8*j+(8+8*d) by omega,Nat.pow_add 2 (8*j),Nat.mul_left_comm,Nat.add_mul_div_left _ _ (AQ _),Nat.pow_add 2 8,Nat.mul_left_comm,show(2:Nat)^8=256 by decide,Nat.add_mul_mod_self_left]

theorem J4y (n:Nat)(f:Nat→Int):(strOfNums ((List.range n).map f)).size=n:=by rw[strOfNums_size];simp
theorem Q30 {P:AD}(t:AE)(ht:P.underlying t=some .string)(n:Nat)(f:Nat→Int)(hf:∀j,j<n→J4v (f j))(i:Nat)(hi:i<n)(w:AA):
    (Instr.index t (.string (strOfNums ((List.range n).map f))) (.int .i64 (i:Int))).run P w=.ok (.int .u8 (f i)) w:=by
  have hb:=hf i hi;have hs:=J4y n f;have D:i<(strOfNums ((List.range n).map f)).size:=by omega
  have hg : ((strOfNums ((List.range n).map f))[i]'D).toNat = (f i).toNat := by
    show (((strOfNums ((List.range n).map f)).data[i]'D)).toNat = _;simp only[strOfNums,List.map_map,List.getElem_toArray,List.getElem_map,List.getElem_range,Function.comp];obtain⟨h0,h1⟩:=hb;have:(f i).toNat<256:=by omega
    simp[UInt8.toNat_ofNat',Nat.mod_eq_of_lt this]
  have G:((f i).toNat:Int)=f i:=Int.toNat_of_nonneg hb.1;simp[Instr.index,asIntOf,run_underlying ht,hs,hi,D,hg,G]

end
end Go.Proofs.YtdjacgmmidbieaaGreatDoor

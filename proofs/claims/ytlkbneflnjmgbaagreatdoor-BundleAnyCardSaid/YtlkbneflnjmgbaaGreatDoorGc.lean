/- Contracts and plain laws for bundleAny_holds. Conditions: the tables hold their numbers. -/
import Derived.Test.YtlkbneflnjmgbaaGreatDoorGb
import Derived.Deep.AppendLies
import Derived.Deep.Draws
open Go.RowKit
set_option linter.unusedSimpArgs false
set_option linter.unusedVariables false
namespace Go.Proofs.YtlkbneflnjmgbaaGreatDoor
section

structure Off (F:List Nat)(w w' :World):Prop where
  os:w'.os=w.os
  tape:w'.tape=w.tape
  output:w'.output=w.output
  size:w.heap.size≤w'.heap.size
  block:∀k,k<w.heap.size→k∉F→w'.heap[k]?=w.heap[k]?
theorem Off.refl (F:List Nat)(w:World):Off F w w:=⟨rfl,rfl,rfl,Nat.le_refl _,fun _ _ _=>rfl⟩
theorem Off.trans {F G H:List Nat}{a b c:World}(h:Off F a b)(k:Off G b c)(hF:∀x∈F,x∈H)(hG:∀x∈G,x<a.heap.size→x∈H):Off H a c:=
  ⟨k.os.trans h.os,k.tape.trans h.tape,k.output.trans h.output,Nat.le_trans h.size k.size,fun i hi hn=>
    (k.block i (Nat.lt_of_lt_of_le hi h.size) (fun hx=>hn (hG i hx hi))).trans (h.block i hi (fun hx=>hn (hF i hx)))⟩
theorem Off.mono {F H:List Nat}{a b:World}(h:Off F a b)(hF:∀x∈F,x<a.heap.size→x∈H):Off H a b:=
  ⟨h.os,h.tape,h.output,h.size,fun i hi hn=>h.block i hi fun hx=>hn (hF i hx hi)⟩
theorem J0b {w w' :World}(h:Ext w w'):Off [] w w' :=⟨h.os,h.tape,h.output,h.size,fun i hi _=>h.block i hi⟩
theorem Off.ext {w w' :World}(h:Off [] w w'):Ext w w' :=⟨h.os,h.tape,h.output,h.size,fun i hi=>h.block i hi (by simp)⟩
theorem J76 {F:List Nat}{w W:World}(_:Off F w W):∃X,X=W:=⟨W,rfl⟩
theorem Q24 (w:World)(o:Obj):Off [] w (w.alloc o):=J0b ((Below.refl _ _).alloc (Nat.le_refl _) _)
theorem J9q {w w' :World}{row:Option Nat}(h:w.grownBy w' row):Off row.toList w w' :=
  ⟨h.os,h.tape,h.output,h.size,fun i hi hn=>h.block i hi (fun e=>hn (by rw[←e];simp))⟩
theorem Off.below {F:List Nat}{B:Nat}{a w w' :World}(h:Below B a w)(k:Off F w w')(hB:B≤w.heap.size)(hF:∀x∈F,B≤x):Below B a w' :=
  h.trans ⟨k.os,k.tape,k.output,k.size,fun i hi=>k.block i (by omega) (fun hx=>by have:=hF i hx;omega)⟩
theorem J0j {F:List Nat}{w w' :World}{b:Nat}{cs:Array Value}{t:TypeId}(h:Blk w b cs t)(k:Off F w w')(hb:b∉F):Blk w' b cs t:=by
  unfold Blk at*;rw[k.block b (Q2 h) hb];exact h
theorem nm0 {b:Nat}:b∉([]:List Nat):=by simp
theorem nm1 {b p:Nat}(h:b≠p):b∉[p]:=by simp[h]
theorem nmo {b:Nat}{O:Option Nat}(h:O≠some b):b∉O.toList:=by
  cases O with
  |none=>simp
  |some g=>simp;exact fun e=>h (by rw[e])
theorem f0 {O:Option Nat}:∀x∈([]:List Nat),O≠some x:=by simp
theorem f1 {O:Option Nat}{b:Nat}(h:O≠some b):∀x∈[b],O≠some x:=by simpa using h
theorem fo {O R:Option Nat}(h:∀x,O=some x→R≠some x):∀x∈O.toList,R≠some x:=fun x hx=>h x (by
  cases O with
  |none=>simp at hx
  |some g=>simp at hx;rw[hx])
abbrev Fr (O:Option Nat)(n:Nat)(F:List Nat):Prop:=∀x,O=some x→x<n→x∈F
abbrev Fb (b n:Nat)(F:List Nat):Prop:=b<n→b∈F
theorem i0 {n:Nat}{F:List Nat}:∀x∈([]:List Nat),x<n→x∈F:=by simp
theorem i1 {n b:Nat}{F:List Nat}(h:Fb b n F):∀x∈[b],x<n→x∈F:=fun x hx=>by rw[List.mem_singleton.1 hx];exact h
theorem io {n:Nat}{O:Option Nat}{F:List Nat}(h:Fr O n F):∀x∈O.toList,x<n→x∈F:=fun x hx=>h x (by
  cases O with
  |none=>simp at hx
  |some g=>simp at hx;rw[hx])
theorem ic {n b:Nat}{F G:List Nat}(h:Fb b n F)(k:∀x∈G,x<n→x∈F):∀x∈b::G,x<n→x∈F:=by
  intro x hx;rcases List.mem_cons.1 hx with rfl|hx
  · exact h
  exact k x hx
theorem Off.step {F G:List Nat}{a b c:World}(h:Off F a b)(k:Off G b c)(hG:∀x∈G,x<a.heap.size→x∈F):Off F a c:=h.trans k (fun _ hx=>hx) hG
theorem Blk.o {w w' :World}{b:Nat}{cs:Array Value}{t:TypeId}(h:Blk w b cs t)(k:Off [] w w'):Blk w' b cs t:=J0j h k nm0
theorem Blk.p {w w' :World}{b p:Nat}{cs:Array Value}{t:TypeId}(h:Blk w b cs t)(k:Off [p] w w')(q:b≠p):Blk w' b cs t:=J0j h k (nm1 q)
theorem Off.o {F:List Nat}{a b c:World}(h:Off F a b)(k:Off [] b c):Off F a c:=h.step k i0
theorem Off.p {F:List Nat}{a b c:World}{p:Nat}(h:Off F a b)(k:Off [p] b c)(q:Fb p a.heap.size F):Off F a c:=h.step k (i1 q)
abbrev Of (R O:Option Nat)(n:Nat):Prop:=Fr R n O.toList
theorem Y11 {O R:Option Nat}{n:Nat}(h:R=O∨R=some n):Of R O n:=by
  intro x hx D;rcases h with h|h
  · rw[←h,hx];simp
  rw[hx] at h;have:=Option.some.inj h;omega
theorem Q7o {O:Option Nat}{x:Nat}(h:x∈O.toList):O=some x:=by
  cases O with
  |none=>simp at h
  |some g=>simp at h;rw[h]
theorem J0m {O R:Option Nat}{n b:Nat}(h:Of R O n)(hv:O≠some b)(hb:b<n):R≠some b:=fun e=>hv (Q7o (h b e hb))
theorem Q26 {O R S:Option Nat}{n:Nat}(h:Of R O n)(hv:∀x,O=some x→S≠some x)(hb:∀x,S=some x→x<n):∀x,R=some x→S≠some x:=
  fun x hx hs=>hv x (Q7o (h x hx (hb x hs))) hs
theorem Q0f {O:Option Nat}{n e:Nat}(h:∀x,O=some x→x<n)(he:n≤e):∀x,O=some x→some e≠some x:=fun x hx h2=>by have:=h x hx;have:=Option.some.inj h2;omega
theorem J3c {O:Option Nat}{n e:Nat}(h:∀x,O=some x→x<n)(he:n≤e):O≠some e:=fun h2=>by have:=h e h2;omega
theorem J0n {O R:Option Nat}{n m:Nat}{F:List Nat}(h:Of R O n)(hv:Fr O m F)(hm:m≤n):Fr R m F:=
  fun x hx D=>hv x (Q7o (h x hx (by omega))) D
theorem Q18 {n:Nat}{F:List Nat}:Fr none n F:=fun x hx=>by cases hx
theorem V3n {n e:Nat}{F:List Nat}(he:n≤e):Fr (some e) n F:=fun x hx D=>by have:=Option.some.inj hx;omega
theorem V3o {n e:Nat}{F:List Nat}(he:n≤e):Fb e n F:=fun h=>by omega
/-! ### Bytes -/
theorem J5u (a:Addr)(n:Nat):(a.add n).block=a.block:=by unfold Addr.add;split<;>rfl
theorem Q7p {w:World}{a:Addr}{v:Value}(h:w.cell? a=some v):a.block<w.heap.size:=World.block_lt_of_cell? w a h
def bs8 (l:List UInt8):List Value:=l.map fun c=> .int .u8 (c.toNat:Int)
theorem V7 (l:List UInt8):(bs8 l).length=l.length:=by simp[bs8]
theorem Q0g (l m:List UInt8):bs8 (l++m)=bs8 l++bs8 m:=by simp[bs8]
theorem Q19 (l:List UInt8):∀u∈bs8 l,u.oneCell' =true:=by
  intro u hu;simp only[bs8,List.mem_map] at hu;obtain⟨c,_,rfl⟩:=hu;rfl
theorem Q3e {l:List UInt8}{j:Nat}{x:UInt8}(h:l[j]?=some x):(bs8 l)[j]?=some (.int .u8 (x.toNat:Int)):=by simp[bs8,h]
def str (l:List UInt8):Value:=.string ⟨l.toArray⟩
def Sl (w:World)(v:Value)(l:List UInt8):Prop:=
  ∃A c,v=.slice A l.length c∧l.length≤c∧c≤maxLen∧(A=none→c=0)∧∀j x,l[j]?=some x→∃ad,A=some ad∧w.cell? (ad.add j)=some (.int .u8 (x.toNat:Int))
def Own (w:World)(v:Value)(l:List UInt8):Prop:=w.ownsRow 0 5 1 v l.length (bs8 l)
def sb (v:Value)(l:List UInt8):Option Nat:=if l=[] then none else v.ownBlock
theorem Sl.lt {w:World}{v:Value}{l:List UInt8}(h:Sl w v l):∀x,sb v l=some x→x<w.heap.size:=by
  intro x hx;obtain⟨A,c,rfl,h1,h2,h0,h3⟩:=h;unfold sb at hx
  split at hx
  · cases hx
  rename_i hl;cases l with
  |nil=>exact absurd rfl hl
  |cons y r=>
    obtain⟨ad,rfl,hc⟩:=h3 0 y rfl;have:=Q7p hc;rw[J5u] at this;obtain rfl:ad.block=x:=Option.some.inj hx;exact this
theorem Sl.off {F:List Nat}{w w' :World}{v:Value}{l:List UInt8}(h:Sl w v l)(k:Off F w w')(hF:∀b∈F,sb v l≠some b):Sl w' v l:=by
  obtain⟨A,c,rfl,h1,h2,h0,h3⟩:=h;refine⟨A,c,rfl,h1,h2,h0,fun j x hj=> ?_⟩;obtain⟨ad,rfl,hc⟩:=h3 j x hj;refine⟨ad,rfl,?_⟩;have hl:l≠[]:=fun e=>by subst e;simp at hj
  rw[World.cell?_of_block (w:=w) (k.block _ (Q7p hc) (fun hx=>hF _ hx (by unfold sb;rw[if_neg hl];simp[Value.ownBlock,J5u])))];exact hc
theorem Own.off {F:List Nat}{w w' :World}{v:Value}{l:List UInt8}(h:Own w v l)(k:Off F w w')(hF:∀b∈F,v.ownBlock≠some b):Own w' v l:=by
  obtain⟨h1,h2⟩:=h;refine⟨h1,h2.imp id ?_⟩;rintro⟨g,D,G,rfl,hb,hh,r⟩;exact⟨g,D,G,rfl,hb,by rw[k.block g (lt_of_block hh) (fun hx=>hF g hx rfl)];exact hh,r⟩
theorem Own.sl {w:World}{v:Value}{l:List UInt8}(h:Own w v l):Sl w v l:=by
  obtain⟨h1,h2⟩:=h;rcases h2 with⟨rfl,hn⟩|⟨g,D,G,rfl,_,hh,hc,hm,hs,ht⟩
  · exact⟨none,0,by rw[hn],by omega,by unfold maxLen;omega,fun _=>rfl,fun j x hj=>by
      have:=(List.getElem?_eq_some_iff.1 hj).1;omega⟩
  refine⟨some ⟨g,0,none⟩,D,rfl,hc,hm,(fun h=>by cases h),fun j x hj=>⟨_,rfl,?_⟩⟩;have hl:=(List.getElem?_eq_some_iff.1 hj).1;rw[Addr.add_mid,cell_of_row w g _ G _ _ hh,Nat.zero_add];have e:=Q3e hj;rw[←ht,List.getElem?_take_of_lt (by omega)] at e
  simpa using e
theorem Q1a (w:World):Own w (.slice none 0 0) []:=⟨rfl,.inl ⟨rfl,rfl⟩⟩
theorem Z9m (w:World):Sl w (.slice none 0 0) []:=(Q1a w).sl
theorem Own.lt {w:World}{v:Value}{l:List UInt8}(h:Own w v l):∀g,v.ownBlock=some g→g<w.heap.size:=by
  intro g hg;rcases h.2 with⟨rfl,_⟩|⟨g',D,G,rfl,_,hh,_⟩
  · cases hg
  obtain rfl:g' =g:=Option.some.inj hg;exact lt_of_block hh
theorem Own.ne_blk {w:World}{v:Value}{l:List UInt8}(h:Own w v l){b:Nat}{cs:Array Value}{t:TypeId}(hb:Blk w b cs t)(ht:t≠5):v.ownBlock≠some b:=by
  intro e;rcases h.2 with⟨rfl,_⟩|⟨g',D,G,rfl,_,hh,_⟩
  · cases e
  obtain rfl:g' =b:=Option.some.inj e;unfold Blk at hb;rw[hh] at hb;injection hb with hb
  injection hb with _ h2
  exact ht h2.symm
theorem Own.len {w:World}{v:Value}{l:List UInt8}(h:Own w v l):∃A c,v=.slice A l.length c∧l.length≤c:=by
  obtain⟨A,c,rfl,h1,_⟩:=h.sl;exact⟨A,c,rfl,h1⟩
theorem J1s {w:World}{g:Nat}{l:List UInt8}{cs:Array Value}(h:Blk w g cs 5)(hc:cs.toList=bs8 l)(hm:l.length≤maxLen):Own w (.slice (some ⟨g,0,none⟩) l.length l.length) l:=by
  have hs:cs.size=l.length:=by rw[←Array.length_toList,hc,V7]
  exact⟨by rw[V7,Nat.mul_one],.inr ⟨g,l.length,cs,rfl,Nat.zero_le _,h,Nat.le_refl _,hm,by rw[hs,Nat.mul_one],by rw[hc,List.take_of_length_le (by rw[V7];omega)]⟩⟩
theorem Z25 {w:World}{g o n c:Nat}{l:List UInt8}{cs:Array Value}{t:TypeId}(h:Blk w g cs t)(hn:n=l.length)(hc:n≤c)(hm:c≤maxLen)(hl:∀j x,l[j]?=some x→cs[o+j]?=some (.int .u8 (x.toNat:Int))):Sl w (.slice (some ⟨g,o,none⟩) n c) l:=by
  subst hn;exact⟨some ⟨g,o,none⟩,c,rfl,hc,hm,(fun h=>by cases h),fun j x hj=>⟨_,rfl,by rw[Addr.add_mid,J4 h];exact hl j x hj⟩⟩

/-! ### The operations -/
section
variable {P : Program} {ops : Array Oper} {Q : Exit → Act → World → Prop} {w : World} {l : List Oper} {o : Oper} {a : Act}
theorem J5i {v:Value}{W:World}(hw:Region.wanted o (yielded ops a.tmps)=true)(hr:(execOp a.eval o).run P w=.ok (.value v) W)(h:wpList P ops Q l (a.put o.dst v) W):wpList P ops Q (o::l) a w:=by
  unfold wpList;rw[if_pos hw];refine .inl ?_;unfold Oper.wp;rw[hr];exact h
theorem Q3f {z:Array Value}{t:TypeId}(hw:Region.wanted o (yielded ops a.tmps)=true)(hr:(execOp a.eval o).run P w=.ok (.value (.pointer (some ⟨w.heap.size,0,none⟩))) (w.alloc (.cells z t)))
    (h:∀(b:Nat)(W:World),w.heap.size≤b→Off [] w W→Blk W b z t→wpList P ops Q l (a.put o.dst (.pointer (some ⟨b,0,none⟩))) W):wpList P ops Q (o::l) a w:=by
  unfold wpList;rw[if_pos hw];refine .inl ?_;unfold Oper.wp;rw[hr];exact h _ _ (Nat.le_refl _) (Q24 _ _) (J0c _ _ rfl)
theorem Q4h {z:Array Value}{t:TypeId}{n c:Nat}(hw:Region.wanted o (yielded ops a.tmps)=true)(hr:(execOp a.eval o).run P w=.ok (.value (.slice (some ⟨w.heap.size,0,none⟩) n c)) (w.alloc (.cells z t)))
    (h:∀(b:Nat)(W:World),w.heap.size≤b→Off [] w W→Blk W b z t→wpList P ops Q l (a.put o.dst (.slice (some ⟨b,0,none⟩) n c)) W):wpList P ops Q (o::l) a w:=by
  unfold wpList;rw[if_pos hw];refine .inl ?_;unfold Oper.wp;rw[hr];exact h _ _ (Nat.le_refl _) (Q24 _ _) (J0c _ _ rfl)
theorem Q1b {w:World}{b off:Nat}{cs:Array Value}{t ty:TypeId}{y:Value}(hB:Blk w b cs t)(ho:off+y.cells.size≤cs.size)(hi:(P.info? ty).map (·.size)=some y.cells.size)(h1:y.cells.all (·.oneCell')=true):
    (Instr.storeAt ty (.pointer (some ⟨b,off,none⟩)) y).run P w=.ok () (w.setCells b off y.cells.toList):=by
  have ht:∀j,j<y.cells.size→(w.cell? ⟨b,off+j,none⟩).isSome=true∧w.frozen? ⟨b,off+j,none⟩=false:=fun j hj=>by
    rw[J4 hB,J06 hB];exact⟨by rw[Array.getElem?_eq_getElem (by omega)];rfl,rfl⟩
  have:=run_storeCells_cells (P:=P) b off y.cells.toList 0 w (fun j hj=>by simpa using(ht j (by simpa using hj)).1) (fun j hj=>by simpa using(ht j (by simpa using hj)).2)
    (fun v hv=>(Array.all_eq_true_iff_forall_mem.1 h1) v (by simpa using hv))
  cases hq:P.info? ty with
  |none=>simp[hq] at hi
  |some i=>
    have hs:y.cells.size=i.size:=by simp[hq] at hi;omega
    simp only[Nat.add_zero] at this;simp[Instr.storeAt,Instr.sureAddr,Sem.run_bind,storeVar,sizeOf,typeInfo,hq,hs,this]
def spl (cs:Array Value):Nat→List Value→Array Value
  |_,[]=>cs
  |i,v::r=>spl (cs.setIfInBounds i v) (i+1) r
theorem Q1c {b:Nat}{t:TypeId}:∀(vs:List Value) (i:Nat) (cs:Array Value) (w:World),Blk w b cs t→Blk (w.setCells b i vs) b (spl cs i vs) t∧Off [b] w (w.setCells b i vs)
  |[],_,_,w,h=>⟨h,Off.refl _ _⟩
  |v::r,i,cs,w,h=>by
    have h1:=J25 h i v;obtain⟨h2,h3⟩:=Q1c r (i+1) _ _ h1;have h0:Off [b] w (w.setCell ⟨b,i,none⟩ v):=⟨rfl,rfl,rfl,by simp[World.setCell],fun k _ hk=>Below.heap_setCell w ⟨b,i,none⟩ v k (by simpa using hk)⟩
    rw[World.setCells];exact⟨h2,h0.trans h3 (fun _ hx=>hx) (fun _ hx _=>hx)⟩
theorem Z4r {ty t:TypeId}{x y:Operand}{b off:Nat}{cs:Array Value}{v:Value}(hw:Region.wanted o (yielded ops a.tmps)=true)(ho:o.op=.store ty x y)(hx:a.eval x=.pointer (some ⟨b,off,none⟩))(hy:a.eval y=v)
    (hB:Blk w b cs t) (hs:off+v.cells.size≤cs.size) (hi:(P.info? ty).map (·.size)=some v.cells.size) (h1:v.cells.all (·.oneCell')=true)
    (h:∀W,Off [b] w W→Blk W b (spl cs off v.cells.toList) t→wpList P ops Q l (a.put o.dst undef) W):wpList P ops Q (o::l) a w:=by
  unfold wpList;rw[if_pos hw];refine .inl ?_;unfold Oper.wp
  have hr:(execOp a.eval o).run P w=.ok .skip (w.setCells b off v.cells.toList):=by
    simp[execOp,ho,hx,hy,Sem.run_bind,Q1b hB hs hi h1]
  rw[hr];obtain⟨h2,h3⟩:=Q1c v.cells.toList off cs w hB;exact h _ h3 h2
theorem J5v {ty t:TypeId}{x y:Operand}{g:Nat}{cells old:Array Value}(hw:Region.wanted o (yielded ops a.tmps)=true)(ho:o.op=.store ty x y)(hx:a.eval x=.pointer (some ⟨g,0,none⟩))(hy:a.eval y=.agg cells)
    (hB:Blk w g old t) (hi:(P.info? ty).map (·.size)=some cells.size) (hs:old.size=cells.size) (h1:cells.all (·.oneCell')=true)
    (h:∀W,Off [g] w W→Blk W g cells t→wpList P ops Q l (a.put o.dst undef) W):wpList P ops Q (o::l) a w:=
  Q6g hw ho hx hy hB hi hs h1 (h _ ⟨rfl,rfl,rfl,by simp,fun k _ hk=>setRow_other w g k cells (by simpa using hk)⟩ (V9 hB cells))
theorem J77 {w:World}{v:Value}{l:List UInt8}(h:Own w v l):v.cells= #[v]∧v.oneCell' =true:=by
  obtain⟨A,c,rfl,_⟩:=h.len;exact⟨rfl,rfl⟩
theorem Q1 {w:World}{v:Value}{l:List UInt8}(h:Sl w v l):v.cells= #[v]∧v.oneCell' =true:=by
  obtain⟨A,c,rfl,_⟩:=h;exact⟨rfl,rfl⟩
theorem J1k {ty t:TypeId}{x y:Operand}{b off:Nat}{cs:Array Value}{v:Value}(hv:v.cells= #[v]∧v.oneCell' =true)(hw:Region.wanted o (yielded ops a.tmps)=true)(ho:o.op=.store ty x y)(hx:a.eval x=.pointer (some ⟨b,off,none⟩))(hy:a.eval y=v)
    (hB:Blk w b cs t) (hs:off<cs.size) (hi:(P.info? ty).map (·.size)=some 1)
    (h:∀W,Off [b] w W→Blk W b (cs.setIfInBounds off v) t→wpList P ops Q l (a.put o.dst undef) W):wpList P ops Q (o::l) a w:=by
  refine Z4r (v:=v) hw ho hx hy hB (by rw[hv.1];exact hs) (by rw[hv.1];exact hi) (by rw[hv.1];simp[hv.2]) fun W hO D=>h W hO ?_;rw[hv.1] at D;exact D
theorem Y77 {b j:Nat}{cs:Array Value}{t ty:TypeId}{v:Value}{x:Operand}(hw:Region.wanted o (yielded ops a.tmps)=true)(ho:o.op=.load ty x)(hx:a.eval x=.pointer (some ⟨b,j,none⟩))
    (hB:Blk w b cs t) (hj:cs[j]?=some v) (hk:(P.underlying ty).map TypeDesc.isRow=some false) (h:wpList P ops Q l (a.put o.dst v) w):wpList P ops Q (o::l) a w:=by
  refine J1r hw ?_ h;have hc:w.cell? ⟨b,j,none⟩=some v:=by rw[J4 hB];exact hj
  cases hu:P.underlying ty with
  |none=>simp[hu] at hk
  |some d=>
    have hd:d.isRow=false:=by simpa[hu] using hk
    unfold execOp;simp only[ho,hx];cases d<;>simp_all [Instr.loadAt,Instr.sureAddr,Sem.run_bind,Sem.run_pure,Result.andThen_ok,run_underlying hu,TypeDesc.isRow]
    all_goals simp[loadVar,isAgg,Sem.run_bind,Sem.run_pure,Result.andThen_ok,run_underlying hu,TypeDesc.isRow,hc]
theorem J6s {ad:Addr}{ty:TypeId}{v:Value}{x:Operand}(hw:Region.wanted o (yielded ops a.tmps)=true)(ho:o.op=.load ty x)(hx:a.eval x=.pointer (some ad))
    (hc:w.cell? ad=some v) (hk:(P.underlying ty).map TypeDesc.isRow=some false) (h:wpList P ops Q l (a.put o.dst v) w):wpList P ops Q (o::l) a w:=by
  refine J1r hw ?_ h;cases hu:P.underlying ty with
  |none=>simp[hu] at hk
  |some d=>
    have hd:d.isRow=false:=by simpa[hu] using hk
    unfold execOp;simp only[ho,hx];cases d<;>simp_all [Instr.loadAt,Instr.sureAddr,Sem.run_bind,Sem.run_pure,Result.andThen_ok,run_underlying hu,TypeDesc.isRow]
    all_goals simp[loadVar,isAgg,Sem.run_bind,Sem.run_pure,Result.andThen_ok,run_underlying hu,TypeDesc.isRow,hc]
theorem Z7a {b:Nat}{cs:Array Value}{t ty:TypeId}{x:Operand}(hw:Region.wanted o (yielded ops a.tmps)=true)(ho:o.op=.load ty x)(hx:a.eval x=.pointer (some ⟨b,0,none⟩))
    (hB:Blk w b cs t) (hk:(P.underlying ty).map TypeDesc.isRow=some true) (hi:(P.info? ty).map (·.size)=some cs.size) (h:wpList P ops Q l (a.put o.dst (.agg cs)) w):wpList P ops Q (o::l) a w:=by
  refine J1r hw ?_ h;cases hu:P.underlying ty with
  |none=>simp[hu] at hk
  |some d=>
    have hd:d.isRow=true:=by simpa[hu] using hk
    have:=run_loadAt_mid (P:=P) w b 0 ty cs.toList d (fun i v hv=>by rw[J4 hB,Nat.zero_add];simpa using hv) hu (by cases d<;>simp_all [TypeDesc.isRow]) (by simpa using hi);simp[execOp,ho,hx,Sem.run_bind,this]
theorem Z4s {b:Nat}{cs:Array Value}{ty:TypeId}{x:Operand}(hw:Region.wanted o (yielded ops a.tmps)=true)(ho:o.op=.load ty x)(hx:a.eval x=.pointer (some ⟨b,0,none⟩))
    (hB:Rd w b cs) (hk:(P.underlying ty).map TypeDesc.isRow=some true) (hi:(P.info? ty).map (·.size)=some cs.size) (h:wpList P ops Q l (a.put o.dst (.agg cs)) w):wpList P ops Q (o::l) a w:=by
  refine J1r hw ?_ h;cases hu:P.underlying ty with
  |none=>simp[hu] at hk
  |some d=>
    have hd:d.isRow=true:=by simpa[hu] using hk
    have:=run_loadAt_mid (P:=P) w b 0 ty cs.toList d (fun i v hv=>by rw[Nat.zero_add];exact hB.1 i v (by simpa using hv)) hu (by cases d<;>simp_all [TypeDesc.isRow]) (by simpa using hi);simp[execOp,ho,hx,Sem.run_bind,this]
theorem J78 {b j:Nat}{cs:Array Value}{t ty:TypeId}{vs:List Value}{x:Operand}(hw:Region.wanted o (yielded ops a.tmps)=true)(ho:o.op=.load ty x)(hx:a.eval x=.pointer (some ⟨b,j,none⟩))
    (hB:Blk w b cs t) (hj:∀i v,vs[i]?=some v→cs[j+i]?=some v) (hk:(P.underlying ty).map TypeDesc.isRow=some true) (hi:(P.info? ty).map (·.size)=some vs.length)
    (h:wpList P ops Q l (a.put o.dst (.agg vs.toArray)) w):wpList P ops Q (o::l) a w:=by
  refine J1r hw ?_ h;cases hu:P.underlying ty with
  |none=>simp[hu] at hk
  |some d=>
    have hd:d.isRow=true:=by simpa[hu] using hk
    have:=run_loadAt_mid (P:=P) w b j ty vs d (fun i v hv=>by rw[J4 hB];exact hj i v hv) hu (by cases d<;>simp_all [TypeDesc.isRow]) hi;simp[execOp,ho,hx,Sem.run_bind,this]
theorem J3y {f:FuncId}{xl:List Operand}{ts:Array TypeId}{args:Array Value}{R:Value→World→Prop}(hc:Calls P f args w fun e W=> ∃v,e=.returned v∧R v W)(hw:Region.wanted o (yielded ops a.tmps)=true)
    (ho:o.op=.call {callee:=.value (.func f),args:=xl.toArray,argTypes:=ts}) (hg:Q4d P f=true) (ha:(xl.map a.eval).toArray=args)
    (h:∀v W,R v W→wpList P ops Q l (a.put o.dst v) W):wpList P ops Q (o::l) a w:=by
  unfold wpList;rw[if_pos hw];refine .inl ?_;unfold Oper.wp;rw[Q0e ho rfl hg w,ha];exact hc.mono fun e W ⟨v,he,hR⟩=>by subst he;exact h v W hR
theorem Q6h {f:FuncId}{xl:List Operand}{ts:Array TypeId}{args:Array Value}{v:Value}{R:World→Prop}(hc:Calls P f args w fun e W=>e=.returned v∧R W)(hw:Region.wanted o (yielded ops a.tmps)=true)
    (ho:o.op=.call {callee:=.value (.func f),args:=xl.toArray,argTypes:=ts}) (hg:Q4d P f=true) (ha:(xl.map a.eval).toArray=args)
    (h:∀W,R W→wpList P ops Q l (a.put o.dst v) W):wpList P ops Q (o::l) a w:=by
  unfold wpList;rw[if_pos hw];refine .inl ?_;unfold Oper.wp;rw[Q0e ho rfl hg w,ha];exact hc.mono fun e W ⟨he,hR⟩=>by subst he;exact h W hR
theorem Z4t {f:FuncId}{xl:List Operand}{ts:Array TypeId}{args:Array Value}{v:Value}(hc:Calls P f args w fun e W=>Ret v w W e)(hw:Region.wanted o (yielded ops a.tmps)=true)
    (ho:o.op=.call {callee:=.value (.func f),args:=xl.toArray,argTypes:=ts}) (hg:Q4d P f=true) (ha:(xl.map a.eval).toArray=args)
    (h:∀W,Off [] w W→wpList P ops Q l (a.put o.dst v) W):wpList P ops Q (o::l) a w:=
  Q6h hc hw ho hg ha fun W hW=>h W (J0b hW)
end
theorem J7t:(Tryz.prog.info? 5).map (fun i=>(i.zero,i.size,i.bytes))=some (some (.int .u8 0),1,1):=by kernel_rfl
theorem Q27 (w:World)(ty:TypeId){v u:Value}{l m:List UInt8}(hown:Own w v l)(hs:Sl w u m)(hlen:l.length+m.length≤140737488355328):
    ∃v' W,(Builtin.append_ #[35,35] ty #[v,u]).run Tryz.prog w=.ok v' W∧Own W v' (l++m)∧Off v.ownBlock.toList w W∧(v'.ownBlock=v.ownBlock∨v'.ownBlock=some w.heap.size)∧(v' =.slice none 0 0↔v=.slice none 0 0∧m=[]):=by
  obtain⟨i,hi,hz,R,J⟩:=info_parts J7t;obtain⟨A,c,rfl,hc,hm,_,D⟩:=hs;rcases A with _|ad
  · have:m=[]:=by
      cases m with
      |nil=>rfl
      |cons x r=>obtain⟨ad,h,_⟩:=D 0 x rfl;cases h
    subst this;refine⟨v,w,?_,by rw[List.append_nil];exact hown,Off.refl _ _,.inl rfl,by simp⟩;rcases hown.2 with⟨rfl,_⟩|⟨g,S,T,rfl,_,_,M,_⟩
    · simp[Builtin.append_,run_underlying Tryz.underlying35,sizeOf,typeInfo,hi,Builtin.lenOf,Builtin.firstCells]
    simp[Builtin.append_,run_underlying Tryz.underlying35,sizeOf,typeInfo,hi,Builtin.lenOf,Builtin.firstCells,M,storeCells]
  obtain⟨v',W,G,h2,h3,h4,h5⟩:=run_append_own_at (P:=Tryz.prog) w 0 35 ty 5 i (.int .u8 0) 1 1 Tryz.underlying35 hi hz R J rfl (by omega) v l.length (bs8 l) hown ad m.length c (bs8 m)
    (by rw[V7,Nat.mul_one]) (fun j u hu=>by
      simp only[bs8,List.getElem?_map,Option.map_eq_some_iff] at hu;obtain⟨x,hx,rfl⟩:=hu;obtain⟨U,h,N⟩:=D j x hx;obtain rfl:=Option.some.inj h
      exact N) (Q19 m) (by unfold maxLen;omega) (by omega) (Nat.zero_le _)
  refine⟨v',W,G,?_,J9q h3,h5,?_⟩
  · unfold Own;rw[List.length_append,Q0g];exact h2
  rw[h4];simp
theorem J00 {ops:Array Oper}{Q:Exit→Act→World→Prop}{w:World}{l:List Oper}{o:Oper}{a:Act}{s x:Operand}{v u:Value}{xs ys:List UInt8}(hw:Region.wanted o (yielded ops a.tmps)=true)
    (ho:o.op=.call {callee:=.builtin .append,args:= #[s,x],argTypes:= #[35,35]}) (hs:a.eval s=v) (hx:a.eval x=u) (hown:Own w v xs) (hsl:Sl w u ys) (hlen:xs.length+ys.length≤140737488355328)
    (h:∀v' W,Own W v' (xs++ys)→Off v.ownBlock.toList w W→Of v'.ownBlock v.ownBlock w.heap.size→(v' =.slice none 0 0↔v=.slice none 0 0∧ys=[])→wpList Tryz.prog ops Q l (a.put o.dst v') W):wpList Tryz.prog ops Q (o::l) a w:=by
  obtain⟨v',W,D,h1,h2,h3,h4⟩:=Q27 w o.type hown hsl hlen;refine J5i hw (v:=v') (W:=W) ?_ (h v' W h1 h2 (Y11 h3) h4);unfold execOp;simp only[ho,resolve,invoke,builtin,Sem.run_bind,Sem.run_pure,Result.andThen_ok,List.map_toArray,List.map_cons,List.map_nil,hs,hx,D]
end

section

theorem V8k (l m:List UInt8):((⟨l.toArray⟩:ByteArray)==⟨m.toArray⟩)=decide (l=m):=by
  have h:((⟨l.toArray⟩:ByteArray)==⟨m.toArray⟩)=(l.toArray==m.toArray):=rfl;rw[h,Bool.eq_iff_iff,beq_iff_eq,decide_eq_true_iff];exact⟨fun h=>by simpa using h,fun h=>by rw[h]⟩
theorem Z4u (l:List UInt8):(⟨l.toArray⟩:ByteArray).size=l.length:=by simp[ByteArray.size]
theorem Z4v {w:World}{v:Value}{l:List UInt8}(h:Sl w v l):(convert 35 9 v).run Tryz.prog w=.ok (str l) w:=by
  obtain⟨A,c,rfl,h1,h2,h0,h3⟩:=h;rcases A with _|ad
  · have:l=[]:=by
      cases l with
      |nil=>rfl
      |cons x r=>obtain⟨ad,h,_⟩:=h3 0 x rfl;cases h
    subst this;exact run_convert_bytes_nil w 35 5 Tryz.underlying35 Tryz.underlying5 _ _ 9 Tryz.underlying9
  exact run_convert_bytes_back w 35 9 5 ad c l Tryz.underlying35 Tryz.underlying5 Tryz.underlying9 (fun j hj=>by
    obtain⟨D,h,hc⟩:=h3 j _ (List.getElem?_eq_getElem hj);obtain rfl:=Option.some.inj h
    exact hc)
section
variable {ops : Array Oper} {Q : Exit → Act → World → Prop} {w : World} {r : List Oper} {o : Oper} {a : Act} {E : Act → Prop}
theorem Y78 {x:Operand}{v:Value}{l:List UInt8}(hs:Sl w v l)(hw:Region.wanted o (yielded ops a.tmps)=true)(ho:o.op=.convert 35 9 x)(hx:a.eval x=v)
    (h:wpList Tryz.prog ops Q r (a.put o.dst (str l)) w):wpList Tryz.prog ops Q (o::r) a w:=
  J1r hw (by simp[execOp,ho,hx,Sem.run_bind,Z4v hs]) h
theorem Z7b {x y:Operand}{t:TypeId}{l m:List UInt8}(ho:o.op=.binOp .eql 9 x y t)(hx:a.eval x=str l)(hy:a.eval y=str m):(execOp a.eval o).run Tryz.prog w=.ok (.value (.bool (decide (l=m)))) w:=by
  have e:=V8k l m;simp only[execOp,ho,hx,hy,str];simp[eqGuard,binOp,Op.stringOp,go_sem,Sem.run_bind,e];rw[Bool.eq_iff_iff,beq_iff_eq,decide_eq_true_iff]
theorem Z4w {x:Operand}{v:Value}{l:List UInt8}(hs:Sl w v l)(ho:o.op=.call {callee:=.builtin .len,args:= #[x],argTypes:= #[35]})(hx:a.eval x=v):(execOp a.eval o).run Tryz.prog w=.ok (.value (.int .i64 (l.length:Int))) w:=by
  obtain⟨A,c,rfl,_⟩:=hs;unfold execOp;simp only[ho,resolve,invoke,builtin,Sem.run_bind,Sem.run_pure,Result.andThen_ok,List.map_toArray,List.map_cons,List.map_nil,hx];simp[Builtin.len_,run_underlying Tryz.underlying35,goInt,Sem.run_bind]
theorem J2b {x:Operand}{v:Value}{l:List UInt8}(hs:Sl w v l)(hw:Region.wanted o (yielded ops a.tmps)=true)(ho:o.op=.call {callee:=.builtin .len,args:= #[x],argTypes:= #[35]})(hx:a.eval x=v)
    (h:wpList Tryz.prog ops Q r (a.put o.dst (.int .i64 (l.length:Int))) w):wpList Tryz.prog ops Q (o::r) a w:=J1r hw (Z4w hs ho hx) h
theorem Y12 {x:Operand}{v:Value}{l:List UInt8}{n:Nat}(hn:l.length=n)(hs:Sl w v l)(hw:Region.wanted o (yielded ops a.tmps)=true)(ho:o.op=.call {callee:=.builtin .len,args:= #[x],argTypes:= #[35]})(hx:a.eval x=v)
    (h:wpList Tryz.prog ops Q r (a.put o.dst (.int .i64 (n:Int))) w):wpList Tryz.prog ops Q (o::r) a w:=J1r hw (hn▸Z4w hs ho hx) h
end
def Blz (w:World)(b:Nat)(cs:Array Value)(t:TypeId):Prop:=∃fz:Nat×Nat,w.heap[b]?=some (.cells cs t fz)∧cs.size≤fz.1
theorem Y13 {w:World}{b:Nat}{cs:Array Value}{t:TypeId}(h:Blz w b cs t):b<w.heap.size:=by obtain⟨fz,h,_⟩:=h;exact lt_of_block h
theorem Y79 {F:List Nat}{w w' :World}{b:Nat}{cs:Array Value}{t:TypeId}(h:Blz w b cs t)(k:Off F w w')(hb:b∉F):Blz w' b cs t:=by
  have hl:=Y13 h;obtain⟨fz,h,h2⟩:=h;exact⟨fz,by rw[k.block b hl hb];exact h,h2⟩
section
variable {ops : Array Oper} {Q : Exit → Act → World → Prop} {w : World} {r : List Oper} {o : Oper} {a : Act} {E : Act → Prop}
end
section
variable {ops : Array Oper} {Q : Exit → Act → World → Prop} {w : World} {r : List Oper} {o : Oper} {a : Act} {E : Act → Prop}
theorem J6g:(Tryz.prog.info? 5).map (·.size)=some 1:=by kernel_rfl
theorem J4l {w:World}{x y:Operand}{k:IntKind}{ad:Addr}{n c j:Nat}(hj:j<n)(ho:o.op=.indexAddr 35 x y)(hx:a.eval x=.slice (some ad) n c)(hy:a.eval y=.int k (j:Int)):
    (execOp a.eval o).run Tryz.prog w=.ok (.value (.pointer (some (ad.add j)))) w:=by
  have h1:=J6g;cases hq:Tryz.prog.info? 5 with
  |none=>simp[hq] at h1
  |some i=>
    have hs:i.size=1:=by simpa[hq] using h1
    simp[execOp,ho,hx,hy,Instr.indexAt,asIntOf,run_underlying Tryz.underlying35,Sem.run_bind,sizeOf,typeInfo,hq,hs,hj]
end
theorem J2x {v:Value}{l:List UInt8}{x:Nat}(h:sb v l=some x):v.ownBlock=some x:=by
  unfold sb at h
  split at h
  · cases h
  exact h
theorem Y14 {v:Value}{l:List UInt8}{b:Nat}(h:v.ownBlock≠some b):sb v l≠some b:=fun e=>h (J2x e)
theorem Q9x (w:World)(g n:Nat)(cs:Array Value)(t:TypeId)(fz:Nat×Nat)(h:w.heap[g]?=some (.cells cs t fz)):∃fz',(w.freeze ⟨g,n,none⟩ 1).heap[g]?=some (.cells cs t fz'):=by
  have D:=lt_of_block h;have h' :w.heap[g]=.cells cs t fz:=by simpa[Array.getElem?_eq_getElem D] using h
  unfold World.freeze;rw[if_neg (by decide)];refine⟨if fz.1==fz.2 then(n,n+1) else(min fz.1 n,max fz.2 (n+1)),?_⟩;show(w.heap.modify g _)[g]?=_;rw[Array.getElem?_eq_getElem (by simpa using D),Array.getElem_modify_self,h']
theorem Y15 {w:World}{v:Value}{l:List UInt8}{g:Nat}(hs:Own w v l)(hg:v.ownBlock=some g):∃W,(convert 35 35 v).run Tryz.prog w=.ok v W∧Off v.ownBlock.toList w W∧Sl W v l:=by
  have N:=hs.sl;rcases hs.2 with⟨rfl,_⟩|⟨g',M,D,rfl,_,hh,hc,hm,R,ht⟩
  · cases hg
  obtain rfl:g' =g:=Option.some.inj hg;have J:w.shape? g' =some (5,D.size):=by unfold World.shape?;rw[hh]
  obtain⟨fz,hf⟩:=Q9x w g' D.size D _ _ hh;refine⟨w.freeze ⟨g',D.size,none⟩ 1,?_,⟨rfl,rfl,rfl,?_,?_⟩,?_⟩
  · simp[convert,run_underlying Tryz.underlying35,run_underlying Tryz.underlying5,Sem.run_bind,markStringish,J]
  · unfold World.freeze;rw[if_neg (by decide)];simp
  · intro k hk hn
    have:k≠g' :=fun e=>hn (by rw[e];simp[Value.ownBlock]);unfold World.freeze;rw[if_neg (by decide)];show(w.heap.modify g' _)[k]?=_;rw[Array.getElem?_modify,if_neg (by omega)]
  obtain⟨A,c,e,h1,h2,h0,h3⟩:=N;injection e with e1 e2 e3
  subst e1;subst e3;refine⟨some ⟨g',0,none⟩,M,rfl,h1,h2,h0,fun j x hj=> ?_⟩;obtain⟨ad,e,G⟩:=h3 j x hj;obtain rfl:=Option.some.inj e;refine⟨_,rfl,?_⟩;rw[Addr.add_mid] at G⊢;rw[cell_of_row _ g' _ D _ fz hf];rw[cell_of_row _ g' _ D _ _ hh] at G;exact G
theorem Y16 {ops:Array Oper}{Q:Exit→Act→World→Prop}{w:World}{r:List Oper}{o:Oper}{a:Act}{x:Operand}{v:Value}{l:List UInt8}{g:Nat}(hs:Own w v l)(hg:v.ownBlock=some g)(hw:Region.wanted o (yielded ops a.tmps)=true)(ho:o.op=.convert 35 35 x)(hx:a.eval x=v)
    (h:∀W,Off v.ownBlock.toList w W→Sl W v l→wpList Tryz.prog ops Q r (a.put o.dst v) W):wpList Tryz.prog ops Q (o::r) a w:=by
  obtain⟨W,D,h1,h2⟩:=Y15 hs hg;exact J5i hw (W:=W) (by simp[execOp,ho,hx,D,Sem.run_bind]) (h W h1 h2)
abbrev Sub (u:Value)(l' :List UInt8)(O:Option Nat):Prop:=∀x,sb u l' =some x→O=some x
theorem J55 {u:Value}{l' :List UInt8}{O:Option Nat}{b:Nat}(h:Sub u l' O)(k:O≠some b):sb u l' ≠some b:=fun e=>k (h b e)
theorem J1e {v:Value}{l:List UInt8}:Sub v l (sb v l):=fun _ h=>h
theorem Q9y {w:World}{v:Value}{l:List UInt8}{n:Nat}(hs:Sl w v l)(hn:n≤l.length):∃u,(∀W,(Instr.sliceAt 35 v none (some (.int .i64 (n:Int))) none).run Tryz.prog W=.ok u W)∧Sl w u (l.take n)∧Sub u (l.take n) (sb v l)∧(0<n→∃ad c,u=.slice (some ad) n c):=by
  obtain⟨A,c,rfl,h1,h2,h0,h3⟩:=hs
  have hr:∀W,(Instr.sliceAt 35 (.slice A l.length c) none (some (.int .i64 (n:Int))) none).run Tryz.prog W=.ok (.slice (if c=0 then A else A.map (·.add 0)) n c) W:=by
    intro W;have D:n≤c:=by omega
    have h1:=J6g;cases hq:Tryz.prog.info? 5 with
    |none=>simp[hq] at h1
    |some i=>simp[Instr.sliceAt,Instr.slice,Instr.sliceBounds,Instr.sliceBound,asIntOf,run_underlying Tryz.underlying35,Sem.run_bind,sizeOf,typeInfo,hq,D]
  have hA:(if c=0 then A else A.map (·.add 0))=A:=by
    have:∀a:Addr,a.add 0=a:=fun a=>by unfold Addr.add;simp
    cases A<;>simp[this]
  rw[hA] at hr;have G:(l.take n).length=n:=by rw[List.length_take];omega
  refine⟨_,hr,⟨A,c,by rw[G],by omega,h2,h0,fun j x hj=>h3 j x ?_⟩,fun x hx=> ?_,fun hp=> ?_⟩
  · rw[List.getElem?_take] at hj
    split at hj
    · exact hj
    cases hj
  · unfold sb at hx⊢
    split at hx
    · cases hx
    rename_i hne;rw[if_neg (fun e=>hne (by rw[e];simp))];cases A<;>exact hx
  have hl:0<l.length:=by omega
  obtain⟨ad,rfl,_⟩:=h3 0 l[0] (List.getElem?_eq_getElem hl);exact⟨ad,c,rfl⟩
theorem Q9z {w:World}{v:Value}{l:List UInt8}{n:Nat}(hs:Sl w v l)(hn:n≤l.length):∃u,(∀W,(Instr.sliceAt 35 v (some (.int .i64 (n:Int))) none none).run Tryz.prog W=.ok u W)∧Sl w u (l.drop n)∧Sub u (l.drop n) (sb v l):=by
  obtain⟨A,c,rfl,h1,h2,h0,h3⟩:=hs
  have hr:∀W,(Instr.sliceAt 35 (.slice A l.length c) (some (.int .i64 (n:Int))) none none).run Tryz.prog W=.ok (.slice (if c=n then A else A.map (·.add n)) (l.length-n) (c-n)) W:=by
    intro W;have D:n≤c:=by omega
    have h1:=J6g;cases hq:Tryz.prog.info? 5 with
    |none=>simp[hq] at h1
    |some i=>
      have hs:i.size=1:=by simpa[hq] using h1
      simp[Instr.sliceAt,Instr.slice,Instr.sliceBounds,Instr.sliceBound,asIntOf,run_underlying Tryz.underlying35,Sem.run_bind,sizeOf,typeInfo,hq,hs,hn]
  refine⟨_,hr,⟨_,c-n,by rw[List.length_drop],by rw[List.length_drop];omega,by omega,fun h=> ?_,fun j x hj=> ?_⟩,fun x hx=> ?_⟩
  · split at h
    · omega
    have:A=none:=by simpa using h
    have:=h0 this;omega
  · rw[List.getElem?_drop] at hj
    obtain⟨ad,rfl,hc⟩:=h3 _ _ hj;have hl:=(List.getElem?_eq_some_iff.1 hj).1;rw[if_neg (by omega)];refine⟨ad.add n,rfl,?_⟩
    have:(ad.add n).add j=ad.add (n+j):=by
      unfold Addr.add
      by_cases hi:n=0<;>by_cases hj:j=0<;>simp[hi,hj,Nat.add_assoc]
    rw[this];exact hc
  unfold sb at hx⊢
  split at hx
  · cases hx
  rename_i hne;rw[if_neg (fun e=>hne (by rw[e];simp))];have:c≠n:=fun e=>hne (List.drop_eq_nil_of_le (by omega));rw[if_neg this] at hx;cases A with
  |none=>cases hx
  |some ad=>simpa[Value.ownBlock,J5u] using hx
section
variable {ops : Array Oper} {Q : Exit → Act → World → Prop} {w : World} {r : List Oper} {o : Oper} {a : Act} {E : Act → Prop}
theorem Y17 {x y:Operand}{v:Value}{l:List UInt8}{n:Nat}(hs:Sl w v l)(hn:n≤l.length)(hw:Region.wanted o (yielded ops a.tmps)=true)(ho:o.op=.slice 35 x none (some y) none)(hx:a.eval x=v)(hy:a.eval y=.int .i64 (n:Int))
    (h:∀u,Sl w u (l.take n)→Sub u (l.take n) (sb v l)→(0<n→∃ad c,u=.slice (some ad) n c)→wpList Tryz.prog ops Q r (a.put o.dst u) w):wpList Tryz.prog ops Q (o::r) a w:=by
  obtain⟨u,hr,h1,h2,h3⟩:=Q9y hs hn;exact J1r hw (by simp[execOp,ho,hx,hy,hr w,Sem.run_bind]) (h u h1 h2 h3)
theorem Q4i {x y:Operand}{v:Value}{l:List UInt8}{n:Nat}(hs:Sl w v l)(hn:n≤l.length)(hw:Region.wanted o (yielded ops a.tmps)=true)(ho:o.op=.slice 35 x (some y) none none)(hx:a.eval x=v)(hy:a.eval y=.int .i64 (n:Int))
    (h:∀u,Sl w u (l.drop n)→Sub u (l.drop n) (sb v l)→wpList Tryz.prog ops Q r (a.put o.dst u) w):wpList Tryz.prog ops Q (o::r) a w:=by
  obtain⟨u,hr,h1,h2⟩:=Q9z hs hn;exact J1r hw (by simp[execOp,ho,hx,hy,hr w,Sem.run_bind]) (h u h1 h2)
theorem J5j {x y:Operand}{k:IntKind}{v:Value}{l:List UInt8}{j:Nat}{c:UInt8}(hs:Sl w v l)(hj:l[j]?=some c)(hw:Region.wanted o (yielded ops a.tmps)=true)(ho:o.op=.indexAddr 35 x y)(hx:a.eval x=v)(hy:a.eval y=.int k (j:Int))
    (h:∀ad,w.cell? ad=some (.int .u8 (c.toNat:Int))→wpList Tryz.prog ops Q r (a.put o.dst (.pointer (some ad))) w):wpList Tryz.prog ops Q (o::r) a w:=by
  obtain⟨A,cc,rfl,h1,h2,h0,h3⟩:=hs;obtain⟨ad,rfl,hc⟩:=h3 j c hj;exact J1r hw (J4l (List.getElem?_eq_some_iff.1 hj).1 ho hx hy) (h _ hc)
theorem Y18 {x y:Operand}{v:Value}{l:List UInt8}{g:Nat}{cur:Array Value}{t:TypeId}{n c:Nat}(hs:Sl w v l)(hB:Blk w g cur t)(hcur:cur.size=l.length)(hn:n=l.length)(hp:0<l.length)(hw:Region.wanted o (yielded ops a.tmps)=true)
    (ho:o.op=.call {callee:=.builtin .copy,args:= #[x,y],argTypes:= #[35,35]}) (hx:a.eval x=.slice (some ⟨g,0,none⟩) n c) (hy:a.eval y=v)
    (h:∀W,Off [g] w W→Blk W g (bs8 l).toArray t→wpList Tryz.prog ops Q r (a.put o.dst (goInt l.length)) W):wpList Tryz.prog ops Q (o::r) a w:=by
  subst hn;obtain⟨A,cc,rfl,h1,h2,h0,h3⟩:=hs;obtain⟨ad,rfl,_⟩:=h3 0 l[0] (List.getElem?_eq_getElem hp)
  have D:=run_copy_row (P:=Tryz.prog) w 35 35 o.type 5 g 0 l.length c ad l.length cc cur t (bs8 l) Tryz.underlying35 J6g hB (by simp[V7]) (fun j u hj=>by
    simp only[bs8,List.getElem?_map,Option.map_eq_some_iff] at hj;obtain⟨z,hz,rfl⟩:=hj;obtain⟨G,e,hc⟩:=h3 j z hz;obtain rfl:=Option.some.inj e
    exact hc) (by rw[V7];omega) (Q19 l)
  have e:(cur.toList.take 0++bs8 l++cur.toList.drop (0+(bs8 l).length))=bs8 l:=by
    rw[List.drop_eq_nil_of_le (by rw[V7,Array.length_toList];omega)];simp
  rw[e] at D;have h4:Blk (w.setRow g (bs8 l).toArray) g (bs8 l).toArray t:=V9 hB _;refine J5i hw (v:=goInt l.length) (W:=w.setRow g (bs8 l).toArray) ?_ (h _ ⟨rfl,rfl,rfl,by simp,fun k _ hk=>setRow_other w g k _ (by simpa using hk)⟩ h4);unfold execOp;simp only[ho,resolve,invoke,builtin,Sem.run_bind,Sem.run_pure,Result.andThen_ok,List.map_toArray,List.map_cons,List.map_nil,hx,hy,D,V7]
end
theorem Q1d {w:World}{v:Value}{l:List UInt8}(hs:Sl w v l)(hp:0<l.length):∃ad c,v=.slice (some ad) l.length c∧∀j x,l[j]?=some x→w.cell? (ad.add j)=some (.int .u8 (x.toNat:Int)):=by
  obtain⟨A,c,rfl,h1,h2,h0,h3⟩:=hs;obtain⟨ad,rfl,_⟩:=h3 0 l[0] (List.getElem?_eq_getElem hp);refine⟨ad,c,rfl,fun j x hj=> ?_⟩;obtain⟨D,e,hc⟩:=h3 j x hj;obtain rfl:=Option.some.inj e;exact hc
theorem or8 (Y z:Nat)(hz:z<256):bits .or .i64 (IntKind.wrap .i64 ((Y*256:Nat):Int)) (z:Int)=IntKind.wrap .i64 ((Y*256+z:Nat):Int):=by
  have e1:(BitVec.ofInt 64 (IntKind.wrap .i64 ((Y*256:Nat):Int))).toNat=Y*256 % 2^64:=by
    rw[BitVec.toNat_ofInt,IntKind.wrap_i64];omega
  have e2:(BitVec.ofInt 64 (z:Int)).toNat=z:=by
    rw[BitVec.toNat_ofInt];omega
  have D:(BitVec.ofInt 64 (IntKind.wrap .i64 ((Y*256:Nat):Int)) |||BitVec.ofInt 64 (z:Int)).toNat=(Y*256+z) % 2^64:=by
    rw[BitVec.toNat_or,e1,e2];have h:=Nat.two_pow_add_eq_or_of_lt (i:=8) hz (Y % 2^56);have h2:Y*256 % 2^64=2^8*(Y % 2^56):=by omega
    rw[h2,←h];omega
  show IntKind.i64.wrap ((BitVec.ofInt 64 (IntKind.wrap .i64 ((Y*256:Nat):Int)) |||BitVec.ofInt 64 (z:Int)).toNat:Nat)=_;rw[D,IntKind.wrap_i64,IntKind.wrap_i64];omega
theorem K31 (Y:Nat):IntKind.wrap .i64 (IntKind.wrap .i64 (Y:Int)*256)=IntKind.wrap .i64 ((Y*256:Nat):Int):=by
  rw[IntKind.wrap_i64,IntKind.wrap_i64,IntKind.wrap_i64];omega
theorem Z26:∀n,(madeCells #[.int .u8 0] (n*1)).toList=bs8 (List.replicate n 0):=by
  intro n;rw[Nat.mul_one];apply List.ext_getElem?;intro i
  by_cases hi:i<n
  · simp[madeCells,bs8,hi,Nat.mod_one]
  simp[madeCells,bs8,hi]
theorem Y19 {ops:Array Oper}{Q:Exit→Act→World→Prop}{w:World}{r:List Oper}{o:Oper}{a:Act}{x y:Operand}{n:Nat}(hn:n≤140737488355328)(hw:Region.wanted o (yielded ops a.tmps)=true)(ho:o.op=.makeSlice 35 x y)(hx:a.eval x=.int .i64 (n:Int))(hy:a.eval y=.int .i64 (n:Int))
    (h:∀b W,w.heap.size≤b→Off [] w W→Own W (.slice (some ⟨b,0,none⟩) n n) (List.replicate n 0)→wpList Tryz.prog ops Q r (a.put o.dst (.slice (some ⟨b,0,none⟩) n n)) W):wpList Tryz.prog ops Q (o::r) a w:=by
  obtain⟨i,hi,hz,G,J⟩:=info_parts J7t;obtain⟨W,D,h1,h2⟩:=run_make_full (P:=Tryz.prog) w 0 35 5 i (.int .u8 0) 1 Tryz.underlying35 hi hz G .i64 .i64 n (by rw[J];omega) (by unfold maxLen;omega) (Nat.zero_le _);refine J5i hw (W:=W) (by simp[execOp,ho,hx,hy,D,Sem.run_bind]) (h _ W (Nat.le_refl _) (J9q h2) ?_);unfold Own;rw[List.length_replicate,←Z26 n];exact h1
theorem J0q {w W:World}{ad:Addr}{v:Value}(h:w.cell? ad=some v)(hW:Ext w W):W.cell? ad=some v:=by
  rw[World.cell?_of_block (w:=w) (hW.block _ (Q7p h))];exact h
theorem Y1a {w:World}{ad:Addr}{n c j:Nat}{l:List UInt8}{x:UInt8}(h:Sl w (.slice (some ad) n c) l)(hj:l[j]?=some x):w.cell? (ad.add j)=some (.int .u8 (x.toNat:Int)):=by
  obtain⟨A,cc,e,h1,h2,h0,h3⟩:=h;injection e with e1
  subst e1;obtain⟨D,e,hc⟩:=h3 j x hj;obtain rfl:=Option.some.inj e;exact hc
section
variable {P : Program} {ops : Array Oper} {w : World} {E : Act → Prop} {l : List Oper} {o : Oper} {a : Act}
theorem J8y {ad:Addr}{v:Value}{ty:TypeId}{x:Operand}(hw:Region.wanted o (yielded ops a.tmps)=true)(ho:o.op=.load ty x)(hx:a.eval x=.pointer (some ad))(hc:∀W,Ext w W→W.cell? ad=some v)
    (hk:(P.underlying ty).map TypeDesc.isRow=some false) (h:wpX P ops w E l (a.put o.dst v)):wpX P ops w E (o::l) a:=by
  refine J0d hw (fun W hW=> ?_) h;have hc' :=hc W hW;clear hc;cases hu:P.underlying ty with
  |none=>simp[hu] at hk
  |some d=>
    have hd:d.isRow=false:=by simpa[hu] using hk
    unfold execOp;simp only[ho,hx];cases d<;>simp_all [Instr.loadAt,Instr.sureAddr,Sem.run_bind,Sem.run_pure,Result.andThen_ok,run_underlying hu,TypeDesc.isRow]
    all_goals simp[loadVar,isAgg,Sem.run_bind,Sem.run_pure,Result.andThen_ok,run_underlying hu,TypeDesc.isRow,hc']
end
def bt (l:List UInt8)(j:Nat):Int:=((l.getD j 0).toNat:Int)
theorem Q6i {l:List UInt8}{j:Nat}(h:j<l.length):l[j]?=some (l.getD j 0):=by
  rw[List.getD_eq_getElem?_getD,List.getElem?_eq_getElem h];rfl
end

section

section
variable {w : World} {o : Oper} {a : Act} {x y : Operand}
theorem Z7c {P:Program}{t e:TypeId}{k:IntKind}{m b off j:Nat}(hm:1<m)(hj:j<m)(ht:P.underlying t=some (.array m e))(he:(P.info? e).map (·.size)=some 1)(ho:o.op=.indexAddr t x y)(hx:a.eval x=.pointer (some ⟨b,off,none⟩))(hy:a.eval y=.int k (j:Int)):
    (execOp a.eval o).run P w=.ok (.value (.pointer (some ⟨b,off+j,none⟩))) w:=by
  cases hq:P.info? e with
  |none=>simp[hq] at he
  |some i=>
    have hs:i.size=1:=by simpa[hq] using he
    simp[execOp,ho,hx,hy,Instr.indexAt,asIntOf,Instr.sureAddr,run_underlying ht,Sem.run_bind,sizeOf,typeInfo,hq,hs,hj,Addr.add_mid]
theorem rxa {P:Program}{t e:TypeId}{k:IntKind}{m b off j:Nat}(ht:P.underlying t=some (.array m e))(hj:j<m)(hm:1<m:=by decide)(he:(P.info? e).map (·.size)=some 1:=by kernel_rfl)(ho:o.op=.indexAddr t x y:=by exact rfl)(hx:a.eval x=.pointer (some ⟨b,off,none⟩):=by exact rfl)(hy:a.eval y=.int k (j:Int):=by exact rfl):
    (execOp a.eval o).run P w=.ok (.value (.pointer (some ⟨b,off+j,none⟩))) w:=Z7c hm hj ht he ho hx hy
end
theorem J3h {a b:Array Value}{i:Nat}{v:Value}(h:a[i]?=some v):(a++b)[i]?=some v:=by
  have hi:=(Array.getElem?_eq_some_iff.1 h).1;rw[Array.getElem?_append_left hi];exact h
theorem J79 {a b:Array Value}{n i:Nat}{v:Value}(hn:a.size=n)(h:b[i]?=some v):(a++b)[n+i]?=some v:=by
  rw[Array.getElem?_append_right (by omega),←hn,Nat.add_sub_cancel_left];exact h
theorem Z7d {a cs:Array Value}{j:Nat}(h:∀i v,a[i]?=some v→cs[j+i]?=some v):∀i v,a.toList[i]?=some v→cs[j+i]?=some v:=fun i v hv=>h i v (by simpa using hv)
section
variable {P : Program} {ops : Array Oper} {w : World} {l : List Oper} {o : Oper} {a : Act} {E : Act → Prop} {Q : Exit → Act → World → Prop}
theorem J7a {ρ:Operand→Value}{o:Oper}{t t2:TypeId}{x y:Operand}{xs ys:Array Value}{b:Bool}{W:World}(hv:(Op.equalIn 10000 t (.agg xs) (.agg ys)).run P W=.ok b W)(hg:P.eqGuardType P.depth t=false)
    (ho:o.op=.binOp .neq t x y t2) (hx:ρ x=.agg xs) (hy:ρ y=.agg ys):(execOp ρ o).run P W=.ok (.value (.bool (!b))) W:=by
  have h:=run_neq_struct (P:=P) W t xs ys;rw[hv] at h;simp[execOp,ho,hx,hy,eqGuard,hg,h,Sem.run_bind]
end

/-! ### Short forms -/
section
variable {P : Program} {ops : Array Oper} {Q : Exit → Act → World → Prop} {w : World} {l : List Oper} {o : Oper} {a a' : Act} {E : Act → Prop}
theorem Ln {z:Array Value}{t:TypeId}{a' :Nat→Act}(h:∀(b:Nat) (W:World),w.heap.size≤b→Off [] w W→Blk W b z t→wpList P ops Q l (a' b) W)(hw:Region.wanted o (yielded ops a.tmps)=true:=by exact rfl)
    (hr:(execOp a.eval o).run P w=.ok (.value (.pointer (some ⟨w.heap.size,0,none⟩))) (w.alloc (.cells z t)):=by first|kernel_rfl|(go_simp;done)|(go_simp;rfl))
    (hp:∀b,a.put o.dst (.pointer (some ⟨b,0,none⟩))=a' b:=by intro b;first|exact pl (by dsimp only[mB,mC];first|done|exact rfl)|exact pn|exact rfl):wpList P ops Q (o::l) a w:=
  Q3f hw hr fun b W h1 h2 h3=>by rw[hp];exact h b W h1 h2 h3
theorem LnS {z:Array Value}{t:TypeId}{n c:Nat}{a' :Nat→Act}(h:∀(b:Nat) (W:World),w.heap.size≤b→Off [] w W→Blk W b z t→wpList P ops Q l (a' b) W)(hw:Region.wanted o (yielded ops a.tmps)=true:=by exact rfl)
    (hr:(execOp a.eval o).run P w=.ok (.value (.slice (some ⟨w.heap.size,0,none⟩) n c)) (w.alloc (.cells z t)):=by first|kernel_rfl|(go_simp;done)|(go_simp;rfl))
    (hp:∀b,a.put o.dst (.slice (some ⟨b,0,none⟩) n c)=a' b:=by intro b;first|exact pl (by dsimp only[mB,mC];first|done|exact rfl)|exact pn|exact rfl):wpList P ops Q (o::l) a w:=
  Q4h hw hr fun b W h1 h2 h3=>by rw[hp];exact h b W h1 h2 h3
theorem Lp {ty t:TypeId}{x y:Operand}{g:Nat}{cells old:Array Value}(h:∀W,Off [g] w W→Blk W g cells t→wpList P ops Q l a' W)(hB:Blk w g old t)(hw:Region.wanted o (yielded ops a.tmps)=true:=by exact rfl)(ho:o.op=.store ty x y:=by exact rfl)(hx:a.eval x=.pointer (some ⟨g,0,none⟩):=by exact rfl)(hy:a.eval y=.agg cells:=by exact rfl)
    (hi:(P.info? ty).map (·.size)=some cells.size:=by kernel_rfl) (hs:old.size=cells.size:=by kernel_rfl) (h1:cells.all (·.oneCell')=true:=by kernel_rfl) (hp:a.put o.dst undef=a' :=by first|exact pl (by dsimp only[mB,mC];first|done|exact rfl)|exact pn|exact rfl):wpList P ops Q (o::l) a w:=by
  subst hp;exact J5v hw ho hx hy hB hi hs h1 h
theorem LpA {ty t:TypeId}{x y:Operand}{g n:Nat}{k:IntKind}{f:Nat→Int}{old:Array Value}(h:∀W,Off [g] w W→Blk W g (J0 k n f) t→wpList P ops Q l a' W)(hB:Blk w g old t)(hw:Region.wanted o (yielded ops a.tmps)=true:=by exact rfl)(ho:o.op=.store ty x y:=by exact rfl)(hx:a.eval x=.pointer (some ⟨g,0,none⟩):=by exact rfl)(hy:a.eval y=.agg (J0 k n f):=by exact rfl)
    (hi:(P.info? ty).map (·.size)=some (J0 k n f).size:=by rw[J1];kernel_rfl) (hs:old.size=(J0 k n f).size:=by first|rw[J1,J1]|rw[J1]|kernel_rfl) (hp:a.put o.dst undef=a' :=by first|exact pl (by dsimp only[mB,mC];first|done|exact rfl)|exact pn|exact rfl):wpList P ops Q (o::l) a w:=by
  subst hp;exact J5v hw ho hx hy hB hi hs (J04 _ _ _) h
theorem LnP {o2:Oper}{ty t:TypeId}{x y:Operand}{z cells:Array Value}{a1 a2:Nat→Act}(h:∀(b:Nat) (W:World),w.heap.size≤b→Off [] w W→Blk W b cells t→wpList P ops Q l (a2 b) W)(hw:Region.wanted o (yielded ops a.tmps)=true:=by exact rfl)
    (hr:(execOp a.eval o).run P w=.ok (.value (.pointer (some ⟨w.heap.size,0,none⟩))) (w.alloc (.cells z t)):=by first|kernel_rfl|(go_simp;done)|(go_simp;rfl)) (hp:∀b,a.put o.dst (.pointer (some ⟨b,0,none⟩))=a1 b:=by intro b;first|exact pl (by dsimp only[mB,mC];first|done|exact rfl)|exact pn|exact rfl)
    (hw2:∀b,Region.wanted o2 (yielded ops (a1 b).tmps)=true:=by exact fun _=>rfl) (ho:o2.op=.store ty x y:=by exact rfl) (hx:∀b,(a1 b).eval x=.pointer (some ⟨b,0,none⟩):=by exact fun _=>rfl) (hy:∀b,(a1 b).eval y=.agg cells:=by exact fun _=>rfl)
    (hi:(P.info? ty).map (·.size)=some cells.size:=by kernel_rfl) (hs:z.size=cells.size:=by kernel_rfl) (h1:cells.all (·.oneCell')=true:=by kernel_rfl) (hp2:∀b,(a1 b).put o2.dst undef=a2 b:=by intro b;first|exact pl (by dsimp only[mB,mC];first|done|exact rfl)|exact pn|exact rfl):wpList P ops Q (o::o2::l) a w:=
  Q3f hw hr fun b W n1 h2 h3=>by
    rw[hp]
    exact J5v (hw2 b) ho (hx b) (hy b) h3 hi hs h1 fun W2 h4 h5=>by
      rw[hp2];exact h b W2 n1 (h2.step h4 fun x hx hl=>absurd hl (by rw[List.mem_singleton.1 hx];omega)) h5
theorem LnA {o2:Oper}{ty t:TypeId}{x y:Operand}{z:Array Value}{k:IntKind}{n:Nat}{f:Nat→Int}{a1 a2:Nat→Act}(h:∀(b:Nat) (W:World),w.heap.size≤b→Off [] w W→Blk W b (J0 k n f) t→wpList P ops Q l (a2 b) W)(hw:Region.wanted o (yielded ops a.tmps)=true:=by exact rfl)
    (hr:(execOp a.eval o).run P w=.ok (.value (.pointer (some ⟨w.heap.size,0,none⟩))) (w.alloc (.cells z t)):=by first|kernel_rfl|(go_simp;done)|(go_simp;rfl)) (hp:∀b,a.put o.dst (.pointer (some ⟨b,0,none⟩))=a1 b:=by intro b;first|exact pl (by dsimp only[mB,mC];first|done|exact rfl)|exact pn|exact rfl)
    (hw2:∀b,Region.wanted o2 (yielded ops (a1 b).tmps)=true:=by exact fun _=>rfl) (ho:o2.op=.store ty x y:=by exact rfl) (hx:∀b,(a1 b).eval x=.pointer (some ⟨b,0,none⟩):=by exact fun _=>rfl) (hy:∀b,(a1 b).eval y=.agg (J0 k n f):=by exact fun _=>rfl)
    (hi:(P.info? ty).map (·.size)=some (J0 k n f).size:=by rw[J1];kernel_rfl) (hs:z.size=(J0 k n f).size:=by first|rw[J1,J1]|rw[J1]|kernel_rfl) (hp2:∀b,(a1 b).put o2.dst undef=a2 b:=by intro b;first|exact pl (by dsimp only[mB,mC];first|done|exact rfl)|exact pn|exact rfl):wpList P ops Q (o::o2::l) a w:=
  Q3f hw hr fun b W n1 h2 h3=>by
    rw[hp]
    exact J5v (hw2 b) ho (hx b) (hy b) h3 hi hs (J04 _ _ _) fun W2 h4 h5=>by
      rw[hp2];exact h b W2 n1 (h2.step h4 fun x hx hl=>absurd hl (by rw[List.mem_singleton.1 hx];omega)) h5
theorem Lg {b j:Nat}{cs:Array Value}{t ty:TypeId}{v:Value}{x:Operand}(h:wpList P ops Q l a' w)(hB:Blk w b cs t)(hw:Region.wanted o (yielded ops a.tmps)=true:=by exact rfl)(ho:o.op=.load ty x:=by exact rfl)(hx:a.eval x=.pointer (some ⟨b,j,none⟩):=by exact rfl)
    (hj:cs[j]?=some v:=by rfl) (hk:(P.underlying ty).map TypeDesc.isRow=some false:=by as_aux_lemma=>kernel_rfl) (hp:a.put o.dst v=a' :=by first|exact pl (by dsimp only[mB,mC];first|done|exact rfl)|exact pn|exact rfl):wpList P ops Q (o::l) a w:=by
  subst hp;exact Y77 hw ho hx hB hj hk h
theorem L0 {b:Nat}{cs:Array Value}{t ty:TypeId}{x:Operand}(h:wpList P ops Q l a' w)(hB:Blk w b cs t)(hw:Region.wanted o (yielded ops a.tmps)=true:=by exact rfl)(ho:o.op=.load ty x:=by exact rfl)(hx:a.eval x=.pointer (some ⟨b,0,none⟩):=by exact rfl)
    (hk:(P.underlying ty).map TypeDesc.isRow=some true:=by as_aux_lemma=>kernel_rfl) (hi:(P.info? ty).map (·.size)=some cs.size:=by kernel_rfl) (hp:a.put o.dst (.agg cs)=a' :=by first|exact pl (by dsimp only[mB,mC];first|done|exact rfl)|exact pn|exact rfl):wpList P ops Q (o::l) a w:=by
  subst hp;exact Z7a hw ho hx hB hk hi h
theorem L0A {b:Nat}{cs:Array Value}{t ty:TypeId}{x:Operand}(h:wpList P ops Q l a' w)(hB:Blk w b cs t)(hw:Region.wanted o (yielded ops a.tmps)=true:=by exact rfl)(ho:o.op=.load ty x:=by exact rfl)(hx:a.eval x=.pointer (some ⟨b,0,none⟩):=by exact rfl)
    (hk:(P.underlying ty).map TypeDesc.isRow=some true:=by as_aux_lemma=>kernel_rfl) (hi:(P.info? ty).map (·.size)=some cs.size:=by rw[J1];kernel_rfl) (hp:a.put o.dst (.agg cs)=a' :=by first|exact pl (by dsimp only[mB,mC];first|done|exact rfl)|exact pn|exact rfl):wpList P ops Q (o::l) a w:=
  L0 h hB hw ho hx hk hi hp
theorem Lr {f:FuncId}{xl:List Operand}{ts:Array TypeId}{args:Array Value}{v:Value}(h:∀W,Off [] w W→wpList P ops Q l a' W)(hc:Calls P f args w fun e W=>Ret v w W e)(hw:Region.wanted o (yielded ops a.tmps)=true:=by exact rfl)
    (ho:o.op=.call {callee:=.value (.func f),args:=xl.toArray,argTypes:=ts}:=by with_reducible rfl) (hg:Q4d P f=true:=by as_aux_lemma=>kernel_rfl) (ha:(xl.map a.eval).toArray=args:=by exact rfl) (hp:a.put o.dst v=a' :=by first|exact pl (by dsimp only[mB,mC];first|done|exact rfl)|exact pn|exact rfl):wpList P ops Q (o::l) a w:=by
  subst hp;exact Z4t hc hw ho hg ha h
theorem Lc {f:FuncId}{xl:List Operand}{ts:Array TypeId}{args:Array Value}{v:Value}{R:World→Prop}(h:∀W,R W→wpList P ops Q l a' W)(hc:Calls P f args w fun e W=>e=.returned v∧R W)(hw:Region.wanted o (yielded ops a.tmps)=true:=by exact rfl)
    (ho:o.op=.call {callee:=.value (.func f),args:=xl.toArray,argTypes:=ts}:=by with_reducible rfl) (hg:Q4d P f=true:=by as_aux_lemma=>kernel_rfl) (ha:(xl.map a.eval).toArray=args:=by exact rfl) (hp:a.put o.dst v=a' :=by first|exact pl (by dsimp only[mB,mC];first|done|exact rfl)|exact pn|exact rfl):wpList P ops Q (o::l) a w:=by
  subst hp;exact Q6h hc hw ho hg ha h
end
theorem bwo {B g:Nat}{w W1 W2 W3:World}(h:Below B w W1)(e:Ext W1 W2)(q:Off [g] W2 W3)(hB:B≤W1.heap.size)(hg:B≤g):Below B w W3:=Off.below (V4 h e hB) q (Nat.le_trans hB e.size) (fun x hx=>by rw[List.mem_singleton.1 hx];exact hg)
theorem ko {b g:Nat}{cs:Array Value}{t:TypeId}{W1 W2 W3:World}(h:Blk W1 b cs t)(e:Ext W1 W2)(q:Off [g] W2 W3)(hb:b≠g):Blk W3 b cs t:=J0j (J3 h e) q (nm1 hb)
theorem fbn {F:List Nat}{w W:World}{e:Nat}(h:Off F w W)(n:W.heap.size≤e):Fb e w.heap.size F:=V3o (Nat.le_trans h.size n)
theorem frn {F:List Nat}{w W:World}{e:Nat}(h:Off F w W)(n:W.heap.size≤e):Fr (some e) w.heap.size F:=V3n (Nat.le_trans h.size n)
theorem obn {w:World}{b e:Nat}{cs:Array Value}{t:TypeId}(h:Blk w b cs t)(n:w.heap.size≤e):some e≠some b:=fun e_=>bn h n (Option.some.inj e_).symm
end

section
section
variable {P : Program} {w : World} {o : Oper} {a : Act} {x y : Operand} {t t' : TypeId} {i m : Nat}
theorem Z00 (hm:0<m)(hi:i<9223372036854775808)(ho:o.op=.binOp .quo t x y t')(hx:a.eval x=.int .i64 (i:Int))(hy:a.eval y=.int .i64 (m:Int)):(execOp a.eval o).run P w=.ok (.value (.int .i64 ((i / m:Nat):Int))) w:=by
  have h0:¬m=0:=by omega
  have h1:=IntWalk.i64_quo (i:Int) (m:Int) (by omega);rw[Int.tdiv_eq_ediv_of_nonneg (by omega)] at h1;simp only[execOp,ho,hx,hy,eqGuard,binOp,Sem.run_bind];simp[Op.intDiv,h0,h1,go_sem,Sem.run_bind]
theorem Z01 (hm:0<m)(hi:i<9223372036854775808)(ho:o.op=.binOp .rem t x y t')(hx:a.eval x=.int .i64 (i:Int))(hy:a.eval y=.int .i64 (m:Int)):(execOp a.eval o).run P w=.ok (.value (.int .i64 ((i % m:Nat):Int))) w:=by
  have h0:¬m=0:=by omega
  have h1:(i:Int).tmod (m:Int)=((i % m:Nat):Int):=by rw[Int.tmod_eq_emod_of_nonneg (by omega)];rfl
  have G:=Nat.mod_lt i hm;have D:=Nat.mod_le i m;have h2:IntKind.i64.wrap ((i % m:Nat):Int)=((i % m:Nat):Int):=IntWalk.i64_in _ (by omega);simp only[execOp,ho,hx,hy,eqGuard,binOp,Sem.run_bind];simp only[Op.intDiv];simp[h0,h1,h2,go_sem,Sem.run_bind]
end
theorem Z02 {P:Program}{w:World}{o:Oper}{a:Act}{x y:Operand}{t t' :TypeId}{p:Int}{k:IntKind}{n:Nat}(hn:n≤8)(ho:o.op=.binOp .shr t x y t')(hx:a.eval x=.int .u8 p)(hy:a.eval y=.int k (n:Int)):(execOp a.eval o).run P w=.ok (.value (.int .u8 (p / 2^n))) w:=by
  have h:min ((n:Int)).toNat IntKind.u8.bits=n:=by rw[Int.toNat_natCast];exact Nat.min_eq_left hn
  simp only[execOp,ho,hx,hy,eqGuard,binOp,Sem.run_bind];simp[Op.shift,h,go_sem,Sem.run_bind]
end

section

def Q31 (k:IntKind)(n:Nat)(f:Nat→Int):List Value:=(List.range n).map fun i=>Value.int k (f i)
theorem J6h (k:IntKind)(n:Nat)(f:Nat→Int):(Q31 k n f).length=n:=by simp[Q31]
theorem Z03 (bs:Nat→Int)(h:∀j,J8s (bs j)):∀n j,j<n→J7 (J1w bs n) j=bs j
  |0,j,hj=>by omega
  |n+1,j,hj=>by
    have hl:=J7r bs h n;obtain⟨b0,b1⟩:=h n;show J7 (J1w bs n+(bs n).toNat*2^(8*n)) j=_
    by_cases he:j=n
    · subst he
      unfold J7;rw[Nat.add_mul_div_right _ _ (Nat.two_pow_pos _),Nat.div_eq_of_lt hl];omega
    · rw[←Z03 bs h n j (by omega)]
      unfold J7;obtain⟨d,rfl⟩:∃d,n=j+1+d:=⟨n-j-1,by omega⟩
      rw[show 8*(j+1+d)=8*j+(8+8*d) by omega,Nat.pow_add 2 (8*j),Nat.mul_left_comm,Nat.add_mul_div_left _ _ (Nat.two_pow_pos _),Nat.pow_add 2 8,Nat.mul_left_comm,show(2:Nat)^8=256 by decide,Nat.add_mul_mod_self_left]

end
end Go.Proofs.YtlkbneflnjmgbaaGreatDoor

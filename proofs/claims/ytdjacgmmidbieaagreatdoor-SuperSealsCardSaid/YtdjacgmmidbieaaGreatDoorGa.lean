/- Contracts and plain laws for superSeals_holds. Conditions: the tables hold their numbers. -/
import Derived.WalkKit
import Derived.Laws.DeepBits32
import Derived.Test.YtdjacgmmidbieaaGreatDoorChecked
import Derived.Lib.Mul64
open Go renaming World->AA,Value->AB,wpList->AC,Program->AD,TypeId->AE,Oper->AF,Exit->AG,IntKind->AI
open Go.IntKind renaming wrap_i64->AJ,wrap_u64->AK
open _root_.Nat renaming mod_eq_of_lt->AL,le_refl->AM,lt_of_le_of_lt->AN,mod_lt->AO,zero_add->AP,two_pow_pos->AQ,div_eq_of_lt->AR,mul_one->AS
open Go.RowKit
set_option linter.unusedSimpArgs false
set_option linter.unusedVariables false
namespace Go.Proofs.YtdjacgmmidbieaaGreatDoor
section

/-! short names for the steps' laws of lists -/
theorem mA (l:List AB)(i:Nat)(a:AB):l.toArray.setIfInBounds i a=(l.set i a).toArray:=List.setIfInBounds_toArray l i a
theorem mB (a b:AB)(l:List AB):(a::l).set 0 b=b::l:=rfl
theorem mC (a b:AB)(l:List AB)(n:Nat):(a::l).set (n+1) b=a::l.set n b:=rfl
theorem pn {a:Act}{v:AB}:Act.put a none v=a:=rfl
theorem pl {l l' :List AB}{df:List Deferred}{d:Tmp}{v:AB}(h:l.set d v=l'):Act.put ⟨l.toArray,df⟩ (some d) v=⟨l'.toArray,df⟩:=by
  subst h;simp only[Act.put,mA]

def V4 (v:AB)(w w' :AA)(e:Ending):Prop:=e=.returned v∧Below w.heap.size w w'
theorem K5 {B:Nat}{a w w1:AA}(h:Below B a w)(h1:Below w.heap.size w w1)(hB:B≤w.heap.size):Below B a w1:=h.trans (h1.mono hB)
theorem Z0 {B c:Nat}{a w:AA}(h:Below B a w)(hc:B≤c)(j:Nat)(v:AB):Below B a (w.setCell ⟨c,j,none⟩ v):=h.setCell hc v
theorem K0 {B g:Nat}{a w:AA}(h:Below B a w)(hg:B≤g)(c' :Array AB):Below B a (w.setRow g c'):=
  h.trans ⟨rfl,rfl,rfl,by simp,fun k hk=>setRow_other w g k c' (by omega)⟩
theorem bz {B:Nat}{w W:World}(h:Below B w W:=by(repeat' (first|(with_reducible assumption)|(with_reducible exact Below.refl _ _)|(with_reducible refine Below.drew ?_)|(with_reducible refine Below.alloc ?_ ?_ _)|(with_reducible refine Z0 ?_ ?_ _ _)|(with_reducible refine K0 ?_ ?_ _)|(with_reducible refine K5 ?_ (by assumption) ?_)))<;>(first|omega|((try simp only[World.size_alloc,World.size_setCell,World.size_drew,size_setRow]);omega))):Below B w W:=h
theorem Y6b {W w1:AA}(hb:Below W.heap.size W w1):(∀b o,b<W.heap.size→w1.cell? ⟨b,o,none⟩=W.cell? ⟨b,o,none⟩)∧(∀b o,b<W.heap.size→w1.frozen? ⟨b,o,none⟩=W.frozen? ⟨b,o,none⟩):=
  ⟨fun b o h=>hb.cell (p:=⟨b,o,none⟩) h,fun b o h=>hb.frozen (p:=⟨b,o,none⟩) h⟩

theorem Q2e {P:AD}{c:Code}{Q:AG→Act→AA→Prop}{a:Act}{w:AA}(F:AA→Prop)(h:F w)(k:∀W,F W→c.wp P Q a W):c.wp P Q a w:=k w h
theorem Z73 {K:Act→AA→Prop}{Q:AG→Act→AA→Prop}{a:Act}{w:AA}(F:AA→Prop)(h:F w)(k:∀W,F W→AG.then K Q .normal a W):AG.then K Q .normal a w:=k w h
theorem Q4r {P:AD}{ops:Array AF}{l:List AF}{Q:AG→Act→AA→Prop}{a:Act}{w:AA}(F:AA→Prop)(h:F w)(k:∀W,F W→AC P ops Q l a W):AC P ops Q l a w:=k w h
def Blk (w:AA)(b:Nat)(cs:Array AB)(t:AE):Prop:=w.heap[b]?=some (.cells cs t (0,0))
theorem Q3 {w:AA}{b:Nat}{cs:Array AB}{t:AE}(h:Blk w b cs t):b<w.heap.size:=lt_of_block h
theorem J5 {w:AA}{b:Nat}{cs:Array AB}{t:AE}(h:Blk w b cs t):∀j,w.cell? ⟨b,j,none⟩=cs[j]?:=fun j=>by
  unfold Blk at h;simp[AA.cell?,h]
theorem V3 {w:AA}{b:Nat}{cs:Array AB}{t:AE}(h:Blk w b cs t):∀j,w.frozen? ⟨b,j,none⟩=false:=fun j=>by
  unfold Blk at h;simp[AA.frozen?,h]
theorem Q4s {B:Nat}{w w' :AA}{b:Nat}{cs:Array AB}{t:AE}(h:Blk w b cs t)(hb:Below B w w')(hB:b<B):Blk w' b cs t:=by
  unfold Blk at*;rw[hb.block b hB];exact h
theorem J3 {w w' :AA}{b:Nat}{cs:Array AB}{t:AE}(h:Blk w b cs t)(hb:Below w.heap.size w w'):Blk w' b cs t:=Q4s h hb (Q3 h)
theorem Z6 {w:AA}{b:Nat}{cs:Array AB}{t:AE}(h:Blk w b cs t)(o:Obj):Blk (w.alloc o) b cs t:=by
  have:=Q3 h;unfold Blk at*;rw[Below.heap_alloc _ _ _ this];exact h
theorem Y4 {w:AA}{n:Nat}(cs:Array AB)(t:AE)(hn:n=w.heap.size):Blk (w.alloc (.cells cs t)) n cs t:=by
  subst hn;unfold Blk;show(w.heap.push _)[w.heap.size]?=_;simp
theorem Y3 {w:AA}{b:Nat}{cs:Array AB}{t:AE}(h:Blk w b cs t):Blk w.drew b cs t:=h
theorem Z7 {w:AA}{b:Nat}{cs:Array AB}{t:AE}(h:Blk w b cs t)(j:Nat)(v:AB):Blk (w.setCell ⟨b,j,none⟩ v) b (cs.setIfInBounds j v) t:=by
  have D:=Q3 h;unfold Blk at*;have h' :w.heap[b]=.cells cs t (0,0):=by simpa[Array.getElem?_eq_getElem D] using h
  show(w.heap.modify b _)[b]?=_;rw[Array.getElem?_eq_getElem (by simpa using D),Array.getElem_modify_self,h'];rfl
theorem J9h {w:AA}{b:Nat}{x0 x1 x2 x3:AB}{t:AE}(h:Blk w b #[x0,x1,x2,x3] t)(y0 y1 y2 y3:AB):
    Blk ((((w.setCell ⟨b,0,none⟩ y0).setCell ⟨b,1,none⟩ y1).setCell ⟨b,2,none⟩ y2).setCell ⟨b,3,none⟩ y3) b #[y0,y1,y2,y3] t:=
  Z7 (Z7 (Z7 (Z7 h 0 y0) 1 y1) 2 y2) 3 y3
theorem J3q {w:AA}{b c:Nat}{cs:Array AB}{t:AE}(h:Blk w b cs t)(hbc:b≠c)(y0 y1 y2 y3:AB):
    Blk ((((w.setCell ⟨c,0,none⟩ y0).setCell ⟨c,1,none⟩ y1).setCell ⟨c,2,none⟩ y2).setCell ⟨c,3,none⟩ y3) b cs t:=by
  unfold Blk at*;rw[Below.heap_setCell _ _ _ _ hbc,Below.heap_setCell _ _ _ _ hbc,Below.heap_setCell _ _ _ _ hbc,Below.heap_setCell _ _ _ _ hbc];exact h
theorem J4 {w:AA}{b c:Nat}{cs:Array AB}{t:AE}(h:Blk w b cs t)(hbc:b≠c)(j:Nat)(v:AB):Blk (w.setCell ⟨c,j,none⟩ v) b cs t:=by
  unfold Blk at*;rw[Below.heap_setCell _ _ _ _ hbc];exact h

def J8:Nat:=115792089237316195423570985008687907853269984665640564039457584007913129639936
def Y8 (x:Int):Prop:=0≤x∧x<18446744073709551616
def U4 (a0 a1 a2 a3:Int):Prop:=Y8 a0∧Y8 a1∧Y8 a2∧Y8 a3
@[go_sem] def A4 (a0 a1 a2 a3:Int):AB:=.agg #[.int .u64 a0,.int .u64 a1,.int .u64 a2,.int .u64 a3]
def K3 (n:Nat)(i:Nat):Int:=((n / 2^(64*i) % 18446744073709551616:Nat):Int)
@[go_sem] def L4 (n:Nat):AB:=.agg #[.int .u64 (K3 n 0),.int .u64 (K3 n 1),.int .u64 (K3 n 2),.int .u64 (K3 n 3)]
@[go_sem] def c4 (V:Nat):Array AB:= #[.int .u64 (K3 V 0),.int .u64 (K3 V 1),.int .u64 (K3 V 2),.int .u64 (K3 V 3)]
def J0k (a0 a1 a2 a3:Int):Nat:=a0.toNat+18446744073709551616*a1.toNat+340282366920938463463374607431768211456*a2.toNat+6277101735386680763835789423207666416102355444464034512896*a3.toNat
theorem J0l (n i:Nat):Y8 (K3 n i):=by unfold Y8 K3;omega
theorem J52 (n:Nat):U4 (K3 n 0) (K3 n 1) (K3 n 2) (K3 n 3):=⟨J0l n 0,J0l n 1,J0l n 2,J0l n 3⟩
theorem Z74 (a0 a1 a2 a3:Int)(h:U4 a0 a1 a2 a3):
    K3 (J0k a0 a1 a2 a3) 0=a0∧K3 (J0k a0 a1 a2 a3) 1=a1∧K3 (J0k a0 a1 a2 a3) 2=a2∧K3 (J0k a0 a1 a2 a3) 3=a3:=by
  unfold K3 J0k U4 Y8 at*;simp only[Nat.reduceMul,Nat.reducePow];omega
theorem J16 (n:Nat)(h:n<115792089237316195423570985008687907853269984665640564039457584007913129639936):J0k (K3 n 0) (K3 n 1) (K3 n 2) (K3 n 3)=n:=by
  unfold K3 J0k;simp only[Nat.reduceMul,Nat.reducePow] at*;omega
theorem J87 (a0 a1 a2 a3:Int)(h:U4 a0 a1 a2 a3):J0k a0 a1 a2 a3<115792089237316195423570985008687907853269984665640564039457584007913129639936:=by
  unfold J0k U4 Y8 at*;omega
theorem J49 (a0 a1 a2 a3:Int)(h:U4 a0 a1 a2 a3):(J0k a0 a1 a2 a3:Int)=a0+18446744073709551616*a1+340282366920938463463374607431768211456*a2+6277101735386680763835789423207666416102355444464034512896*a3:=by
  obtain⟨⟨x0,_⟩,⟨x1,_⟩,⟨x2,_⟩,⟨x3,_⟩⟩:=h;unfold J0k;simp only[Int.natCast_add,Int.natCast_mul,Int.toNat_of_nonneg x0,Int.toNat_of_nonneg x1,Int.toNat_of_nonneg x2,Int.toNat_of_nonneg x3];rfl
theorem Z25 (a0 a1 a2 a3:Int)(h:U4 a0 a1 a2 a3):A4 a0 a1 a2 a3=L4 (J0k a0 a1 a2 a3):=by
  obtain⟨h0,h1,h2,h3⟩:=Z74 a0 a1 a2 a3 h;unfold L4;rw[h0,h1,h2,h3];rfl
theorem Z26 {m n:Nat}(h:m=n):L4 m=L4 n:=by rw[h]

theorem Q1s (x b:Int)(hx:Y8 x)(h0:0≤b)(h1:b≤1):bits .or .u64 (AI.wrap .u64 (x*2)) b=x*2 % 18446744073709551616+b:=by
  obtain⟨x0,x1⟩:=hx;obtain⟨X,rfl⟩:=Int.eq_ofNat_of_zero_le x0;obtain⟨B,rfl⟩:=Int.eq_ofNat_of_zero_le h0
  have e:AI.wrap .u64 ((X:Int)*2)=((X*2 % 18446744073709551616:Nat):Int):=by
    simp[AI.wrap,AI.signed,AI.bits]
  rw[e,bits_or_u64_nat _ _ (by omega) (by omega),or_bit _ _ (by omega) (by omega)];omega
end

section

def J0 (k:AI)(n:Nat)(f:Nat→Int):Array AB:=((List.range n).map fun i=>AB.int k (f i)).toArray
theorem J1 (k:AI)(n:Nat)(f:Nat→Int):(J0 k n f).size=n:=by simp[J0]
theorem Q6 (k:AI)(n:Nat)(f:Nat→Int)(i:Nat)(h:i<n):(J0 k n f)[i]?=some (.int k (f i)):=by
  simp[J0,h]
theorem ag0 {k:AI}{n:Nat}{f:Nat→Int}{i:Nat}(h:i<n):(J0 k n f)[0+i]?=some (.int k (f i)):=by rw[AP];exact Q6 _ _ _ _ h
theorem K6 (k:AI)(n:Nat)(f g:Nat→Int)(h:∀i,i<n→f i=g i):J0 k n f=J0 k n g:=by
  unfold J0
  congr 1
  apply List.map_congr_left;intro i hi;rw[h i (by simpa using hi)]
def upd (f:Nat→Int)(i:Nat)(v:Int):Nat→Int:=fun j=>if j=i then v else f j
theorem Y9 (k:AI)(n:Nat)(f:Nat→Int)(i:Nat)(v:Int):(J0 k n f).setIfInBounds i (.int k v)=J0 k n (upd f i v):=by
  apply Array.ext
  · simp[J0]
  intro j h1 h2;simp only[J0,List.size_toArray,List.length_map,List.length_range] at h2;rw[Array.getElem_setIfInBounds (by rw[J1];exact h2)];simp only[J0,List.getElem_toArray,List.getElem_map,List.getElem_range,upd]
  by_cases h:i=j
  · simp[h]
  simp[h,Ne.symm h]
def J6 (n i:Nat):Int:=((n / 2^(8*i) % 256:Nat):Int)
theorem J2v (n i:Nat):0≤J6 n i∧J6 n i<256:=by unfold J6;omega
theorem Z27 (n i:Nat):K3 n (i / 8) / 2^(8*(i % 8)) % 256=J6 n i:=by
  unfold K3 J6
  have e:n / 2^(8*i) % 256=n / 2^(64*(i / 8)) % 18446744073709551616 / 2^(8*(i % 8)) % 256:=by
    obtain⟨q,r,D,rfl⟩:∃q r,r<8∧i=8*q+r:=⟨i / 8,i % 8,by omega,by omega⟩
    rw[show 8*(8*q+r)=64*q+8*r by omega,show(8*q+r) / 8=q by omega,show(8*q+r) % 8=r by omega,Nat.pow_add,←Nat.div_div_eq_div_mul];generalize n / 2^(64*q)=m;have:r=0∨r=1∨r=2∨r=3∨r=4∨r=5∨r=6∨r=7:=by omega
    rcases this with h|h|h|h|h|h|h|h<;>subst h<;>simp only[Nat.reduceMul,Nat.reducePow]<;>omega
  rw[e];generalize n / 2^(64*(i / 8)) % 18446744073709551616=m;simp only[Int.natCast_emod,Int.natCast_ediv,Int.natCast_pow];rfl
theorem Z8 (k:AI)(n:Nat)(f:Nat→Int):(J0 k n f).all (·.oneCell')=true:=by
  simp[J0,AB.oneCell']
theorem X6 {w:AA}{g:Nat}{old:Array AB}{t:AE}(h:Blk w g old t)(cs:Array AB):Blk (w.setRow g cs) g cs t:=setRow_heap w g old cs t (0,0) h
theorem Y6 {w:AA}{g b:Nat}{cs:Array AB}{t:AE}(h:Blk w b cs t)(hb:b≠g)(c' :Array AB):Blk (w.setRow g c') b cs t:=by
  unfold Blk at*;rw[setRow_other w g b c' hb];exact h
/-! entering a function whose parameters lie in memory -/
section
variable {P : AD} {c : Code} {Q : AG → Act → AA → Prop} {a : Act} {w : AA} {c1 c2 c3 c5 : Array AB} {t1 t2 t3 t5 : AE}
theorem wn2 (h:∀W,Below w.heap.size w W→Blk W w.heap.size c1 t1→Blk W (w.heap.size+1) c2 t2→c.wp P Q a W):c.wp P Q a ((w.alloc (.cells c1 t1)).alloc (.cells c2 t2)):=
  h _ (((Below.refl _ _).alloc (AM _) _).alloc (by simp) _) (Z6 (Y4 _ _ rfl) _) (Y4 _ _ (by simp))
theorem wn3 (h:∀W,Below w.heap.size w W→Blk W w.heap.size c1 t1→Blk W (w.heap.size+1) c2 t2→Blk W (w.heap.size+2) c3 t3→c.wp P Q a W):c.wp P Q a (((w.alloc (.cells c1 t1)).alloc (.cells c2 t2)).alloc (.cells c3 t3)):=
  h _ ((((Below.refl _ _).alloc (AM _) _).alloc (by simp) _).alloc (by simp only[AA.size_alloc];omega) _) (Z6 (Z6 (Y4 _ _ rfl) _) _) (Z6 (Y4 _ _ (by simp)) _) (Y4 _ _ (by simp))
theorem wn4 (h:∀W,Below w.heap.size w W→Blk W w.heap.size c1 t1→Blk W (w.heap.size+1) c2 t2→Blk W (w.heap.size+2) c3 t3→Blk W (w.heap.size+3) c5 t5→c.wp P Q a W):c.wp P Q a ((((w.alloc (.cells c1 t1)).alloc (.cells c2 t2)).alloc (.cells c3 t3)).alloc (.cells c5 t5)):=
  h _ (((((Below.refl _ _).alloc (AM _) _).alloc (by simp) _).alloc (by simp only[AA.size_alloc];omega) _).alloc (by simp only[AA.size_alloc];omega) _) (Z6 (Z6 (Z6 (Y4 _ _ rfl) _) _) _) (Z6 (Z6 (Y4 _ _ (by simp)) _) _) (Z6 (Y4 _ _ (by simp)) _) (Y4 _ _ (by simp))
end
theorem exn {α:Sort _}(n:α):∃X,X=n:=⟨n,rfl⟩
theorem Q4t {P:AD}{ops:Array AF}{rest:List AF}{o:AF}{a:Act}{w:AA}{Q:AG→Act→AA→Prop}(hg:o.guard=none)(t:AE)(parts:Array (Nat×Operand))(ho:o.op=.build t parts)(cells:Array AB)
    (hf:P.built t (parts.map fun(i,x)=>(i,a.eval x)).toList=some cells)
    (h:AC P ops Q rest (a.put o.dst (.agg cells)) w):AC P ops Q (o::rest) a w:=
  wpList_build hg t parts ho (by rw[hf];rfl) (by rw[hf];exact h)
theorem Q83 (k:AI)(n:Nat)(f:Nat→Int):J0 k n f=(((List.range n).map f).map (AB.int k)).toArray:=by
  unfold J0;rw[List.map_map];rfl
end

section

def J5p (f g:Nat→Int):Nat→Nat→Bool
  |_,0=>true
  |s,m+1=>(f s==g s) && J5p f g (s+1) m
theorem Q15 (f g:Nat→Int):∀m s,J5p f g s m=true↔∀i,s≤i→i<s+m→f i=g i
  |0,s=>by simp[J5p];omega
  |m+1,s=>by
    simp only[J5p,Bool.and_eq_true,beq_iff_eq,Q15 f g m (s+1)];constructor
    · rintro⟨h0,h1⟩ i hi hlt
      by_cases h:i=s
      · subst h;exact h0
      · exact h1 i (by omega) (by omega)
    · intro h
      exact⟨h s (by omega) (by omega),fun i hi hlt=>h i (by omega) (by omega)⟩
def Z28 (n:Nat)(f g:Nat→Int):Bool:=J5p f g 0 n
theorem J2w (n:Nat)(f g:Nat→Int):Z28 n f g=true↔∀i,i<n→f i=g i:=by
  unfold Z28;rw[Q15];constructor
  · intro h i hi;exact h i (by omega) (by omega)
  intro h i _ hi;exact h i (by omega)

theorem J6e {P:AD}(w:AA)(e:AE)(k:AI)(he:P.underlying e=some (.int k))(xs:Array AB)(i:Nat)(v:AB)(hv:xs[i]?=some v):(part e xs i).run P w=.ok v w:=by
  have h1:(isAgg e).run P w=.ok false w:=by
    unfold isAgg;rw[Sem.run_bind,run_underlying he w];rfl
  simp[part,Sem.run_bind,h1,hv]

theorem Q2f {P:AD}(w:AA)(d:Nat)(e:AE)(k:AI)(he:P.underlying e=some (.int k))(xs ys:Array AB)(f g:Nat→Int):∀(m s:Nat),
    (∀i,s≤i→i<s+m→xs[i]?=some (.int k (f i)))→(∀i,s≤i→i<s+m→ys[i]?=some (.int k (g i)))→
    Sem.run P (forIn (List.range' s m) ((none,()):Option Bool×Unit) fun i _=>do
        let a←part e xs (i*1)
        let b←part e ys (i*1)
        let c←Op.equalIn (d+1) e a b
        if c=false then pure (ForInStep.done (some false,())) else pure (ForInStep.yield (none,()))) w=
      .ok (if J5p f g s m then(none,()) else(some false,())) w
  |0,s,_,_=>by simp[J5p]
  |m+1,s,hx,hy=>by
    rw[List.range'_succ,List.forIn_cons];simp only[AS,Sem.run_bind,J6e w e k he xs s _ (hx s (by omega) (by omega)),J6e w e k he ys s _ (hy s (by omega) (by omega)),Result.andThen_ok,run_equalIn_int w d e k k _ _ he]
    by_cases h:f s=g s
    · have ih:=Q2f w d e k he xs ys f g m (s+1) (fun i h1 h2=>hx i (by omega) (by omega)) (fun i h1 h2=>hy i (by omega) (by omega))
      simp only[AS] at ih;simp[h,J5p,ih]
    · simp[h,J5p]

theorem J13 {P:AD}(w:AA)(d:Nat)(t e n:Nat)(k:AI)(xs ys:Array AB)(f g:Nat→Int)(ht:P.underlying t=some (.array n e))(he:P.underlying e=some (.int k))(hs:(P.info? e).map (·.size)=some 1)
    (hx:∀i,i<n→xs[i]?=some (.int k (f i))) (hy:∀i,i<n→ys[i]?=some (.int k (g i))):
    (Op.equalIn (d+2) t (.agg xs) (.agg ys)).run P w=.ok (Z28 n f g) w:=by
  have D:(sizeOf e).run P w=.ok 1 w:=by
    cases hq:P.info? e with
    |none=>simp[hq] at hs
    |some i=>simp[hq] at hs;simp[sizeOf,typeInfo,hq,hs]
  have hl:=Q2f w d e k he xs ys f g n 0 (fun i _ h=>hx i (by omega)) (fun i _ h=>hy i (by omega));rw[Op.equalIn];simp[run_underlying ht,D];simp only[AS] at hl;rw[hl];unfold Z28;cases J5p f g 0 n<;>simp

theorem J1l {P:AD}(w:AA)(t e n:Nat)(k k' :AI)(xs:Array AB)(i:Nat)(x:Int)(ht:P.underlying t=some (.array n e))(he:P.underlying e=some (.int k))(hs:(P.info? e).map (·.size)=some 1)(hi:i<n)(hx:xs[i]?=some (.int k x)):
    (Instr.index t (.agg xs) (.int k' (i:Int))).run P w=.ok (.int k x) w:=by
  have D:(sizeOf e).run P w=.ok 1 w:=by
    cases hq:P.info? e with
    |none=>simp[hq] at hs
    |some i=>simp[hq] at hs;simp[sizeOf,typeInfo,hq,hs]
  have hp:=J6e w e k he xs i _ hx;simp[Instr.index,asIntOf,run_underlying ht,D,hi,hp]
end

section

def sbD (x y b:Int):Int:=(x-y-b) % 18446744073709551616
def sbB (x y b:Int):Int:=if x<y+b then 1 else 0
theorem J4s (x y b:Int):0≤sbB x y b∧sbB x y b≤1:=by unfold sbB;split<;>omega
theorem Q1t (x y b:Int)(hx:Y8 x)(hy:Y8 y)(h0:0≤b)(h1:b≤1):sbD x y b=x-y-b+18446744073709551616*sbB x y b∧Y8 (sbD x y b):=by
  unfold Y8 sbD sbB at*;split<;>omega
def J8y:Array AB→Sem AB:=fun args=>do
  let (x, y, b) ← Extern.MathBitsCarry.three "Sub64" args
  pure (Extern.MathBitsCarry.pair ((x+Extern.MathBitsCarry.m64-y-b) % Extern.MathBitsCarry.m64) (if x<y+b then 1 else 0))
theorem Z4r {P:AD}(x y c:Int)(hx:Y8 x)(hy:Y8 y)(hc0:0≤c)(hc:c≤1)(w:AA):
    (J8y #[.int .u64 x,.int .u64 y,.int .u64 c]).run P w=.ok (.tuple #[.int .u64 (sbD x y c),.int .u64 (sbB x y c)]) w:=by
  have D:∀k:Nat,k≤1→(J8y #[.int .u64 x,.int .u64 y,.int .u64 (k:Int)]).run P w=
      .ok (Extern.MathBitsCarry.pair ((x.toNat+Extern.MathBitsCarry.m64-y.toNat-k) % Extern.MathBitsCarry.m64) (if x.toNat<y.toNat+k then 1 else 0)) w:=by
    intro k hk;have:k=0∨k=1:=by omega
    rcases this with rfl|rfl<;>rfl
  obtain⟨k,rfl⟩:=Int.eq_ofNat_of_zero_le hc0;rw[D k (by omega)];obtain⟨J,M⟩:=hx;obtain⟨G,N⟩:=hy;obtain⟨X,rfl⟩:=Int.eq_ofNat_of_zero_le J;obtain⟨Y,rfl⟩:=Int.eq_ofNat_of_zero_le G
  have e1:Int.ofNat ((X+18446744073709551616-Y-k) % 18446744073709551616)=sbD X Y k:=by
    unfold sbD;simp only[Int.ofNat_eq_natCast];omega
  have e2:Int.ofNat (if X<Y+k then 1 else 0)=sbB X Y k:=by
    unfold sbB;split<;>split<;>first|rfl|omega
  simp only[Extern.MathBitsCarry.pair,Extern.MathBitsCarry.m64,Int.toNat_natCast,Nat.reducePow,e1,e2]
theorem J31 (x y b:Int)(hx:Y8 x)(hy:Y8 y)(hb0:0≤b)(hb:b≤1)(w:AA):(callFunc 145 #[.int .u64 x,.int .u64 y,.int .u64 b]).run Tryz.prog w=.ok (.value (.tuple #[.int .u64 (sbD x y b),.int .u64 (sbB x y b)])) w:=by
  rw[run_callFunc_extern Tryz.func145 (by kernel_rfl) (by kernel_rfl) (by kernel_rfl) (e:=J8y) (by kernel_rfl),Z4r x y b hx hy hb0 hb];rfl

def adS (x y c:Int):Int:=(x+y+c) % 18446744073709551616
def adC (x y c:Int):Int:=(x+y+c) / 18446744073709551616
theorem J8s (x y c:Int)(hx:Y8 x)(hy:Y8 y)(h0:0≤c)(h1:c≤1):0≤adC x y c∧adC x y c≤1:=by unfold Y8 adC at*;omega
theorem Q1u (x y c:Int):adS x y c+18446744073709551616*adC x y c=x+y+c∧Y8 (adS x y c):=by
  unfold Y8 adS adC at*;omega
theorem J0z (x y c:Int)(hx:Y8 x)(hy:Y8 y)(hb0:0≤c)(hb:c≤1)(w:AA):(callFunc 111 #[.int .u64 x,.int .u64 y,.int .u64 c]).run Tryz.prog w=.ok (.value (.tuple #[.int .u64 (adS x y c),.int .u64 (adC x y c)])) w:=by
  rw[run_callFunc_extern Tryz.func111 (by kernel_rfl) (by kernel_rfl) (by kernel_rfl) (e:=add64Entry) (by kernel_rfl),run_add64 x y c hx.1 hy.1 hb0 hb];rfl

def J75 (A B:Nat):Nat:=(A+115792089237316195423570985008687907853269984665640564039457584007913129639936-B) % 115792089237316195423570985008687907853269984665640564039457584007913129639936
def brw (A B:Nat):Int:=if A<B then 1 else 0
theorem Q4u (a0 a1 a2 a3 b0 b1 b2 b3:Int)(ha:U4 a0 a1 a2 a3)(hb:U4 b0 b1 b2 b3):
    let u0:=sbB a0 b0 0;let u1:=sbB a1 b1 u0;let u2:=sbB a2 b2 u1;let u3:=sbB a3 b3 u2
    A4 (sbD a0 b0 0) (sbD a1 b1 u0) (sbD a2 b2 u1) (sbD a3 b3 u2)=L4 (J75 (J0k a0 a1 a2 a3) (J0k b0 b1 b2 b3))∧u3=brw (J0k a0 a1 a2 a3) (J0k b0 b1 b2 b3):=by
  intro u0 u1 u2 u3;have v0:=J4s a0 b0 0;have v1:=J4s a1 b1 u0;have v2:=J4s a2 b2 u1;have v3:=J4s a3 b3 u2;have s0:=Q1t a0 b0 0 ha.1 hb.1 (by omega) (by omega);have s1:=Q1t a1 b1 u0 ha.2.1 hb.2.1 v0.1 v0.2;have s2:=Q1t a2 b2 u1 ha.2.2.1 hb.2.2.1 v1.1 v1.2;have s3:=Q1t a3 b3 u2 ha.2.2.2 hb.2.2.2 v2.1 v2.2;have hd:U4 (sbD a0 b0 0) (sbD a1 b1 u0) (sbD a2 b2 u1) (sbD a3 b3 u2):=⟨s0.2,s1.2,s2.2,s3.2⟩
  rw[Z25 _ _ _ _ hd];have iA:=J49 _ _ _ _ ha;have iB:=J49 _ _ _ _ hb;have iD:=J49 _ _ _ _ hd;have lA:=J87 _ _ _ _ ha;have lB:=J87 _ _ _ _ hb;have lD:=J87 _ _ _ _ hd;have e0:=s0.1;have e1:=s1.1;have e2:=s2.1;have e3:=s3.1
  have G:(J0k (sbD a0 b0 0) (sbD a1 b1 u0) (sbD a2 b2 u1) (sbD a3 b3 u2):Int)=(J0k a0 a1 a2 a3:Int)-(J0k b0 b1 b2 b3:Int)+115792089237316195423570985008687907853269984665640564039457584007913129639936*u3:=by
    rw[iA,iB,iD]
    change _=_+_*u3 at e3
    change _=_+_*u2 at e2
    change _=_+_*u1 at e1
    change _=_+_*u0 at e0
    clear iA iB iD lA lB lD s0 s1 s2 s3 v0 v1 v2 v3 hd;generalize sbD a0 b0 0=d0 at*;generalize sbD a1 b1 u0=d1 at*;generalize sbD a2 b2 u1=d2 at*;generalize sbD a3 b3 u2=d3 at*
    clear_value u3 u2 u1 u0
    clear ha hb;omega
  change 0≤u3∧u3≤1 at v3
  clear iA iB iD e0 e1 e2 e3 s0 s1 s2 s3 v0 v1 v2 hd;generalize J0k (sbD a0 b0 0) (sbD a1 b1 u0) (sbD a2 b2 u1) (sbD a3 b3 u2)=D at*;generalize J0k a0 a1 a2 a3=A at*;generalize J0k b0 b1 b2 b3=B at*
  clear_value u3
  have hu:u3=0∨u3=1:=by omega
  rcases hu with rfl|rfl
  · exact⟨Z26 (by unfold J75;omega),by unfold brw;rw[if_neg (by omega)]⟩
  exact⟨Z26 (by unfold J75;omega),by unfold brw;rw[if_pos (by omega)]⟩
theorem Q4v (a0 a1 a2 a3 b0 b1 b2 b3 c:Int)(ha:U4 a0 a1 a2 a3)(hb:U4 b0 b1 b2 b3)(hc0:0≤c)(hc1:c≤1):
    let u0:=adC a0 b0 c;let u1:=adC a1 b1 u0;let u2:=adC a2 b2 u1;let u3:=adC a3 b3 u2
    A4 (adS a0 b0 c) (adS a1 b1 u0) (adS a2 b2 u1) (adS a3 b3 u2)=L4 ((J0k a0 a1 a2 a3+J0k b0 b1 b2 b3+c.toNat) % 115792089237316195423570985008687907853269984665640564039457584007913129639936)∧u3=((J0k a0 a1 a2 a3+J0k b0 b1 b2 b3+c.toNat) / 115792089237316195423570985008687907853269984665640564039457584007913129639936:Nat):=by
  intro u0 u1 u2 u3;have v0:=J8s a0 b0 c ha.1 hb.1 hc0 hc1;have v1:=J8s a1 b1 u0 ha.2.1 hb.2.1 v0.1 v0.2;have v2:=J8s a2 b2 u1 ha.2.2.1 hb.2.2.1 v1.1 v1.2;have v3:=J8s a3 b3 u2 ha.2.2.2 hb.2.2.2 v2.1 v2.2;have s0:=Q1u a0 b0 c;have s1:=Q1u a1 b1 u0;have s2:=Q1u a2 b2 u1;have s3:=Q1u a3 b3 u2;have hd:U4 (adS a0 b0 c) (adS a1 b1 u0) (adS a2 b2 u1) (adS a3 b3 u2):=⟨s0.2,s1.2,s2.2,s3.2⟩
  rw[Z25 _ _ _ _ hd];have iA:=J49 _ _ _ _ ha;have iB:=J49 _ _ _ _ hb;have iD:=J49 _ _ _ _ hd;have lA:=J87 _ _ _ _ ha;have lB:=J87 _ _ _ _ hb;have lD:=J87 _ _ _ _ hd;have e0:=s0.1;have e1:=s1.1;have e2:=s2.1;have e3:=s3.1
  have G:(J0k (adS a0 b0 c) (adS a1 b1 u0) (adS a2 b2 u1) (adS a3 b3 u2):Int)+115792089237316195423570985008687907853269984665640564039457584007913129639936*u3=(J0k a0 a1 a2 a3:Int)+(J0k b0 b1 b2 b3:Int)+c:=by
    rw[iA,iB,iD]
    change _+_*u3=_ at e3
    change _+_*u2=_ at e2
    change _+_*u1=_ at e1
    change _+_*u0=_ at e0
    clear iA iB iD lA lB lD s0 s1 s2 s3 v0 v1 v2 v3 hd;generalize adS a0 b0 c=d0 at*;generalize adS a1 b1 u0=d1 at*;generalize adS a2 b2 u1=d2 at*;generalize adS a3 b3 u2=d3 at*
    clear_value u3 u2 u1 u0
    clear ha hb;omega
  change 0≤u3∧u3≤1 at v3
  clear iA iB iD e0 e1 e2 e3 s0 s1 s2 s3 v0 v1 v2 hd;generalize J0k (adS a0 b0 c) (adS a1 b1 u0) (adS a2 b2 u1) (adS a3 b3 u2)=D at*;generalize J0k a0 a1 a2 a3=A at*;generalize J0k b0 b1 b2 b3=B at*
  clear_value u3
  have hu:u3=0∨u3=1:=by omega
  rcases hu with rfl|rfl
  · exact⟨Z26 (by omega),by omega⟩
  exact⟨Z26 (by omega),by omega⟩
theorem Y8l {a0 a1 a2 a3:Int}{V:Nat}(h:A4 a0 a1 a2 a3=L4 V):a0=K3 V 0∧a1=K3 V 1∧a2=K3 V 2∧a3=K3 V 3:=by
  simpa[A4,L4] using h
end

section

namespace M64
theorem maskN (a:Nat)(ha:a<18446744073709551616):bits .and .u64 (a:Int) 4294967295=((a % 4294967296:Nat):Int):=by
  have h:=bits_and_u64_nat a 4294967295 ha (by omega);have e:a &&& 4294967295=a % 4294967296:=Nat.and_two_pow_sub_one_eq_mod a 32;rw[e] at h;exact h
theorem divN (a:Nat):(a:Int) / 4294967296=((a / 4294967296:Nat):Int):=by omega
theorem mulN (a b:Nat):(a:Int)*(b:Int)=((a*b:Nat):Int):=(Int.natCast_mul a b).symm
theorem addN (a b:Nat):(a:Int)+(b:Int)=((a+b:Nat):Int):=(Int.natCast_add a b).symm
theorem wrapN (a:Nat)(ha:a<18446744073709551616):AI.u64.wrap (a:Int)=(a:Int):=by rw[AI.wrap_u64];omega
theorem wrapM (a:Nat):AI.u64.wrap (a:Int)=((a % 18446744073709551616:Nat):Int):=by rw[AI.wrap_u64];omega
end M64

set_option maxHeartbeats 1000000 in
theorem Y2b (x y:Nat)(hx:x<18446744073709551616)(hy:y<18446744073709551616)(w:AA):
    Calls Tryz.prog 114 #[.int .u64 x,.int .u64 y] w fun e w' =>e=.returned (.tuple #[.int .u64 ((x*y / 18446744073709551616:Nat):Int),.int .u64 ((x*y % 18446744073709551616:Nat):Int)])∧w=w' :=by
  obtain⟨bd,bt,bw,G⟩:=Lib.mul64_hi x y hx hy;have ba:=Lib.half_mul_le (a:=x / 4294967296) (b:=y / 4294967296) (by omega) (by omega);have bb:=Lib.half_mul_le (a:=x / 4294967296) (b:=y % 4294967296) (by omega) (by omega);have bc:=Lib.half_mul_le (a:=x % 4294967296) (b:=y / 4294967296) (by omega) (by omega);have ba' :x / 4294967296*(y / 4294967296)<18446744073709551616:=by omega
  have bb' :x / 4294967296*(y % 4294967296)<18446744073709551616:=by omega
  have bc' :x % 4294967296*(y / 4294967296)<18446744073709551616:=by omega
  have D:x / 4294967296*(y / 4294967296)+(x / 4294967296*(y % 4294967296)+x % 4294967296*(y % 4294967296) / 4294967296) / 4294967296<18446744073709551616:=by omega
  have bh:x / 4294967296*(y / 4294967296)+(x / 4294967296*(y % 4294967296)+x % 4294967296*(y % 4294967296) / 4294967296) / 4294967296+((x / 4294967296*(y % 4294967296)+x % 4294967296*(y % 4294967296) / 4294967296) % 4294967296+x % 4294967296*(y / 4294967296)) / 4294967296<18446744073709551616:=by omega
  go_enter Tryz.func114,Tryz.ntmps114
  go_wp2;simp only[M64.maskN x hx,M64.maskN y hy,M64.divN,M64.mulN,M64.addN,M64.wrapN _ bd,M64.wrapN _ bb',M64.wrapN _ bt,M64.maskN _ bt,M64.wrapN _ bc',M64.wrapN _ bw,M64.wrapN _ ba',M64.wrapN _ D,M64.wrapN _ bh,M64.wrapM (x*y)];rw[G]
  go_ret2
  exact⟨rfl,rfl⟩

def Z4s (x y:Int):Int:=x*y / 18446744073709551616
def J5q (x y:Int):Int:=x*y % 18446744073709551616
theorem Q64 (x y:Int)(hx:Y8 x)(hy:Y8 y)(w:AA):
    Calls Tryz.prog 114 #[.int .u64 x,.int .u64 y] w fun e w' =>e=.returned (.tuple #[.int .u64 (Z4s x y),.int .u64 (J5q x y)])∧w=w' :=by
  obtain⟨x0,x1⟩:=hx;obtain⟨y0,y1⟩:=hy;obtain⟨X,rfl⟩:=Int.eq_ofNat_of_zero_le x0;obtain⟨Y,rfl⟩:=Int.eq_ofNat_of_zero_le y0;have h:=Y2b X Y (by omega) (by omega) w;have e1:Z4s X Y=((X*Y / 18446744073709551616:Nat):Int):=by unfold Z4s;rw[M64.mulN];omega
  have e2:J5q X Y=((X*Y % 18446744073709551616:Nat):Int):=by unfold J5q;rw[M64.mulN];omega
  rw[e1,e2];exact h

theorem Q2g (x y f c:Int)(hx:Y8 x)(hy:Y8 y)(hf:Y8 f)(hc:Y8 c):
    Y8 (J5q x y)∧Y8 (adS (J5q x y) f 0)∧
    Y8 (AI.u64.wrap (AI.u64.wrap (Z4s x y+adC (J5q x y) f 0)+adC (adS (J5q x y) f 0) c 0))∧Y8 (adS (adS (J5q x y) f 0) c 0)∧
    adS (adS (J5q x y) f 0) c 0+18446744073709551616*AI.u64.wrap (AI.u64.wrap (Z4s x y+adC (J5q x y) f 0)+adC (adS (J5q x y) f 0) c 0)=x*y+f+c:=by
  have hp:x*y≤340282366920938463426481119284349108225:=by
    obtain⟨x0,x1⟩:=hx;obtain⟨y0,y1⟩:=hy;exact Int.le_trans (Int.mul_le_mul (show x≤18446744073709551615 by omega) (show y≤18446744073709551615 by omega) y0 (by omega)) (by decide)
  have D:0≤x*y:=Int.mul_nonneg hx.1 hy.1;unfold Z4s J5q adS adC Y8 at*;rw[AI.wrap_u64,AI.wrap_u64];generalize x*y=p at*;omega
end

section
def J1m (ws:Nat→Int):Nat→Nat
  |0=>0
  |n+1=>J1m ws n+(ws n).toNat*2^(64*n)
theorem J9i (ws:Nat→Int):∀n,(∀j,j<n→Y8 (ws j))→J1m ws n<2^(64*n)
  |0,_=>by simp[J1m]
  |n+1,h=>by
    have ih:=J9i ws n (fun j hj=>h j (by omega));have h1:=h n (by omega);have e:(2:Nat)^(64*(n+1))=18446744073709551616*2^(64*n):=by rw[Nat.mul_add,Nat.pow_add,Nat.mul_comm]
    unfold Y8 at h1;rw[e];show J1m ws n+(ws n).toNat*2^(64*n)<_;have:(ws n).toNat*2^(64*n)≤18446744073709551615*2^(64*n):=Nat.mul_le_mul_right _ (by omega);omega
theorem Q2h (f g:Nat→Int):∀n,(∀j,j<n→f j=g j)→J1m f n=J1m g n
  |0,_=>rfl
  |n+1,h=>by
    show J1m f n+_=J1m g n+_;rw[Q2h f g n (fun j hj=>h j (by omega)),h n (by omega)]
theorem J5z (f:Nat→Int)(j:Nat)(v:Int):∀n,j<n→J1m (upd f j v) n+(f j).toNat*2^(64*j)=J1m f n+v.toNat*2^(64*j)
  |0,h=>by omega
  |n+1,h=>by
    show J1m (upd f j v) n+(upd f j v n).toNat*2^(64*n)+_=J1m f n+(f n).toNat*2^(64*n)+_
    by_cases hj:j=n
    · subst hj
      rw[Q2h (upd f j v) f j (fun i hi=>by unfold upd;rw[if_neg (by omega)])];simp only[upd,if_true];omega
    · have ih:=J5z f j v n (by omega)
      have e:upd f j v n=f n:=by unfold upd;rw[if_neg (fun h=>hj h.symm)]
      rw[e];omega
theorem J21 (f:Nat→Int)(j:Nat)(v:Int):upd f j v j=v:=by simp[upd]
theorem J0h (f:Nat→Int)(j i:Nat)(v:Int)(h:i≠j):upd f j v i=f i:=by simp[upd,h]
theorem J88:∀n,J1m (fun _=>0) n=0
  |0=>rfl
  |n+1=>by show J1m (fun _=>0) n+(0:Int).toNat*_=0;rw[J88 n];simp
theorem J7b (V:Nat):∀n,J1m (K3 V) n=V % 2^(64*n)
  |0=>by simp[J1m,Nat.mod_one]
  |n+1=>by
    show J1m (K3 V) n+(K3 V n).toNat*2^(64*n)=_;rw[J7b V n,Nat.mul_add,Nat.pow_add,Nat.mod_mul];unfold K3;rw[Int.toNat_natCast,Nat.mul_comm (2^(64*n))]
theorem Q4w (V:Nat)(h:V<J8):J1m (K3 V) 4=V:=by
  rw[J7b,AL];exact h
theorem J60 (V i:Nat):V % 2^(64*(i+1))=V % 2^(64*i)+(K3 V i).toNat*2^(64*i):=by
  rw[←J7b,←J7b];rfl
theorem J61 (f:Nat→Int):∀n j,j<n→(∀i,i<n→Y8 (f i))→K3 (J1m f n) j=f j
  |0,j,h,_=>by omega
  |n+1,j,h,hf=>by
    have hl:=J9i f n (fun i hi=>hf i (by omega));have hn:=hf n (by omega);unfold Y8 at hn;have hq:J1m f (n+1)=J1m f n+(f n).toNat*2^(64*n):=rfl
    by_cases hj:j=n
    · subst hj
      unfold K3;rw[hq,Nat.add_mul_div_right _ _ (AQ _),AR hl,AP];omega
    · have ih:=J61 f n j (by omega) (fun i hi=>hf i (by omega))
      rw[←ih];unfold K3;obtain⟨d,hd⟩:∃d,64*n=64*j+(64+d):=⟨64*n-64*j-64,by omega⟩
      rw[hq,hd,Nat.pow_add 2 (64*j),Nat.mul_left_comm,Nat.add_mul_div_left _ _ (AQ _),Nat.pow_add 2 64 d,Nat.mul_left_comm];have e:(2:Nat)^64=18446744073709551616:=by decide
      rw[e,Nat.add_mul_mod_self_left]
end

section

def J4v (x:Int):Prop:=0≤x∧x<256
def J0t (bs:Nat→Int):Nat→Nat
  |0=>0
  |n+1=>J0t bs n+(bs n).toNat*2^(8*n)
theorem J5j (bs:Nat→Int)(h:∀j,J4v (bs j)):∀n,J0t bs n<2^(8*n)
  |0=>by simp[J0t]
  |n+1=>by
    have ih:=J5j bs h n;have h1:=h n;have e:(2:Nat)^(8*(n+1))=256*2^(8*n):=by rw[Nat.mul_add,Nat.pow_add,Nat.mul_comm]
    unfold J4v at h1;rw[e];show J0t bs n+(bs n).toNat*2^(8*n)<_;have:(bs n).toNat*2^(8*n)≤255*2^(8*n):=Nat.mul_le_mul_right _ (by omega);omega
theorem Z75 (p:Nat)(h:p<18446744073709551616):AI.wrap .u64 (p:Int)=(p:Int):=by rw[AI.wrap_u64];omega
theorem Z29 (bs:Nat→Int)(h:∀j,J4v (bs j))(q r:Nat)(hr:r<8):
    bits .or .u64 (K3 (J0t bs (8*q+r)) q) (AI.wrap .u64 (bs (8*q+r)*2^(8*r)))=K3 (J0t bs (8*q+r+1)) q:=by
  have hl:=J5j bs h (8*q+r);obtain⟨b0,b1⟩:=h (8*q+r);show _=K3 (J0t bs (8*q+r)+(bs (8*q+r)).toNat*2^(8*(8*q+r))) q;obtain⟨x,hx⟩:=Int.eq_ofNat_of_zero_le b0;rw[hx] at b1⊢;rw[Int.toNat_natCast];generalize J0t bs (8*q+r)=V at*;rw[show 8*(8*q+r)=64*q+8*r by omega,Nat.pow_add] at*;have hV:V / 2^(64*q)<2^(8*r):=Nat.div_lt_of_lt_mul hl;have hp:(2:Nat)^(8*r)≤2^56:=Nat.pow_le_pow_right (by omega) (by omega);have G:x*2^(8*r)≤255*2^56:=Nat.mul_le_mul (by omega) hp;unfold K3
  have e1:(V+x*(2^(64*q)*2^(8*r))) / 2^(64*q)=V / 2^(64*q)+x*2^(8*r):=by
    rw[Nat.mul_left_comm,Nat.add_mul_div_left _ _ (AQ _)]
  rw[e1];generalize V / 2^(64*q)=v at*;have e0:(x:Int)*2^(8*r)=((x*2^(8*r):Nat):Int):=by rw[Int.natCast_mul,Int.natCast_pow];rfl
  have D:x*2^(8*r)<18446744073709551616:=AN G (by decide)
  have e2:AI.wrap .u64 ((x:Int)*2^(8*r))=((x*2^(8*r):Nat):Int):=by
    rw[e0];exact Z75 _ D
  rw[e2];have J:(2:Nat)^56=72057594037927936:=by decide
  rw[bits_or_u64_nat _ _ (by omega) (by omega)]
  have e3:v % 18446744073709551616 |||x*2^(8*r)=v+x*2^(8*r):=by
    rw[AL (by omega),Nat.or_comm,Nat.mul_comm x,←Nat.two_pow_add_eq_or_of_lt hV,Nat.add_comm]
  rw[e3]
  congr 1
  rw[AL (by omega)]
theorem J7c (bs:Nat→Int)(h:∀j,J4v (bs j))(k j:Nat)(hj:j≠k / 8):K3 (J0t bs (k+1)) j=K3 (J0t bs k) j:=by
  have hl:=J5j bs h k
  by_cases D:j<k / 8
  · show K3 (J0t bs k+(bs k).toNat*2^(8*k)) j=_
    generalize J0t bs k=V at*;generalize (bs k).toNat=x;unfold K3;obtain⟨d,hd⟩:∃d,8*k=64*j+(64+d):=⟨8*k-64*j-64,by omega⟩
    rw[hd,Nat.pow_add 2 (64*j),Nat.mul_left_comm,Nat.add_mul_div_left _ _ (AQ _),Nat.pow_add 2 64 d,Nat.mul_left_comm];have e:(2:Nat)^64=18446744073709551616:=by decide
    rw[e,Nat.add_mul_mod_self_left]
  have h1:=J5j bs h (k+1);have h2:(2:Nat)^(8*(k+1))≤2^(64*j):=Nat.pow_le_pow_right (by omega) (by omega);have h3:J0t bs (k+1)<2^(64*j):=Nat.lt_of_lt_of_le h1 h2;have h4:J0t bs k<2^(64*j):=AN (Nat.le_add_right _ _) h3;show((J0t bs (k+1) / _ % _:Nat):Int)=((J0t bs k / _ % _:Nat):Int)
  rw[AR h3,AR h4]
end

section

def Q9 (n i:Nat):Int:=((n / 2^(16*i) % 65536:Nat):Int)
theorem X7 (n i:Nat):0≤Q9 n i∧Q9 n i≤65535:=by unfold Q9;omega
def A16 (n:Nat):AB:=.agg (J0 .i64 16 (Q9 n))
theorem J2x (i:Nat):(2:Nat)^(16*(i+1))=2^(16*i)*65536:=by rw[Nat.mul_add,Nat.pow_add]
theorem J2y (X i:Nat):X % 2^(16*(i+1))=X % 2^(16*i)+X / 2^(16*i) % 65536*2^(16*i):=by
  rw[J2x,Nat.mod_mul,Nat.mul_comm (2^(16*i))]
def J32 (X Y i:Nat):Nat:=(X % 2^(16*i)+Y % 2^(16*i)) / 2^(16*i)
theorem Z0c (X Y:Nat):J32 X Y 0=0:=by simp[J32,Nat.mod_one]
theorem Q2i (X Y i:Nat):J32 X Y i≤1:=by
  unfold J32;have hp:=AQ (16*i);have h1:=AO X hp;have h2:=AO Y hp
  have:(X % 2^(16*i)+Y % 2^(16*i)) / 2^(16*i)<2:=by
    rw[Nat.div_lt_iff_lt_mul hp];omega
  omega
theorem Q2j (X Y i:Nat):Q9 X i+Q9 Y i+(J32 X Y i:Int)=Q9 (X+Y) i+65536*(J32 X Y (i+1):Int):=by
  have hp:=AQ (16*i)
  have e1:J32 X Y (i+1)=(X / 2^(16*i) % 65536+Y / 2^(16*i) % 65536+J32 X Y i) / 65536:=by
    unfold J32;rw[J2y X i,J2y Y i,J2x,←Nat.div_div_eq_div_mul]
    congr 1
    rw[show X % 2^(16*i)+X / 2^(16*i) % 65536*2^(16*i)+(Y % 2^(16*i)+Y / 2^(16*i) % 65536*2^(16*i))=X % 2^(16*i)+Y % 2^(16*i)+(X / 2^(16*i) % 65536+Y / 2^(16*i) % 65536)*2^(16*i) by rw[Nat.add_mul];omega];rw[Nat.add_mul_div_right _ _ hp];omega
  have e2:(X+Y) / 2^(16*i)=X / 2^(16*i)+Y / 2^(16*i)+J32 X Y i:=by
    unfold J32;have hx:=Nat.div_add_mod X (2^(16*i));have hy:=Nat.div_add_mod Y (2^(16*i));rw[show X+Y=(X % 2^(16*i)+Y % 2^(16*i))+2^(16*i)*(X / 2^(16*i)+Y / 2^(16*i)) by rw[Nat.mul_add];omega];rw[Nat.add_mul_div_left _ _ hp];omega
  unfold Q9;rw[e2,e1];have:=Q2i X Y i;generalize J32 X Y i=c at*;generalize X / 2^(16*i)=x at*;generalize Y / 2^(16*i)=y at*;omega
def J17 (X Y i:Nat):Nat:=if X % 2^(16*i)<Y % 2^(16*i) then 1 else 0
theorem J6f (X Y:Nat):J17 X Y 0=0:=by simp[J17,Nat.mod_one]
theorem J53 (X Y i:Nat):J17 X Y i≤1:=by unfold J17;split<;>omega
theorem Q2k (X Y i:Nat)(h:Y≤X):Q9 X i-Q9 Y i-(J17 X Y i:Int)=Q9 (X-Y) i-65536*(J17 X Y (i+1):Int):=by
  obtain⟨Z,rfl⟩:∃Z,X=Y+Z:=⟨X-Y,by omega⟩
  rw[Nat.add_sub_cancel_left];have h1:=Q2j Y Z i
  have D:∀k,J17 (Y+Z) Y k=J32 Y Z k:=by
    intro k;unfold J17 J32;have hp:=AQ (16*k);have hy:=AO Y hp;have hz:=AO Z hp;rw[Nat.add_mod];generalize Y % 2^(16*k)=y at*;generalize Z % 2^(16*k)=z at*;generalize 2^(16*k)=W at*
    by_cases G:y+z<W
    · rw[AL G,AR G,if_neg (by omega)]
    have e1:(y+z) / W=1:=by
      rw[Nat.div_eq_iff hp];omega
    have e2:(y+z) % W=y+z-W:=by rw[Nat.mod_eq_sub_mod (by omega),AL (by omega)]
    rw[e1,e2,if_pos (by omega)]
  rw[D,D];omega
theorem Y2c {X Y:Nat}(hX:X<J8)(hY:Y<J8)(h:∀i,i<16→Q9 X i=Q9 Y i):X=Y:=by
  have D:∀n,n≤16→X % 2^(16*n)=Y % 2^(16*n):=by
    intro n
    induction n with
    |zero=>intro _;simp[Nat.mod_one]
    |succ n ih=>
      intro hn;have h1:=h n (by omega);unfold Q9 at h1;rw[J2y,J2y,ih (by omega)];have h2:X / 2^(16*n) % 65536=Y / 2^(16*n) % 65536:=by omega
      rw[h2]
  have:=D 16 (AM _);rw[AL (show X<2^(16*16) from hX),AL (show Y<2^(16*16) from hY)] at this;exact this
theorem Q16 {X Y:Nat}(n:Nat)(hn:n<16)(hX:X<J8)(hY:Y<J8)(h:∀i,n<i→i<16→Q9 X i=Q9 Y i)(hlt:Q9 X n<Q9 Y n):X<Y:=by
  have e:X / 2^(16*(n+1))=Y / 2^(16*(n+1)):=by
    have G:∀m,m≤15-n→X / 2^(16*(16-m))=Y / 2^(16*(16-m)):=by
      intro m
      induction m with
      |zero=>intro _;rw[Nat.sub_zero,AR (show X<2^(16*16) from hX),AR (show Y<2^(16*16) from hY)]
      |succ m ih=>
        intro hm;have ih' :=ih (by omega);have h1:=h (16-(m+1)) (by omega) (by omega);unfold Q9 at h1;obtain⟨k,hk⟩:∃k,16-(m+1)=k:=⟨_,rfl⟩
        rw[hk] at h1⊢;rw[show 16-m=k+1 by omega,J2x,←Nat.div_div_eq_div_mul,←Nat.div_div_eq_div_mul] at ih';generalize X / 2^(16*k)=x at*;generalize Y / 2^(16*k)=y at*;omega
    have:=G (15-n) (AM _);rw[show 16-(15-n)=n+1 by omega] at this;exact this
  rw[J2x,←Nat.div_div_eq_div_mul,←Nat.div_div_eq_div_mul] at e;unfold Q9 at hlt
  have h2:X / 2^(16*n)<Y / 2^(16*n):=by
    generalize X / 2^(16*n)=x at*;generalize Y / 2^(16*n)=y at*;omega
  exact Nat.lt_of_not_le fun D=>by
    have:=Nat.div_le_div_right (c:=2^(16*n)) D;omega
end

section

def J54 (k:Nat)(f g:Nat→Int):Nat→Int:=fun j=>if j<k then f j else g j
theorem J5k (k:Nat)(f g:Nat→Int):J54 k f g k=g k:=by simp[J54]
theorem J37 (kd:AI)(n k:Nat)(f g:Nat→Int):(J0 kd n (J54 k f g)).setIfInBounds k (.int kd (f k))=J0 kd n (J54 (k+1) f g):=by
  rw[Y9];apply K6;intro j _;unfold upd J54
  by_cases h1:j=k
  · subst h1;rw[if_pos rfl,if_pos (by omega)]
  rw[if_neg h1]
  by_cases h2:j<k
  · rw[if_pos h2,if_pos (by omega)]
  rw[if_neg h2,if_neg (by omega)]
theorem J4a (kd:AI)(n:Nat)(f g:Nat→Int):J0 kd n (J54 n f g)=J0 kd n f:=K6 _ _ _ _ (fun i hi=>by unfold J54;rw[if_pos hi])
theorem J33 (f g:Nat→Int):J54 0 f g=g:=by funext j;simp[J54]
theorem Q4x (x:Int)(h0:0≤x)(h1:x≤9223372036854775807):bits .and .i64 x 65535=x % 65536:=by
  have h:=bits_mask .i64 63 (by decide) (fun n a b=>by rw[AI.wrap_i64];omega) 16 (by omega) x h0 (by omega);have e1:(2:Int)^16-1=65535:=by decide
  have e2:(2:Int)^16=65536:=by decide
  rw[e1,e2] at h;exact h

def J02 (f:Nat→Int):Nat→Nat
  |0=>0
  |n+1=>J02 f n+(f n).toNat*2^(16*n)
theorem J8z (f g:Nat→Int):∀n,(∀j,j<n→f j=g j)→J02 f n=J02 g n
  |0,_=>rfl
  |n+1,h=>by
    show J02 f n+_=J02 g n+_;rw[J8z f g n (fun j hj=>h j (by omega)),h n (by omega)]
theorem Q2l (f:Nat→Int)(j:Nat)(v:Int):∀n,j<n→J02 (upd f j v) n+(f j).toNat*2^(16*j)=J02 f n+v.toNat*2^(16*j)
  |0,h=>by omega
  |n+1,h=>by
    show J02 (upd f j v) n+(upd f j v n).toNat*2^(16*n)+_=J02 f n+(f n).toNat*2^(16*n)+_
    by_cases hj:j=n
    · subst hj
      rw[J8z (upd f j v) f j (fun i hi=>by unfold upd;rw[if_neg (by omega)])];simp only[upd,if_true];omega
    · have ih:=Q2l f j v n (by omega)
      have e:upd f j v n=f n:=by unfold upd;rw[if_neg (fun h=>hj h.symm)]
      rw[e];omega
theorem J7d (V:Nat):∀n,J02 (Q9 V) n=V % 2^(16*n)
  |0=>by simp[J02,Nat.mod_one]
  |n+1=>by
    show J02 (Q9 V) n+(Q9 V n).toNat*2^(16*n)=_;rw[J7d V n,J2y];unfold Q9;rw[Int.toNat_natCast]
theorem Q4y:∀n,J02 (fun _=>0) n=0
  |0=>rfl
  |n+1=>by show J02 (fun _=>0) n+(0:Int).toNat*_=0;rw[Q4y n];simp
theorem Q2m (f g:Nat→Int)(hf:∀j,0≤f j)(hg:∀j,0≤g j):∀n,J02 (fun j=>f j+g j) n=J02 f n+J02 g n
  |0=>rfl
  |n+1=>by
    show J02 _ n+(f n+g n).toNat*_=J02 f n+(f n).toNat*_+(J02 g n+(g n).toNat*_)
    rw[Q2m f g hf hg n,Int.toNat_add (hf n) (hg n),Nat.add_mul];omega
theorem Q4z (f:Nat→Int)(m:Nat):∀n,m≤n→∃r,J02 f n=J02 f m+2^(16*m)*r
  |0,h=>⟨0,by rw[Nat.le_zero.1 h];rfl⟩
  |n+1,h=>by
    by_cases e:m=n+1
    · subst e;exact⟨0,by simp⟩
    · obtain⟨r,hr⟩:=Q4z f m n (by omega)
      obtain⟨d,hd⟩:∃d,16*n=16*m+d:=⟨16*n-16*m,by omega⟩
      refine⟨r+(f n).toNat*2^d,?_⟩;show J02 f n+(f n).toNat*2^(16*n)=_;rw[hr,hd,Nat.pow_add,Nat.mul_add,Nat.mul_left_comm];omega
def ovr (f:Nat→Int)(k:Nat):Nat:=J02 f k / 2^(16*k)
theorem Q84 (f:Nat→Int):ovr f 0=0:=by simp[ovr,J02]
theorem Q2n (f:Nat→Int)(k:Nat):ovr f (k+1)=((f k).toNat+ovr f k) / 65536:=by
  unfold ovr;show(J02 f k+(f k).toNat*2^(16*k)) / _=_;rw[J2x,←Nat.div_div_eq_div_mul,Nat.add_mul_div_right _ _ (AQ _),Nat.add_comm]
theorem Z76 (f:Nat→Int)(n k:Nat)(hk:k<n):Q9 (J02 f n) k=(((f k).toNat+ovr f k) % 65536:Nat):=by
  obtain⟨r,hr⟩:=Q4z f (k+1) n hk;unfold Q9 ovr;rw[hr];show(((J02 f k+(f k).toNat*2^(16*k)+2^(16*(k+1))*r) / 2^(16*k) % 65536:Nat):Int)=_;rw[J2x,Nat.mul_assoc,Nat.add_mul_div_left _ _ (AQ _),Nat.add_mul_div_right _ _ (AQ _),Nat.add_mul_mod_self_left,Nat.add_comm]
theorem Q2o (f:Nat→Int)(M:Nat)(h:∀j,f j≤(M:Int)):∀k,ovr f k≤M
  |0=>by rw[Q84];omega
  |k+1=>by
    have:=Q2o f M h k;have:=h k;rw[Q2n];omega
def cr (V:Nat):Nat:=V % J8+38*(V / J8)
def nxt (f:Nat→Int):Nat→Int:=upd (Q9 (J02 f 16)) 0 (Q9 (J02 f 16) 0+38*(ovr f 16:Int))
def Z0d (f:Nat→Int):Nat→Nat→Int
  |0=>f
  |t+1=>nxt (Z0d f t)
def okF (f:Nat→Int):Prop:=∀j,0≤f j∧f j≤1125899906842624
theorem Y8m (f:Nat→Int)(h:okF f):okF (nxt f):=fun j=>by
  have h0:=Q2o f 1125899906842624 (fun j=>(h j).2) 15;have h1:ovr f 16=((f 15).toNat+ovr f 15) / 65536:=Q2n f 15;have h2:=(h 15).2;have h3:=X7 (J02 f 16);unfold nxt upd
  split
  · have:=h3 0;omega
  · have:=h3 j;omega
theorem Z2a (f:Nat→Int)(h:okF f):∀t,okF (Z0d f t)
  |0=>h
  |t+1=>Y8m _ (Z2a f h t)
theorem Q85 (f:Nat→Int):J02 (nxt f) 16=cr (J02 f 16):=by
  have h:=Q2l (Q9 (J02 f 16)) 0 (Q9 (J02 f 16) 0+38*(ovr f 16:Int)) 16 (by omega);have h3:=X7 (J02 f 16) 0;rw[J7d,Int.toNat_add h3.1 (by omega),Nat.mul_zero,Nat.pow_zero,AS,AS] at h;unfold cr;have e:(38*(ovr f 16:Int)).toNat=38*ovr f 16:=by omega
  rw[e] at h;unfold nxt;unfold ovr at*;rw[show(2:Nat)^(16*16)=J8 by decide] at*;omega
theorem V2p (V:Nat)(h:V<J8*4503599627370496):cr V<J8+38*4503599627370496:=by
  have h1:V / J8<4503599627370496:=Nat.div_lt_of_lt_mul h;have h2:V % J8<J8:=AO _ (by decide);unfold cr;omega
theorem Q86 (V:Nat)(h:V<J8*4503599627370496):cr (cr V)<J8:=by
  have h1:=V2p V h;generalize cr V=W at*;unfold cr
  by_cases hW:W<J8
  · rw[AL hW,AR hW];exact hW
  have e1:W % J8=W-J8:=by rw[Nat.mod_eq_sub_mod (by omega),AL (by unfold J8 at*;omega)]
  have e2:W / J8=1:=Nat.div_eq_of_lt_le (by omega) (by unfold J8 at*;omega);rw[e1,e2];unfold J8 at*;omega
theorem Q65 (f:Nat→Int)(h:okF f):∀n,J02 f n<2^(16*n)*4503599627370496
  |0=>by simp[J02]
  |n+1=>by
    have ih:=Q65 f h n;have h1:=(h n)
    rw[J2x];show J02 f n+(f n).toNat*2^(16*n)<_;have:(f n).toNat*2^(16*n)≤1125899906842624*2^(16*n):=Nat.mul_le_mul_right _ (by omega);generalize 2^(16*n)=W at*;omega
theorem V2q (f:Nat→Int)(h:okF f):J0 .i64 16 (Z0d f 3)=J0 .i64 16 (Q9 (cr (cr (J02 f 16)))):=by
  have hV:=Q65 f h 16;rw[show(2:Nat)^(16*16)=J8 by decide] at hV;have hW:=Q86 _ hV
  have e:J02 (Z0d f 2) 16=cr (cr (J02 f 16)):=by
    show J02 (nxt (nxt f)) 16=_;rw[Q85,Q85]
  show J0 .i64 16 (nxt (Z0d f 2))=_;unfold nxt
  have e0:ovr (Z0d f 2) 16=0:=by
    unfold ovr;rw[e,show(2:Nat)^(16*16)=J8 by decide,AR hW]
  rw[e0,e];apply K6;intro j _;unfold upd
  split
  · rename_i hj;subst hj;simp
  rfl
theorem Z4t (f:Nat→Int)(h:okF f)(k:Nat)(hk:k<16):bits .and .i64 (f k+(ovr f k:Int)) 65535=Q9 (J02 f 16) k∧(f k+(ovr f k:Int)) / 65536=(ovr f (k+1):Int):=by
  have h1:=h k;have h2:=Q2o f 1125899906842624 (fun j=>(h j).2) k;rw[Q4x _ (by omega) (by omega),Z76 f 16 k hk,Q2n];omega
end
end Go.Proofs.YtdjacgmmidbieaaGreatDoor

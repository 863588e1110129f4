/- Contracts and plain laws for directHolds_holds. Conditions: the tables hold their numbers. -/
import Derived.WalkKit
import Derived.Laws.DeepBits32
import Derived.Test.YtpljgkofbfeelaaGreatDoorChecked
import Derived.Lib.Mul64
open Go renaming World->AA,Value->AB,Program->AC,TypeId->AD,Exit->AF,IntKind->AG
open Go.IntKind renaming wrap_u64->AH
open _root_.Nat renaming mod_eq_of_lt->AI,le_refl->AJ,lt_of_le_of_lt->AK,zero_add->AL,two_pow_pos->AM,div_eq_of_lt->AN,mul_one->AO
open Go.RowKit
set_option linter.unusedSimpArgs false
set_option linter.unusedVariables false
namespace Go.Proofs.YtpljgkofbfeelaaGreatDoor
section

/-! short names for the steps' laws of lists -/
theorem mA (l:List AB)(i:Nat)(a:AB):l.toArray.setIfInBounds i a=(l.set i a).toArray:=List.setIfInBounds_toArray l i a
theorem mB (a b:AB)(l:List AB):(a::l).set 0 b=b::l:=rfl
theorem mC (a b:AB)(l:List AB)(n:Nat):(a::l).set (n+1) b=a::l.set n b:=rfl
theorem pn {a:Act}{v:AB}:Act.put a none v=a:=rfl
theorem pl {l l' :List AB}{df:List Deferred}{d:Tmp}{v:AB}(h:l.set d v=l'):Act.put ⟨l.toArray,df⟩ (some d) v=⟨l'.toArray,df⟩:=by
  subst h;simp only[Act.put,mA]

def V5 (v:AB)(w w' :AA)(e:Ending):Prop:=e=.returned v∧Below w.heap.size w w'
theorem J27 {B:Nat}{a w w1:AA}(h:Below B a w)(h1:Below w.heap.size w w1)(hB:B≤w.heap.size):Below B a w1:=h.trans (h1.mono hB)
theorem J47 {B c:Nat}{a w:AA}(h:Below B a w)(hc:B≤c)(j:Nat)(v:AB):Below B a (w.setCell ⟨c,j,none⟩ v):=h.setCell hc v
theorem J3q {B g:Nat}{a w:AA}(h:Below B a w)(hg:B≤g)(c' :Array AB):Below B a (w.setRow g c'):=
  h.trans ⟨rfl,rfl,rfl,by simp,fun k hk=>setRow_other w g k c' (by omega)⟩
theorem bz {B:Nat}{w W:World}(h:Below B w W:=by(repeat' (first|(with_reducible assumption)|(with_reducible exact Below.refl _ _)|(with_reducible refine Below.drew ?_)|(with_reducible refine Below.alloc ?_ ?_ _)|(with_reducible refine J47 ?_ ?_ _ _)|(with_reducible refine J3q ?_ ?_ _)|(with_reducible refine J27 ?_ (by assumption) ?_)))<;>(first|omega|((try simp only[World.size_alloc,World.size_setCell,World.size_drew,size_setRow]);omega))):Below B w W:=h
theorem Y9c {W w1:AA}(hb:Below W.heap.size W w1):(∀b o,b<W.heap.size→w1.cell? ⟨b,o,none⟩=W.cell? ⟨b,o,none⟩)∧(∀b o,b<W.heap.size→w1.frozen? ⟨b,o,none⟩=W.frozen? ⟨b,o,none⟩):=
  ⟨fun b o h=>hb.cell (p:=⟨b,o,none⟩) h,fun b o h=>hb.frozen (p:=⟨b,o,none⟩) h⟩

theorem Y0p {P:AC}{c:Code}{Q:AF→Act→AA→Prop}{a:Act}{w:AA}(F:AA→Prop)(h:F w)(k:∀W,F W→c.wp P Q a W):c.wp P Q a w:=k w h
theorem Y0q {K:Act→AA→Prop}{Q:AF→Act→AA→Prop}{a:Act}{w:AA}(F:AA→Prop)(h:F w)(k:∀W,F W→AF.then K Q .normal a W):AF.then K Q .normal a w:=k w h
def Blk (w:AA)(b:Nat)(cs:Array AB)(t:AD):Prop:=w.heap[b]?=some (.cells cs t (0,0))
theorem V8 {w:AA}{b:Nat}{cs:Array AB}{t:AD}(h:Blk w b cs t):b<w.heap.size:=lt_of_block h
theorem J3 {w:AA}{b:Nat}{cs:Array AB}{t:AD}(h:Blk w b cs t):∀j,w.cell? ⟨b,j,none⟩=cs[j]?:=fun j=>by
  unfold Blk at h;simp[AA.cell?,h]
theorem K7 {w:AA}{b:Nat}{cs:Array AB}{t:AD}(h:Blk w b cs t):∀j,w.frozen? ⟨b,j,none⟩=false:=fun j=>by
  unfold Blk at h;simp[AA.frozen?,h]
theorem Z7a {B:Nat}{w w' :AA}{b:Nat}{cs:Array AB}{t:AD}(h:Blk w b cs t)(hb:Below B w w')(hB:b<B):Blk w' b cs t:=by
  unfold Blk at*;rw[hb.block b hB];exact h
theorem J4 {w w' :AA}{b:Nat}{cs:Array AB}{t:AD}(h:Blk w b cs t)(hb:Below w.heap.size w w'):Blk w' b cs t:=Z7a h hb (V8 h)
theorem K2 {w:AA}{b:Nat}{cs:Array AB}{t:AD}(h:Blk w b cs t)(o:Obj):Blk (w.alloc o) b cs t:=by
  have:=V8 h;unfold Blk at*;rw[Below.heap_alloc _ _ _ this];exact h
theorem X6 {w:AA}{n:Nat}(cs:Array AB)(t:AD)(hn:n=w.heap.size):Blk (w.alloc (.cells cs t)) n cs t:=by
  subst hn;unfold Blk;show(w.heap.push _)[w.heap.size]?=_;simp
theorem J02 {w:AA}{b:Nat}{cs:Array AB}{t:AD}(h:Blk w b cs t):Blk w.drew b cs t:=h
theorem J1k {w:AA}{b:Nat}{cs:Array AB}{t:AD}(h:Blk w b cs t)(j:Nat)(v:AB):Blk (w.setCell ⟨b,j,none⟩ v) b (cs.setIfInBounds j v) t:=by
  have D:=V8 h;unfold Blk at*;have h' :w.heap[b]=.cells cs t (0,0):=by simpa[Array.getElem?_eq_getElem D] using h
  show(w.heap.modify b _)[b]?=_;rw[Array.getElem?_eq_getElem (by simpa using D),Array.getElem_modify_self,h'];rfl
theorem Q0r {w:AA}{b:Nat}{x0 x1 x2 x3:AB}{t:AD}(h:Blk w b #[x0,x1,x2,x3] t)(y0 y1 y2 y3:AB):
    Blk ((((w.setCell ⟨b,0,none⟩ y0).setCell ⟨b,1,none⟩ y1).setCell ⟨b,2,none⟩ y2).setCell ⟨b,3,none⟩ y3) b #[y0,y1,y2,y3] t:=
  J1k (J1k (J1k (J1k h 0 y0) 1 y1) 2 y2) 3 y3
theorem J48 {w:AA}{b c:Nat}{cs:Array AB}{t:AD}(h:Blk w b cs t)(hbc:b≠c)(y0 y1 y2 y3:AB):
    Blk ((((w.setCell ⟨c,0,none⟩ y0).setCell ⟨c,1,none⟩ y1).setCell ⟨c,2,none⟩ y2).setCell ⟨c,3,none⟩ y3) b cs t:=by
  unfold Blk at*;rw[Below.heap_setCell _ _ _ _ hbc,Below.heap_setCell _ _ _ _ hbc,Below.heap_setCell _ _ _ _ hbc,Below.heap_setCell _ _ _ _ hbc];exact h
theorem V7 {w:AA}{b c:Nat}{cs:Array AB}{t:AD}(h:Blk w b cs t)(hbc:b≠c)(j:Nat)(v:AB):Blk (w.setCell ⟨c,j,none⟩ v) b cs t:=by
  unfold Blk at*;rw[Below.heap_setCell _ _ _ _ hbc];exact h

def Q3:Nat:=115792089237316195423570985008687907853269984665640564039457584007913129639936
def Z7 (x:Int):Prop:=0≤x∧x<18446744073709551616
def U4 (a0 a1 a2 a3:Int):Prop:=Z7 a0∧Z7 a1∧Z7 a2∧Z7 a3
@[go_sem] def A4 (a0 a1 a2 a3:Int):AB:=.agg #[.int .u64 a0,.int .u64 a1,.int .u64 a2,.int .u64 a3]
def V0 (n:Nat)(i:Nat):Int:=((n / 2^(64*i) % 18446744073709551616:Nat):Int)
@[go_sem] def L4 (n:Nat):AB:=.agg #[.int .u64 (V0 n 0),.int .u64 (V0 n 1),.int .u64 (V0 n 2),.int .u64 (V0 n 3)]
@[go_sem] def c4 (V:Nat):Array AB:= #[.int .u64 (V0 V 0),.int .u64 (V0 V 1),.int .u64 (V0 V 2),.int .u64 (V0 V 3)]
def J0n (a0 a1 a2 a3:Int):Nat:=a0.toNat+18446744073709551616*a1.toNat+340282366920938463463374607431768211456*a2.toNat+6277101735386680763835789423207666416102355444464034512896*a3.toNat
theorem J11 (n i:Nat):Z7 (V0 n i):=by unfold Z7 V0;omega
theorem J5n (n:Nat):U4 (V0 n 0) (V0 n 1) (V0 n 2) (V0 n 3):=⟨J11 n 0,J11 n 1,J11 n 2,J11 n 3⟩
theorem Y0r (a0 a1 a2 a3:Int)(h:U4 a0 a1 a2 a3):
    V0 (J0n a0 a1 a2 a3) 0=a0∧V0 (J0n a0 a1 a2 a3) 1=a1∧V0 (J0n a0 a1 a2 a3) 2=a2∧V0 (J0n a0 a1 a2 a3) 3=a3:=by
  unfold V0 J0n U4 Z7 at*;simp only[Nat.reduceMul,Nat.reducePow];omega
theorem J1c (n:Nat)(h:n<115792089237316195423570985008687907853269984665640564039457584007913129639936):J0n (V0 n 0) (V0 n 1) (V0 n 2) (V0 n 3)=n:=by
  unfold V0 J0n;simp only[Nat.reduceMul,Nat.reducePow] at*;omega
theorem J91 (a0 a1 a2 a3:Int)(h:U4 a0 a1 a2 a3):J0n a0 a1 a2 a3<115792089237316195423570985008687907853269984665640564039457584007913129639936:=by
  unfold J0n U4 Z7 at*;omega
theorem J4q (a0 a1 a2 a3:Int)(h:U4 a0 a1 a2 a3):(J0n a0 a1 a2 a3:Int)=a0+18446744073709551616*a1+340282366920938463463374607431768211456*a2+6277101735386680763835789423207666416102355444464034512896*a3:=by
  obtain⟨⟨x0,_⟩,⟨x1,_⟩,⟨x2,_⟩,⟨x3,_⟩⟩:=h;unfold J0n;simp only[Int.natCast_add,Int.natCast_mul,Int.toNat_of_nonneg x0,Int.toNat_of_nonneg x1,Int.toNat_of_nonneg x2,Int.toNat_of_nonneg x3];rfl
theorem Z50 (a0 a1 a2 a3:Int)(h:U4 a0 a1 a2 a3):A4 a0 a1 a2 a3=L4 (J0n a0 a1 a2 a3):=by
  obtain⟨h0,h1,h2,h3⟩:=Y0r a0 a1 a2 a3 h;unfold L4;rw[h0,h1,h2,h3];rfl
theorem Z51 {m n:Nat}(h:m=n):L4 m=L4 n:=by rw[h]

theorem Q3f (x b:Int)(hx:Z7 x)(h0:0≤b)(h1:b≤1):bits .or .u64 (AG.wrap .u64 (x*2)) b=x*2 % 18446744073709551616+b:=by
  obtain⟨x0,x1⟩:=hx;obtain⟨X,rfl⟩:=Int.eq_ofNat_of_zero_le x0;obtain⟨B,rfl⟩:=Int.eq_ofNat_of_zero_le h0
  have e:AG.wrap .u64 ((X:Int)*2)=((X*2 % 18446744073709551616:Nat):Int):=by
    simp[AG.wrap,AG.signed,AG.bits]
  rw[e,bits_or_u64_nat _ _ (by omega) (by omega),or_bit _ _ (by omega) (by omega)];omega
end

section

def J0 (k:AG)(n:Nat)(f:Nat→Int):Array AB:=((List.range n).map fun i=>AB.int k (f i)).toArray
theorem J1 (k:AG)(n:Nat)(f:Nat→Int):(J0 k n f).size=n:=by simp[J0]
theorem Z8 (k:AG)(n:Nat)(f:Nat→Int)(i:Nat)(h:i<n):(J0 k n f)[i]?=some (.int k (f i)):=by
  simp[J0,h]
theorem ag0 {k:AG}{n:Nat}{f:Nat→Int}{i:Nat}(h:i<n):(J0 k n f)[0+i]?=some (.int k (f i)):=by rw[AL];exact Z8 _ _ _ _ h
theorem X7 (k:AG)(n:Nat)(f g:Nat→Int)(h:∀i,i<n→f i=g i):J0 k n f=J0 k n g:=by
  unfold J0
  congr 1
  apply List.map_congr_left;intro i hi;rw[h i (by simpa using hi)]
def upd (f:Nat→Int)(i:Nat)(v:Int):Nat→Int:=fun j=>if j=i then v else f j
theorem V1 (k:AG)(n:Nat)(f:Nat→Int)(i:Nat)(v:Int):(J0 k n f).setIfInBounds i (.int k v)=J0 k n (upd f i v):=by
  apply Array.ext
  · simp[J0]
  intro j h1 h2;simp only[J0,List.size_toArray,List.length_map,List.length_range] at h2;rw[Array.getElem_setIfInBounds (by rw[J1];exact h2)];simp only[J0,List.getElem_toArray,List.getElem_map,List.getElem_range,upd]
  by_cases h:i=j
  · simp[h]
  simp[h,Ne.symm h]
def J2 (n i:Nat):Int:=((n / 2^(8*i) % 256:Nat):Int)
theorem J4x (n i:Nat):0≤J2 n i∧J2 n i<256:=by unfold J2;omega
theorem Z52 (n i:Nat):V0 n (i / 8) / 2^(8*(i % 8)) % 256=J2 n i:=by
  unfold V0 J2
  have e:n / 2^(8*i) % 256=n / 2^(64*(i / 8)) % 18446744073709551616 / 2^(8*(i % 8)) % 256:=by
    obtain⟨q,r,D,rfl⟩:∃q r,r<8∧i=8*q+r:=⟨i / 8,i % 8,by omega,by omega⟩
    rw[show 8*(8*q+r)=64*q+8*r by omega,show(8*q+r) / 8=q by omega,show(8*q+r) % 8=r by omega,Nat.pow_add,←Nat.div_div_eq_div_mul];generalize n / 2^(64*q)=m;have:r=0∨r=1∨r=2∨r=3∨r=4∨r=5∨r=6∨r=7:=by omega
    rcases this with h|h|h|h|h|h|h|h<;>subst h<;>simp only[Nat.reduceMul,Nat.reducePow]<;>omega
  rw[e];generalize n / 2^(64*(i / 8)) % 18446744073709551616=m;simp only[Int.natCast_emod,Int.natCast_ediv,Int.natCast_pow];rfl
theorem J0b (k:AG)(n:Nat)(f:Nat→Int):(J0 k n f).all (·.oneCell')=true:=by
  simp[J0,AB.oneCell']
theorem J2o {w:AA}{g:Nat}{old:Array AB}{t:AD}(h:Blk w g old t)(cs:Array AB):Blk (w.setRow g cs) g cs t:=setRow_heap w g old cs t (0,0) h
theorem Q1z {w:AA}{g b:Nat}{cs:Array AB}{t:AD}(h:Blk w b cs t)(hb:b≠g)(c' :Array AB):Blk (w.setRow g c') b cs t:=by
  unfold Blk at*;rw[setRow_other w g b c' hb];exact h
/-! entering a function whose parameters lie in memory -/
section
variable {P : AC} {c : Code} {Q : AF → Act → AA → Prop} {a : Act} {w : AA} {c1 c2 c3 c5 : Array AB} {t1 t2 t3 t5 : AD}
theorem wn2 (h:∀W,Below w.heap.size w W→Blk W w.heap.size c1 t1→Blk W (w.heap.size+1) c2 t2→c.wp P Q a W):c.wp P Q a ((w.alloc (.cells c1 t1)).alloc (.cells c2 t2)):=
  h _ (((Below.refl _ _).alloc (AJ _) _).alloc (by simp) _) (K2 (X6 _ _ rfl) _) (X6 _ _ (by simp))
theorem wn3 (h:∀W,Below w.heap.size w W→Blk W w.heap.size c1 t1→Blk W (w.heap.size+1) c2 t2→Blk W (w.heap.size+2) c3 t3→c.wp P Q a W):c.wp P Q a (((w.alloc (.cells c1 t1)).alloc (.cells c2 t2)).alloc (.cells c3 t3)):=
  h _ ((((Below.refl _ _).alloc (AJ _) _).alloc (by simp) _).alloc (by simp only[AA.size_alloc];omega) _) (K2 (K2 (X6 _ _ rfl) _) _) (K2 (X6 _ _ (by simp)) _) (X6 _ _ (by simp))
end
theorem exn {α:Sort _}(n:α):∃X,X=n:=⟨n,rfl⟩
end

section

def J6h (f g:Nat→Int):Nat→Nat→Bool
  |_,0=>true
  |s,m+1=>(f s==g s) && J6h f g (s+1) m
theorem Q2l (f g:Nat→Int):∀m s,J6h f g s m=true↔∀i,s≤i→i<s+m→f i=g i
  |0,s=>by simp[J6h];omega
  |m+1,s=>by
    simp only[J6h,Bool.and_eq_true,beq_iff_eq,Q2l f g m (s+1)];constructor
    · rintro⟨h0,h1⟩ i hi hlt
      by_cases h:i=s
      · subst h;exact h0
      · exact h1 i (by omega) (by omega)
    · intro h
      exact⟨h s (by omega) (by omega),fun i hi hlt=>h i (by omega) (by omega)⟩
def Z53 (n:Nat)(f g:Nat→Int):Bool:=J6h f g 0 n
theorem J46 (n:Nat)(f g:Nat→Int):Z53 n f g=true↔∀i,i<n→f i=g i:=by
  unfold Z53;rw[Q2l];constructor
  · intro h i hi;exact h i (by omega) (by omega)
  intro h i _ hi;exact h i (by omega)

theorem J7a {P:AC}(w:AA)(e:AD)(k:AG)(he:P.underlying e=some (.int k))(xs:Array AB)(i:Nat)(v:AB)(hv:xs[i]?=some v):(part e xs i).run P w=.ok v w:=by
  have h1:(isAgg e).run P w=.ok false w:=by
    unfold isAgg;rw[Sem.run_bind,run_underlying he w];rfl
  simp[part,Sem.run_bind,h1,hv]

theorem Q4e {P:AC}(w:AA)(d:Nat)(e:AD)(k:AG)(he:P.underlying e=some (.int k))(xs ys:Array AB)(f g:Nat→Int):∀(m s:Nat),
    (∀i,s≤i→i<s+m→xs[i]?=some (.int k (f i)))→(∀i,s≤i→i<s+m→ys[i]?=some (.int k (g i)))→
    Sem.run P (forIn (List.range' s m) ((none,()):Option Bool×Unit) fun i _=>do
        let a←part e xs (i*1)
        let b←part e ys (i*1)
        let c←Op.equalIn (d+1) e a b
        if c=false then pure (ForInStep.done (some false,())) else pure (ForInStep.yield (none,()))) w=
      .ok (if J6h f g s m then(none,()) else(some false,())) w
  |0,s,_,_=>by simp[J6h]
  |m+1,s,hx,hy=>by
    rw[List.range'_succ,List.forIn_cons];simp only[AO,Sem.run_bind,J7a w e k he xs s _ (hx s (by omega) (by omega)),J7a w e k he ys s _ (hy s (by omega) (by omega)),Result.andThen_ok,run_equalIn_int w d e k k _ _ he]
    by_cases h:f s=g s
    · have ih:=Q4e w d e k he xs ys f g m (s+1) (fun i h1 h2=>hx i (by omega) (by omega)) (fun i h1 h2=>hy i (by omega) (by omega))
      simp only[AO] at ih;simp[h,J6h,ih]
    · simp[h,J6h]

theorem J1q {P:AC}(w:AA)(d:Nat)(t e n:Nat)(k:AG)(xs ys:Array AB)(f g:Nat→Int)(ht:P.underlying t=some (.array n e))(he:P.underlying e=some (.int k))(hs:(P.info? e).map (·.size)=some 1)
    (hx:∀i,i<n→xs[i]?=some (.int k (f i))) (hy:∀i,i<n→ys[i]?=some (.int k (g i))):
    (Op.equalIn (d+2) t (.agg xs) (.agg ys)).run P w=.ok (Z53 n f g) w:=by
  have D:(sizeOf e).run P w=.ok 1 w:=by
    cases hq:P.info? e with
    |none=>simp[hq] at hs
    |some i=>simp[hq] at hs;simp[sizeOf,typeInfo,hq,hs]
  have hl:=Q4e w d e k he xs ys f g n 0 (fun i _ h=>hx i (by omega)) (fun i _ h=>hy i (by omega));rw[Op.equalIn];simp[run_underlying ht,D];simp only[AO] at hl;rw[hl];unfold Z53;cases J6h f g 0 n<;>simp

theorem J1u {P:AC}(w:AA)(t e n:Nat)(k k' :AG)(xs:Array AB)(i:Nat)(x:Int)(ht:P.underlying t=some (.array n e))(he:P.underlying e=some (.int k))(hs:(P.info? e).map (·.size)=some 1)(hi:i<n)(hx:xs[i]?=some (.int k x)):
    (Instr.index t (.agg xs) (.int k' (i:Int))).run P w=.ok (.int k x) w:=by
  have D:(sizeOf e).run P w=.ok 1 w:=by
    cases hq:P.info? e with
    |none=>simp[hq] at hs
    |some i=>simp[hq] at hs;simp[sizeOf,typeInfo,hq,hs]
  have hp:=J7a w e k he xs i _ hx;simp[Instr.index,asIntOf,run_underlying ht,D,hi,hp]
end

section

def sbD (x y b:Int):Int:=(x-y-b) % 18446744073709551616
def sbB (x y b:Int):Int:=if x<y+b then 1 else 0
theorem J54 (x y b:Int):0≤sbB x y b∧sbB x y b≤1:=by unfold sbB;split<;>omega
theorem Q3g (x y b:Int)(hx:Z7 x)(hy:Z7 y)(h0:0≤b)(h1:b≤1):sbD x y b=x-y-b+18446744073709551616*sbB x y b∧Z7 (sbD x y b):=by
  unfold Z7 sbD sbB at*;split<;>omega
def J9z:Array AB→Sem AB:=fun args=>do
  let (x, y, b) ← Extern.MathBitsCarry.three "Sub64" args
  pure (Extern.MathBitsCarry.pair ((x+Extern.MathBitsCarry.m64-y-b) % Extern.MathBitsCarry.m64) (if x<y+b then 1 else 0))
theorem Z7b {P:AC}(x y c:Int)(hx:Z7 x)(hy:Z7 y)(hc0:0≤c)(hc:c≤1)(w:AA):
    (J9z #[.int .u64 x,.int .u64 y,.int .u64 c]).run P w=.ok (.tuple #[.int .u64 (sbD x y c),.int .u64 (sbB x y c)]) w:=by
  have G:∀k:Nat,k≤1→(J9z #[.int .u64 x,.int .u64 y,.int .u64 (k:Int)]).run P w=
      .ok (Extern.MathBitsCarry.pair ((x.toNat+Extern.MathBitsCarry.m64-y.toNat-k) % Extern.MathBitsCarry.m64) (if x.toNat<y.toNat+k then 1 else 0)) w:=by
    intro k hk;have:k=0∨k=1:=by omega
    rcases this with rfl|rfl<;>rfl
  obtain⟨k,rfl⟩:=Int.eq_ofNat_of_zero_le hc0;rw[G k (by omega)];obtain⟨J,N⟩:=hx;obtain⟨D,M⟩:=hy;obtain⟨X,rfl⟩:=Int.eq_ofNat_of_zero_le J;obtain⟨Y,rfl⟩:=Int.eq_ofNat_of_zero_le D
  have e1:Int.ofNat ((X+18446744073709551616-Y-k) % 18446744073709551616)=sbD X Y k:=by
    unfold sbD;simp only[Int.ofNat_eq_natCast];omega
  have e2:Int.ofNat (if X<Y+k then 1 else 0)=sbB X Y k:=by
    unfold sbB;split<;>split<;>first|rfl|omega
  simp only[Extern.MathBitsCarry.pair,Extern.MathBitsCarry.m64,Int.toNat_natCast,Nat.reducePow,e1,e2]
theorem J3g (x y b:Int)(hx:Z7 x)(hy:Z7 y)(hb0:0≤b)(hb:b≤1)(w:AA):(callFunc 180 #[.int .u64 x,.int .u64 y,.int .u64 b]).run Tryz.prog w=.ok (.value (.tuple #[.int .u64 (sbD x y b),.int .u64 (sbB x y b)])) w:=by
  rw[run_callFunc_extern Tryz.func180 (by kernel_rfl) (by kernel_rfl) (by kernel_rfl) (e:=J9z) (by kernel_rfl),Z7b x y b hx hy hb0 hb];rfl

def adS (x y c:Int):Int:=(x+y+c) % 18446744073709551616
def adC (x y c:Int):Int:=(x+y+c) / 18446744073709551616
theorem J9m (x y c:Int)(hx:Z7 x)(hy:Z7 y)(h0:0≤c)(h1:c≤1):0≤adC x y c∧adC x y c≤1:=by unfold Z7 adC at*;omega
theorem Q3h (x y c:Int):adS x y c+18446744073709551616*adC x y c=x+y+c∧Z7 (adS x y c):=by
  unfold Z7 adS adC at*;omega
theorem J17 (x y c:Int)(hx:Z7 x)(hy:Z7 y)(hb0:0≤c)(hb:c≤1)(w:AA):(callFunc 149 #[.int .u64 x,.int .u64 y,.int .u64 c]).run Tryz.prog w=.ok (.value (.tuple #[.int .u64 (adS x y c),.int .u64 (adC x y c)])) w:=by
  rw[run_callFunc_extern Tryz.func149 (by kernel_rfl) (by kernel_rfl) (by kernel_rfl) (e:=add64Entry) (by kernel_rfl),run_add64 x y c hx.1 hy.1 hb0 hb];rfl

def J7x (A B:Nat):Nat:=(A+115792089237316195423570985008687907853269984665640564039457584007913129639936-B) % 115792089237316195423570985008687907853269984665640564039457584007913129639936
def brw (A B:Nat):Int:=if A<B then 1 else 0
theorem Q6b (a0 a1 a2 a3 b0 b1 b2 b3:Int)(ha:U4 a0 a1 a2 a3)(hb:U4 b0 b1 b2 b3):
    let u0:=sbB a0 b0 0;let u1:=sbB a1 b1 u0;let u2:=sbB a2 b2 u1;let u3:=sbB a3 b3 u2
    A4 (sbD a0 b0 0) (sbD a1 b1 u0) (sbD a2 b2 u1) (sbD a3 b3 u2)=L4 (J7x (J0n a0 a1 a2 a3) (J0n b0 b1 b2 b3))∧u3=brw (J0n a0 a1 a2 a3) (J0n b0 b1 b2 b3):=by
  intro u0 u1 u2 u3;have v0:=J54 a0 b0 0;have v1:=J54 a1 b1 u0;have v2:=J54 a2 b2 u1;have v3:=J54 a3 b3 u2;have s0:=Q3g a0 b0 0 ha.1 hb.1 (by omega) (by omega);have s1:=Q3g a1 b1 u0 ha.2.1 hb.2.1 v0.1 v0.2;have s2:=Q3g a2 b2 u1 ha.2.2.1 hb.2.2.1 v1.1 v1.2;have s3:=Q3g a3 b3 u2 ha.2.2.2 hb.2.2.2 v2.1 v2.2;have hd:U4 (sbD a0 b0 0) (sbD a1 b1 u0) (sbD a2 b2 u1) (sbD a3 b3 u2):=⟨s0.2,s1.2,s2.2,s3.2⟩
  rw[Z50 _ _ _ _ hd];have iA:=J4q _ _ _ _ ha;have iB:=J4q _ _ _ _ hb;have iD:=J4q _ _ _ _ hd;have lA:=J91 _ _ _ _ ha;have lB:=J91 _ _ _ _ hb;have lD:=J91 _ _ _ _ hd;have e0:=s0.1;have e1:=s1.1;have e2:=s2.1;have e3:=s3.1
  have G:(J0n (sbD a0 b0 0) (sbD a1 b1 u0) (sbD a2 b2 u1) (sbD a3 b3 u2):Int)=(J0n a0 a1 a2 a3:Int)-(J0n b0 b1 b2 b3:Int)+115792089237316195423570985008687907853269984665640564039457584007913129639936*u3:=by
    rw[iA,iB,iD]
    change _=_+_*u3 at e3
    change _=_+_*u2 at e2
    change _=_+_*u1 at e1
    change _=_+_*u0 at e0
    clear iA iB iD lA lB lD s0 s1 s2 s3 v0 v1 v2 v3 hd;generalize sbD a0 b0 0=d0 at*;generalize sbD a1 b1 u0=d1 at*;generalize sbD a2 b2 u1=d2 at*;generalize sbD a3 b3 u2=d3 at*
    clear_value u3 u2 u1 u0
    clear ha hb;omega
  change 0≤u3∧u3≤1 at v3
  clear iA iB iD e0 e1 e2 e3 s0 s1 s2 s3 v0 v1 v2 hd;generalize J0n (sbD a0 b0 0) (sbD a1 b1 u0) (sbD a2 b2 u1) (sbD a3 b3 u2)=D at*;generalize J0n a0 a1 a2 a3=A at*;generalize J0n b0 b1 b2 b3=B at*
  clear_value u3
  have hu:u3=0∨u3=1:=by omega
  rcases hu with rfl|rfl
  · exact⟨Z51 (by unfold J7x;omega),by unfold brw;rw[if_neg (by omega)]⟩
  exact⟨Z51 (by unfold J7x;omega),by unfold brw;rw[if_pos (by omega)]⟩
theorem Q6c (a0 a1 a2 a3 b0 b1 b2 b3 c:Int)(ha:U4 a0 a1 a2 a3)(hb:U4 b0 b1 b2 b3)(hc0:0≤c)(hc1:c≤1):
    let u0:=adC a0 b0 c;let u1:=adC a1 b1 u0;let u2:=adC a2 b2 u1;let u3:=adC a3 b3 u2
    A4 (adS a0 b0 c) (adS a1 b1 u0) (adS a2 b2 u1) (adS a3 b3 u2)=L4 ((J0n a0 a1 a2 a3+J0n b0 b1 b2 b3+c.toNat) % 115792089237316195423570985008687907853269984665640564039457584007913129639936)∧u3=((J0n a0 a1 a2 a3+J0n b0 b1 b2 b3+c.toNat) / 115792089237316195423570985008687907853269984665640564039457584007913129639936:Nat):=by
  intro u0 u1 u2 u3;have v0:=J9m a0 b0 c ha.1 hb.1 hc0 hc1;have v1:=J9m a1 b1 u0 ha.2.1 hb.2.1 v0.1 v0.2;have v2:=J9m a2 b2 u1 ha.2.2.1 hb.2.2.1 v1.1 v1.2;have v3:=J9m a3 b3 u2 ha.2.2.2 hb.2.2.2 v2.1 v2.2;have s0:=Q3h a0 b0 c;have s1:=Q3h a1 b1 u0;have s2:=Q3h a2 b2 u1;have s3:=Q3h a3 b3 u2;have hd:U4 (adS a0 b0 c) (adS a1 b1 u0) (adS a2 b2 u1) (adS a3 b3 u2):=⟨s0.2,s1.2,s2.2,s3.2⟩
  rw[Z50 _ _ _ _ hd];have iA:=J4q _ _ _ _ ha;have iB:=J4q _ _ _ _ hb;have iD:=J4q _ _ _ _ hd;have lA:=J91 _ _ _ _ ha;have lB:=J91 _ _ _ _ hb;have lD:=J91 _ _ _ _ hd;have e0:=s0.1;have e1:=s1.1;have e2:=s2.1;have e3:=s3.1
  have G:(J0n (adS a0 b0 c) (adS a1 b1 u0) (adS a2 b2 u1) (adS a3 b3 u2):Int)+115792089237316195423570985008687907853269984665640564039457584007913129639936*u3=(J0n a0 a1 a2 a3:Int)+(J0n b0 b1 b2 b3:Int)+c:=by
    rw[iA,iB,iD]
    change _+_*u3=_ at e3
    change _+_*u2=_ at e2
    change _+_*u1=_ at e1
    change _+_*u0=_ at e0
    clear iA iB iD lA lB lD s0 s1 s2 s3 v0 v1 v2 v3 hd;generalize adS a0 b0 c=d0 at*;generalize adS a1 b1 u0=d1 at*;generalize adS a2 b2 u1=d2 at*;generalize adS a3 b3 u2=d3 at*
    clear_value u3 u2 u1 u0
    clear ha hb;omega
  change 0≤u3∧u3≤1 at v3
  clear iA iB iD e0 e1 e2 e3 s0 s1 s2 s3 v0 v1 v2 hd;generalize J0n (adS a0 b0 c) (adS a1 b1 u0) (adS a2 b2 u1) (adS a3 b3 u2)=D at*;generalize J0n a0 a1 a2 a3=A at*;generalize J0n b0 b1 b2 b3=B at*
  clear_value u3
  have hu:u3=0∨u3=1:=by omega
  rcases hu with rfl|rfl
  · exact⟨Z51 (by omega),by omega⟩
  exact⟨Z51 (by omega),by omega⟩
theorem V32 {a0 a1 a2 a3:Int}{V:Nat}(h:A4 a0 a1 a2 a3=L4 V):a0=V0 V 0∧a1=V0 V 1∧a2=V0 V 2∧a3=V0 V 3:=by
  simpa[A4,L4] using h
end

section

namespace M64
theorem maskN (a:Nat)(ha:a<18446744073709551616):bits .and .u64 (a:Int) 4294967295=((a % 4294967296:Nat):Int):=by
  have h:=bits_and_u64_nat a 4294967295 ha (by omega);have e:a &&& 4294967295=a % 4294967296:=Nat.and_two_pow_sub_one_eq_mod a 32;rw[e] at h;exact h
theorem divN (a:Nat):(a:Int) / 4294967296=((a / 4294967296:Nat):Int):=by omega
theorem mulN (a b:Nat):(a:Int)*(b:Int)=((a*b:Nat):Int):=(Int.natCast_mul a b).symm
theorem addN (a b:Nat):(a:Int)+(b:Int)=((a+b:Nat):Int):=(Int.natCast_add a b).symm
theorem wrapN (a:Nat)(ha:a<18446744073709551616):AG.u64.wrap (a:Int)=(a:Int):=by rw[AG.wrap_u64];omega
theorem wrapM (a:Nat):AG.u64.wrap (a:Int)=((a % 18446744073709551616:Nat):Int):=by rw[AG.wrap_u64];omega
end M64

set_option maxHeartbeats 1000000 in
theorem Y5u (x y:Nat)(hx:x<18446744073709551616)(hy:y<18446744073709551616)(w:AA):
    Calls Tryz.prog 148 #[.int .u64 x,.int .u64 y] w fun e w' =>e=.returned (.tuple #[.int .u64 ((x*y / 18446744073709551616:Nat):Int),.int .u64 ((x*y % 18446744073709551616:Nat):Int)])∧w=w' :=by
  obtain⟨bd,bt,bw,G⟩:=Lib.mul64_hi x y hx hy;have ba:=Lib.half_mul_le (a:=x / 4294967296) (b:=y / 4294967296) (by omega) (by omega);have bb:=Lib.half_mul_le (a:=x / 4294967296) (b:=y % 4294967296) (by omega) (by omega);have bc:=Lib.half_mul_le (a:=x % 4294967296) (b:=y / 4294967296) (by omega) (by omega);have ba' :x / 4294967296*(y / 4294967296)<18446744073709551616:=by omega
  have bb' :x / 4294967296*(y % 4294967296)<18446744073709551616:=by omega
  have bc' :x % 4294967296*(y / 4294967296)<18446744073709551616:=by omega
  have D:x / 4294967296*(y / 4294967296)+(x / 4294967296*(y % 4294967296)+x % 4294967296*(y % 4294967296) / 4294967296) / 4294967296<18446744073709551616:=by omega
  have bh:x / 4294967296*(y / 4294967296)+(x / 4294967296*(y % 4294967296)+x % 4294967296*(y % 4294967296) / 4294967296) / 4294967296+((x / 4294967296*(y % 4294967296)+x % 4294967296*(y % 4294967296) / 4294967296) % 4294967296+x % 4294967296*(y / 4294967296)) / 4294967296<18446744073709551616:=by omega
  go_enter Tryz.func148,Tryz.ntmps148
  go_wp2;simp only[M64.maskN x hx,M64.maskN y hy,M64.divN,M64.mulN,M64.addN,M64.wrapN _ bd,M64.wrapN _ bb',M64.wrapN _ bt,M64.maskN _ bt,M64.wrapN _ bc',M64.wrapN _ bw,M64.wrapN _ ba',M64.wrapN _ D,M64.wrapN _ bh,M64.wrapM (x*y)];rw[G]
  go_ret2
  exact⟨rfl,rfl⟩

def Z7c (x y:Int):Int:=x*y / 18446744073709551616
def J6i (x y:Int):Int:=x*y % 18446744073709551616
theorem Q7n (x y:Int)(hx:Z7 x)(hy:Z7 y)(w:AA):
    Calls Tryz.prog 148 #[.int .u64 x,.int .u64 y] w fun e w' =>e=.returned (.tuple #[.int .u64 (Z7c x y),.int .u64 (J6i x y)])∧w=w' :=by
  obtain⟨x0,x1⟩:=hx;obtain⟨y0,y1⟩:=hy;obtain⟨X,rfl⟩:=Int.eq_ofNat_of_zero_le x0;obtain⟨Y,rfl⟩:=Int.eq_ofNat_of_zero_le y0;have h:=Y5u X Y (by omega) (by omega) w;have e1:Z7c X Y=((X*Y / 18446744073709551616:Nat):Int):=by unfold Z7c;rw[M64.mulN];omega
  have e2:J6i X Y=((X*Y % 18446744073709551616:Nat):Int):=by unfold J6i;rw[M64.mulN];omega
  rw[e1,e2];exact h

theorem Q4f (x y f c:Int)(hx:Z7 x)(hy:Z7 y)(hf:Z7 f)(hc:Z7 c):
    Z7 (J6i x y)∧Z7 (adS (J6i x y) f 0)∧
    Z7 (AG.u64.wrap (AG.u64.wrap (Z7c x y+adC (J6i x y) f 0)+adC (adS (J6i x y) f 0) c 0))∧Z7 (adS (adS (J6i x y) f 0) c 0)∧
    adS (adS (J6i x y) f 0) c 0+18446744073709551616*AG.u64.wrap (AG.u64.wrap (Z7c x y+adC (J6i x y) f 0)+adC (adS (J6i x y) f 0) c 0)=x*y+f+c:=by
  have hp:x*y≤340282366920938463426481119284349108225:=by
    obtain⟨x0,x1⟩:=hx;obtain⟨y0,y1⟩:=hy;exact Int.le_trans (Int.mul_le_mul (show x≤18446744073709551615 by omega) (show y≤18446744073709551615 by omega) y0 (by omega)) (by decide)
  have D:0≤x*y:=Int.mul_nonneg hx.1 hy.1;unfold Z7c J6i adS adC Z7 at*;rw[AG.wrap_u64,AG.wrap_u64];generalize x*y=p at*;omega
end

section
def J1v (ws:Nat→Int):Nat→Nat
  |0=>0
  |n+1=>J1v ws n+(ws n).toNat*2^(64*n)
theorem Q0s (ws:Nat→Int):∀n,(∀j,j<n→Z7 (ws j))→J1v ws n<2^(64*n)
  |0,_=>by simp[J1v]
  |n+1,h=>by
    have ih:=Q0s ws n (fun j hj=>h j (by omega));have h1:=h n (by omega);have e:(2:Nat)^(64*(n+1))=18446744073709551616*2^(64*n):=by rw[Nat.mul_add,Nat.pow_add,Nat.mul_comm]
    unfold Z7 at h1;rw[e];show J1v ws n+(ws n).toNat*2^(64*n)<_;have:(ws n).toNat*2^(64*n)≤18446744073709551615*2^(64*n):=Nat.mul_le_mul_right _ (by omega);omega
theorem Q4g (f g:Nat→Int):∀n,(∀j,j<n→f j=g j)→J1v f n=J1v g n
  |0,_=>rfl
  |n+1,h=>by
    show J1v f n+_=J1v g n+_;rw[Q4g f g n (fun j hj=>h j (by omega)),h n (by omega)]
theorem J6t (f:Nat→Int)(j:Nat)(v:Int):∀n,j<n→J1v (upd f j v) n+(f j).toNat*2^(64*j)=J1v f n+v.toNat*2^(64*j)
  |0,h=>by omega
  |n+1,h=>by
    show J1v (upd f j v) n+(upd f j v n).toNat*2^(64*n)+_=J1v f n+(f n).toNat*2^(64*n)+_
    by_cases hj:j=n
    · subst hj
      rw[Q4g (upd f j v) f j (fun i hi=>by unfold upd;rw[if_neg (by omega)])];simp only[upd,if_true];omega
    · have ih:=J6t f j v n (by omega)
      have e:upd f j v n=f n:=by unfold upd;rw[if_neg (fun h=>hj h.symm)]
      rw[e];omega
theorem J35 (f:Nat→Int)(j:Nat)(v:Int):upd f j v j=v:=by simp[upd]
theorem J12 (f:Nat→Int)(j i:Nat)(v:Int)(h:i≠j):upd f j v i=f i:=by simp[upd,h]
theorem J92:∀n,J1v (fun _=>0) n=0
  |0=>rfl
  |n+1=>by show J1v (fun _=>0) n+(0:Int).toNat*_=0;rw[J92 n];simp
theorem J84 (V:Nat):∀n,J1v (V0 V) n=V % 2^(64*n)
  |0=>by simp[J1v,Nat.mod_one]
  |n+1=>by
    show J1v (V0 V) n+(V0 V n).toNat*2^(64*n)=_;rw[J84 V n,Nat.mul_add,Nat.pow_add,Nat.mod_mul];unfold V0;rw[Int.toNat_natCast,Nat.mul_comm (2^(64*n))]
theorem Q6d (V:Nat)(h:V<Q3):J1v (V0 V) 4=V:=by
  rw[J84,AI];exact h
theorem J6u (V i:Nat):V % 2^(64*(i+1))=V % 2^(64*i)+(V0 V i).toNat*2^(64*i):=by
  rw[←J84,←J84];rfl
theorem J6v (f:Nat→Int):∀n j,j<n→(∀i,i<n→Z7 (f i))→V0 (J1v f n) j=f j
  |0,j,h,_=>by omega
  |n+1,j,h,hf=>by
    have hl:=Q0s f n (fun i hi=>hf i (by omega));have hn:=hf n (by omega);unfold Z7 at hn;have hq:J1v f (n+1)=J1v f n+(f n).toNat*2^(64*n):=rfl
    by_cases hj:j=n
    · subst hj
      unfold V0;rw[hq,Nat.add_mul_div_right _ _ (AM _),AN hl,AL];omega
    · have ih:=J6v f n j (by omega) (fun i hi=>hf i (by omega))
      rw[←ih];unfold V0;obtain⟨d,hd⟩:∃d,64*n=64*j+(64+d):=⟨64*n-64*j-64,by omega⟩
      rw[hq,hd,Nat.pow_add 2 (64*j),Nat.mul_left_comm,Nat.add_mul_div_left _ _ (AM _),Nat.pow_add 2 64 d,Nat.mul_left_comm];have e:(2:Nat)^64=18446744073709551616:=by decide
      rw[e,Nat.add_mul_mod_self_left]
end

section

def J7b (x:Int):Prop:=0≤x∧x<256
def J13 (bs:Nat→Int):Nat→Nat
  |0=>0
  |n+1=>J13 bs n+(bs n).toNat*2^(8*n)
theorem J68 (bs:Nat→Int)(h:∀j,J7b (bs j)):∀n,J13 bs n<2^(8*n)
  |0=>by simp[J13]
  |n+1=>by
    have ih:=J68 bs h n;have h1:=h n;have e:(2:Nat)^(8*(n+1))=256*2^(8*n):=by rw[Nat.mul_add,Nat.pow_add,Nat.mul_comm]
    unfold J7b at h1;rw[e];show J13 bs n+(bs n).toNat*2^(8*n)<_;have:(bs n).toNat*2^(8*n)≤255*2^(8*n):=Nat.mul_le_mul_right _ (by omega);omega
theorem Y0s (p:Nat)(h:p<18446744073709551616):AG.wrap .u64 (p:Int)=(p:Int):=by rw[AG.wrap_u64];omega
theorem Z54 (bs:Nat→Int)(h:∀j,J7b (bs j))(q r:Nat)(hr:r<8):
    bits .or .u64 (V0 (J13 bs (8*q+r)) q) (AG.wrap .u64 (bs (8*q+r)*2^(8*r)))=V0 (J13 bs (8*q+r+1)) q:=by
  have hl:=J68 bs h (8*q+r);obtain⟨b0,b1⟩:=h (8*q+r);show _=V0 (J13 bs (8*q+r)+(bs (8*q+r)).toNat*2^(8*(8*q+r))) q;obtain⟨x,hx⟩:=Int.eq_ofNat_of_zero_le b0;rw[hx] at b1⊢;rw[Int.toNat_natCast];generalize J13 bs (8*q+r)=V at*;rw[show 8*(8*q+r)=64*q+8*r by omega,Nat.pow_add] at*;have hV:V / 2^(64*q)<2^(8*r):=Nat.div_lt_of_lt_mul hl;have hp:(2:Nat)^(8*r)≤2^56:=Nat.pow_le_pow_right (by omega) (by omega);have G:x*2^(8*r)≤255*2^56:=Nat.mul_le_mul (by omega) hp;unfold V0
  have e1:(V+x*(2^(64*q)*2^(8*r))) / 2^(64*q)=V / 2^(64*q)+x*2^(8*r):=by
    rw[Nat.mul_left_comm,Nat.add_mul_div_left _ _ (AM _)]
  rw[e1];generalize V / 2^(64*q)=v at*;have e0:(x:Int)*2^(8*r)=((x*2^(8*r):Nat):Int):=by rw[Int.natCast_mul,Int.natCast_pow];rfl
  have D:x*2^(8*r)<18446744073709551616:=AK G (by decide)
  have e2:AG.wrap .u64 ((x:Int)*2^(8*r))=((x*2^(8*r):Nat):Int):=by
    rw[e0];exact Y0s _ D
  rw[e2];have J:(2:Nat)^56=72057594037927936:=by decide
  rw[bits_or_u64_nat _ _ (by omega) (by omega)]
  have e3:v % 18446744073709551616 |||x*2^(8*r)=v+x*2^(8*r):=by
    rw[AI (by omega),Nat.or_comm,Nat.mul_comm x,←Nat.two_pow_add_eq_or_of_lt hV,Nat.add_comm]
  rw[e3]
  congr 1
  rw[AI (by omega)]
theorem J85 (bs:Nat→Int)(h:∀j,J7b (bs j))(k j:Nat)(hj:j≠k / 8):V0 (J13 bs (k+1)) j=V0 (J13 bs k) j:=by
  have hl:=J68 bs h k
  by_cases D:j<k / 8
  · show V0 (J13 bs k+(bs k).toNat*2^(8*k)) j=_
    generalize J13 bs k=V at*;generalize (bs k).toNat=x;unfold V0;obtain⟨d,hd⟩:∃d,8*k=64*j+(64+d):=⟨8*k-64*j-64,by omega⟩
    rw[hd,Nat.pow_add 2 (64*j),Nat.mul_left_comm,Nat.add_mul_div_left _ _ (AM _),Nat.pow_add 2 64 d,Nat.mul_left_comm];have e:(2:Nat)^64=18446744073709551616:=by decide
    rw[e,Nat.add_mul_mod_self_left]
  have h1:=J68 bs h (k+1);have h2:(2:Nat)^(8*(k+1))≤2^(64*j):=Nat.pow_le_pow_right (by omega) (by omega);have h3:J13 bs (k+1)<2^(64*j):=Nat.lt_of_lt_of_le h1 h2;have h4:J13 bs k<2^(64*j):=AK (Nat.le_add_right _ _) h3;show((J13 bs (k+1) / _ % _:Nat):Int)=((J13 bs k / _ % _:Nat):Int)
  rw[AN h3,AN h4]
end

section

def l16 (n i:Nat):Int:=((n / 2^(16*i) % 65536:Nat):Int)
end

section

def Y5v (f:Nat→Int):Nat→Nat
  |0=>0
  |n+1=>Y5v f n+(f n).toNat*2^(16*n)
def ovr (f:Nat→Int)(k:Nat):Nat:=Y5v f k / 2^(16*k)
def nxt (f:Nat→Int):Nat→Int:=upd (l16 (Y5v f 16)) 0 (l16 (Y5v f 16) 0+38*(ovr f 16:Int))
end
end Go.Proofs.YtpljgkofbfeelaaGreatDoor

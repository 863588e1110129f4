/- Contracts and plain laws for directPuts_holds. Conditions: the tables hold their numbers. -/
import Derived.Test.YteehbddkcnkhfaaGreatDoorRows
import Derived.Test.YteehbddkcnkhfaaGreatDoorJ5
import Derived.ProofKit
import Derived.OpenShut
import Derived.Deep.Slices
import Derived.Deep.DeepHandedRow
import Derived.Lib.LaidTab
set_option linter.unusedSimpArgs false
set_option linter.unusedVariables false
namespace Go.Proofs.YteehbddkcnkhfaaGreatDoor
section
set_option maxRecDepth 100000
open Go.ChangeShapes Go.WideShapes Go.ChangeAt Go.RowKit Go.Deep
theorem own:ownKnob Tryz.prog.godebug=none:=by kernel_rfl
theorem Z57:laidOutB Tryz.prog=true:=by kernel_rfl
theorem Z58:Tryz.prog.cellsOf 5=1:=by kernel_rfl
theorem Q1f {cs:List Value}{o s o' :Nat}(h:o' =o+s):cs.drop o=(cs.drop o).take s++cs.drop o' :=by
  subst h;rw[←List.drop_drop,List.take_append_drop]
section
variable {H : Type} {enc : TypeId × Value → H} {W : World} {base : Nat} {sp : Nat → Bool} {held : Bool}
theorem Z28 {fuel:Nat}{t e:TypeId}{n:Nat}{cs:List Value}{x:DataW H×List MemPlace}(ht:Tryz.prog.underlying t=some (.array n e))(he:Tryz.prog.underlying e=some (.int .u8))(hc:Tryz.prog.cellsOf e=1)(hct:Tryz.prog.cellsOf t=n)
    (h:DataW.trod enc Tryz.prog W base sp held fuel t cs=some x):∃S:List UInt8,cs=bs8 S∧S.length=n:=by
  obtain⟨xs,m,_,_,hl,G,hg⟩:=DataW.trod_array ht h;rw[hct] at hl
  have D:∀i,i<n→∃c:UInt8,cs[i]?=some (.int .u8 (c.toNat:Int)):=by
    intro i hi;have h1:=hg i hi;rw[hc,Nat.mul_one,List.getElem?_eq_getElem (by omega)] at h1;obtain⟨z,hz,_,hw⟩:=DataW.trod_int he h1;have hb:=bounds_u8 hw;have h0:=congrArg (fun l:List Value=>l[0]?) hz;rw[List.getElem?_take_of_lt (by omega),List.getElem?_drop] at h0;refine⟨UInt8.ofNat z.toNat,?_⟩
    have e:((UInt8.ofNat z.toNat).toNat:Int)=z:=by
      rw[UInt8.toNat_ofNat'];omega
    rw[e]
    simpa using h0
  refine⟨(List.range n).map fun i=>if h:i<n then Classical.choose (D i h) else 0,?_,by simp⟩;apply List.ext_getElem?;intro i
  by_cases hi:i<n
  · have:=Classical.choose_spec (D i hi)
    rw[this];simp[bs8,hi]
  rw[List.getElem?_eq_none (by omega),List.getElem?_eq_none (by simp[bs8];omega)]
theorem Q6k {fuel:Nat}{t:TypeId}{n:Nat}{cs:List Value}{x:DataW H×List MemPlace}(ht:Tryz.prog.underlying t=some (.array n 5))(hct:Tryz.prog.cellsOf t=n)
    (h:DataW.trod enc Tryz.prog W base sp held fuel t cs=some x):∃X:Nat,X<2^(8*n)∧cs=(J0 .u8 n (J7 X)).toList:=by
  obtain⟨L,rfl,hl⟩:=Z28 ht Tryz.underlying5 Z58 hct h;exact⟨le L,by rw[←hl];exact Z3l L,by rw[K36,Z1g hl]⟩
theorem Q0l {fuel:Nat}{t:TypeId}{cs:List Value}{x:DataW H×List MemPlace}(ht:Tryz.prog.underlying t=some (.int .i64))(h:DataW.trod enc Tryz.prog W base sp held fuel t cs=some x):∃n:Int,(-9223372036854775808≤n∧n<9223372036854775808)∧cs=[.int .i64 n]:=by
  obtain⟨n,hn,_,hw⟩:=DataW.trod_int ht h;exact⟨n,by have:=bounds_i64 hw;omega,hn⟩
theorem Q0m {fuel:Nat}{cs:List Value}{x:DataW H×List MemPlace}(h:DataW.trod enc Tryz.prog W base sp held fuel 22 cs=some x):∃u l,(Sl W u l∧l.length≤maxLen)∧cs=[u]:=by
  rcases open_slice Tryz.underlying22 h with⟨rfl,_⟩|⟨a,G,R,m,n,D,Pl,rfl,_,hl,hm,S,_,hi⟩
  · exact⟨_,[],⟨Z1o W,by simp⟩,rfl⟩
  have T:G≤m:=by rw[S];split<;>omega
  have M:∀i,i<G→∃c:UInt8,W.cell? (a.add i)=some (.int .u8 (c.toNat:Int)):=by
    intro i X;obtain⟨V,h1,h2⟩:=hi i (by omega);rw[Z58,Nat.mul_one] at h1;obtain⟨_,U,J⟩:=World.cells?_some h1;obtain⟨z,hz,_,hw⟩:=DataW.trod_int Tryz.underlying5 h2;have hb:=bounds_u8 hw;refine⟨UInt8.ofNat z.toNat,?_⟩;have e:((UInt8.ofNat z.toNat).toNat:Int)=z:=by rw[UInt8.toNat_ofNat'];omega
    have:=J 0 (by omega);rw[hz] at this;rw[e];have e0:∀b:Addr,b.add 0=b:=fun b=>by unfold Addr.add;simp
    rw[e0] at this
    simpa using this
  refine⟨_,(List.range G).map fun i=>if h:i<G then Classical.choose (M i h) else 0,⟨⟨some a,R,by simp,by simpa using hl,hm,(fun h=>by cases h),fun j x hj=>⟨a,rfl,?_⟩⟩,by simp;omega⟩,rfl⟩;have N:j<G:=by have:=(List.getElem?_eq_some_iff.1 hj).1;simpa using this
  simp[N] at hj;subst hj;exact Classical.choose_spec (M j N)
theorem Q29 {fuel:Nat}{cs:List Value}{x:DataW H×List MemPlace}(h:DataW.trod enc Tryz.prog W base sp held fuel 25 cs=some x):∃(X1:Nat) (X2:Nat),X1<2^(8*32)∧X2<2^(8*32)∧cs=fcs [.a 32 X1,.a 32 X2]:=by
  obtain⟨xs,n,_,_,hl,J,hg⟩:=DataW.trod_struct Tryz.underlying25 h;rw[show Tryz.prog.cellsOf 25=64 by kernel_rfl] at hl;have M:xs.length=2:=J;have g0:DataW.trod enc Tryz.prog W base sp held n 23 ((cs.drop 0).take (Tryz.prog.cellsOf 23))=xs[0]?:=hg 0 _ rfl;rw[show Tryz.prog.cellsOf 23=32 by kernel_rfl,List.getElem?_eq_getElem (by omega)] at g0;replace g0 : DataW.trod enc Tryz.prog W base sp held n 23 ((cs.drop 0).take 32) = some (xs[0]'(by omega)) := g0;obtain⟨X1,D,e0⟩:=Q6k Tryz.underlying23 (by kernel_rfl) g0;have g1:DataW.trod enc Tryz.prog W base sp held n 23 ((cs.drop 32).take (Tryz.prog.cellsOf 23))=xs[1]?:=hg 1 _ rfl;rw[show Tryz.prog.cellsOf 23=32 by kernel_rfl,List.getElem?_eq_getElem (by omega)] at g1;replace g1 : DataW.trod enc Tryz.prog W base sp held n 23 ((cs.drop 32).take 32) = some (xs[1]'(by omega)) := g1;obtain⟨X2,G,e1⟩:=Q6k Tryz.underlying23 (by kernel_rfl) g1;refine⟨X1,X2,D,G,?_⟩;rw[show cs=cs.drop 0 from rfl];rw[Q1f (cs:=cs) (o:=0) (s:=32) (o' :=32) rfl,e0]
  conv=>lhs;rw[Q1f (cs:=cs) (o:=32) (s:=32) (o' :=64) rfl,e1]
  rw[List.drop_eq_nil_of_le (Nat.le_of_eq hl)];rfl
theorem J6d {fuel:Nat}{cs:List Value}{x:DataW H×List MemPlace}(h:DataW.trod enc Tryz.prog W base sp held fuel 27 cs=some x):∃(n1:Int) (n2:Int) (n3:Int),(-9223372036854775808≤n1∧n1<9223372036854775808)∧(-9223372036854775808≤n2∧n2<9223372036854775808)∧(-9223372036854775808≤n3∧n3<9223372036854775808)∧cs=fcs [.c (.int .i64 n1),.c (.int .i64 n2),.c (.int .i64 n3)]:=by
  obtain⟨xs,n,_,_,hl,M,hg⟩:=DataW.trod_struct Tryz.underlying27 h;rw[show Tryz.prog.cellsOf 27=3 by kernel_rfl] at hl;have N:xs.length=3:=M;have g0:DataW.trod enc Tryz.prog W base sp held n 3 ((cs.drop 0).take (Tryz.prog.cellsOf 3))=xs[0]?:=hg 0 _ rfl;rw[show Tryz.prog.cellsOf 3=1 by kernel_rfl,List.getElem?_eq_getElem (by omega)] at g0;replace g0 : DataW.trod enc Tryz.prog W base sp held n 3 ((cs.drop 0).take 1) = some (xs[0]'(by omega)) := g0;obtain⟨n1,J,e0⟩:=Q0l Tryz.underlying3 g0;have g1:DataW.trod enc Tryz.prog W base sp held n 3 ((cs.drop 1).take (Tryz.prog.cellsOf 3))=xs[1]?:=hg 1 _ rfl;rw[show Tryz.prog.cellsOf 3=1 by kernel_rfl,List.getElem?_eq_getElem (by omega)] at g1;replace g1 : DataW.trod enc Tryz.prog W base sp held n 3 ((cs.drop 1).take 1) = some (xs[1]'(by omega)) := g1;obtain⟨n2,D,e1⟩:=Q0l Tryz.underlying3 g1;have g2:DataW.trod enc Tryz.prog W base sp held n 3 ((cs.drop 2).take (Tryz.prog.cellsOf 3))=xs[2]?:=hg 2 _ rfl;rw[show Tryz.prog.cellsOf 3=1 by kernel_rfl,List.getElem?_eq_getElem (by omega)] at g2;replace g2 : DataW.trod enc Tryz.prog W base sp held n 3 ((cs.drop 2).take 1) = some (xs[2]'(by omega)) := g2;obtain⟨n3,G,e2⟩:=Q0l Tryz.underlying3 g2;refine⟨n1,n2,n3,J,D,G,?_⟩;rw[show cs=cs.drop 0 from rfl];rw[Q1f (cs:=cs) (o:=0) (s:=1) (o' :=1) rfl,e0]
  conv=>lhs;rw[Q1f (cs:=cs) (o:=1) (s:=1) (o' :=2) rfl,e1]
  conv=>lhs;rw[Q1f (cs:=cs) (o:=2) (s:=1) (o' :=3) rfl,e2]
  rw[List.drop_eq_nil_of_le (Nat.le_of_eq hl)];rfl
theorem J6t {fuel:Nat}{cs:List Value}{x:DataW H×List MemPlace}(h:DataW.trod enc Tryz.prog W base sp held fuel 29 cs=some x):∃(v1:Value) (l2:List UInt8) (X3:Nat) (X4:Nat) (n5:Int) (n6:Int) (n7:Int),(Sl W v1 l2∧l2.length≤maxLen)∧X3<2^(8*32)∧X4<2^(8*32)∧(-9223372036854775808≤n5∧n5<9223372036854775808)∧(-9223372036854775808≤n6∧n6<9223372036854775808)∧(-9223372036854775808≤n7∧n7<9223372036854775808)∧cs=fcs [.c v1,.a 32 X3,.a 32 X4,.c (.int .i64 n5),.c (.int .i64 n6),.c (.int .i64 n7)]:=by
  obtain⟨xs,n,_,_,hl,S,hg⟩:=DataW.trod_struct Tryz.underlying29 h;rw[show Tryz.prog.cellsOf 29=68 by kernel_rfl] at hl;have T:xs.length=3:=S;have g0:DataW.trod enc Tryz.prog W base sp held n 22 ((cs.drop 0).take (Tryz.prog.cellsOf 22))=xs[0]?:=hg 0 _ rfl;rw[show Tryz.prog.cellsOf 22=1 by kernel_rfl,List.getElem?_eq_getElem (by omega)] at g0;replace g0 : DataW.trod enc Tryz.prog W base sp held n 22 ((cs.drop 0).take 1) = some (xs[0]'(by omega)) := g0;obtain⟨v1,l2,R,e0⟩:=Q0m g0;have g1:DataW.trod enc Tryz.prog W base sp held n 25 ((cs.drop 1).take (Tryz.prog.cellsOf 25))=xs[1]?:=hg 1 _ rfl;rw[show Tryz.prog.cellsOf 25=64 by kernel_rfl,List.getElem?_eq_getElem (by omega)] at g1;replace g1 : DataW.trod enc Tryz.prog W base sp held n 25 ((cs.drop 1).take 64) = some (xs[1]'(by omega)) := g1;obtain⟨X3,X4,D,M,e1⟩:=Q29 g1;have g2:DataW.trod enc Tryz.prog W base sp held n 27 ((cs.drop 65).take (Tryz.prog.cellsOf 27))=xs[2]?:=hg 2 _ rfl;rw[show Tryz.prog.cellsOf 27=3 by kernel_rfl,List.getElem?_eq_getElem (by omega)] at g2;replace g2 : DataW.trod enc Tryz.prog W base sp held n 27 ((cs.drop 65).take 3) = some (xs[2]'(by omega)) := g2;obtain⟨n5,n6,n7,J,N,G,e2⟩:=J6d g2;refine⟨v1,l2,X3,X4,n5,n6,n7,R,D,M,J,N,G,?_⟩;rw[show cs=cs.drop 0 from rfl];rw[Q1f (cs:=cs) (o:=0) (s:=1) (o' :=1) rfl,e0]
  conv=>lhs;rw[Q1f (cs:=cs) (o:=1) (s:=64) (o' :=65) rfl,e1]
  conv=>lhs;rw[Q1f (cs:=cs) (o:=65) (s:=3) (o' :=68) rfl,e2]
  rw[List.drop_eq_nil_of_le (Nat.le_of_eq hl)];rfl
theorem J6s {r:Reach}{b0:Nat}{v:Value}{d:DataW H}{ps:List MemPlace}(hval:Value.okWide Tryz.prog W r b0 29 v)(hd:DataW.Trod enc Tryz.prog W base sp held 29 v d ps):∃(v1:Value) (l2:List UInt8) (X3:Nat) (X4:Nat) (n5:Int) (n6:Int) (n7:Int),(Sl W v1 l2∧l2.length≤maxLen)∧X3<2^(8*32)∧X4<2^(8*32)∧(-9223372036854775808≤n5∧n5<9223372036854775808)∧(-9223372036854775808≤n6∧n6<9223372036854775808)∧(-9223372036854775808≤n7∧n7<9223372036854775808)∧v=.agg (Q5 [.c v1,.a 32 X3,.a 32 X4,.c (.int .i64 n5),.c (.int .i64 n6),.c (.int .i64 n7)]):=by
  obtain⟨cs,rfl,_⟩:=okWide_struct Tryz.underlying29 hval;obtain⟨D,hf⟩:=hd;obtain⟨v1,l2,X3,X4,n5,n6,n7,h0,h1,h2,h3,h4,h5,e⟩:=J6t hf;exact⟨v1,l2,X3,X4,n5,n6,n7,h0,h1,h2,h3,h4,h5,by rw[show cs=Q5 [.c v1,.a 32 X3,.a 32 X4,.c (.int .i64 n5),.c (.int .i64 n6),.c (.int .i64 n7)] from Array.toList_inj.1 e]⟩
theorem J7v {fuel:Nat}{cs:List Value}{x:DataW H×List MemPlace}(h:DataW.trod enc Tryz.prog W base sp held fuel 38 cs=some x):∃(n1:Int) (n2:Int) (v3:Value) (l4:List UInt8) (v5:Value) (l6:List UInt8) (n7:Int) (n8:Int),(-9223372036854775808≤n1∧n1<9223372036854775808)∧(-9223372036854775808≤n2∧n2<9223372036854775808)∧(Sl W v3 l4∧l4.length≤maxLen)∧(Sl W v5 l6∧l6.length≤maxLen)∧(-9223372036854775808≤n7∧n7<9223372036854775808)∧(-9223372036854775808≤n8∧n8<9223372036854775808)∧cs=fcs [.c (.int .i64 n1),.c (.int .i64 n2),.c v3,.c v5,.c (.int .i64 n7),.c (.int .i64 n8)]:=by
  obtain⟨xs,n,_,_,hl,S,hg⟩:=DataW.trod_struct Tryz.underlying38 h;rw[show Tryz.prog.cellsOf 38=6 by kernel_rfl] at hl;have T:xs.length=6:=S;have g0:DataW.trod enc Tryz.prog W base sp held n 3 ((cs.drop 0).take (Tryz.prog.cellsOf 3))=xs[0]?:=hg 0 _ rfl;rw[show Tryz.prog.cellsOf 3=1 by kernel_rfl,List.getElem?_eq_getElem (by omega)] at g0;replace g0 : DataW.trod enc Tryz.prog W base sp held n 3 ((cs.drop 0).take 1) = some (xs[0]'(by omega)) := g0;obtain⟨n1,N,e0⟩:=Q0l Tryz.underlying3 g0;have g1:DataW.trod enc Tryz.prog W base sp held n 3 ((cs.drop 1).take (Tryz.prog.cellsOf 3))=xs[1]?:=hg 1 _ rfl;rw[show Tryz.prog.cellsOf 3=1 by kernel_rfl,List.getElem?_eq_getElem (by omega)] at g1;replace g1 : DataW.trod enc Tryz.prog W base sp held n 3 ((cs.drop 1).take 1) = some (xs[1]'(by omega)) := g1;obtain⟨n2,D,e1⟩:=Q0l Tryz.underlying3 g1;have g2:DataW.trod enc Tryz.prog W base sp held n 22 ((cs.drop 2).take (Tryz.prog.cellsOf 22))=xs[2]?:=hg 2 _ rfl;rw[show Tryz.prog.cellsOf 22=1 by kernel_rfl,List.getElem?_eq_getElem (by omega)] at g2;replace g2 : DataW.trod enc Tryz.prog W base sp held n 22 ((cs.drop 2).take 1) = some (xs[2]'(by omega)) := g2;obtain⟨v3,l4,G,e2⟩:=Q0m g2;have g3:DataW.trod enc Tryz.prog W base sp held n 22 ((cs.drop 3).take (Tryz.prog.cellsOf 22))=xs[3]?:=hg 3 _ rfl;rw[show Tryz.prog.cellsOf 22=1 by kernel_rfl,List.getElem?_eq_getElem (by omega)] at g3;replace g3 : DataW.trod enc Tryz.prog W base sp held n 22 ((cs.drop 3).take 1) = some (xs[3]'(by omega)) := g3;obtain⟨v5,l6,R,e3⟩:=Q0m g3;have g4:DataW.trod enc Tryz.prog W base sp held n 3 ((cs.drop 4).take (Tryz.prog.cellsOf 3))=xs[4]?:=hg 4 _ rfl;rw[show Tryz.prog.cellsOf 3=1 by kernel_rfl,List.getElem?_eq_getElem (by omega)] at g4;replace g4 : DataW.trod enc Tryz.prog W base sp held n 3 ((cs.drop 4).take 1) = some (xs[4]'(by omega)) := g4;obtain⟨n7,M,e4⟩:=Q0l Tryz.underlying3 g4;have g5:DataW.trod enc Tryz.prog W base sp held n 3 ((cs.drop 5).take (Tryz.prog.cellsOf 3))=xs[5]?:=hg 5 _ rfl;rw[show Tryz.prog.cellsOf 3=1 by kernel_rfl,List.getElem?_eq_getElem (by omega)] at g5;replace g5 : DataW.trod enc Tryz.prog W base sp held n 3 ((cs.drop 5).take 1) = some (xs[5]'(by omega)) := g5;obtain⟨n8,J,e5⟩:=Q0l Tryz.underlying3 g5;refine⟨n1,n2,v3,l4,v5,l6,n7,n8,N,D,G,R,M,J,?_⟩;rw[show cs=cs.drop 0 from rfl];rw[Q1f (cs:=cs) (o:=0) (s:=1) (o' :=1) rfl,e0]
  conv=>lhs;rw[Q1f (cs:=cs) (o:=1) (s:=1) (o' :=2) rfl,e1]
  conv=>lhs;rw[Q1f (cs:=cs) (o:=2) (s:=1) (o' :=3) rfl,e2]
  conv=>lhs;rw[Q1f (cs:=cs) (o:=3) (s:=1) (o' :=4) rfl,e3]
  conv=>lhs;rw[Q1f (cs:=cs) (o:=4) (s:=1) (o' :=5) rfl,e4]
  conv=>lhs;rw[Q1f (cs:=cs) (o:=5) (s:=1) (o' :=6) rfl,e5]
  rw[List.drop_eq_nil_of_le (Nat.le_of_eq hl)];rfl
end
end

section
open Go.RowKit Go.ChangeShapes Go.WideShapes Go.ChangeAt

end
end Go.Proofs.YteehbddkcnkhfaaGreatDoor

/- Contracts and plain laws for custumalPast_holds. Conditions: the tables hold their numbers. -/
import Derived.Test.YteehbddkcnkhfaaGreatDoorRows
import Derived.Test.YteehbddkcnkhfaaGreatDoorJ5
import Derived.ProofKit
import Derived.OpenShut
import Derived.Deep.Slices
import Derived.Deep.DeepHandedRow
import Derived.Lib.LaidTab
open Go.RowKit
set_option maxRecDepth 100000
set_option linter.unusedSimpArgs false
set_option linter.unusedVariables false
namespace Go.Proofs.YteehbddkcnkhfaaGreatDoor
section
open Go.ChangeShapes Go.WideShapes Go.ChangeAt Go.RowKit Go.Deep
theorem own:ownKnob Tryz.prog.godebug=none:=by kernel_rfl
theorem Q6g:laidOutB Tryz.prog=true:=by kernel_rfl
theorem Z2x:Tryz.prog.cellsOf 5=1:=by kernel_rfl
theorem Z9e {cs:List Value}{o s o' :Nat}(h:o' =o+s):cs.drop o=(cs.drop o).take s++cs.drop o' :=by
  subst h;rw[←List.drop_drop,List.take_append_drop]
section
variable {H : Type} {enc : TypeId × Value → H} {W : World} {base : Nat} {sp : Nat → Bool} {held : Bool}
theorem V5a {t:TypeId}(hr:Tryz.prog.readableRec t=true)(hrow:t<Tryz.prog.types.size){W W' :World}{sp' :Nat→Bool}{v:Value}{d:DataW H}
    (h:DataW.Trod enc Tryz.prog W 0 (fun _=>true) true t v d []):DataW.Trod enc Tryz.prog W' 0 sp' true t v d []:=
  WideElems.Trod_stays Q6g hr hrow h (fun _ hp=>by cases hp) (fun _ hp=>by cases hp)
theorem Z09 {fuel:Nat}{t e:TypeId}{n:Nat}{cs:List Value}{x:DataW H×List MemPlace}(ht:Tryz.prog.underlying t=some (.array n e))(he:Tryz.prog.underlying e=some (.int .u8))(hc:Tryz.prog.cellsOf e=1)(hct:Tryz.prog.cellsOf t=n)
    (h:DataW.trod enc Tryz.prog W base sp held fuel t cs=some x):∃S:List UInt8,cs=bs8 S∧S.length=n:=by
  obtain⟨xs,m,_,_,hl,G,hg⟩:=DataW.trod_array ht h;rw[hct] at hl
  have D:∀i,i<n→∃c:UInt8,cs[i]?=some (.int .u8 (c.toNat:Int)):=by
    intro i hi;have h1:=hg i hi;rw[hc,Nat.mul_one,List.getElem?_eq_getElem (by omega)] at h1;obtain⟨z,hz,_,hw⟩:=DataW.trod_int he h1;have hb:=bounds_u8 hw;have h0:=congrArg (fun l:List Value=>l[0]?) hz;rw[List.getElem?_take_of_lt (by omega),List.getElem?_drop] at h0;refine⟨UInt8.ofNat z.toNat,?_⟩
    have e:((UInt8.ofNat z.toNat).toNat:Int)=z:=by
      rw[UInt8.toNat_ofNat'];omega
    rw[e]
    simpa using h0
  refine⟨(List.range n).map fun i=>if h:i<n then Classical.choose (D i h) else 0,?_,by simp⟩;apply List.ext_getElem?;intro i
  by_cases hi:i<n
  · have:=Classical.choose_spec (D i hi)
    rw[this];simp[bs8,hi]
  rw[List.getElem?_eq_none (by omega),List.getElem?_eq_none (by simp[bs8];omega)]
theorem Q51 {fuel:Nat}{t:TypeId}{n:Nat}{cs:List Value}{x:DataW H×List MemPlace}(ht:Tryz.prog.underlying t=some (.array n 5))(hct:Tryz.prog.cellsOf t=n)
    (h:DataW.trod enc Tryz.prog W base sp held fuel t cs=some x):∃X:Nat,X<2^(8*n)∧cs=(J1 .u8 n (J4 X)).toList:=by
  obtain⟨L,rfl,hl⟩:=Z09 ht Tryz.underlying5 Z2x hct h;exact⟨le L,by rw[←hl];exact Z1i L,by rw[V9b,Q9l hl]⟩
theorem V0s {fuel:Nat}{t:TypeId}{cs:List Value}{x:DataW H×List MemPlace}(ht:Tryz.prog.underlying t=some (.int .i64))(h:DataW.trod enc Tryz.prog W base sp held fuel t cs=some x):∃n:Int,(-9223372036854775808≤n∧n<9223372036854775808)∧cs=[.int .i64 n]:=by
  obtain⟨n,hn,_,hw⟩:=DataW.trod_int ht h;exact⟨n,by have:=bounds_i64 hw;omega,hn⟩
theorem Y4k {fuel:Nat}{t:TypeId}{cs:List Value}{x:DataW H×List MemPlace}(ht:Tryz.prog.underlying t=some .bool)(h:DataW.trod enc Tryz.prog W base sp held fuel t cs=some x):∃b:Bool,True∧cs=[.bool b]:=by
  obtain⟨b,hb,_⟩:=DataW.trod_bool ht h;exact⟨b,trivial,hb⟩
theorem Z0a {fuel:Nat}{cs:List Value}{x:DataW H×List MemPlace}(h:DataW.trod enc Tryz.prog W base sp held fuel 22 cs=some x):∃u l,(Sl W u l∧l.length≤maxLen)∧cs=[u]:=by
  rcases open_slice Tryz.underlying22 h with⟨rfl,_⟩|⟨a,G,S,m,n,D,Pl,rfl,_,hl,hm,R,_,hi⟩
  · exact⟨_,[],⟨Q5r W,by simp⟩,rfl⟩
  have U:G≤m:=by rw[R];split<;>omega
  have N:∀i,i<G→∃c:UInt8,W.cell? (a.add i)=some (.int .u8 (c.toNat:Int)):=by
    intro i X;obtain⟨T,h1,h2⟩:=hi i (by omega);rw[Z2x,Nat.mul_one] at h1;obtain⟨_,V,J⟩:=World.cells?_some h1;obtain⟨z,hz,_,hw⟩:=DataW.trod_int Tryz.underlying5 h2;have hb:=bounds_u8 hw;refine⟨UInt8.ofNat z.toNat,?_⟩;have e:((UInt8.ofNat z.toNat).toNat:Int)=z:=by rw[UInt8.toNat_ofNat'];omega
    have:=J 0 (by omega);rw[hz] at this;rw[e];have e0:∀b:Addr,b.add 0=b:=fun b=>by unfold Addr.add;simp
    rw[e0] at this
    simpa using this
  refine⟨_,(List.range G).map fun i=>if h:i<G then Classical.choose (N i h) else 0,⟨⟨some a,S,by simp,by simpa using hl,hm,(fun h=>by cases h),fun j x hj=>⟨a,rfl,?_⟩⟩,by simp;omega⟩,rfl⟩;have M:j<G:=by have:=(List.getElem?_eq_some_iff.1 hj).1;simpa using this
  simp[M] at hj;subst hj;exact Classical.choose_spec (N j M)
theorem V0q {r:Reach}{b0:Nat}{v:Value}{d:DataW H}{ps:List MemPlace}(hval:Value.okWide Tryz.prog W r b0 3 v)(hd:DataW.Trod enc Tryz.prog W base sp held 3 v d ps):∃n:Int,v=.int .i64 n∧ps=[]∧(-9223372036854775808≤n∧n<9223372036854775808):=by
  obtain⟨n,h1,_,hp,hw⟩:=open_int Tryz.underlying3 hval hd;exact⟨n,h1,hp,by have:=bounds_i64 hw;omega⟩
theorem Q0v {fuel:Nat}{cs:List Value}{x:DataW H×List MemPlace}(h:DataW.trod enc Tryz.prog W base sp held fuel 25 cs=some x):∃(X1:Nat) (X2:Nat),X1<2^(8*32)∧X2<2^(8*32)∧cs=fcs [.a 32 X1,.a 32 X2]:=by
  obtain⟨xs,n,_,_,hl,J,hg⟩:=DataW.trod_struct Tryz.underlying25 h;rw[show Tryz.prog.cellsOf 25=64 by kernel_rfl] at hl;have M:xs.length=2:=J;have g0:DataW.trod enc Tryz.prog W base sp held n 23 ((cs.drop 0).take (Tryz.prog.cellsOf 23))=xs[0]?:=hg 0 _ rfl;rw[show Tryz.prog.cellsOf 23=32 by kernel_rfl,List.getElem?_eq_getElem (by omega)] at g0;replace g0 : DataW.trod enc Tryz.prog W base sp held n 23 ((cs.drop 0).take 32) = some (xs[0]'(by omega)) := g0;obtain⟨X1,D,e0⟩:=Q51 Tryz.underlying23 (by kernel_rfl) g0;have g1:DataW.trod enc Tryz.prog W base sp held n 23 ((cs.drop 32).take (Tryz.prog.cellsOf 23))=xs[1]?:=hg 1 _ rfl;rw[show Tryz.prog.cellsOf 23=32 by kernel_rfl,List.getElem?_eq_getElem (by omega)] at g1;replace g1 : DataW.trod enc Tryz.prog W base sp held n 23 ((cs.drop 32).take 32) = some (xs[1]'(by omega)) := g1;obtain⟨X2,G,e1⟩:=Q51 Tryz.underlying23 (by kernel_rfl) g1;refine⟨X1,X2,D,G,?_⟩;rw[show cs=cs.drop 0 from rfl];rw[Z9e (cs:=cs) (o:=0) (s:=32) (o' :=32) rfl,e0]
  conv=>lhs;rw[Z9e (cs:=cs) (o:=32) (s:=32) (o' :=64) rfl,e1]
  rw[List.drop_eq_nil_of_le (Nat.le_of_eq hl)];rfl
theorem Q0u {r:Reach}{b0:Nat}{v:Value}{d:DataW H}{ps:List MemPlace}(hval:Value.okWide Tryz.prog W r b0 25 v)(hd:DataW.Trod enc Tryz.prog W base sp held 25 v d ps):∃(X1:Nat) (X2:Nat),X1<2^(8*32)∧X2<2^(8*32)∧v=.agg (Q7 [.a 32 X1,.a 32 X2]):=by
  obtain⟨cs,rfl,_⟩:=okWide_struct Tryz.underlying25 hval;obtain⟨D,hf⟩:=hd;obtain⟨X1,X2,h0,h1,e⟩:=Q0v hf;exact⟨X1,X2,h0,h1,by rw[show cs=Q7 [.a 32 X1,.a 32 X2] from Array.toList_inj.1 e]⟩
theorem J7w {fuel:Nat}{cs:List Value}{x:DataW H×List MemPlace}(h:DataW.trod enc Tryz.prog W base sp held fuel 173 cs=some x):∃(n1:Int) (v2:Value) (l3:List UInt8) (b4:Bool),(-9223372036854775808≤n1∧n1<9223372036854775808)∧(Sl W v2 l3∧l3.length≤maxLen)∧True∧cs=fcs [.c (.int .i64 n1),.c v2,.c (.bool b4)]:=by
  obtain⟨xs,n,_,_,hl,M,hg⟩:=DataW.trod_struct Tryz.underlying173 h;rw[show Tryz.prog.cellsOf 173=3 by kernel_rfl] at hl;have N:xs.length=3:=M;have g0:DataW.trod enc Tryz.prog W base sp held n 3 ((cs.drop 0).take (Tryz.prog.cellsOf 3))=xs[0]?:=hg 0 _ rfl;rw[show Tryz.prog.cellsOf 3=1 by kernel_rfl,List.getElem?_eq_getElem (by omega)] at g0;replace g0 : DataW.trod enc Tryz.prog W base sp held n 3 ((cs.drop 0).take 1) = some (xs[0]'(by omega)) := g0;obtain⟨n1,J,e0⟩:=V0s Tryz.underlying3 g0;have g1:DataW.trod enc Tryz.prog W base sp held n 22 ((cs.drop 1).take (Tryz.prog.cellsOf 22))=xs[1]?:=hg 1 _ rfl;rw[show Tryz.prog.cellsOf 22=1 by kernel_rfl,List.getElem?_eq_getElem (by omega)] at g1;replace g1 : DataW.trod enc Tryz.prog W base sp held n 22 ((cs.drop 1).take 1) = some (xs[1]'(by omega)) := g1;obtain⟨v2,l3,D,e1⟩:=Z0a g1;have g2:DataW.trod enc Tryz.prog W base sp held n 4 ((cs.drop 2).take (Tryz.prog.cellsOf 4))=xs[2]?:=hg 2 _ rfl;rw[show Tryz.prog.cellsOf 4=1 by kernel_rfl,List.getElem?_eq_getElem (by omega)] at g2;replace g2 : DataW.trod enc Tryz.prog W base sp held n 4 ((cs.drop 2).take 1) = some (xs[2]'(by omega)) := g2;obtain⟨b4,G,e2⟩:=Y4k Tryz.underlying4 g2;refine⟨n1,v2,l3,b4,J,D,G,?_⟩;rw[show cs=cs.drop 0 from rfl];rw[Z9e (cs:=cs) (o:=0) (s:=1) (o' :=1) rfl,e0]
  conv=>lhs;rw[Z9e (cs:=cs) (o:=1) (s:=1) (o' :=2) rfl,e1]
  conv=>lhs;rw[Z9e (cs:=cs) (o:=2) (s:=1) (o' :=3) rfl,e2]
  rw[List.drop_eq_nil_of_le (Nat.le_of_eq hl)];rfl
end
end

section
open Go.RowKit Go.ChangeShapes Go.WideShapes Go.ChangeAt

end

section
set_option maxHeartbeats 4000000

def xo (p q:Int):Int:=bits .xor .u64 p q
def an (p q:Int):Int:=bits .and .u64 p q
def oo (p q:Int):Int:=bits .or .u64 p q
def nt (p:Int):Int:=bits .xor .u64 18446744073709551615 p
def ad (p q:Int):Int:=IntKind.wrap .u64 (p+q)
def sl (p:Int)(n:Nat):Int:=IntKind.wrap .u64 (p*2^n)
def sr (p:Int)(n:Nat):Int:=p / 2^n
def rt (p:Int)(n:Nat):Int:=oo (sr p n) (sl p (64-n))
theorem Y4c (p q:Int):oo p q=oo q p:=by unfold oo;simp only[bits,BitVec.or_comm]
section
variable {P : Program} {w : World} {o : Oper} {a : Act} {x y : Operand} {t t' : TypeId} {p q : Int}
theorem J3k (ho:o.op=.binOp .xor t x y t')(hx:a.eval x=.int .u64 p)(hy:a.eval y=.int .u64 q):(execOp a.eval o).run P w=.ok (.value (.int .u64 (xo p q))) w:=by
  simp only[execOp,ho,hx,hy];rfl
theorem J9x (ho:o.op=.binOp .and t x y t')(hx:a.eval x=.int .u64 p)(hy:a.eval y=.int .u64 q):(execOp a.eval o).run P w=.ok (.value (.int .u64 (an p q))) w:=by
  simp only[execOp,ho,hx,hy];rfl
theorem Z8s (ho:o.op=.binOp .or t x y t')(hx:a.eval x=.int .u64 p)(hy:a.eval y=.int .u64 q):(execOp a.eval o).run P w=.ok (.value (.int .u64 (oo p q))) w:=by
  simp only[execOp,ho,hx,hy];rfl
theorem J4w (ho:o.op=.binOp .add t x y t')(hx:a.eval x=.int .u64 p)(hy:a.eval y=.int .u64 q):(execOp a.eval o).run P w=.ok (.value (.int .u64 (ad p q))) w:=by
  simp only[execOp,ho,hx,hy];rfl
theorem Y4d (ho:o.op=.unOp .xor t x)(hx:a.eval x=.int .u64 p):(execOp a.eval o).run P w=.ok (.value (.int .u64 (nt p))) w:=by
  simp only[execOp,ho,hx];rfl
theorem J3l {k:IntKind}{n:Nat}(hn:n≤64)(ho:o.op=.binOp .shl t x y t')(hx:a.eval x=.int .u64 p)(hy:a.eval y=.int k (n:Int)):(execOp a.eval o).run P w=.ok (.value (.int .u64 (sl p n))) w:=by
  have h:min ((n:Int)).toNat IntKind.u64.bits=n:=by rw[Int.toNat_natCast];exact Nat.min_eq_left hn
  simp only[execOp,ho,hx,hy,eqGuard,binOp,Sem.run_bind];simp[Op.shift,h,sl,go_sem,Sem.run_bind]
theorem J12 {k:IntKind}{n:Nat}(hn:n≤64)(ho:o.op=.binOp .shr t x y t')(hx:a.eval x=.int .u64 p)(hy:a.eval y=.int k (n:Int)):(execOp a.eval o).run P w=.ok (.value (.int .u64 (sr p n))) w:=by
  have h:min ((n:Int)).toNat IntKind.u64.bits=n:=by rw[Int.toNat_natCast];exact Nat.min_eq_left hn
  simp only[execOp,ho,hx,hy,eqGuard,binOp,Sem.run_bind];simp[Op.shift,h,sr,go_sem,Sem.run_bind]
end
end

section
set_option maxHeartbeats 4000000
attribute [local irreducible] wpList

theorem V55 (n:Nat)(h1:1≤n)(h2:n≤63):bits .and .u64 (18446744073709551616-(n:Int)) 63=((64-n:Nat):Int):=by
  obtain⟨m,hm⟩:∃m:Nat,m=18446744073709551616-n:=⟨_,rfl⟩
  have e:(18446744073709551616-(n:Int))=(m:Int):=by omega
  have D:(BitVec.ofInt 64 63).toNat=2^6-1:=by decide
  have G:(BitVec.ofInt 64 (m:Int) &&& BitVec.ofInt 64 63).toNat=m % 2^6:=by
    rw[BitVec.toNat_and,BitVec.toNat_ofInt,D,Nat.and_two_pow_sub_one_eq_mod];omega
  rw[e];show IntKind.u64.wrap ((BitVec.ofInt 64 (m:Int) &&& BitVec.ofInt 64 63).toNat:Nat)=_;rw[G,IntKind.wrap_u64];omega

theorem V0g (p:Int)(n:Nat)(h1:1≤n)(h2:n≤63)(w:World):
  Calls Tryz.prog 200 #[.int .u64 p,.int .i64 (-(n:Int))] w fun e w' =>X5 (.int .u64 (rt p n)) w w' e:=by
 have n0:(1:Int)≤(n:Int):=by omega
 have n1:(n:Int)≤63:=by omega
 have ha:=V55 n h1 h2;have D:Off [] w w:=Off.refl _ _
 go_enter Tryz.func200,Tryz.ntmps200
 go_upto_region 1 with fail;refine wp_region_lit ?_;refine Lv ?_;refine Lw ?_ (v:=.int .u64 (18446744073709551616-(n:Int))) (hv:=by go_simp;(try simp only[IntKind.wrap_u64,IntKind.wrap_i64]);(try omega));refine Lw ?_ (v:=.int .u64 (((64-n:Nat):Int))) (hv:=by first|(go_simp;done)|(go_simp;(try rw[ha]);(try omega)));refine Lv ?_;refine J5 ?_;go_upto_region 2 with fail;refine wp_region_lit ?_;refine Lv ?_;refine Lv ?_;refine Lw ?_ (v:=.int .u64 (sl p (64-n))) (hv:=J3l (n:=(64-n)) (by omega) rfl rfl rfl);refine Lv ?_;refine Lv ?_;refine Lw ?_ (v:=.int .u64 ((n:Int))) (hv:=by go_simp;(try simp only[IntKind.wrap_u64,IntKind.wrap_i64]);(try omega));refine Lw ?_ (v:=.int .u64 (sr p n)) (hv:=J12 (n:=n) (by omega) rfl rfl rfl);refine Lw ?_ (v:=.int .u64 (oo (sl p (64-n)) (sr p n))) (hv:=Z8s rfl rfl rfl);refine Lv ?_;refine J5 ?_;go_wp2;exact bodyPost_ret (v:=.int .u64 (oo (sl p (64-n)) (sr p n))) (by simp only[results,Tryz.results200];go_simp) rfl ⟨congrArg (fun z=>Ending.returned (.int .u64 z)) (Y4c _ _),D.ext⟩
theorem J5s (p:Int)(n:Nat)(h1:1≤n)(h2:n≤63)(w:World):
  Calls Tryz.prog 174 #[.int .u64 p,.int .i64 (n:Int)] w fun e w' =>X5 (.int .u64 (rt p n)) w w' e:=by
 have n0:(1:Int)≤(n:Int):=by omega
 have n1:(n:Int)≤63:=by omega
 have D:Off [] w w:=Off.refl _ _
 go_enter Tryz.func174,Tryz.ntmps174
 go_upto_region 1 with fail;refine wp_region_lit ?_;refine Lv ?_;refine Lv ?_;refine Lw ?_ (v:=.int .i64 (-(n:Int))) (hv:=by go_simp;(try simp only[IntKind.wrap_u64,IntKind.wrap_i64]);(try omega));refine Lr ?_ (V0g p n h1 h2 w);intro W1 hO;replace D:=D.o hO;clear hO;refine Lv ?_;refine J5 ?_;go_wp2;exact bodyPost_ret (v:=.int .u64 (rt p n)) (by simp only[results,Tryz.results174];go_simp) rfl ⟨rfl,D.ext⟩
end

section
set_option maxHeartbeats 4000000
attribute [local irreducible] wpList

theorem V0h {w:World}{o:Oper}{a:Act}{x:Operand}{c:UInt8}(ho:o.op=.convert 5 99 x)(hx:a.eval x=.int .u8 (c.toNat:Int)):(execOp a.eval o).run Tryz.prog w=.ok (.value (.int .u64 (c.toNat:Int))) w:=by
  have hc:=c.toNat_lt;have hw:IntKind.wrap .u64 (c.toNat:Int)=(c.toNat:Int):=by rw[IntKind.wrap_u64];omega
  simp[execOp,ho,hx,convert,run_underlying Tryz.underlying5,run_underlying Tryz.underlying99,Sem.run_bind,Conv.intToInt,hw]
def wrd (b:Nat→Int)(i:Nat):Nat→Int
  |0=>0
  |k+1=>oo (sl (wrd b i k) 8) (b (8*i+k))
def sg (f:Nat→Int)(i:Nat):Int:=ad (ad (ad (f (i-16)) (xo (xo (rt (f (i-15)) 1) (rt (f (i-15)) 8)) (sr (f (i-15)) 7))) (f (i-7))) (xo (xo (rt (f (i-2)) 19) (rt (f (i-2)) 61)) (sr (f (i-2)) 6))
def V7 (b:Nat→Int):Nat→Nat→Int
  |0=>fun _=>0
  |i+1=>upd (V7 b i) i (if i<16 then wrd b i 8 else sg (V7 b i) i)
theorem V0i {b:Nat→Int}{i:Nat}(h:16≤i):upd (V7 b i) i (sg (V7 b i) i)=V7 b (i+1):=by
  show _=upd (V7 b i) i (if i<16 then wrd b i 8 else sg (V7 b i) i);rw[if_neg (by omega)]
theorem Z8u (b:Nat→Int):∀i,i≤16→∀j,V7 b i j=if j<i then wrd b j 8 else 0
  |0,_,j=>by simp[V7]
  |i+1,h,j=>by
    show upd (V7 b i) i (if i<16 then wrd b i 8 else sg (V7 b i) i) j=_;rw[if_pos (by omega)];unfold upd
    by_cases hj:j=i
    · rw[if_pos hj,if_pos (by omega),hj]
    · rw[if_neg hj,Z8u b i (by omega) j]
      by_cases hl:j<i
      · rw[if_pos hl,if_pos (by omega)]
      · rw[if_neg hl,if_neg (by omega)]
def fst (b:Nat→Int)(n j:Nat):Int:=if j<n / 8 then wrd b j 8 else if j=n / 8 then wrd b j (n % 8) else 0
theorem Z8v (b:Nat→Int)(n:Nat):upd (fst b n) (n / 8) (oo (sl (fst b n (n / 8)) 8) (b n))=fst b (n+1):=by
  funext j
  have e:fst b n (n / 8)=wrd b (n / 8) (n % 8):=by unfold fst;rw[if_neg (by omega),if_pos rfl]
  have hb:b n=b (8*(n / 8)+n % 8):=by rw[Nat.div_add_mod]
  rw[e,hb];show(if j=n / 8 then wrd b (n / 8) (n % 8+1) else fst b n j)=fst b (n+1) j;unfold fst
  by_cases hm:n % 8=7
  · have h1:(n+1) / 8=n / 8+1:=by omega
    have h2:(n+1) % 8=0:=by omega
    rw[h1,h2,hm]
    by_cases hj:j=n / 8
    · rw[if_pos hj,if_pos (by omega),hj]
    rw[if_neg hj]
    by_cases hl:j<n / 8
    · rw[if_pos hl,if_pos (by omega)]
    rw[if_neg hl,if_neg hj,if_neg (by omega)]
    split
    · rfl
    rfl
  have h1:(n+1) / 8=n / 8:=by omega
  have h2:(n+1) % 8=n % 8+1:=by omega
  rw[h1,h2]
  by_cases hj:j=n / 8
  · rw[if_pos hj,if_neg (by omega),if_pos hj,hj]
  rw[if_neg hj]
  by_cases hl:j<n / 8
  · rw[if_pos hl,if_pos hl]
  rw[if_neg hl,if_neg hj,if_neg hl,if_neg hj]
theorem Y4e (b:Nat→Int):fst b 128=V7 b 16:=by
  funext j
  rw[Z8u b 16 (Nat.le_refl _) j];unfold fst
  by_cases h:j<16
  · rw[if_pos (by omega),if_pos h]
  rw[if_neg (by omega),if_neg h]
  split
  · rename_i h2;rw[show 128 % 8=0 by rfl];rfl
  rfl
theorem Z8w (b:Nat→Int):fst b 0=fun _=>0:=by
  funext j
  unfold fst;rw[if_neg (by omega)]
  split<;>rfl

theorem Z8x (l:List UInt8)(adr:Addr)(c:Nat)(hl:128≤l.length)(w:World)(hs:Sl w (.slice (some adr) l.length c) l):
  Calls Tryz.prog 173 #[.slice (some adr) l.length c] w fun e w' =>X5 (.agg (J1 .u64 80 (V7 (bt l) 80))) w w' e:=by
 have D:Off [] w w:=Off.refl _ _;have Q6:=hs
 go_enter Tryz.func173,Tryz.ntmps173
 go_upto_region 0 with fail;refine wp_region_lit ?_;refine Ln ?_ (z:=J1 .u64 80 (fun _=>0)) (t:=234);intro K1 W1 T hO h_;have Z:=fbn D T;replace Q6:=Sl.off Q6 hO f0;replace D:=D.o hO;have J:=h_;clear hO h_ T;refine J5 ?_;go_upto_region 1 with fail;refine wp_region_lit ?_;refine Ln ?_ (z:=J1 .u64 80 (fun _=>0)) (t:=234);intro M W2 N hO h_;have Y:=bn J N;have U:=J3u (Sl.lt Q6) N;have V:=fbn D N;replace J:=J.o hO;replace Q6:=Sl.off Q6 hO f0;replace D:=D.o hO;have G:=h_;clear hO h_ N;refine J5 ?_
 go_wp2_with fail
 go_loopw [8] (fun ii wr=> ∃(n:Nat),(n≤128)∧(ii=.int .i64 (n:Int))∧Off [] w wr∧Blk wr K1 (J1 .u64 80 (fun _=>0)) 234∧Blk wr M (J1 .u64 80 (fst (bt l) n)) 234∧Sl wr (.slice (some adr) l.length c) l)
  (fun ii _=>128-(intOf ii).toNat)
 case atStart=>exact⟨0,Nat.zero_le _,rfl,D,J,(by rw[Z8w];exact G),Q6⟩
 case round=>
  obtain⟨n,hn,rfl,D,J,G,Q6⟩:=hrel;obtain⟨W3,S⟩:=J67 D;subst S
  by_cases R:n<128
  ·
   go_upto_region 3 with fail;refine wp_region_lit ?_;refine Lw ?_ (v:=.bool true);refine J5 ?_;go_upto_region 5 with fail;refine J1o 14 [] (by kernel_rfl) (fun x hx=>by cases hx) (by kernel_rfl) ?_;simp only[List.take_succ_cons,List.take_zero,List.take_nil]
   (try simp only[Act.put,mA,mB,mC])
   refine Xv ?_;refine Xw ?_ (v:=.int .i64 (((n / 8:Nat):Int))) (hv:=fun _ _=>by go_simp;(try simp only[IntKind.wrap_u64,IntKind.wrap_i64]);(try omega));refine Xv ?_;refine Xw ?_ (v:=.int .i64 (((n / 8:Nat):Int))) (hv:=fun _ _=>by go_simp;(try simp only[IntKind.wrap_u64,IntKind.wrap_i64]);(try omega));refine Xw ?_ (v:=.pointer (some ⟨M,0+(n / 8),none⟩)) (hv:=fun _ _=>rxa Tryz.underlying234 (by omega));refine Xc ?_ (v:=.int .u64 ((fst (bt l) n) (n / 8))) (V5 G) (hj:=ag0 (by omega));refine Xw ?_ (v:=.int .u64 (sl ((fst (bt l) n) (n / 8)) 8)) (hv:=fun _ _=>J3l (n:=8) (by decide) rfl rfl rfl);refine Xv ?_;refine Xv ?_;refine Xw ?_ (v:=.pointer (some (adr.add n))) (hv:=fun W hW=>Q64 (j:=n) (by omega) rfl rfl rfl);refine Z8m (by rfl) rfl rfl (fun W hW=>J0e (Z8l Q6 (Q50 (by omega))) hW) (by kernel_rfl) ?_
   (try simp only[Act.put,mA,mB,mC])
   refine Xw ?_ (v:=.int .u64 (bt l n)) (hv:=fun _ _=>by exact V0h rfl rfl);refine Xw ?_ (v:=.int .u64 (oo (sl ((fst (bt l) n) (n / 8)) 8) (bt l n))) (hv:=fun _ _=>Z8s rfl rfl rfl);refine Xw ?_ (v:=.pointer (some ⟨M,0+(n / 8),none⟩)) (hv:=fun _ _=>rxa Tryz.underlying234 (by omega));refine K5 ?_;intro β W4 hE hN hD;clear hN hD;simp only[J00,Act.put,mA,mB,mC,List.drop_succ_cons,List.drop_zero,List.drop_nil,List.length_nil,Nat.add_zero];have hO:=J0b hE;replace J:=J.o hO;replace G:=G.o hO;replace Q6:=Sl.off Q6 hO f0;replace D:=D.o hO;clear hO hE β;refine J3j (v:=.int .u64 (oo (sl ((fst (bt l) n) (n / 8)) 8) (bt l n))) ⟨rfl,rfl⟩ (by rfl) rfl rfl rfl G (by rw[J0,Nat.zero_add];omega) (by kernel_rfl) ?_
   (try simp only[Act.put,mA,mB,mC])
   intro W5 hO h_;rw[Nat.zero_add,K3] at h_;replace G:Blk W5 M (J1 .u64 80 (upd (fst (bt l) n) (n / 8) (oo (sl ((fst (bt l) n) (n / 8)) 8) (bt l n)))) 234:=h_;clear h_;replace J:=J.p hO Y;replace Q6:=Sl.off Q6 hO (f1 U);replace D:=D.p hO V;clear hO;refine LN ?_;go_wp2;go_roundw
   case rel=>exact⟨n+1,by omega,by go_num,D,J,(by rw[←Z8v];exact G),Q6⟩
   case measure=>simp[intOf];omega
  obtain rfl:n=128:=by omega
  rw[Y4e] at G;go_upto_region 3 with fail;refine wp_region_lit ?_;refine Lw ?_ (v:=.bool false);refine J5 ?_
  go_wp2_with fail
  go_loopw [5] (fun ii wr=> ∃(i:Nat),(16≤i∧i≤80)∧(ii=.int .i64 (i:Int))∧Off [] w wr∧Blk wr K1 (J1 .u64 80 (fun _=>0)) 234∧Blk wr M (J1 .u64 80 (V7 (bt l) i)) 234∧Sl wr (.slice (some adr) l.length c) l)
   (fun ii _=>80-(intOf ii).toNat)
  case atStart=>exact⟨16,⟨Nat.le_refl _,by decide⟩,rfl,D,J,G,Q6⟩
  case round=>
   obtain⟨i,⟨hi,α⟩,rfl,D,J,G,Q6⟩:=hrel;obtain⟨W4,S⟩:=J67 D;subst S
   by_cases X:i<80
   ·
    go_upto_region 8 with fail;refine wp_region_lit ?_;refine Lv ?_;refine Lw ?_ (v:=.bool true);refine J5 ?_;go_upto_region 10 with fail;refine J1o 10 [] (by kernel_rfl) (fun x hx=>by cases hx) (by kernel_rfl) ?_;simp only[List.take_succ_cons,List.take_zero,List.take_nil]
    (try simp only[Act.put,mA,mB,mC])
    refine Xv ?_;refine Xw ?_ (v:=.int .i64 (((i-15:Nat):Int))) (hv:=fun _ _=>by go_simp;(try simp only[IntKind.wrap_u64,IntKind.wrap_i64]);(try omega));refine Xw ?_ (v:=.pointer (some ⟨M,0+(i-15),none⟩)) (hv:=fun _ _=>rxa Tryz.underlying234 (by omega));refine Xc ?_ (v:=.int .u64 ((V7 (bt l) i) (i-15))) (V5 G) (hj:=ag0 (by omega));refine Xv ?_;refine Xw ?_ (v:=.int .i64 (((i-2:Nat):Int))) (hv:=fun _ _=>by go_simp;(try simp only[IntKind.wrap_u64,IntKind.wrap_i64]);(try omega));refine Xw ?_ (v:=.pointer (some ⟨M,0+(i-2),none⟩)) (hv:=fun _ _=>rxa Tryz.underlying234 (by omega));refine Xc ?_ (v:=.int .u64 ((V7 (bt l) i) (i-2))) (V5 G) (hj:=ag0 (by omega));refine Xv ?_;refine Xv ?_;refine K5 ?_;intro β W5 hE hN hD;clear hN hD;simp only[J00,Act.put,mA,mB,mC,List.drop_succ_cons,List.drop_zero,List.drop_nil,List.length_nil,Nat.add_zero];have hO:=J0b hE;replace J:=J.o hO;replace G:=G.o hO;replace Q6:=Sl.off Q6 hO f0;replace D:=D.o hO;clear hO hE β;refine LN ?_;go_upto_region 11 with fail;refine J1o 29 [] (by kernel_rfl) (fun x hx=>by cases hx) (by kernel_rfl) ?_;simp only[List.take_succ_cons,List.take_zero,List.take_nil]
    (try simp only[Act.put,mA,mB,mC])
    refine Xv ?_;refine Xv ?_;refine Xw ?_ (v:=.int .i64 (((i-16:Nat):Int))) (hv:=fun _ _=>by go_simp;(try simp only[IntKind.wrap_u64,IntKind.wrap_i64]);(try omega));refine Xw ?_ (v:=.pointer (some ⟨M,0+(i-16),none⟩)) (hv:=fun _ _=>rxa Tryz.underlying234 (by omega));refine Xc ?_ (v:=.int .u64 ((V7 (bt l) i) (i-16))) (V5 G) (hj:=ag0 (by omega));refine Xv ?_;refine Xf ?_ (fun W hW=>J5s ((V7 (bt l) i) (i-15)) 1 (by decide) (by decide) W);refine Xv ?_;refine Xf ?_ (fun W hW=>J5s ((V7 (bt l) i) (i-15)) 8 (by decide) (by decide) W);refine Xw ?_ (v:=.int .u64 (xo (rt ((V7 (bt l) i) (i-15)) 1) (rt ((V7 (bt l) i) (i-15)) 8))) (hv:=fun _ _=>J3k rfl rfl rfl);refine Xv ?_;refine Xw ?_ (v:=.int .u64 (sr ((V7 (bt l) i) (i-15)) 7)) (hv:=fun _ _=>J12 (n:=7) (by decide) rfl rfl rfl);refine Xw ?_ (v:=.int .u64 (xo (xo (rt ((V7 (bt l) i) (i-15)) 1) (rt ((V7 (bt l) i) (i-15)) 8)) (sr ((V7 (bt l) i) (i-15)) 7))) (hv:=fun _ _=>J3k rfl rfl rfl);refine Xw ?_ (v:=.int .u64 (ad ((V7 (bt l) i) (i-16)) (xo (xo (rt ((V7 (bt l) i) (i-15)) 1) (rt ((V7 (bt l) i) (i-15)) 8)) (sr ((V7 (bt l) i) (i-15)) 7)))) (hv:=fun _ _=>J4w rfl rfl rfl);refine Xv ?_;refine Xw ?_ (v:=.int .i64 (((i-7:Nat):Int))) (hv:=fun _ _=>by go_simp;(try simp only[IntKind.wrap_u64,IntKind.wrap_i64]);(try omega));refine Xw ?_ (v:=.pointer (some ⟨M,0+(i-7),none⟩)) (hv:=fun _ _=>rxa Tryz.underlying234 (by omega));refine Xc ?_ (v:=.int .u64 ((V7 (bt l) i) (i-7))) (V5 G) (hj:=ag0 (by omega));refine Xw ?_ (v:=.int .u64 (ad (ad ((V7 (bt l) i) (i-16)) (xo (xo (rt ((V7 (bt l) i) (i-15)) 1) (rt ((V7 (bt l) i) (i-15)) 8)) (sr ((V7 (bt l) i) (i-15)) 7))) ((V7 (bt l) i) (i-7)))) (hv:=fun _ _=>J4w rfl rfl rfl);refine Xv ?_;refine Xf ?_ (fun W hW=>J5s ((V7 (bt l) i) (i-2)) 19 (by decide) (by decide) W);refine Xv ?_;refine Xf ?_ (fun W hW=>J5s ((V7 (bt l) i) (i-2)) 61 (by decide) (by decide) W);refine Xw ?_ (v:=.int .u64 (xo (rt ((V7 (bt l) i) (i-2)) 19) (rt ((V7 (bt l) i) (i-2)) 61))) (hv:=fun _ _=>J3k rfl rfl rfl);refine Xv ?_;refine Xw ?_ (v:=.int .u64 (sr ((V7 (bt l) i) (i-2)) 6)) (hv:=fun _ _=>J12 (n:=6) (by decide) rfl rfl rfl);refine Xw ?_ (v:=.int .u64 (xo (xo (rt ((V7 (bt l) i) (i-2)) 19) (rt ((V7 (bt l) i) (i-2)) 61)) (sr ((V7 (bt l) i) (i-2)) 6))) (hv:=fun _ _=>J3k rfl rfl rfl);refine Xw ?_ (v:=.int .u64 (ad (ad (ad ((V7 (bt l) i) (i-16)) (xo (xo (rt ((V7 (bt l) i) (i-15)) 1) (rt ((V7 (bt l) i) (i-15)) 8)) (sr ((V7 (bt l) i) (i-15)) 7))) ((V7 (bt l) i) (i-7))) (xo (xo (rt ((V7 (bt l) i) (i-2)) 19) (rt ((V7 (bt l) i) (i-2)) 61)) (sr ((V7 (bt l) i) (i-2)) 6)))) (hv:=fun _ _=>J4w rfl rfl rfl);refine Xw ?_ (v:=.pointer (some ⟨M,0+i,none⟩)) (hv:=fun _ _=>rxa Tryz.underlying234 (by omega));refine K5 ?_;intro β W6 hE hN hD;clear hN hD;simp only[J00,Act.put,mA,mB,mC,List.drop_succ_cons,List.drop_zero,List.drop_nil,List.length_nil,Nat.add_zero];have hO:=J0b hE;replace J:=J.o hO;replace G:=G.o hO;replace Q6:=Sl.off Q6 hO f0;replace D:=D.o hO;clear hO hE β;refine J3j (v:=.int .u64 (ad (ad (ad ((V7 (bt l) i) (i-16)) (xo (xo (rt ((V7 (bt l) i) (i-15)) 1) (rt ((V7 (bt l) i) (i-15)) 8)) (sr ((V7 (bt l) i) (i-15)) 7))) ((V7 (bt l) i) (i-7))) (xo (xo (rt ((V7 (bt l) i) (i-2)) 19) (rt ((V7 (bt l) i) (i-2)) 61)) (sr ((V7 (bt l) i) (i-2)) 6)))) ⟨rfl,rfl⟩ (by rfl) rfl rfl rfl G (by rw[J0,Nat.zero_add];omega) (by kernel_rfl) ?_
    (try simp only[Act.put,mA,mB,mC])
    intro W7 hO h_;rw[Nat.zero_add,K3] at h_;replace G:Blk W7 M (J1 .u64 80 (upd (V7 (bt l) i) i (ad (ad (ad ((V7 (bt l) i) (i-16)) (xo (xo (rt ((V7 (bt l) i) (i-15)) 1) (rt ((V7 (bt l) i) (i-15)) 8)) (sr ((V7 (bt l) i) (i-15)) 7))) ((V7 (bt l) i) (i-7))) (xo (xo (rt ((V7 (bt l) i) (i-2)) 19) (rt ((V7 (bt l) i) (i-2)) 61)) (sr ((V7 (bt l) i) (i-2)) 6))))) 234:=h_;clear h_;replace J:=J.p hO Y;replace Q6:=Sl.off Q6 hO (f1 U);replace D:=D.p hO V;clear hO;refine LN ?_;go_wp2;go_roundw
    case rel=>exact⟨i+1,⟨by omega,by omega⟩,by go_num,D,J,(by rw[←V0i hi];exact G),Q6⟩
    case measure=>simp[intOf];omega
   obtain rfl:i=80:=by omega
   go_upto_region 8 with fail;refine wp_region_lit ?_;refine Lv ?_;refine Lw ?_ (v:=.bool false);refine J5 ?_;go_upto_region 12 with fail;refine wp_region_lit ?_;refine L0A ?_ G;refine Lp ?_ J (cells:=J1 .u64 80 (V7 (bt l) 80)) (hi:=by rw[J0];kernel_rfl) (hs:=by rw[J0,J0]) (h1:=by exact Y6 _ _ _);intro W5 hO h_;replace J:Blk W5 K1 (J1 .u64 80 (V7 (bt l) 80)) 234:=h_;clear h_;replace D:=D.p hO Z;clear hO;refine J5 ?_;go_wp2;refine bodyPost_ret (Z8 rfl rfl J (by kernel_rfl) (by rw[J0];kernel_rfl)) rfl ⟨rfl,D.ext⟩
end

section
set_option maxHeartbeats 4000000
attribute [local irreducible] wpList

def kk:List Int:=[4794697086780616226,8158064640168781261,13096744586834688815,16840607885511220156,4131703408338449720,6480981068601479193,10538285296894168987,12329834152419229976,15566598209576043074,1334009975649890238,2608012711638119052,6128411473006802146,8268148722764581231,9286055187155687089,11230858885718282805,13951009754708518548,16472876342353939154,17275323862435702243,1135362057144423861,2597628984639134821,3308224258029322869,5365058923640841347,6679025012923562964,8573033837759648693,10970295158949994411,12119686244451234320,12683024718118986047,13788192230050041572,14330467153632333762,15395433587784984357,489312712824947311,1452737877330783856,2861767655752347644,3322285676063803686,5560940570517711597,5996557281743188959,7280758554555802590,8532644243296465576,9350256976987008742,10552545826968843579,11727347734174303076,12113106623233404929,14000437183269869457,14369950271660146224,15101387698204529176,15463397548674623760,17586052441742319658,1182934255886127544,1847814050463011016,2177327727835720531,2830643537854262169,3796741975233480872,4115178125766777443,5681478168544905931,6601373596472566643,7507060721942968483,8399075790359081724,8693463985226723168,9568029438360202098,10144078919501101548,10430055236837252648,11840083180663258601,13761210420658862357,14299343276471374635,14566680578165727644,15097957966210449927,16922976911328602910,17689382322260857208,500013540394364858,748580250866718886,1242879168328830382,1977374033974150939,2944078676154940804,3659926193048069267,4368137639120453308,4836135668995329356,5532061633213252278,6448918945643986474,6902733635092675308,7801388544844847127]
def hh:List Int:=[7640891576956012808,13503953896175478587,4354685564936845355,11912009170470909681,5840696475078001361,11170449401992604703,2270897969802886507,6620516959819538809]
def kf (i:Nat):Int:=kk.getD i 0
def hf (i:Nat):Int:=hh.getD i 0
def GS (w:World):Prop:=Rd w 12 (J1 .u64 80 kf)∧Rd w 3 (J1 .u64 8 hf)
theorem Q66 {w W:World}(h:GS w)(e:Ext w W):GS W:=⟨h.1.ext e,h.2.ext e⟩
def rT (k w:Nat→Int)(i:Nat)(v:Nat→Int):Int:=ad (ad (ad (ad (v 7) (xo (xo (rt (v 4) 14) (rt (v 4) 18)) (rt (v 4) 41))) (xo (an (v 4) (v 5)) (an (nt (v 4)) (v 6)))) (k i)) (w i)
def rU (v:Nat→Int):Int:=ad (xo (xo (rt (v 0) 28) (rt (v 0) 34)) (rt (v 0) 39)) (xo (xo (an (v 0) (v 1)) (an (v 0) (v 2))) (an (v 1) (v 2)))
def rnd (k w:Nat→Int)(i:Nat)(v:Nat→Int):Nat→Int
  |0=>ad (rT k w i v) (rU v)
  |1=>v 0
  |2=>v 1
  |3=>v 2
  |4=>ad (v 3) (rT k w i v)
  |5=>v 4
  |6=>v 5
  |7=>v 6
  |_=>0
def Y8 (k w v:Nat→Int):Nat→Nat→Int
  |0=>v
  |i+1=>rnd k w i (Y8 k w v i)
def prs (h b:Nat→Int)(j:Nat):Int:=ad (h j) (Y8 kf (V7 b 80) h 80 j)
def mx (h v:Nat→Int)(i j:Nat):Int:=if j<i then ad (h j) (v j) else h j
theorem Y4f (h v:Nat→Int)(i:Nat):upd (mx h v i) i (ad (mx h v i i) (v i))=mx h v (i+1):=by
  funext j
  unfold upd mx
  by_cases hj:j=i
  · subst hj;rw[if_pos rfl,if_neg (by omega),if_pos (by omega)]
  rw[if_neg hj]
  by_cases hl:j<i
  · rw[if_pos hl,if_pos (by omega)]
  rw[if_neg hl,if_neg (by omega)]
theorem Y4g (h v:Nat→Int):mx h v 0=h:=by funext j;unfold mx;rw[if_neg (by omega)]
theorem V0j (h b:Nat→Int):J1 .u64 8 (mx h (Y8 kf (V7 b 80) h 80) 8)=J1 .u64 8 (prs h b):=J07 _ _ _ _ fun j hj=>by unfold mx prs;rw[if_pos hj]

theorem Y4h (h:Nat→Int)(l:List UInt8)(adr:Addr)(c:Nat)(hl:128≤l.length)(w:World)(hs:Sl w (.slice (some adr) l.length c) l)(hG:GS w):
  Calls Tryz.prog 131 #[.agg (J1 .u64 8 h),.slice (some adr) l.length c] w fun e w' =>X5 (.agg (J1 .u64 8 (prs h (bt l)))) w w' e:=by
 have HG:=Lib.hid hG;clear hG;have G:Off [] w w:=Off.refl _ _;have Q6:=hs
 go_enter Tryz.func131,Tryz.ntmps131
 go_upto_region 0 with fail;refine wp_region_lit ?_;refine Ln ?_ (z:=J1 .u64 8 h) (t:=230);intro K1 W1 Y hO h_;have ν:=J3u (Sl.lt Q6) Y;have ρ:=fbn G Y;replace Q6:=Sl.off Q6 hO f0;replace G:=G.o hO;have J:=h_;clear hO h_ Y;refine Ln ?_ (z:=J1 .u64 8 (fun _=>0)) (t:=230);intro ε W2 δ hO h_;have U:=bn J δ;have θ:=fbn G δ;replace J:=J.o hO;replace Q6:=Sl.off Q6 hO f0;replace G:=G.o hO;have M:=h_;clear hO h_ δ;refine J5 ?_;go_upto_region 1 with fail;refine wp_region_lit ?_;refine Lv ?_;refine Lr ?_ (Z8x l adr c hl W2 Q6);intro W3 hO;replace J:=J.o hO;replace M:=M.o hO;replace Q6:=Sl.off Q6 hO f0;replace G:=G.o hO;clear hO;refine LnP ?_ (z:=J1 .u64 80 (fun _=>0)) (t:=234) (cells:=J1 .u64 80 (V7 (bt l) 80)) (hi:=by rw[J0];kernel_rfl) (hs:=by rw[J0,J0]) (h1:=by exact Y6 _ _ _);intro X W5 η hO h_;have V:=bn J η;replace J:=J.o hO;replace M:=M.o hO;replace Q6:=Sl.off Q6 hO f0;replace G:=G.o hO;have R:=h_;clear hO h_ η;refine J5 ?_;go_upto_region 2 with fail;refine wp_region_lit ?_;refine L0A ?_ J;refine LnP ?_ (z:=J1 .u64 8 (fun _=>0)) (t:=230) (cells:=J1 .u64 8 h) (hi:=by rw[J0];kernel_rfl) (hs:=by rw[J0,J0]) (h1:=by exact Y6 _ _ _);intro N W7 T hO h_;have S:=bn J T;have κ:=bn M T;have ξ:=bn R T;have σ:=J3u (Sl.lt Q6) T;have μ:=fbn G T;replace J:=J.o hO;replace M:=M.o hO;replace R:=R.o hO;replace Q6:=Sl.off Q6 hO f0;replace G:=G.o hO;have D:=h_;clear hO h_ T;refine J5 ?_
 go_wp2_with fail
 go_loopw [14] (fun ii wr=> ∃(i:Nat),(i≤80)∧(ii=.int .i64 (i:Int))∧Off [] w wr∧Blk wr K1 (J1 .u64 8 h) 230∧Blk wr ε (J1 .u64 8 (fun _=>0)) 230∧Blk wr X (J1 .u64 80 (V7 (bt l) 80)) 234∧Blk wr N (J1 .u64 8 (Y8 kf (V7 (bt l) 80) h i)) 230∧Sl wr (.slice (some adr) l.length c) l)
  (fun ii _=>80-(intOf ii).toNat)
 case atStart=>exact⟨0,Nat.zero_le _,rfl,G,J,M,R,D,Q6⟩
 case round=>
  obtain⟨i,hi,rfl,G,J,M,R,D,Q6⟩:=hrel;obtain⟨W8,α⟩:=J67 G;subst α
  by_cases ζ:i<80
  ·
   go_upto_region 4 with fail;refine wp_region_lit ?_;refine Lw ?_ (v:=.bool true);refine J5 ?_;go_upto_region 6 with fail;refine J1o 36 [] (by kernel_rfl) (fun x hx=>by cases hx) (by kernel_rfl) ?_;simp only[List.take_succ_cons,List.take_zero,List.take_nil]
   (try simp only[Act.put,mA,mB,mC])
   refine Xw ?_ (v:=.pointer (some ⟨N,0+7,none⟩)) (hv:=fun _ _=>rxa Tryz.underlying230 (by omega));refine Xc ?_ (v:=.int .u64 ((Y8 kf (V7 (bt l) 80) h i) 7)) (V5 D) (hj:=ag0 (by omega));refine Xw ?_ (v:=.pointer (some ⟨N,0+4,none⟩)) (hv:=fun _ _=>rxa Tryz.underlying230 (by omega));refine Xc ?_ (v:=.int .u64 ((Y8 kf (V7 (bt l) 80) h i) 4)) (V5 D) (hj:=ag0 (by omega));refine Xf ?_ (fun W hW=>J5s ((Y8 kf (V7 (bt l) 80) h i) 4) 14 (by decide) (by decide) W);refine Xw ?_ (v:=.pointer (some ⟨N,0+4,none⟩)) (hv:=fun _ _=>rxa Tryz.underlying230 (by omega));refine Xc ?_ (v:=.int .u64 ((Y8 kf (V7 (bt l) 80) h i) 4)) (V5 D) (hj:=ag0 (by omega));refine Xf ?_ (fun W hW=>J5s ((Y8 kf (V7 (bt l) 80) h i) 4) 18 (by decide) (by decide) W);refine Xw ?_ (v:=.int .u64 (xo (rt ((Y8 kf (V7 (bt l) 80) h i) 4) 14) (rt ((Y8 kf (V7 (bt l) 80) h i) 4) 18))) (hv:=fun _ _=>J3k rfl rfl rfl);refine Xw ?_ (v:=.pointer (some ⟨N,0+4,none⟩)) (hv:=fun _ _=>rxa Tryz.underlying230 (by omega));refine Xc ?_ (v:=.int .u64 ((Y8 kf (V7 (bt l) 80) h i) 4)) (V5 D) (hj:=ag0 (by omega));refine Xf ?_ (fun W hW=>J5s ((Y8 kf (V7 (bt l) 80) h i) 4) 41 (by decide) (by decide) W);refine Xw ?_ (v:=.int .u64 (xo (xo (rt ((Y8 kf (V7 (bt l) 80) h i) 4) 14) (rt ((Y8 kf (V7 (bt l) 80) h i) 4) 18)) (rt ((Y8 kf (V7 (bt l) 80) h i) 4) 41))) (hv:=fun _ _=>J3k rfl rfl rfl);refine Xw ?_ (v:=.int .u64 (ad ((Y8 kf (V7 (bt l) 80) h i) 7) (xo (xo (rt ((Y8 kf (V7 (bt l) 80) h i) 4) 14) (rt ((Y8 kf (V7 (bt l) 80) h i) 4) 18)) (rt ((Y8 kf (V7 (bt l) 80) h i) 4) 41)))) (hv:=fun _ _=>J4w rfl rfl rfl);refine Xw ?_ (v:=.pointer (some ⟨N,0+4,none⟩)) (hv:=fun _ _=>rxa Tryz.underlying230 (by omega));refine Xc ?_ (v:=.int .u64 ((Y8 kf (V7 (bt l) 80) h i) 4)) (V5 D) (hj:=ag0 (by omega));refine Xw ?_ (v:=.pointer (some ⟨N,0+5,none⟩)) (hv:=fun _ _=>rxa Tryz.underlying230 (by omega));refine Xc ?_ (v:=.int .u64 ((Y8 kf (V7 (bt l) 80) h i) 5)) (V5 D) (hj:=ag0 (by omega));refine Xw ?_ (v:=.int .u64 (an ((Y8 kf (V7 (bt l) 80) h i) 4) ((Y8 kf (V7 (bt l) 80) h i) 5))) (hv:=fun _ _=>J9x rfl rfl rfl);refine Xw ?_ (v:=.pointer (some ⟨N,0+4,none⟩)) (hv:=fun _ _=>rxa Tryz.underlying230 (by omega));refine Xc ?_ (v:=.int .u64 ((Y8 kf (V7 (bt l) 80) h i) 4)) (V5 D) (hj:=ag0 (by omega));refine Xw ?_ (v:=.int .u64 (nt ((Y8 kf (V7 (bt l) 80) h i) 4))) (hv:=fun _ _=>Y4d rfl rfl);refine Xw ?_ (v:=.pointer (some ⟨N,0+6,none⟩)) (hv:=fun _ _=>rxa Tryz.underlying230 (by omega));refine Xc ?_ (v:=.int .u64 ((Y8 kf (V7 (bt l) 80) h i) 6)) (V5 D) (hj:=ag0 (by omega));refine Xw ?_ (v:=.int .u64 (an (nt ((Y8 kf (V7 (bt l) 80) h i) 4)) ((Y8 kf (V7 (bt l) 80) h i) 6))) (hv:=fun _ _=>J9x rfl rfl rfl);refine Xw ?_ (v:=.int .u64 (xo (an ((Y8 kf (V7 (bt l) 80) h i) 4) ((Y8 kf (V7 (bt l) 80) h i) 5)) (an (nt ((Y8 kf (V7 (bt l) 80) h i) 4)) ((Y8 kf (V7 (bt l) 80) h i) 6)))) (hv:=fun _ _=>J3k rfl rfl rfl);refine Xw ?_ (v:=.int .u64 (ad (ad ((Y8 kf (V7 (bt l) 80) h i) 7) (xo (xo (rt ((Y8 kf (V7 (bt l) 80) h i) 4) 14) (rt ((Y8 kf (V7 (bt l) 80) h i) 4) 18)) (rt ((Y8 kf (V7 (bt l) 80) h i) 4) 41))) (xo (an ((Y8 kf (V7 (bt l) 80) h i) 4) ((Y8 kf (V7 (bt l) 80) h i) 5)) (an (nt ((Y8 kf (V7 (bt l) 80) h i) 4)) ((Y8 kf (V7 (bt l) 80) h i) 6))))) (hv:=fun _ _=>J4w rfl rfl rfl);refine Xv ?_;refine Xw ?_ (v:=.pointer (some ⟨12,0+i,none⟩)) (hv:=fun _ _=>rxa Tryz.underlying234 (by omega));refine Xc ?_ (v:=.int .u64 (kf i)) ((Q66 HG.out G.ext).1) (hj:=ag0 (by omega));refine Xw ?_ (v:=.int .u64 (ad (ad (ad ((Y8 kf (V7 (bt l) 80) h i) 7) (xo (xo (rt ((Y8 kf (V7 (bt l) 80) h i) 4) 14) (rt ((Y8 kf (V7 (bt l) 80) h i) 4) 18)) (rt ((Y8 kf (V7 (bt l) 80) h i) 4) 41))) (xo (an ((Y8 kf (V7 (bt l) 80) h i) 4) ((Y8 kf (V7 (bt l) 80) h i) 5)) (an (nt ((Y8 kf (V7 (bt l) 80) h i) 4)) ((Y8 kf (V7 (bt l) 80) h i) 6)))) (kf i))) (hv:=fun _ _=>J4w rfl rfl rfl);refine Xv ?_;refine Xw ?_ (v:=.pointer (some ⟨X,0+i,none⟩)) (hv:=fun _ _=>rxa Tryz.underlying234 (by omega));refine Xc ?_ (v:=.int .u64 ((V7 (bt l) 80) i)) (V5 R) (hj:=ag0 (by omega));refine Xw ?_ (v:=.int .u64 (rT kf (V7 (bt l) 80) i (Y8 kf (V7 (bt l) 80) h i)));refine Xv ?_;refine K5 ?_;intro β W9 hE hN hD;clear hN hD;simp only[J00,Act.put,mA,mB,mC,List.drop_succ_cons,List.drop_zero,List.drop_nil,List.length_nil,Nat.add_zero];have hO:=J0b hE;replace J:=J.o hO;replace M:=M.o hO;replace R:=R.o hO;replace D:=D.o hO;replace Q6:=Sl.off Q6 hO f0;replace G:=G.o hO;clear hO hE β;refine LN ?_;go_upto_region 7 with fail;refine J1o 30 [] (by kernel_rfl) (fun x hx=>by cases hx) (by kernel_rfl) ?_;simp only[List.take_succ_cons,List.take_zero,List.take_nil]
   (try simp only[Act.put,mA,mB,mC])
   refine Xw ?_ (v:=.pointer (some ⟨N,0+0,none⟩)) (hv:=fun _ _=>rxa Tryz.underlying230 (by omega));refine Xc ?_ (v:=.int .u64 ((Y8 kf (V7 (bt l) 80) h i) 0)) (V5 D) (hj:=ag0 (by omega));refine Xf ?_ (fun W hW=>J5s ((Y8 kf (V7 (bt l) 80) h i) 0) 28 (by decide) (by decide) W);refine Xw ?_ (v:=.pointer (some ⟨N,0+0,none⟩)) (hv:=fun _ _=>rxa Tryz.underlying230 (by omega));refine Xc ?_ (v:=.int .u64 ((Y8 kf (V7 (bt l) 80) h i) 0)) (V5 D) (hj:=ag0 (by omega));refine Xf ?_ (fun W hW=>J5s ((Y8 kf (V7 (bt l) 80) h i) 0) 34 (by decide) (by decide) W);refine Xw ?_ (v:=.int .u64 (xo (rt ((Y8 kf (V7 (bt l) 80) h i) 0) 28) (rt ((Y8 kf (V7 (bt l) 80) h i) 0) 34))) (hv:=fun _ _=>J3k rfl rfl rfl);refine Xw ?_ (v:=.pointer (some ⟨N,0+0,none⟩)) (hv:=fun _ _=>rxa Tryz.underlying230 (by omega));refine Xc ?_ (v:=.int .u64 ((Y8 kf (V7 (bt l) 80) h i) 0)) (V5 D) (hj:=ag0 (by omega));refine Xf ?_ (fun W hW=>J5s ((Y8 kf (V7 (bt l) 80) h i) 0) 39 (by decide) (by decide) W);refine Xw ?_ (v:=.int .u64 (xo (xo (rt ((Y8 kf (V7 (bt l) 80) h i) 0) 28) (rt ((Y8 kf (V7 (bt l) 80) h i) 0) 34)) (rt ((Y8 kf (V7 (bt l) 80) h i) 0) 39))) (hv:=fun _ _=>J3k rfl rfl rfl);refine Xw ?_ (v:=.pointer (some ⟨N,0+0,none⟩)) (hv:=fun _ _=>rxa Tryz.underlying230 (by omega));refine Xc ?_ (v:=.int .u64 ((Y8 kf (V7 (bt l) 80) h i) 0)) (V5 D) (hj:=ag0 (by omega));refine Xw ?_ (v:=.pointer (some ⟨N,0+1,none⟩)) (hv:=fun _ _=>rxa Tryz.underlying230 (by omega));refine Xc ?_ (v:=.int .u64 ((Y8 kf (V7 (bt l) 80) h i) 1)) (V5 D) (hj:=ag0 (by omega));refine Xw ?_ (v:=.int .u64 (an ((Y8 kf (V7 (bt l) 80) h i) 0) ((Y8 kf (V7 (bt l) 80) h i) 1))) (hv:=fun _ _=>J9x rfl rfl rfl);refine Xw ?_ (v:=.pointer (some ⟨N,0+0,none⟩)) (hv:=fun _ _=>rxa Tryz.underlying230 (by omega));refine Xc ?_ (v:=.int .u64 ((Y8 kf (V7 (bt l) 80) h i) 0)) (V5 D) (hj:=ag0 (by omega));refine Xw ?_ (v:=.pointer (some ⟨N,0+2,none⟩)) (hv:=fun _ _=>rxa Tryz.underlying230 (by omega));refine Xc ?_ (v:=.int .u64 ((Y8 kf (V7 (bt l) 80) h i) 2)) (V5 D) (hj:=ag0 (by omega));refine Xw ?_ (v:=.int .u64 (an ((Y8 kf (V7 (bt l) 80) h i) 0) ((Y8 kf (V7 (bt l) 80) h i) 2))) (hv:=fun _ _=>J9x rfl rfl rfl);refine Xw ?_ (v:=.int .u64 (xo (an ((Y8 kf (V7 (bt l) 80) h i) 0) ((Y8 kf (V7 (bt l) 80) h i) 1)) (an ((Y8 kf (V7 (bt l) 80) h i) 0) ((Y8 kf (V7 (bt l) 80) h i) 2)))) (hv:=fun _ _=>J3k rfl rfl rfl);refine Xw ?_ (v:=.pointer (some ⟨N,0+1,none⟩)) (hv:=fun _ _=>rxa Tryz.underlying230 (by omega));refine Xc ?_ (v:=.int .u64 ((Y8 kf (V7 (bt l) 80) h i) 1)) (V5 D) (hj:=ag0 (by omega));refine Xw ?_ (v:=.pointer (some ⟨N,0+2,none⟩)) (hv:=fun _ _=>rxa Tryz.underlying230 (by omega));refine Xc ?_ (v:=.int .u64 ((Y8 kf (V7 (bt l) 80) h i) 2)) (V5 D) (hj:=ag0 (by omega));refine Xw ?_ (v:=.int .u64 (an ((Y8 kf (V7 (bt l) 80) h i) 1) ((Y8 kf (V7 (bt l) 80) h i) 2))) (hv:=fun _ _=>J9x rfl rfl rfl);refine Xw ?_ (v:=.int .u64 (xo (xo (an ((Y8 kf (V7 (bt l) 80) h i) 0) ((Y8 kf (V7 (bt l) 80) h i) 1)) (an ((Y8 kf (V7 (bt l) 80) h i) 0) ((Y8 kf (V7 (bt l) 80) h i) 2))) (an ((Y8 kf (V7 (bt l) 80) h i) 1) ((Y8 kf (V7 (bt l) 80) h i) 2)))) (hv:=fun _ _=>J3k rfl rfl rfl);refine Xw ?_ (v:=.int .u64 (rU (Y8 kf (V7 (bt l) 80) h i)));refine Xv ?_;refine K5 ?_;intro β γ hE hN hD;clear hN hD;simp only[J00,Act.put,mA,mB,mC,List.drop_succ_cons,List.drop_zero,List.drop_nil,List.length_nil,Nat.add_zero];have hO:=J0b hE;replace J:=J.o hO;replace M:=M.o hO;replace R:=R.o hO;replace D:=D.o hO;replace Q6:=Sl.off Q6 hO f0;replace G:=G.o hO;clear hO hE β;refine LN ?_;go_upto_region 8 with fail;refine wp_region_lit ?_;refine Lv ?_;refine Lv ?_;refine Lw ?_ (v:=.int .u64 (ad (rT kf (V7 (bt l) 80) i (Y8 kf (V7 (bt l) 80) h i)) (rU (Y8 kf (V7 (bt l) 80) h i)))) (hv:=J4w rfl rfl rfl);refine Lw ?_ (v:=.pointer (some ⟨N,0+0,none⟩)) (hv:=rxa Tryz.underlying230 (by omega));refine Lg ?_ D (v:=.int .u64 ((Y8 kf (V7 (bt l) 80) h i) 0)) (hj:=ag0 (by omega));refine Lw ?_ (v:=.pointer (some ⟨N,0+1,none⟩)) (hv:=rxa Tryz.underlying230 (by omega));refine Lg ?_ D (v:=.int .u64 ((Y8 kf (V7 (bt l) 80) h i) 1)) (hj:=ag0 (by omega));refine Lw ?_ (v:=.pointer (some ⟨N,0+2,none⟩)) (hv:=rxa Tryz.underlying230 (by omega));refine Lg ?_ D (v:=.int .u64 ((Y8 kf (V7 (bt l) 80) h i) 2)) (hj:=ag0 (by omega));refine Lw ?_ (v:=.pointer (some ⟨N,0+3,none⟩)) (hv:=rxa Tryz.underlying230 (by omega));refine Lg ?_ D (v:=.int .u64 ((Y8 kf (V7 (bt l) 80) h i) 3)) (hj:=ag0 (by omega));refine Lv ?_;refine Lw ?_ (v:=.int .u64 (ad ((Y8 kf (V7 (bt l) 80) h i) 3) (rT kf (V7 (bt l) 80) i (Y8 kf (V7 (bt l) 80) h i)))) (hv:=J4w rfl rfl rfl);refine Lw ?_ (v:=.pointer (some ⟨N,0+4,none⟩)) (hv:=rxa Tryz.underlying230 (by omega));refine Lg ?_ D (v:=.int .u64 ((Y8 kf (V7 (bt l) 80) h i) 4)) (hj:=ag0 (by omega));refine Lw ?_ (v:=.pointer (some ⟨N,0+5,none⟩)) (hv:=rxa Tryz.underlying230 (by omega));refine Lg ?_ D (v:=.int .u64 ((Y8 kf (V7 (bt l) 80) h i) 5)) (hj:=ag0 (by omega));refine Lw ?_ (v:=.pointer (some ⟨N,0+6,none⟩)) (hv:=rxa Tryz.underlying230 (by omega));refine Lg ?_ D (v:=.int .u64 ((Y8 kf (V7 (bt l) 80) h i) 6)) (hj:=ag0 (by omega));refine Lw ?_ (v:=.agg (J1 .u64 8 (Y8 kf (V7 (bt l) 80) h (i+1)))) (hv:=by first|rfl|(go_simp;rfl));refine Lp ?_ D (cells:=J1 .u64 8 (Y8 kf (V7 (bt l) 80) h (i+1))) (hi:=by rw[J0];kernel_rfl) (hs:=by rw[J0,J0]) (h1:=by exact Y6 _ _ _);intro Z hO h_;replace D:Blk Z N (J1 .u64 8 (Y8 kf (V7 (bt l) 80) h (i+1))) 230:=h_;clear h_;replace J:=J.p hO S;replace M:=M.p hO κ;replace R:=R.p hO ξ;replace Q6:=Sl.off Q6 hO (f1 σ);replace G:=G.p hO μ;clear hO;refine J5 ?_;go_wp2;go_roundw
   case rel=>exact⟨i+1,by omega,by go_num,G,J,M,R,D,Q6⟩
   case measure=>simp[intOf];omega
  obtain rfl:i=80:=by omega
  go_upto_region 4 with fail;refine wp_region_lit ?_;refine Lw ?_ (v:=.bool false);refine J5 ?_
  go_wp2_with fail
  go_loopw [102] (fun ii wr=> ∃(i:Nat),(i≤8)∧(ii=.int .i64 (i:Int))∧Off [] w wr∧Blk wr K1 (J1 .u64 8 (mx h (Y8 kf (V7 (bt l) 80) h 80) i)) 230∧Blk wr ε (J1 .u64 8 (fun _=>0)) 230∧Blk wr X (J1 .u64 80 (V7 (bt l) 80)) 234∧Blk wr N (J1 .u64 8 (Y8 kf (V7 (bt l) 80) h 80)) 230∧Sl wr (.slice (some adr) l.length c) l)
   (fun ii _=>8-(intOf ii).toNat)
  case atStart=>exact⟨0,Nat.zero_le _,rfl,G,(by rw[Y4g];exact J),M,R,D,Q6⟩
  case round=>
   obtain⟨i,hi,rfl,G,J,M,R,D,Q6⟩:=hrel;obtain⟨W9,α⟩:=J67 G;subst α
   by_cases h8:i<8
   ·
    go_upto_region 11 with fail;refine wp_region_lit ?_;refine Lw ?_ (v:=.bool true);refine J5 ?_;go_upto_region 13 with fail;refine J1o 8 [] (by kernel_rfl) (fun x hx=>by cases hx) (by kernel_rfl) ?_;simp only[List.take_succ_cons,List.take_zero,List.take_nil]
    (try simp only[Act.put,mA,mB,mC])
    refine Xv ?_;refine Xw ?_ (v:=.pointer (some ⟨K1,0+i,none⟩)) (hv:=fun _ _=>rxa Tryz.underlying230 (by omega));refine Xc ?_ (v:=.int .u64 ((mx h (Y8 kf (V7 (bt l) 80) h 80) i) i)) (V5 J) (hj:=ag0 (by omega));refine Xv ?_;refine Xw ?_ (v:=.pointer (some ⟨N,0+i,none⟩)) (hv:=fun _ _=>rxa Tryz.underlying230 (by omega));refine Xc ?_ (v:=.int .u64 ((Y8 kf (V7 (bt l) 80) h 80) i)) (V5 D) (hj:=ag0 (by omega));refine Xw ?_ (v:=.int .u64 (ad ((mx h (Y8 kf (V7 (bt l) 80) h 80) i) i) ((Y8 kf (V7 (bt l) 80) h 80) i))) (hv:=fun _ _=>J4w rfl rfl rfl);refine Xw ?_ (v:=.pointer (some ⟨K1,0+i,none⟩)) (hv:=fun _ _=>rxa Tryz.underlying230 (by omega));refine K5 ?_;intro β γ hE hN hD;clear hN hD;simp only[J00,Act.put,mA,mB,mC,List.drop_succ_cons,List.drop_zero,List.drop_nil,List.length_nil,Nat.add_zero];have hO:=J0b hE;replace J:=J.o hO;replace M:=M.o hO;replace R:=R.o hO;replace D:=D.o hO;replace Q6:=Sl.off Q6 hO f0;replace G:=G.o hO;clear hO hE β;refine J3j (v:=.int .u64 (ad ((mx h (Y8 kf (V7 (bt l) 80) h 80) i) i) ((Y8 kf (V7 (bt l) 80) h 80) i))) ⟨rfl,rfl⟩ (by rfl) rfl rfl rfl J (by rw[J0,Nat.zero_add];omega) (by kernel_rfl) ?_
    (try simp only[Act.put,mA,mB,mC])
    intro Z hO h_;rw[Nat.zero_add,K3] at h_;replace J:Blk Z K1 (J1 .u64 8 (upd (mx h (Y8 kf (V7 (bt l) 80) h 80) i) i (ad ((mx h (Y8 kf (V7 (bt l) 80) h 80) i) i) ((Y8 kf (V7 (bt l) 80) h 80) i)))) 230:=h_;clear h_;replace M:=M.p hO U.symm;replace R:=R.p hO V.symm;replace D:=D.p hO S.symm;replace Q6:=Sl.off Q6 hO (f1 ν);replace G:=G.p hO ρ;clear hO;refine LN ?_;go_wp2;go_roundw
    case rel=>exact⟨i+1,by omega,by go_num,G,(by rw[←Y4f];exact J),M,R,D,Q6⟩
    case measure=>simp[intOf];omega
   obtain rfl:i=8:=by omega
   rw[V0j] at J;go_upto_region 11 with fail;refine wp_region_lit ?_;refine Lw ?_ (v:=.bool false);refine J5 ?_;go_upto_region 15 with fail;refine wp_region_lit ?_;refine L0A ?_ J;refine Lp ?_ M (cells:=J1 .u64 8 (prs h (bt l))) (hi:=by rw[J0];kernel_rfl) (hs:=by rw[J0,J0]) (h1:=by exact Y6 _ _ _);intro γ hO h_;replace M:Blk γ ε (J1 .u64 8 (prs h (bt l))) 230:=h_;clear h_;replace G:=G.p hO θ;clear hO;refine J5 ?_;go_wp2;refine bodyPost_ret (Z8 rfl rfl M (by kernel_rfl) (by rw[J0];kernel_rfl)) rfl ⟨rfl,G.ext⟩
end
end Go.Proofs.YteehbddkcnkhfaaGreatDoor

/- Contracts and plain laws for custumalPast_holds. Conditions: the tables hold their numbers. -/
import Derived.Test.YteehbddkcnkhfaaGreatDoorJ13
open Go.RowKit
set_option maxRecDepth 100000
set_option linter.unusedSimpArgs false
set_option linter.unusedVariables false
namespace Go.Proofs.YteehbddkcnkhfaaGreatDoor.S8.Sc
set_option maxHeartbeats 2000000

end Go.Proofs.YteehbddkcnkhfaaGreatDoor.S8.Sc

namespace Go.Proofs.YteehbddkcnkhfaaGreatDoor.S8
set_option maxHeartbeats 1500000
attribute [local irreducible] wpList Y5 wpX
end Go.Proofs.YteehbddkcnkhfaaGreatDoor.S8

namespace Go.Proofs.YteehbddkcnkhfaaGreatDoor
section
variable {ops : Array Oper} {Q : Exit → Act → World → Prop} {w : World} {r : List Oper} {o : Oper} {a a' : Act} {F : List Nat} {H H' : List As} {k : Wk}
end
end Go.Proofs.YteehbddkcnkhfaaGreatDoor

namespace Go.Proofs.YteehbddkcnkhfaaGreatDoor.S8
section
set_option maxHeartbeats 1500000
attribute [local irreducible] wpList Y5 wpX
end

section
set_option maxHeartbeats 1500000
attribute [local irreducible] wpList Y5 wpX
abbrev T3:=Nat×Nat×Nat
end

section
set_option maxHeartbeats 1500000
attribute [local irreducible] wpList Y5 wpX

end

section
set_option maxHeartbeats 1500000
attribute [local irreducible] wpList Y5 wpX

end

section
set_option maxHeartbeats 1000000
attribute [local irreducible] wpList Y5 wpX
open Sc (LL J0p)
variable {kn : Kn}
section
variable {w : World} {o : Oper} {a : Act} {x y : Operand} {t : TypeId}
end
end

section
attribute [local irreducible] wpList
variable {kn : Kn}
open Sc (LL J0p)
end
end Go.Proofs.YteehbddkcnkhfaaGreatDoor.S8

namespace Go.Proofs.YteehbddkcnkhfaaGreatDoor
section

def xo4 (p q:Int):Int:=bits .xor .u32 p q
def an4 (p q:Int):Int:=bits .and .u32 p q
def oo4 (p q:Int):Int:=bits .or .u32 p q
def nt4 (p:Int):Int:=bits .xor .u32 4294967295 p
def ad4 (p q:Int):Int:=IntKind.wrap .u32 (p+q)
def sl4 (p:Int)(n:Nat):Int:=IntKind.wrap .u32 (p*2^n)
def sr4 (p:Int)(n:Nat):Int:=p / 2^n
def rt4 (p:Int)(n:Nat):Int:=oo4 (sr4 p n) (sl4 p (32-n))
theorem Y1o (p q:Int):oo4 p q=oo4 q p:=by unfold oo4;simp only[bits,BitVec.or_comm]
section
variable {P : Program} {w : World} {o : Oper} {a : Act} {x y : Operand} {t t' : TypeId} {p q : Int}
theorem J5b (ho:o.op=.binOp .xor t x y t')(hx:a.eval x=.int .u32 p)(hy:a.eval y=.int .u32 q):(execOp a.eval o).run P w=.ok (.value (.int .u32 (xo4 p q))) w:=by
  simp only[execOp,ho,hx,hy];rfl
theorem J87 (ho:o.op=.binOp .and t x y t')(hx:a.eval x=.int .u32 p)(hy:a.eval y=.int .u32 q):(execOp a.eval o).run P w=.ok (.value (.int .u32 (an4 p q))) w:=by
  simp only[execOp,ho,hx,hy];rfl
theorem Z3v (ho:o.op=.binOp .or t x y t')(hx:a.eval x=.int .u32 p)(hy:a.eval y=.int .u32 q):(execOp a.eval o).run P w=.ok (.value (.int .u32 (oo4 p q))) w:=by
  simp only[execOp,ho,hx,hy];rfl
theorem J3n (ho:o.op=.binOp .add t x y t')(hx:a.eval x=.int .u32 p)(hy:a.eval y=.int .u32 q):(execOp a.eval o).run P w=.ok (.value (.int .u32 (ad4 p q))) w:=by
  simp only[execOp,ho,hx,hy];rfl
theorem Y1u (ho:o.op=.unOp .xor t x)(hx:a.eval x=.int .u32 p):(execOp a.eval o).run P w=.ok (.value (.int .u32 (nt4 p))) w:=by
  simp only[execOp,ho,hx];rfl
theorem Q8z {k:IntKind}{n:Nat}(hn:n≤32)(ho:o.op=.binOp .shl t x y t')(hx:a.eval x=.int .u32 p)(hy:a.eval y=.int k (n:Int)):(execOp a.eval o).run P w=.ok (.value (.int .u32 (sl4 p n))) w:=by
  have h:min ((n:Int)).toNat IntKind.u32.bits=n:=by rw[Int.toNat_natCast];exact Nat.min_eq_left hn
  simp only[execOp,ho,hx,hy,eqGuard,binOp,Sem.run_bind];simp[Op.shift,h,sl4,go_sem,Sem.run_bind]
theorem J85 {k:IntKind}{n:Nat}(hn:n≤32)(ho:o.op=.binOp .shr t x y t')(hx:a.eval x=.int .u32 p)(hy:a.eval y=.int k (n:Int)):(execOp a.eval o).run P w=.ok (.value (.int .u32 (sr4 p n))) w:=by
  have h:min ((n:Int)).toNat IntKind.u32.bits=n:=by rw[Int.toNat_natCast];exact Nat.min_eq_left hn
  simp only[execOp,ho,hx,hy,eqGuard,binOp,Sem.run_bind];simp[Op.shift,h,sr4,go_sem,Sem.run_bind]
end
end

section
set_option maxHeartbeats 1500000
attribute [local irreducible] wpList

theorem V7o (n:Nat)(h1:1≤n)(h2:n≤31):bits .and .u64 (18446744073709551616-(n:Int)) 31=((32-n:Nat):Int):=by
  obtain⟨m,hm⟩:∃m:Nat,m=18446744073709551616-n:=⟨_,rfl⟩
  have e:(18446744073709551616-(n:Int))=(m:Int):=by omega
  have D:(BitVec.ofInt 64 31).toNat=2^5-1:=by decide
  have G:(BitVec.ofInt 64 (m:Int) &&& BitVec.ofInt 64 31).toNat=m % 2^5:=by
    rw[BitVec.toNat_and,BitVec.toNat_ofInt,D,Nat.and_two_pow_sub_one_eq_mod];omega
  rw[e];show IntKind.u64.wrap ((BitVec.ofInt 64 (m:Int) &&& BitVec.ofInt 64 31).toNat:Nat)=_;rw[G,IntKind.wrap_u64];omega
def J5a (p:Int)(a b c:Nat):Int:=xo4 (xo4 (rt4 p a) (rt4 p b)) (sr4 p c)
def Z5v (p:Int)(a b c:Nat):Int:=xo4 (xo4 (rt4 p a) (rt4 p b)) (rt4 p c)

theorem Y60 (p:Int)(n:Nat)(h1:1≤n)(h2:n≤31)(w:World):
  Calls Tryz.prog 212 #[.int .u32 p,.int .i64 (-(n:Int))] w fun e w' =>X5 (.int .u32 (rt4 p n)) w w' e:=by
 have n0:(1:Int)≤(n:Int):=by omega
 have n1:(n:Int)≤31:=by omega
 have ha:=V7o n h1 h2;have D:Off [] w w:=Off.refl _ _
 go_enter Tryz.func212,Tryz.ntmps212
 go_upto_region 1 with fail;refine wp_region_lit ?_;refine Lv ?_;refine Lw ?_ (v:=.int .u64 (18446744073709551616-(n:Int))) (hv:=by go_simp;(try simp only[IntKind.wrap_u64,IntKind.wrap_i64]);(try omega));refine Lw ?_ (v:=.int .u64 (((32-n:Nat):Int))) (hv:=by first|(go_simp;done)|(go_simp;(try rw[ha]);(try omega)));refine Lv ?_;refine J5 ?_;go_upto_region 2 with fail;refine wp_region_lit ?_;refine Lv ?_;refine Lv ?_;refine Lw ?_ (v:=.int .u32 (sl4 p (32-n))) (hv:=Q8z (n:=(32-n)) (by omega) rfl rfl rfl);refine Lv ?_;refine Lv ?_;refine Lw ?_ (v:=.int .u64 ((n:Int))) (hv:=by go_simp;(try simp only[IntKind.wrap_u64,IntKind.wrap_i64]);(try omega));refine Lw ?_ (v:=.int .u32 (sr4 p n)) (hv:=J85 (n:=n) (by omega) rfl rfl rfl);refine Lw ?_ (v:=.int .u32 (oo4 (sl4 p (32-n)) (sr4 p n))) (hv:=Z3v rfl rfl rfl);refine Lv ?_;refine J5 ?_;go_wp2;exact bodyPost_ret (v:=.int .u32 (oo4 (sl4 p (32-n)) (sr4 p n))) (by simp only[results,Tryz.results212];go_simp) rfl ⟨congrArg (fun z=>Ending.returned (.int .u32 z)) (Y1o _ _),D.ext⟩
theorem Q08 (p:Int)(n:Nat)(h1:1≤n)(h2:n≤31)(w:World):
  Calls Tryz.prog 210 #[.int .u32 p,.int .i64 (n:Int)] w fun e w' =>X5 (.int .u32 (rt4 p n)) w w' e:=by
 have n0:(1:Int)≤(n:Int):=by omega
 have n1:(n:Int)≤31:=by omega
 have D:Off [] w w:=Off.refl _ _
 go_enter Tryz.func210,Tryz.ntmps210
 go_upto_region 1 with fail;refine wp_region_lit ?_;refine Lv ?_;refine Lv ?_;refine Lw ?_ (v:=.int .i64 (-(n:Int))) (hv:=by go_simp;(try simp only[IntKind.wrap_u64,IntKind.wrap_i64]);(try omega));refine Lr ?_ (Y60 p n h1 h2 w);intro W1 hO;replace D:=D.o hO;clear hO;refine Lv ?_;refine J5 ?_;go_wp2;exact bodyPost_ret (v:=.int .u32 (rt4 p n)) (by simp only[results,Tryz.results210];go_simp) rfl ⟨rfl,D.ext⟩
theorem Y1p (p:Int)(a b c:Nat)(ha:1≤a∧a≤31)(hb:1≤b∧b≤31)(hc:1≤c∧c≤31)(w:World):
  Calls Tryz.prog 195 #[.int .u32 p,.int .i64 (a:Int),.int .i64 (b:Int),.int .i64 (c:Int)] w fun e w' =>X5 (.int .u32 (Z5v p a b c)) w w' e:=by
 have D:Off [] w w:=Off.refl _ _
 go_enter Tryz.func195,Tryz.ntmps195
 go_upto_region 1 with fail;refine wp_region_lit ?_;refine Lv ?_;refine Lv ?_;refine Lr ?_ (Q08 p a (by omega) (by omega) w);intro W1 hO;replace D:=D.o hO;clear hO;refine Lv ?_;refine Lv ?_;refine Lr ?_ (Q08 p b (by omega) (by omega) W1);intro W2 hO;replace D:=D.o hO;clear hO;refine Lw ?_ (v:=.int .u32 (xo4 (rt4 p a) (rt4 p b))) (hv:=J5b rfl rfl rfl);refine Lv ?_;refine Lv ?_;refine Lr ?_ (Q08 p c (by omega) (by omega) W2);intro W3 hO;replace D:=D.o hO;clear hO;refine Lw ?_ (v:=.int .u32 (xo4 (xo4 (rt4 p a) (rt4 p b)) (rt4 p c))) (hv:=J5b rfl rfl rfl);refine Lv ?_;refine J5 ?_;go_wp2;exact bodyPost_ret (v:=.int .u32 (xo4 (xo4 (rt4 p a) (rt4 p b)) (rt4 p c))) (by simp only[results,Tryz.results195];go_simp) rfl ⟨rfl,D.ext⟩
theorem Q90 (p:Int)(a b c:Nat)(ha:1≤a∧a≤31)(hb:1≤b∧b≤31)(hc:1≤c∧c≤31)(w:World):
  Calls Tryz.prog 209 #[.int .u32 p,.int .i64 (a:Int),.int .i64 (b:Int),.int .i64 (c:Int)] w fun e w' =>X5 (.int .u32 (J5a p a b c)) w w' e:=by
 have D:Off [] w w:=Off.refl _ _
 go_enter Tryz.func209,Tryz.ntmps209
 go_upto_region 1 with fail;refine Rx 12 ?_;refine Xv ?_;refine Xv ?_;refine Xf ?_ (fun W hW=>Q08 p a (by omega) (by omega) W);refine Xv ?_;refine Xv ?_;refine Xf ?_ (fun W hW=>Q08 p b (by omega) (by omega) W);refine Xw ?_ (v:=.int .u32 (xo4 (rt4 p a) (rt4 p b))) (hv:=fun _ _=>J5b rfl rfl rfl);refine Xv ?_;refine Xv ?_;refine Xw ?_ (v:=.int .u32 (sr4 p c)) (hv:=fun _ _=>J85 (n:=c) (by omega) rfl rfl rfl);refine Xw ?_ (v:=.int .u32 (xo4 (xo4 (rt4 p a) (rt4 p b)) (sr4 p c))) (hv:=fun _ _=>J5b rfl rfl rfl);refine Xv ?_;refine K5 fun W1 hE=> ?_;have hO:=J0b hE;replace D:=D.o hO;clear hO hE;refine LN ?_;go_wp2;exact bodyPost_ret (v:=.int .u32 (xo4 (xo4 (rt4 p a) (rt4 p b)) (sr4 p c))) (by simp only[results,Tryz.results209];go_simp) rfl ⟨rfl,D.ext⟩
end

section
set_option maxHeartbeats 1500000
attribute [local irreducible] wpList

theorem Y61 {w:World}{o:Oper}{a:Act}{x:Operand}{c:UInt8}(ho:o.op=.convert 5 270 x)(hx:a.eval x=.int .u8 (c.toNat:Int)):(execOp a.eval o).run Tryz.prog w=.ok (.value (.int .u32 (c.toNat:Int))) w:=by
  have hc:=c.toNat_lt;have hw:IntKind.wrap .u32 (c.toNat:Int)=(c.toNat:Int):=by rw[IntKind.wrap_u32];omega
  simp[execOp,ho,hx,convert,run_underlying Tryz.underlying5,run_underlying Tryz.underlying270,Sem.run_bind,Conv.intToInt,hw]
theorem Z5w {w:World}{o:Oper}{a:Act}{x y:Operand}{adr:Addr}{n c:Nat}(hl:64≤n)(hn:n≤c)(ho:o.op=.slice 22 x none (some y) none)(hx:a.eval x=.slice (some adr) n c)(hy:a.eval y=.int .i64 64):(execOp a.eval o).run Tryz.prog w=.ok (.value (.slice (some adr) 64 c)) w:=by
  have J:64≤c:=by omega
  have G:¬c=0:=by omega
  have h1:=J8j;have D:adr.add 0=adr:=by unfold Addr.add;simp
  cases hq:Tryz.prog.info? 5 with
  |none=>simp[hq] at h1
  |some i=>simp[execOp,ho,hx,hy,Instr.sliceAt,Instr.slice,Instr.sliceBounds,Instr.sliceBound,asIntOf,run_underlying Tryz.underlying22,Sem.run_bind,sizeOf,typeInfo,hq,J,G,D];intro h_;omega
def J86 (b:Nat→Int)(i:Nat):Nat→Int
  |0=>0
  |k+1=>oo4 (sl4 (J86 b i k) 8) (b (4*i+k))
def sg4 (f:Nat→Int)(i:Nat):Int:=ad4 (ad4 (ad4 (f (i-16)) (J5a (f (i-15)) 7 18 3)) (f (i-7))) (J5a (f (i-2)) 17 19 10)
def Q9 (b:Nat→Int):Nat→Nat→Int
  |0=>fun _=>0
  |i+1=>upd (Q9 b i) i (if i<16 then J86 b i 4 else sg4 (Q9 b i) i)
theorem Y62 {b:Nat→Int}{i:Nat}(h:16≤i):upd (Q9 b i) i (sg4 (Q9 b i) i)=Q9 b (i+1):=by
  show _=upd (Q9 b i) i (if i<16 then J86 b i 4 else sg4 (Q9 b i) i);rw[if_neg (by omega)]
theorem Z3w (b:Nat→Int):∀i,i≤16→∀j,Q9 b i j=if j<i then J86 b j 4 else 0
  |0,_,j=>by simp[Q9]
  |i+1,h,j=>by
    show upd (Q9 b i) i (if i<16 then J86 b i 4 else sg4 (Q9 b i) i) j=_;rw[if_pos (by omega)];unfold upd
    by_cases hj:j=i
    · rw[if_pos hj,if_pos (by omega),hj]
    · rw[if_neg hj,Z3w b i (by omega) j]
      by_cases hl:j<i
      · rw[if_pos hl,if_pos (by omega)]
      · rw[if_neg hl,if_neg (by omega)]
def J74 (b:Nat→Int)(n j:Nat):Int:=if j<n / 4 then J86 b j 4 else if j=n / 4 then J86 b j (n % 4) else 0
theorem Z5x (b:Nat→Int)(n:Nat):upd (J74 b n) (n / 4) (oo4 (sl4 (J74 b n (n / 4)) 8) (b n))=J74 b (n+1):=by
  funext j
  have e:J74 b n (n / 4)=J86 b (n / 4) (n % 4):=by unfold J74;rw[if_neg (by omega),if_pos rfl]
  have hb:b n=b (4*(n / 4)+n % 4):=by rw[Nat.div_add_mod]
  rw[e,hb];show(if j=n / 4 then J86 b (n / 4) (n % 4+1) else J74 b n j)=J74 b (n+1) j;unfold J74
  by_cases hm:n % 4=3
  · have h1:(n+1) / 4=n / 4+1:=by omega
    have h2:(n+1) % 4=0:=by omega
    rw[h1,h2,hm]
    by_cases hj:j=n / 4
    · rw[if_pos hj,if_pos (by omega),hj]
    rw[if_neg hj]
    by_cases hl:j<n / 4
    · rw[if_pos hl,if_pos (by omega)]
    rw[if_neg hl,if_neg hj,if_neg (by omega)]
    split
    · rfl
    rfl
  have h1:(n+1) / 4=n / 4:=by omega
  have h2:(n+1) % 4=n % 4+1:=by omega
  rw[h1,h2]
  by_cases hj:j=n / 4
  · rw[if_pos hj,if_neg (by omega),if_pos hj,hj]
  rw[if_neg hj]
  by_cases hl:j<n / 4
  · rw[if_pos hl,if_pos hl]
  rw[if_neg hl,if_neg hj,if_neg hl,if_neg hj]
theorem Y1q (b:Nat→Int):J74 b 64=Q9 b 16:=by
  funext j
  rw[Z3w b 16 (Nat.le_refl _) j];unfold J74
  by_cases h:j<16
  · rw[if_pos (by omega),if_pos h]
  rw[if_neg (by omega),if_neg h]
  split
  · rename_i h2;rw[show 64 % 4=0 by rfl];rfl
  rfl
theorem Z5y (b:Nat→Int):J74 b 0=fun _=>0:=by
  funext j
  unfold J74;rw[if_neg (by omega)]
  split<;>rfl

theorem Z5z (l:List UInt8)(adr:Addr)(c:Nat)(hl:64≤l.length)(hc:l.length≤c)(w:World)(hs:Sl w (.slice (some adr) l.length c) l):
  Calls Tryz.prog 194 #[.slice (some adr) l.length c] w fun e w' =>X5 (.agg (J1 .u32 64 (Q9 (bt l) 64))) w w' e:=by
 have Q6:=hs;have D:Off [] w w:=Off.refl _ _
 go_enter Tryz.func194,Tryz.ntmps194
 go_upto_region 0 with fail;refine wp_region_lit ?_;refine Ln ?_ (z:=J1 .u32 64 (fun _=>0)) (t:=295);intro K1 W1 T hO h_;have Z:=fbn D T;replace Q6:=Sl.off Q6 hO f0;replace D:=D.o hO;have J:=h_;clear hO h_ T;refine J5 ?_;go_upto_region 1 with fail;refine wp_region_lit ?_;refine Ln ?_ (z:=J1 .u32 64 (fun _=>0)) (t:=295);intro M W2 N hO h_;have Y:=bn J N;have U:=J3u (Sl.lt Q6) N;have V:=fbn D N;replace J:=J.o hO;replace Q6:=Sl.off Q6 hO f0;replace D:=D.o hO;have G:=h_;clear hO h_ N;refine J5 ?_;go_upto_region 2 with fail;refine wp_region_lit ?_;refine Lv ?_;refine Lw ?_ (v:=.slice (some adr) 64 c) (hv:=Z5w hl hc rfl rfl rfl);refine Lw ?_ (v:=.int .i64 64);refine Lw ?_ (v:=.int .i64 0);refine J5 ?_
 go_wp2_with fail
 go_loopw [9] (fun ii wr=> ∃(n:Nat),(n≤64)∧(ii=.int .i64 (n:Int))∧Off [] w wr∧Blk wr K1 (J1 .u32 64 (fun _=>0)) 295∧Blk wr M (J1 .u32 64 (J74 (bt l) n)) 295∧Sl wr (.slice (some adr) l.length c) l)
  (fun ii _=>64-(intOf ii).toNat)
 case atStart=>exact⟨0,Nat.zero_le _,rfl,D,J,(by rw[Z5y];exact G),Q6⟩
 case round=>
  obtain⟨n,hn,rfl,D,J,G,Q6⟩:=hrel;obtain⟨W3,S⟩:=J67 D;subst S
  by_cases R:n<64
  ·
   go_upto_region 3 with fail;refine wp_region_lit ?_;refine Lw ?_ (v:=.bool true);refine J5 ?_;go_upto_region 5 with fail;refine Rx 14 ?_;refine Xv ?_;refine Xw ?_ (v:=.int .i64 (((n / 4:Nat):Int))) (hv:=fun _ _=>by go_simp;(try simp only[IntKind.wrap_u64,IntKind.wrap_i64]);(try omega));refine Xv ?_;refine Xw ?_ (v:=.int .i64 (((n / 4:Nat):Int))) (hv:=fun _ _=>by go_simp;(try simp only[IntKind.wrap_u64,IntKind.wrap_i64]);(try omega));refine Xw ?_ (v:=.pointer (some ⟨M,0+(n / 4),none⟩)) (hv:=fun _ _=>rxa Tryz.underlying295 (by omega));refine Xc ?_ (v:=.int .u32 ((J74 (bt l) n) (n / 4))) (V5 G) (hj:=ag0 (by omega));refine Xw ?_ (v:=.int .u32 (sl4 ((J74 (bt l) n) (n / 4)) 8)) (hv:=fun _ _=>Q8z (n:=8) (by decide) rfl rfl rfl);refine Xv ?_;refine Xv ?_;refine Xw ?_ (v:=.pointer (some (adr.add n))) (hv:=fun W hW=>Q64 (j:=n) (by omega) rfl rfl rfl);refine Z8m (by rfl) rfl rfl (fun W hW=>J0e (Z8l Q6 (Q50 (by omega))) hW) (by kernel_rfl) ?_
   (try simp only[Act.put,mA,mB,mC])
   refine Xw ?_ (v:=.int .u32 (bt l n)) (hv:=fun _ _=>by exact Y61 rfl rfl);refine Xw ?_ (v:=.int .u32 (oo4 (sl4 ((J74 (bt l) n) (n / 4)) 8) (bt l n))) (hv:=fun _ _=>Z3v rfl rfl rfl);refine Xw ?_ (v:=.pointer (some ⟨M,0+(n / 4),none⟩)) (hv:=fun _ _=>rxa Tryz.underlying295 (by omega));refine K5 fun W4 hE=> ?_;have hO:=J0b hE;replace J:=J.o hO;replace G:=G.o hO;replace Q6:=Sl.off Q6 hO f0;replace D:=D.o hO;clear hO hE;refine J3j (v:=.int .u32 (oo4 (sl4 ((J74 (bt l) n) (n / 4)) 8) (bt l n))) ⟨rfl,rfl⟩ (by rfl) rfl rfl rfl G (by rw[J0,Nat.zero_add];omega) (by kernel_rfl) ?_
   (try simp only[Act.put,mA,mB,mC])
   intro W5 hO h_;rw[Nat.zero_add,K3] at h_;replace G:Blk W5 M (J1 .u32 64 (upd (J74 (bt l) n) (n / 4) (oo4 (sl4 ((J74 (bt l) n) (n / 4)) 8) (bt l n)))) 295:=h_;clear h_;replace J:=J.p hO Y;replace Q6:=Sl.off Q6 hO (f1 U);replace D:=D.p hO V;clear hO;refine LN ?_;go_wp2;go_roundw
   case rel=>exact⟨n+1,by omega,by go_num,D,J,(by rw[←Z5x];exact G),Q6⟩
   case measure=>simp[intOf];omega
  obtain rfl:n=64:=by omega
  rw[Y1q] at G;go_upto_region 3 with fail;refine wp_region_lit ?_;refine Lw ?_ (v:=.bool false);refine J5 ?_
  go_wp2_with fail
  go_loopw [5] (fun ii wr=> ∃(i:Nat),(16≤i∧i≤64)∧(ii=.int .i64 (i:Int))∧Off [] w wr∧Blk wr K1 (J1 .u32 64 (fun _=>0)) 295∧Blk wr M (J1 .u32 64 (Q9 (bt l) i)) 295∧Sl wr (.slice (some adr) l.length c) l)
   (fun ii _=>64-(intOf ii).toNat)
  case atStart=>exact⟨16,⟨Nat.le_refl _,by decide⟩,rfl,D,J,G,Q6⟩
  case round=>
   obtain⟨i,⟨hi,α⟩,rfl,D,J,G,Q6⟩:=hrel;obtain⟨W4,S⟩:=J67 D;subst S
   by_cases X:i<64
   ·
    go_upto_region 8 with fail;refine wp_region_lit ?_;refine Lv ?_;refine Lw ?_ (v:=.bool true);refine J5 ?_;go_upto_region 10 with fail;refine Rx 23 ?_;refine Xv ?_;refine Xv ?_;refine Xw ?_ (v:=.int .i64 (((i-16:Nat):Int))) (hv:=fun _ _=>by go_simp;(try simp only[IntKind.wrap_u64,IntKind.wrap_i64]);(try omega));refine Xw ?_ (v:=.pointer (some ⟨M,0+(i-16),none⟩)) (hv:=fun _ _=>rxa Tryz.underlying295 (by omega));refine Xc ?_ (v:=.int .u32 ((Q9 (bt l) i) (i-16))) (V5 G) (hj:=ag0 (by omega));refine Xv ?_;refine Xw ?_ (v:=.int .i64 (((i-15:Nat):Int))) (hv:=fun _ _=>by go_simp;(try simp only[IntKind.wrap_u64,IntKind.wrap_i64]);(try omega));refine Xw ?_ (v:=.pointer (some ⟨M,0+(i-15),none⟩)) (hv:=fun _ _=>rxa Tryz.underlying295 (by omega));refine Xc ?_ (v:=.int .u32 ((Q9 (bt l) i) (i-15))) (V5 G) (hj:=ag0 (by omega));refine Xf ?_ (fun W hW=>Q90 ((Q9 (bt l) i) (i-15)) 7 18 3 (by decide) (by decide) (by decide) W);refine Xw ?_ (v:=.int .u32 (ad4 ((Q9 (bt l) i) (i-16)) (J5a ((Q9 (bt l) i) (i-15)) 7 18 3))) (hv:=fun _ _=>J3n rfl rfl rfl);refine Xv ?_;refine Xw ?_ (v:=.int .i64 (((i-7:Nat):Int))) (hv:=fun _ _=>by go_simp;(try simp only[IntKind.wrap_u64,IntKind.wrap_i64]);(try omega));refine Xw ?_ (v:=.pointer (some ⟨M,0+(i-7),none⟩)) (hv:=fun _ _=>rxa Tryz.underlying295 (by omega));refine Xc ?_ (v:=.int .u32 ((Q9 (bt l) i) (i-7))) (V5 G) (hj:=ag0 (by omega));refine Xw ?_ (v:=.int .u32 (ad4 (ad4 ((Q9 (bt l) i) (i-16)) (J5a ((Q9 (bt l) i) (i-15)) 7 18 3)) ((Q9 (bt l) i) (i-7)))) (hv:=fun _ _=>J3n rfl rfl rfl);refine Xv ?_;refine Xw ?_ (v:=.int .i64 (((i-2:Nat):Int))) (hv:=fun _ _=>by go_simp;(try simp only[IntKind.wrap_u64,IntKind.wrap_i64]);(try omega));refine Xw ?_ (v:=.pointer (some ⟨M,0+(i-2),none⟩)) (hv:=fun _ _=>rxa Tryz.underlying295 (by omega));refine Xc ?_ (v:=.int .u32 ((Q9 (bt l) i) (i-2))) (V5 G) (hj:=ag0 (by omega));refine Xf ?_ (fun W hW=>Q90 ((Q9 (bt l) i) (i-2)) 17 19 10 (by decide) (by decide) (by decide) W);refine Xw ?_ (v:=.int .u32 (ad4 (ad4 (ad4 ((Q9 (bt l) i) (i-16)) (J5a ((Q9 (bt l) i) (i-15)) 7 18 3)) ((Q9 (bt l) i) (i-7))) (J5a ((Q9 (bt l) i) (i-2)) 17 19 10))) (hv:=fun _ _=>J3n rfl rfl rfl);refine Xw ?_ (v:=.pointer (some ⟨M,0+i,none⟩)) (hv:=fun _ _=>rxa Tryz.underlying295 (by omega));refine K5 fun W5 hE=> ?_;have hO:=J0b hE;replace J:=J.o hO;replace G:=G.o hO;replace Q6:=Sl.off Q6 hO f0;replace D:=D.o hO;clear hO hE;refine J3j (v:=.int .u32 (ad4 (ad4 (ad4 ((Q9 (bt l) i) (i-16)) (J5a ((Q9 (bt l) i) (i-15)) 7 18 3)) ((Q9 (bt l) i) (i-7))) (J5a ((Q9 (bt l) i) (i-2)) 17 19 10))) ⟨rfl,rfl⟩ (by rfl) rfl rfl rfl G (by rw[J0,Nat.zero_add];omega) (by kernel_rfl) ?_
    (try simp only[Act.put,mA,mB,mC])
    intro W6 hO h_;rw[Nat.zero_add,K3] at h_;replace G:Blk W6 M (J1 .u32 64 (upd (Q9 (bt l) i) i (ad4 (ad4 (ad4 ((Q9 (bt l) i) (i-16)) (J5a ((Q9 (bt l) i) (i-15)) 7 18 3)) ((Q9 (bt l) i) (i-7))) (J5a ((Q9 (bt l) i) (i-2)) 17 19 10)))) 295:=h_;clear h_;replace J:=J.p hO Y;replace Q6:=Sl.off Q6 hO (f1 U);replace D:=D.p hO V;clear hO;refine LN ?_;go_wp2;go_roundw
    case rel=>exact⟨i+1,⟨by omega,by omega⟩,by go_num,D,J,(by rw[←Y62 hi];exact G),Q6⟩
    case measure=>simp[intOf];omega
   obtain rfl:i=64:=by omega
   go_upto_region 8 with fail;refine wp_region_lit ?_;refine Lv ?_;refine Lw ?_ (v:=.bool false);refine J5 ?_;go_upto_region 11 with fail;refine wp_region_lit ?_;refine L0A ?_ G;refine LpA ?_ J (k:=.u32) (n:=64) (f:=Q9 (bt l) 64);intro W5 hO h_;replace J:Blk W5 K1 (J1 .u32 64 (Q9 (bt l) 64)) 295:=h_;clear h_;replace D:=D.p hO Z;clear hO;refine J5 ?_;go_wp2;refine bodyPost_ret (Z8 rfl rfl J (by kernel_rfl) (by rw[J0];kernel_rfl)) rfl ⟨rfl,D.ext⟩
end

section
set_option maxHeartbeats 1500000
attribute [local irreducible] wpList

def kk4:List Int:=[1116352408,1899447441,3049323471,3921009573,961987163,1508970993,2453635748,2870763221,3624381080,310598401,607225278,1426881987,1925078388,2162078206,2614888103,3248222580,3835390401,4022224774,264347078,604807628,770255983,1249150122,1555081692,1996064986,2554220882,2821834349,2952996808,3210313671,3336571891,3584528711,113926993,338241895,666307205,773529912,1294757372,1396182291,1695183700,1986661051,2177026350,2456956037,2730485921,2820302411,3259730800,3345764771,3516065817,3600352804,4094571909,275423344,430227734,506948616,659060556,883997877,958139571,1322822218,1537002063,1747873779,1955562222,2024104815,2227730452,2361852424,2428436474,2756734187,3204031479,3329325298]
def hh4:List Int:=[1779033703,3144134277,1013904242,2773480762,1359893119,2600822924,528734635,1541459225]
def kf4 (i:Nat):Int:=kk4.getD i 0
def hf4 (i:Nat):Int:=hh4.getD i 0
def GS4 (w:World):Prop:=Rd w 14 (J1 .u32 64 kf4)∧Rd w 11 (J1 .u32 8 hf4)
theorem J1e {w W:World}(h:GS4 w)(e:Ext w W):GS4 W:=⟨h.1.ext e,h.2.ext e⟩
def rT4 (k w:Nat→Int)(i:Nat)(v:Nat→Int):Int:=ad4 (ad4 (ad4 (ad4 (v 7) (Z5v (v 4) 6 11 25)) (xo4 (an4 (v 4) (v 5)) (an4 (nt4 (v 4)) (v 6)))) (k i)) (w i)
def rU4 (v:Nat→Int):Int:=ad4 (Z5v (v 0) 2 13 22) (xo4 (xo4 (an4 (v 0) (v 1)) (an4 (v 0) (v 2))) (an4 (v 1) (v 2)))
def V7p (k w:Nat→Int)(i:Nat)(v:Nat→Int):Nat→Int
  |0=>ad4 (rT4 k w i v) (rU4 v)
  |1=>v 0
  |2=>v 1
  |3=>v 2
  |4=>ad4 (v 3) (rT4 k w i v)
  |5=>v 4
  |6=>v 5
  |7=>v 6
  |_=>0
def Z6 (k w v:Nat→Int):Nat→Nat→Int
  |0=>v
  |i+1=>V7p k w i (Z6 k w v i)
def J6j (h b:Nat→Int)(j:Nat):Int:=ad4 (h j) (Z6 kf4 (Q9 b 64) h 64 j)
def mx4 (h v:Nat→Int)(i j:Nat):Int:=if j<i then ad4 (h j) (v j) else h j
theorem Y1r (h v:Nat→Int)(i:Nat):upd (mx4 h v i) i (ad4 (mx4 h v i i) (v i))=mx4 h v (i+1):=by
  funext j
  unfold upd mx4
  by_cases hj:j=i
  · subst hj;rw[if_pos rfl,if_neg (by omega),if_pos (by omega)]
  rw[if_neg hj]
  by_cases hl:j<i
  · rw[if_pos hl,if_pos (by omega)]
  rw[if_neg hl,if_neg (by omega)]
theorem Y1s (h v:Nat→Int):mx4 h v 0=h:=by funext j;unfold mx4;rw[if_neg (by omega)]
theorem Y63 (h b:Nat→Int):J1 .u32 8 (mx4 h (Z6 kf4 (Q9 b 64) h 64) 8)=J1 .u32 8 (J6j h b):=J07 _ _ _ _ fun j hj=>by unfold mx4 J6j;rw[if_pos hj]

theorem Y1t (h:Nat→Int)(l:List UInt8)(adr:Addr)(c:Nat)(hl:64≤l.length)(hlc:l.length≤c)(w:World)(hs:Sl w (.slice (some adr) l.length c) l)(hG:GS4 w):
  Calls Tryz.prog 168 #[.agg (J1 .u32 8 h),.slice (some adr) l.length c] w fun e w' =>X5 (.agg (J1 .u32 8 (J6j h (bt l)))) w w' e:=by
 have HG:=Lib.hid hG;clear hG;have Q6:=hs;have G:Off [] w w:=Off.refl _ _
 go_enter Tryz.func168,Tryz.ntmps168
 go_upto_region 0 with fail;refine wp_region_lit ?_;refine Ln ?_ (z:=J1 .u32 8 h) (t:=271);intro K1 W1 Y hO h_;have μ:=J3u (Sl.lt Q6) Y;have ξ:=fbn G Y;replace Q6:=Sl.off Q6 hO f0;replace G:=G.o hO;have J:=h_;clear hO h_ Y;refine Ln ?_ (z:=J1 .u32 8 (fun _=>0)) (t:=271);intro δ W2 γ hO h_;have U:=bn J γ;have η:=fbn G γ;replace J:=J.o hO;replace Q6:=Sl.off Q6 hO f0;replace G:=G.o hO;have M:=h_;clear hO h_ γ;refine J5 ?_;go_upto_region 1 with fail;refine wp_region_lit ?_;refine Lv ?_;refine Lr ?_ (Z5z l adr c hl hlc W2 Q6);intro W3 hO;replace J:=J.o hO;replace M:=M.o hO;replace Q6:=Sl.off Q6 hO f0;replace G:=G.o hO;clear hO;refine LnA ?_ (z:=J1 .u32 64 (fun _=>0)) (t:=295) (k:=.u32) (n:=64) (f:=Q9 (bt l) 64);intro X W5 ζ hO h_;have V:=bn J ζ;replace J:=J.o hO;replace M:=M.o hO;replace Q6:=Sl.off Q6 hO f0;replace G:=G.o hO;have N:=h_;clear hO h_ ζ;refine J5 ?_;go_upto_region 2 with fail;refine wp_region_lit ?_;refine L0A ?_ J;refine LnA ?_ (z:=J1 .u32 8 (fun _=>0)) (t:=271) (k:=.u32) (n:=8) (f:=h);intro R W7 T hO h_;have S:=bn J T;have θ:=bn M T;have ν:=bn N T;have ρ:=J3u (Sl.lt Q6) T;have κ:=fbn G T;replace J:=J.o hO;replace M:=M.o hO;replace N:=N.o hO;replace Q6:=Sl.off Q6 hO f0;replace G:=G.o hO;have D:=h_;clear hO h_ T;refine J5 ?_
 go_wp2_with fail
 go_loopw [14] (fun ii wr=> ∃(i:Nat),(i≤64)∧(ii=.int .i64 (i:Int))∧Off [] w wr∧Blk wr K1 (J1 .u32 8 h) 271∧Blk wr δ (J1 .u32 8 (fun _=>0)) 271∧Blk wr X (J1 .u32 64 (Q9 (bt l) 64)) 295∧Blk wr R (J1 .u32 8 (Z6 kf4 (Q9 (bt l) 64) h i)) 271∧Sl wr (.slice (some adr) l.length c) l)
  (fun ii _=>64-(intOf ii).toNat)
 case atStart=>exact⟨0,Nat.zero_le _,rfl,G,J,M,N,D,Q6⟩
 case round=>
  obtain⟨i,hi,rfl,G,J,M,N,D,Q6⟩:=hrel;obtain⟨W8,α⟩:=J67 G;subst α
  by_cases ε:i<64
  ·
   go_upto_region 4 with fail;refine wp_region_lit ?_;refine Lw ?_ (v:=.bool true);refine J5 ?_;go_upto_region 6 with fail;refine Rx 28 ?_;refine Xw ?_ (v:=.pointer (some ⟨R,0+7,none⟩)) (hv:=fun _ _=>rxa Tryz.underlying271 (by omega));refine Xc ?_ (v:=.int .u32 ((Z6 kf4 (Q9 (bt l) 64) h i) 7)) (V5 D) (hj:=ag0 (by omega));refine Xw ?_ (v:=.pointer (some ⟨R,0+4,none⟩)) (hv:=fun _ _=>rxa Tryz.underlying271 (by omega));refine Xc ?_ (v:=.int .u32 ((Z6 kf4 (Q9 (bt l) 64) h i) 4)) (V5 D) (hj:=ag0 (by omega));refine Xf ?_ (fun W hW=>Y1p ((Z6 kf4 (Q9 (bt l) 64) h i) 4) 6 11 25 (by decide) (by decide) (by decide) W);refine Xw ?_ (v:=.int .u32 (ad4 ((Z6 kf4 (Q9 (bt l) 64) h i) 7) (Z5v ((Z6 kf4 (Q9 (bt l) 64) h i) 4) 6 11 25))) (hv:=fun _ _=>J3n rfl rfl rfl);refine Xw ?_ (v:=.pointer (some ⟨R,0+4,none⟩)) (hv:=fun _ _=>rxa Tryz.underlying271 (by omega));refine Xc ?_ (v:=.int .u32 ((Z6 kf4 (Q9 (bt l) 64) h i) 4)) (V5 D) (hj:=ag0 (by omega));refine Xw ?_ (v:=.pointer (some ⟨R,0+5,none⟩)) (hv:=fun _ _=>rxa Tryz.underlying271 (by omega));refine Xc ?_ (v:=.int .u32 ((Z6 kf4 (Q9 (bt l) 64) h i) 5)) (V5 D) (hj:=ag0 (by omega));refine Xw ?_ (v:=.int .u32 (an4 ((Z6 kf4 (Q9 (bt l) 64) h i) 4) ((Z6 kf4 (Q9 (bt l) 64) h i) 5))) (hv:=fun _ _=>J87 rfl rfl rfl);refine Xw ?_ (v:=.pointer (some ⟨R,0+4,none⟩)) (hv:=fun _ _=>rxa Tryz.underlying271 (by omega));refine Xc ?_ (v:=.int .u32 ((Z6 kf4 (Q9 (bt l) 64) h i) 4)) (V5 D) (hj:=ag0 (by omega));refine Xw ?_ (v:=.int .u32 (nt4 ((Z6 kf4 (Q9 (bt l) 64) h i) 4))) (hv:=fun _ _=>Y1u rfl rfl);refine Xw ?_ (v:=.pointer (some ⟨R,0+6,none⟩)) (hv:=fun _ _=>rxa Tryz.underlying271 (by omega));refine Xc ?_ (v:=.int .u32 ((Z6 kf4 (Q9 (bt l) 64) h i) 6)) (V5 D) (hj:=ag0 (by omega));refine Xw ?_ (v:=.int .u32 (an4 (nt4 ((Z6 kf4 (Q9 (bt l) 64) h i) 4)) ((Z6 kf4 (Q9 (bt l) 64) h i) 6))) (hv:=fun _ _=>J87 rfl rfl rfl);refine Xw ?_ (v:=.int .u32 (xo4 (an4 ((Z6 kf4 (Q9 (bt l) 64) h i) 4) ((Z6 kf4 (Q9 (bt l) 64) h i) 5)) (an4 (nt4 ((Z6 kf4 (Q9 (bt l) 64) h i) 4)) ((Z6 kf4 (Q9 (bt l) 64) h i) 6)))) (hv:=fun _ _=>J5b rfl rfl rfl);refine Xw ?_ (v:=.int .u32 (ad4 (ad4 ((Z6 kf4 (Q9 (bt l) 64) h i) 7) (Z5v ((Z6 kf4 (Q9 (bt l) 64) h i) 4) 6 11 25)) (xo4 (an4 ((Z6 kf4 (Q9 (bt l) 64) h i) 4) ((Z6 kf4 (Q9 (bt l) 64) h i) 5)) (an4 (nt4 ((Z6 kf4 (Q9 (bt l) 64) h i) 4)) ((Z6 kf4 (Q9 (bt l) 64) h i) 6))))) (hv:=fun _ _=>J3n rfl rfl rfl);refine Xv ?_;refine Xw ?_ (v:=.pointer (some ⟨14,0+i,none⟩)) (hv:=fun _ _=>rxa Tryz.underlying295 (by omega));refine Xc ?_ (v:=.int .u32 (kf4 i)) ((J1e HG.out G.ext).1) (hj:=ag0 (by omega));refine Xw ?_ (v:=.int .u32 (ad4 (ad4 (ad4 ((Z6 kf4 (Q9 (bt l) 64) h i) 7) (Z5v ((Z6 kf4 (Q9 (bt l) 64) h i) 4) 6 11 25)) (xo4 (an4 ((Z6 kf4 (Q9 (bt l) 64) h i) 4) ((Z6 kf4 (Q9 (bt l) 64) h i) 5)) (an4 (nt4 ((Z6 kf4 (Q9 (bt l) 64) h i) 4)) ((Z6 kf4 (Q9 (bt l) 64) h i) 6)))) (kf4 i))) (hv:=fun _ _=>J3n rfl rfl rfl);refine Xv ?_;refine Xw ?_ (v:=.pointer (some ⟨X,0+i,none⟩)) (hv:=fun _ _=>rxa Tryz.underlying295 (by omega));refine Xc ?_ (v:=.int .u32 ((Q9 (bt l) 64) i)) (V5 N) (hj:=ag0 (by omega));refine Xw ?_ (v:=.int .u32 (rT4 kf4 (Q9 (bt l) 64) i (Z6 kf4 (Q9 (bt l) 64) h i)));refine Xv ?_;refine K5 fun W9 hE=> ?_;have hO:=J0b hE;replace J:=J.o hO;replace M:=M.o hO;replace N:=N.o hO;replace D:=D.o hO;replace Q6:=Sl.off Q6 hO f0;replace G:=G.o hO;clear hO hE;refine LN ?_;go_upto_region 7 with fail;refine Rx 22 ?_;refine Xw ?_ (v:=.pointer (some ⟨R,0+0,none⟩)) (hv:=fun _ _=>rxa Tryz.underlying271 (by omega));refine Xc ?_ (v:=.int .u32 ((Z6 kf4 (Q9 (bt l) 64) h i) 0)) (V5 D) (hj:=ag0 (by omega));refine Xf ?_ (fun W hW=>Y1p ((Z6 kf4 (Q9 (bt l) 64) h i) 0) 2 13 22 (by decide) (by decide) (by decide) W);refine Xw ?_ (v:=.pointer (some ⟨R,0+0,none⟩)) (hv:=fun _ _=>rxa Tryz.underlying271 (by omega));refine Xc ?_ (v:=.int .u32 ((Z6 kf4 (Q9 (bt l) 64) h i) 0)) (V5 D) (hj:=ag0 (by omega));refine Xw ?_ (v:=.pointer (some ⟨R,0+1,none⟩)) (hv:=fun _ _=>rxa Tryz.underlying271 (by omega));refine Xc ?_ (v:=.int .u32 ((Z6 kf4 (Q9 (bt l) 64) h i) 1)) (V5 D) (hj:=ag0 (by omega));refine Xw ?_ (v:=.int .u32 (an4 ((Z6 kf4 (Q9 (bt l) 64) h i) 0) ((Z6 kf4 (Q9 (bt l) 64) h i) 1))) (hv:=fun _ _=>J87 rfl rfl rfl);refine Xw ?_ (v:=.pointer (some ⟨R,0+0,none⟩)) (hv:=fun _ _=>rxa Tryz.underlying271 (by omega));refine Xc ?_ (v:=.int .u32 ((Z6 kf4 (Q9 (bt l) 64) h i) 0)) (V5 D) (hj:=ag0 (by omega));refine Xw ?_ (v:=.pointer (some ⟨R,0+2,none⟩)) (hv:=fun _ _=>rxa Tryz.underlying271 (by omega));refine Xc ?_ (v:=.int .u32 ((Z6 kf4 (Q9 (bt l) 64) h i) 2)) (V5 D) (hj:=ag0 (by omega));refine Xw ?_ (v:=.int .u32 (an4 ((Z6 kf4 (Q9 (bt l) 64) h i) 0) ((Z6 kf4 (Q9 (bt l) 64) h i) 2))) (hv:=fun _ _=>J87 rfl rfl rfl);refine Xw ?_ (v:=.int .u32 (xo4 (an4 ((Z6 kf4 (Q9 (bt l) 64) h i) 0) ((Z6 kf4 (Q9 (bt l) 64) h i) 1)) (an4 ((Z6 kf4 (Q9 (bt l) 64) h i) 0) ((Z6 kf4 (Q9 (bt l) 64) h i) 2)))) (hv:=fun _ _=>J5b rfl rfl rfl);refine Xw ?_ (v:=.pointer (some ⟨R,0+1,none⟩)) (hv:=fun _ _=>rxa Tryz.underlying271 (by omega));refine Xc ?_ (v:=.int .u32 ((Z6 kf4 (Q9 (bt l) 64) h i) 1)) (V5 D) (hj:=ag0 (by omega));refine Xw ?_ (v:=.pointer (some ⟨R,0+2,none⟩)) (hv:=fun _ _=>rxa Tryz.underlying271 (by omega));refine Xc ?_ (v:=.int .u32 ((Z6 kf4 (Q9 (bt l) 64) h i) 2)) (V5 D) (hj:=ag0 (by omega));refine Xw ?_ (v:=.int .u32 (an4 ((Z6 kf4 (Q9 (bt l) 64) h i) 1) ((Z6 kf4 (Q9 (bt l) 64) h i) 2))) (hv:=fun _ _=>J87 rfl rfl rfl);refine Xw ?_ (v:=.int .u32 (xo4 (xo4 (an4 ((Z6 kf4 (Q9 (bt l) 64) h i) 0) ((Z6 kf4 (Q9 (bt l) 64) h i) 1)) (an4 ((Z6 kf4 (Q9 (bt l) 64) h i) 0) ((Z6 kf4 (Q9 (bt l) 64) h i) 2))) (an4 ((Z6 kf4 (Q9 (bt l) 64) h i) 1) ((Z6 kf4 (Q9 (bt l) 64) h i) 2)))) (hv:=fun _ _=>J5b rfl rfl rfl);refine Xw ?_ (v:=.int .u32 (rU4 (Z6 kf4 (Q9 (bt l) 64) h i)));refine Xv ?_;refine K5 fun β hE=> ?_;have hO:=J0b hE;replace J:=J.o hO;replace M:=M.o hO;replace N:=N.o hO;replace D:=D.o hO;replace Q6:=Sl.off Q6 hO f0;replace G:=G.o hO;clear hO hE;refine LN ?_;go_upto_region 8 with fail;refine wp_region_lit ?_;refine Lv ?_;refine Lv ?_;refine Lw ?_ (v:=.int .u32 (ad4 (rT4 kf4 (Q9 (bt l) 64) i (Z6 kf4 (Q9 (bt l) 64) h i)) (rU4 (Z6 kf4 (Q9 (bt l) 64) h i)))) (hv:=J3n rfl rfl rfl);refine Lw ?_ (v:=.pointer (some ⟨R,0+0,none⟩)) (hv:=rxa Tryz.underlying271 (by omega));refine Lg ?_ D (v:=.int .u32 ((Z6 kf4 (Q9 (bt l) 64) h i) 0)) (hj:=ag0 (by omega));refine Lw ?_ (v:=.pointer (some ⟨R,0+1,none⟩)) (hv:=rxa Tryz.underlying271 (by omega));refine Lg ?_ D (v:=.int .u32 ((Z6 kf4 (Q9 (bt l) 64) h i) 1)) (hj:=ag0 (by omega));refine Lw ?_ (v:=.pointer (some ⟨R,0+2,none⟩)) (hv:=rxa Tryz.underlying271 (by omega));refine Lg ?_ D (v:=.int .u32 ((Z6 kf4 (Q9 (bt l) 64) h i) 2)) (hj:=ag0 (by omega));refine Lw ?_ (v:=.pointer (some ⟨R,0+3,none⟩)) (hv:=rxa Tryz.underlying271 (by omega));refine Lg ?_ D (v:=.int .u32 ((Z6 kf4 (Q9 (bt l) 64) h i) 3)) (hj:=ag0 (by omega));refine Lv ?_;refine Lw ?_ (v:=.int .u32 (ad4 ((Z6 kf4 (Q9 (bt l) 64) h i) 3) (rT4 kf4 (Q9 (bt l) 64) i (Z6 kf4 (Q9 (bt l) 64) h i)))) (hv:=J3n rfl rfl rfl);refine Lw ?_ (v:=.pointer (some ⟨R,0+4,none⟩)) (hv:=rxa Tryz.underlying271 (by omega));refine Lg ?_ D (v:=.int .u32 ((Z6 kf4 (Q9 (bt l) 64) h i) 4)) (hj:=ag0 (by omega));refine Lw ?_ (v:=.pointer (some ⟨R,0+5,none⟩)) (hv:=rxa Tryz.underlying271 (by omega));refine Lg ?_ D (v:=.int .u32 ((Z6 kf4 (Q9 (bt l) 64) h i) 5)) (hj:=ag0 (by omega));refine Lw ?_ (v:=.pointer (some ⟨R,0+6,none⟩)) (hv:=rxa Tryz.underlying271 (by omega));refine Lg ?_ D (v:=.int .u32 ((Z6 kf4 (Q9 (bt l) 64) h i) 6)) (hj:=ag0 (by omega));refine Lw ?_ (v:=.agg (J1 .u32 8 (Z6 kf4 (Q9 (bt l) 64) h (i+1)))) (hv:=by first|rfl|(go_simp;rfl));refine LpA ?_ D (k:=.u32) (n:=8) (f:=Z6 kf4 (Q9 (bt l) 64) h (i+1));intro Z hO h_;replace D:Blk Z R (J1 .u32 8 (Z6 kf4 (Q9 (bt l) 64) h (i+1))) 271:=h_;clear h_;replace J:=J.p hO S;replace M:=M.p hO θ;replace N:=N.p hO ν;replace Q6:=Sl.off Q6 hO (f1 ρ);replace G:=G.p hO κ;clear hO;refine J5 ?_;go_wp2;go_roundw
   case rel=>exact⟨i+1,by omega,by go_num,G,J,M,N,D,Q6⟩
   case measure=>simp[intOf];omega
  obtain rfl:i=64:=by omega
  go_upto_region 4 with fail;refine wp_region_lit ?_;refine Lw ?_ (v:=.bool false);refine J5 ?_
  go_wp2_with fail
  go_loopw [86] (fun ii wr=> ∃(i:Nat),(i≤8)∧(ii=.int .i64 (i:Int))∧Off [] w wr∧Blk wr K1 (J1 .u32 8 (mx4 h (Z6 kf4 (Q9 (bt l) 64) h 64) i)) 271∧Blk wr δ (J1 .u32 8 (fun _=>0)) 271∧Blk wr X (J1 .u32 64 (Q9 (bt l) 64)) 295∧Blk wr R (J1 .u32 8 (Z6 kf4 (Q9 (bt l) 64) h 64)) 271∧Sl wr (.slice (some adr) l.length c) l)
   (fun ii _=>8-(intOf ii).toNat)
  case atStart=>exact⟨0,Nat.zero_le _,rfl,G,(by rw[Y1s];exact J),M,N,D,Q6⟩
  case round=>
   obtain⟨i,hi,rfl,G,J,M,N,D,Q6⟩:=hrel;obtain⟨W9,α⟩:=J67 G;subst α
   by_cases h8:i<8
   ·
    go_upto_region 11 with fail;refine wp_region_lit ?_;refine Lw ?_ (v:=.bool true);refine J5 ?_;go_upto_region 13 with fail;refine Rx 8 ?_;refine Xv ?_;refine Xw ?_ (v:=.pointer (some ⟨K1,0+i,none⟩)) (hv:=fun _ _=>rxa Tryz.underlying271 (by omega));refine Xc ?_ (v:=.int .u32 ((mx4 h (Z6 kf4 (Q9 (bt l) 64) h 64) i) i)) (V5 J) (hj:=ag0 (by omega));refine Xv ?_;refine Xw ?_ (v:=.pointer (some ⟨R,0+i,none⟩)) (hv:=fun _ _=>rxa Tryz.underlying271 (by omega));refine Xc ?_ (v:=.int .u32 ((Z6 kf4 (Q9 (bt l) 64) h 64) i)) (V5 D) (hj:=ag0 (by omega));refine Xw ?_ (v:=.int .u32 (ad4 ((mx4 h (Z6 kf4 (Q9 (bt l) 64) h 64) i) i) ((Z6 kf4 (Q9 (bt l) 64) h 64) i))) (hv:=fun _ _=>J3n rfl rfl rfl);refine Xw ?_ (v:=.pointer (some ⟨K1,0+i,none⟩)) (hv:=fun _ _=>rxa Tryz.underlying271 (by omega));refine K5 fun β hE=> ?_;have hO:=J0b hE;replace J:=J.o hO;replace M:=M.o hO;replace N:=N.o hO;replace D:=D.o hO;replace Q6:=Sl.off Q6 hO f0;replace G:=G.o hO;clear hO hE;refine J3j (v:=.int .u32 (ad4 ((mx4 h (Z6 kf4 (Q9 (bt l) 64) h 64) i) i) ((Z6 kf4 (Q9 (bt l) 64) h 64) i))) ⟨rfl,rfl⟩ (by rfl) rfl rfl rfl J (by rw[J0,Nat.zero_add];omega) (by kernel_rfl) ?_
    (try simp only[Act.put,mA,mB,mC])
    intro Z hO h_;rw[Nat.zero_add,K3] at h_;replace J:Blk Z K1 (J1 .u32 8 (upd (mx4 h (Z6 kf4 (Q9 (bt l) 64) h 64) i) i (ad4 ((mx4 h (Z6 kf4 (Q9 (bt l) 64) h 64) i) i) ((Z6 kf4 (Q9 (bt l) 64) h 64) i)))) 271:=h_;clear h_;replace M:=M.p hO U.symm;replace N:=N.p hO V.symm;replace D:=D.p hO S.symm;replace Q6:=Sl.off Q6 hO (f1 μ);replace G:=G.p hO ξ;clear hO;refine LN ?_;go_wp2;go_roundw
    case rel=>exact⟨i+1,by omega,by go_num,G,(by rw[←Y1r];exact J),M,N,D,Q6⟩
    case measure=>simp[intOf];omega
   obtain rfl:i=8:=by omega
   rw[Y63] at J;go_upto_region 11 with fail;refine wp_region_lit ?_;refine Lw ?_ (v:=.bool false);refine J5 ?_;go_upto_region 15 with fail;refine wp_region_lit ?_;refine L0A ?_ J;refine LpA ?_ M (k:=.u32) (n:=8) (f:=J6j h (bt l));intro β hO h_;replace M:Blk β δ (J1 .u32 8 (J6j h (bt l))) 271:=h_;clear h_;replace G:=G.p hO η;clear hO;refine J5 ?_;go_wp2;refine bodyPost_ret (Z8 rfl rfl M (by kernel_rfl) (by rw[J0];kernel_rfl)) rfl ⟨rfl,G.ext⟩
end

section

def zc4 (n:Nat):Nat:=(119-n % 64) % 64
def J1t (l:List UInt8):List UInt8:=l++[128]++List.replicate (zc4 l.length) 0++be8 (8*l.length)
def nb4 (n:Nat):Nat:=(n+1+zc4 n+8) / 64
theorem Q42 (n:Nat):(n+1+zc4 n) % 64=56∧zc4 n<64:=by unfold zc4;omega
theorem V35 {n k:Nat}(h:k<zc4 n):(n+1+k) % 64≠56:=by unfold zc4 at h;omega
theorem Y1w (n:Nat):zc4 (n-64*(n / 64))=zc4 n:=by unfold zc4;omega
theorem Y1x (n:Nat):nb4 (n-64*(n / 64))+n / 64=nb4 n:=by unfold nb4 zc4;omega
theorem Q96 (l:List UInt8):(J1t l).length=64*nb4 l.length:=by
  have h:=Q42 l.length;unfold J1t nb4;simp only[List.length_append,List.length_cons,List.length_nil,List.length_replicate,be8];omega
def Hs4 (P:List UInt8):Nat→Nat→Int
  |0=>hf4
  |j+1=>J6j (Hs4 P j) (bt (P.drop (64*j)))
def ob4 (H:Nat→Int)(j:Nat):Int:=w8 (sr4 (H (j / 4)) (8*(3-j % 4)))
def J7a (H:Nat→Int)(n j:Nat):Int:=if j<n then ob4 H j else 0
theorem Z1e (H:Nat→Int):J7a H 0=fun _=>0:=by funext j;unfold J7a;rw[if_neg (by omega)]
theorem J76 (H:Nat→Int)(i k:Nat)(hk:k<4):upd (J7a H (4*i+k)) (4*i+k) (w8 (sr4 (H i) (8*(3-k))))=J7a H (4*i+(k+1)):=by
  funext j
  unfold upd J7a
  by_cases h:j=4*i+k
  · subst h
    rw[if_pos rfl,if_pos (by omega),ob4,show(4*i+k) / 4=i by omega,show(4*i+k) % 4=k by omega]
  rw[if_neg h]
  by_cases hl:j<4*i+k
  · rw[if_pos hl,if_pos (by omega)]
  rw[if_neg hl,if_neg (by omega)]
theorem Z63 (H:Nat→Int):J1 .u8 32 (J7a H 32)=J1 .u8 32 (ob4 H):=J07 _ _ _ _ fun j hj=>by unfold J7a;rw[if_pos hj]
def sm4 (l:List UInt8):Nat→Int:=ob4 (Hs4 (J1t l) (nb4 l.length))
theorem Q41 (P:List UInt8)(j:Nat):List.drop 64 (List.drop (64*j) P)=List.drop (64*(j+1)) P:=by
  rw[List.drop_drop];congr 1
/-! ### a block's words are of its bytes alone -/
theorem Q43 {a b:Nat→Int}{i:Nat}:∀k,(∀j,j<4*i+k→a j=b j)→J86 a i k=J86 b i k
  |0,_=>rfl
  |k+1,h=>by
    show oo4 (sl4 (J86 a i k) 8) (a (4*i+k))=oo4 (sl4 (J86 b i k) 8) (b (4*i+k));rw[Q43 k (fun j hj=>h j (by omega)),h (4*i+k) (by omega)]
theorem Q44 {a b:Nat→Int}(h:∀j,j<64→a j=b j):∀i,Q9 a i=Q9 b i
  |0=>rfl
  |i+1=>by
    show upd (Q9 a i) i (if i<16 then J86 a i 4 else sg4 (Q9 a i) i)=upd (Q9 b i) i (if i<16 then J86 b i 4 else sg4 (Q9 b i) i);rw[Q44 h i]
    by_cases hi:i<16
    · rw[if_pos hi,if_pos hi,Q43 4 (fun j hj=>h j (by omega))]
    · rw[if_neg hi,if_neg hi]
theorem Q40 {H a b:Nat→Int}(h:∀j,j<64→a j=b j):J6j H a=J6j H b:=by
  funext j
  unfold J6j;rw[Q44 h 64]
theorem Q99 (P:List UInt8)(n m:Nat):bt (P.drop n) m=bt P (n+m):=by
  unfold bt;simp[List.getD_eq_getElem?_getD,List.getElem?_drop]
theorem Q5g {P Q:List UInt8}:∀k,(∀j,j<64*k→bt P j=bt Q j)→Hs4 P k=Hs4 Q k
  |0,_=>rfl
  |k+1,h=>by
    show J6j (Hs4 P k) (bt (P.drop (64*k)))=J6j (Hs4 Q k) (bt (Q.drop (64*k)));rw[Q5g k (fun j hj=>h j (by omega))];exact Q40 fun j hj=>by rw[Q99,Q99];exact h _ (by omega)
theorem Y69 {P Q:List UInt8}{j:Nat}(h:j<P.length):bt (P++Q) j=bt P j:=by
  unfold bt;simp[List.getD_eq_getElem?_getD,List.getElem?_append,h]
/-! ### a sum that goes on -/
def hw4 (F:List UInt8):Nat→Int:=Hs4 F (F.length / 64)
def hr4 (F:List UInt8):List UInt8:=F.drop (64*(F.length / 64))
theorem J75 (F:List UInt8):(hr4 F).length=F.length-64*(F.length / 64):=by unfold hr4;rw[List.length_drop]
theorem Z1d (F:List UInt8):(hr4 F).length<64:=by rw[J75];omega
theorem Q14 {F b:List UInt8}:(F++b).drop (64*(F.length / 64))=hr4 F++b:=by
  unfold hr4;rw[List.drop_append_of_le_length (by omega)]
theorem Z3y (F b:List UInt8):hw4 F=Hs4 (F++b) (F.length / 64):=Q5g _ fun j hj=>(Y69 (by omega)).symm
theorem Y1v (F b:List UInt8)(k:Nat):J6j (Hs4 (F++b) (F.length / 64+k)) (bt ((hr4 F++b).drop (64*k)))=Hs4 (F++b) (F.length / 64+(k+1)):=by
  rw[←Q14,List.drop_drop,←Nat.mul_add];rfl
theorem Y65 {F b:List UInt8}{k:Nat}(h:k=(hr4 F++b).length / 64):Hs4 (F++b) (F.length / 64+k)=hw4 (F++b)∧(hr4 F++b).drop (64*k)=hr4 (F++b):=by
  have e:F.length / 64+k=(F++b).length / 64:=by rw[h,List.length_append,List.length_append,J75];omega
  refine⟨by rw[hw4,e],?_⟩;rw[←Q14,List.drop_drop,←Nat.mul_add,e];rfl
theorem Z61 (F:List UInt8):(J1t F).drop (64*(F.length / 64))=hr4 F++[128]++List.replicate (zc4 F.length) 0++be8 (8*F.length):=by
  unfold J1t;rw[List.append_assoc,List.append_assoc,Q14];simp only[List.append_assoc]
theorem Y67 (F:List UInt8):hw4 F=Hs4 (J1t F) (F.length / 64):=by
  unfold J1t;rw[List.append_assoc,List.append_assoc];exact Z3y _ _
theorem Z62 (F:List UInt8)(k:Nat):J6j (Hs4 (J1t F) (F.length / 64+k)) (bt (((J1t F).drop (64*(F.length / 64))).drop (64*k)))=Hs4 (J1t F) (F.length / 64+(k+1)):=by
  rw[List.drop_drop,←Nat.mul_add];rfl
theorem Q97 (F:List UInt8):F.length / 64+nb4 (hr4 F).length=nb4 F.length:=by
  rw[J75,Nat.add_comm];exact Y1x _
end

section

theorem J4t (k:IntKind)(j:Nat)(hj:j≤k.bits)(hk:∀n:Int,0≤n→n<2^j→k.wrap n=n)(a b:Nat)(ha:a<2^j)(hb:b<2^j):bits .xor k a b=((a^^^b:Nat):Int):=by
  have hp:2^j≤2^k.bits:=Nat.pow_le_pow_right (by decide) hj;have ha' :a % 2^k.bits=a:=Nat.mod_eq_of_lt (Nat.lt_of_lt_of_le ha hp);have hb' :b % 2^k.bits=b:=Nat.mod_eq_of_lt (Nat.lt_of_lt_of_le hb hp);simp only[bits,BitVec.ofInt_natCast,BitVec.toNat_xor,BitVec.toNat_ofNat,ha',hb'];exact hk _ (Int.natCast_nonneg _) (by exact_mod_cast Nat.xor_lt_two_pow ha hb)
theorem V8o (n:Int)(h0:0≤n)(h1:n<2^63):IntKind.i64.wrap n=n:=by rw[IntKind.wrap_i64];omega
section
variable {a b : Nat}
end
def W4 (x:Int):Prop:=0≤x∧x<4294967296
variable {x y : Int}
end

section
set_option maxHeartbeats 1500000
attribute [local irreducible] wpList

abbrev hc8 (H:Nat→Int)(v n:Value):Array Value:=J1 .u32 8 H++ #[v,n]
section
variable {H K : Nat → Int} {v n x : Value}
theorem Q75:(hc8 H v n).size=10:=by simp[J0]
theorem Q91:∀i u,(J1 .u32 8 H)[i]?=some u→(hc8 H v n)[0+i]?=some u:=fun i u h=>by
  have hi:i<(J1 .u32 8 H).size:=by
    rcases Nat.lt_or_ge i (J1 .u32 8 H).size with h1|h1
    · exact h1
    · rw[Array.getElem?_eq_none h1] at h;cases h
  rw[Nat.zero_add,Array.getElem?_append_left hi];exact h
theorem Q2b:(hc8 H v n)[8]?=some v:=by rw[Array.getElem?_append_right (by rw[J0];decide),J0];rfl
theorem J3o:(hc8 H v n)[9]?=some n:=by rw[Array.getElem?_append_right (by rw[J0];decide),J0];rfl
theorem Z1c:(hc8 H v n).setIfInBounds 8 x=hc8 H x n:=by
  apply Array.toList_inj.1;simp[J1]
theorem Q92:(hc8 H v n).setIfInBounds 9 x=hc8 H v x:=by
  apply Array.toList_inj.1;simp[J1]
theorem Q93:spl (hc8 H v n) 0 (J1 .u32 8 K).toList=hc8 K v n:=by
  first|kernel_rfl|rfl|(apply Array.toList_inj.1;simp[spl,J1,List.range,List.range.loop])
end
abbrev hcs (v:Value)(F:List UInt8):Array Value:=hc8 (hw4 F) v (.int .i64 (F.length:Int))
def Hsh (w:World)(p:Nat)(v:Value)(F:List UInt8):Prop:=Blk w p (hcs v F) 273∧Own w v (hr4 F)∧v.ownBlock≠some p

theorem Z6m (w:World)(hG:GS4 w):
  Calls Tryz.prog 123 #[] w fun e w' => ∃p,e=.returned (.pointer (some ⟨p,0,none⟩))∧w.heap.size≤p∧Off [] w w' ∧Hsh w' p (.slice none 0 0) []:=by
 have HG:=Lib.hid hG;clear hG;have D:Off [] w w:=Off.refl _ _
 go_enter Tryz.func123,Tryz.ntmps123
 go_upto_region 1 with fail;refine wp_region_lit ?_;refine Z2o (by rfl) rfl rfl ((J1e HG.out D.ext).2) (by kernel_rfl) (by rw[J0];kernel_rfl) ?_
 (try simp only[Act.put,mA,mB,mC])
 refine Lw ?_ (v:=.agg (hcs (.slice none 0 0) [])) (hv:=by first|rfl|(go_simp;rfl)|kernel_rfl);refine Ln ?_ (z:=hcs (.slice none 0 0) []) (t:=273);intro M W1 G hO h_;have N:=fbn D G;replace D:=D.o hO;have J:=h_;clear hO h_ G;refine Lv ?_;refine J5 ?_;go_wp2;exact bodyPost_ret (v:=.pointer (some ⟨M,0,none⟩)) (by simp only[results,Tryz.results123];go_simp) rfl ⟨_,rfl,Nat.le_of_not_lt (fun h_=>by simpa using N h_),D,J,Q25 _,fun e_=>by cases e_⟩
end
end Go.Proofs.YteehbddkcnkhfaaGreatDoor

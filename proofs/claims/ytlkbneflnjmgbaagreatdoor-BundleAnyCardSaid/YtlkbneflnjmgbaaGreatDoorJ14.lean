/- Contracts and plain laws for bundleAny_holds. Conditions: the tables hold their numbers. -/
import Derived.Test.YtlkbneflnjmgbaaGreatDoorJ13
open Go.RowKit
set_option maxRecDepth 100000
set_option linter.unusedSimpArgs false
set_option linter.unusedVariables false
namespace Go.Proofs.YtlkbneflnjmgbaaGreatDoor.S8.Sc
set_option maxHeartbeats 2000000

end Go.Proofs.YtlkbneflnjmgbaaGreatDoor.S8.Sc

namespace Go.Proofs.YtlkbneflnjmgbaaGreatDoor.S8
set_option maxHeartbeats 1500000
attribute [local irreducible] wpList Z6 wpX
end Go.Proofs.YtlkbneflnjmgbaaGreatDoor.S8

namespace Go.Proofs.YtlkbneflnjmgbaaGreatDoor
section
variable {ops : Array Oper} {Q : Exit → Act → World → Prop} {w : World} {r : List Oper} {o : Oper} {a a' : Act} {F : List Nat} {H H' : List As} {k : Wk}
end
end Go.Proofs.YtlkbneflnjmgbaaGreatDoor

namespace Go.Proofs.YtlkbneflnjmgbaaGreatDoor.S8
section
set_option maxHeartbeats 1500000
attribute [local irreducible] wpList Z6 wpX
end

section
set_option maxHeartbeats 1500000
attribute [local irreducible] wpList Z6 wpX
abbrev T3:=Nat×Nat×Nat
end

section
set_option maxHeartbeats 1500000
attribute [local irreducible] wpList Z6 wpX

end

section
set_option maxHeartbeats 1500000
attribute [local irreducible] wpList Z6 wpX

end

section
set_option maxHeartbeats 1000000
attribute [local irreducible] wpList Z6 wpX
open Sc (LL J10)
variable {kn : Kn}
section
variable {w : World} {o : Oper} {a : Act} {x y : Operand} {t : TypeId}
end
end

section
attribute [local irreducible] wpList
variable {kn : Kn}
open Sc (LL J10)
end
end Go.Proofs.YtlkbneflnjmgbaaGreatDoor.S8

namespace Go.Proofs.YtlkbneflnjmgbaaGreatDoor
section

def xo4 (p q:Int):Int:=bits .xor .u32 p q
def an4 (p q:Int):Int:=bits .and .u32 p q
def oo4 (p q:Int):Int:=bits .or .u32 p q
def nt4 (p:Int):Int:=bits .xor .u32 4294967295 p
def ad4 (p q:Int):Int:=IntKind.wrap .u32 (p+q)
def sl4 (p:Int)(n:Nat):Int:=IntKind.wrap .u32 (p*2^n)
def sr4 (p:Int)(n:Nat):Int:=p / 2^n
def rt4 (p:Int)(n:Nat):Int:=oo4 (sr4 p n) (sl4 p (32-n))
theorem Y4w (p q:Int):oo4 p q=oo4 q p:=by unfold oo4;simp only[bits,BitVec.or_comm]
section
variable {P : Program} {w : World} {o : Oper} {a : Act} {x y : Operand} {t t' : TypeId} {p q : Int}
theorem J62 (ho:o.op=.binOp .xor t x y t')(hx:a.eval x=.int .u32 p)(hy:a.eval y=.int .u32 q):(execOp a.eval o).run P w=.ok (.value (.int .u32 (xo4 p q))) w:=by
  simp only[execOp,ho,hx,hy];rfl
theorem J9c (ho:o.op=.binOp .and t x y t')(hx:a.eval x=.int .u32 p)(hy:a.eval y=.int .u32 q):(execOp a.eval o).run P w=.ok (.value (.int .u32 (an4 p q))) w:=by
  simp only[execOp,ho,hx,hy];rfl
theorem Z6b (ho:o.op=.binOp .or t x y t')(hx:a.eval x=.int .u32 p)(hy:a.eval y=.int .u32 q):(execOp a.eval o).run P w=.ok (.value (.int .u32 (oo4 p q))) w:=by
  simp only[execOp,ho,hx,hy];rfl
theorem J43 (ho:o.op=.binOp .add t x y t')(hx:a.eval x=.int .u32 p)(hy:a.eval y=.int .u32 q):(execOp a.eval o).run P w=.ok (.value (.int .u32 (ad4 p q))) w:=by
  simp only[execOp,ho,hx,hy];rfl
theorem Y52 (ho:o.op=.unOp .xor t x)(hx:a.eval x=.int .u32 p):(execOp a.eval o).run P w=.ok (.value (.int .u32 (nt4 p))) w:=by
  simp only[execOp,ho,hx];rfl
theorem Z13 {k:IntKind}{n:Nat}(hn:n≤32)(ho:o.op=.binOp .shl t x y t')(hx:a.eval x=.int .u32 p)(hy:a.eval y=.int k (n:Int)):(execOp a.eval o).run P w=.ok (.value (.int .u32 (sl4 p n))) w:=by
  have h:min ((n:Int)).toNat IntKind.u32.bits=n:=by rw[Int.toNat_natCast];exact Nat.min_eq_left hn
  simp only[execOp,ho,hx,hy,eqGuard,binOp,Sem.run_bind];simp[Op.shift,h,sl4,go_sem,Sem.run_bind]
theorem J9b {k:IntKind}{n:Nat}(hn:n≤32)(ho:o.op=.binOp .shr t x y t')(hx:a.eval x=.int .u32 p)(hy:a.eval y=.int k (n:Int)):(execOp a.eval o).run P w=.ok (.value (.int .u32 (sr4 p n))) w:=by
  have h:min ((n:Int)).toNat IntKind.u32.bits=n:=by rw[Int.toNat_natCast];exact Nat.min_eq_left hn
  simp only[execOp,ho,hx,hy,eqGuard,binOp,Sem.run_bind];simp[Op.shift,h,sr4,go_sem,Sem.run_bind]
end
end

section
set_option maxHeartbeats 1500000
attribute [local irreducible] wpList

theorem K1j (n:Nat)(h1:1≤n)(h2:n≤31):bits .and .u64 (18446744073709551616-(n:Int)) 31=((32-n:Nat):Int):=by
  obtain⟨m,hm⟩:∃m:Nat,m=18446744073709551616-n:=⟨_,rfl⟩
  have e:(18446744073709551616-(n:Int))=(m:Int):=by omega
  have D:(BitVec.ofInt 64 31).toNat=2^5-1:=by decide
  have G:(BitVec.ofInt 64 (m:Int) &&& BitVec.ofInt 64 31).toNat=m % 2^5:=by
    rw[BitVec.toNat_and,BitVec.toNat_ofInt,D,Nat.and_two_pow_sub_one_eq_mod];omega
  rw[e];show IntKind.u64.wrap ((BitVec.ofInt 64 (m:Int) &&& BitVec.ofInt 64 31).toNat:Nat)=_;rw[G,IntKind.wrap_u64];omega
def J61 (p:Int)(a b c:Nat):Int:=xo4 (xo4 (rt4 p a) (rt4 p b)) (sr4 p c)
def Z8d (p:Int)(a b c:Nat):Int:=xo4 (xo4 (rt4 p a) (rt4 p b)) (rt4 p c)

theorem Y9i (p:Int)(n:Nat)(h1:1≤n)(h2:n≤31)(w:World):
  Calls Tryz.prog 203 #[.int .u32 p,.int .i64 (-(n:Int))] w fun e w' =>Ret (.int .u32 (rt4 p n)) w w' e:=by
 have n0:(1:Int)≤(n:Int):=by omega
 have n1:(n:Int)≤31:=by omega
 have ha:=K1j n h1 h2;have D:Off [] w w:=Off.refl _ _
 go_enter Tryz.func203,Tryz.ntmps203
 go_upto_region 1 with fail;refine wp_region_lit ?_;refine Lv ?_;refine Lw ?_ (v:=.int .u64 (18446744073709551616-(n:Int))) (hv:=by go_simp;(try simp only[IntKind.wrap_u64,IntKind.wrap_i64]);(try omega));refine Lw ?_ (v:=.int .u64 (((32-n:Nat):Int))) (hv:=by first|(go_simp;done)|(go_simp;(try rw[ha]);(try omega)));refine Lv ?_;refine J2 ?_;go_upto_region 2 with fail;refine wp_region_lit ?_;refine Lv ?_;refine Lv ?_;refine Lw ?_ (v:=.int .u32 (sl4 p (32-n))) (hv:=Z13 (n:=(32-n)) (by omega) rfl rfl rfl);refine Lv ?_;refine Lv ?_;refine Lw ?_ (v:=.int .u64 ((n:Int))) (hv:=by go_simp;(try simp only[IntKind.wrap_u64,IntKind.wrap_i64]);(try omega));refine Lw ?_ (v:=.int .u32 (sr4 p n)) (hv:=J9b (n:=n) (by omega) rfl rfl rfl);refine Lw ?_ (v:=.int .u32 (oo4 (sl4 p (32-n)) (sr4 p n))) (hv:=Z6b rfl rfl rfl);refine Lv ?_;refine J2 ?_;go_wp2;exact bodyPost_ret (v:=.int .u32 (oo4 (sl4 p (32-n)) (sr4 p n))) (by simp only[results,Tryz.results203];go_simp) rfl ⟨congrArg (fun z=>Ending.returned (.int .u32 z)) (Y4w _ _),D.ext⟩
theorem Q1s (p:Int)(n:Nat)(h1:1≤n)(h2:n≤31)(w:World):
  Calls Tryz.prog 199 #[.int .u32 p,.int .i64 (n:Int)] w fun e w' =>Ret (.int .u32 (rt4 p n)) w w' e:=by
 have n0:(1:Int)≤(n:Int):=by omega
 have n1:(n:Int)≤31:=by omega
 have D:Off [] w w:=Off.refl _ _
 go_enter Tryz.func199,Tryz.ntmps199
 go_upto_region 1 with fail;refine wp_region_lit ?_;refine Lv ?_;refine Lv ?_;refine Lw ?_ (v:=.int .i64 (-(n:Int))) (hv:=by go_simp;(try simp only[IntKind.wrap_u64,IntKind.wrap_i64]);(try omega));refine Lr ?_ (Y9i p n h1 h2 w);intro W1 hO;replace D:=D.o hO;clear hO;refine Lv ?_;refine J2 ?_;go_wp2;exact bodyPost_ret (v:=.int .u32 (rt4 p n)) (by simp only[results,Tryz.results199];go_simp) rfl ⟨rfl,D.ext⟩
theorem Y4x (p:Int)(a b c:Nat)(ha:1≤a∧a≤31)(hb:1≤b∧b≤31)(hc:1≤c∧c≤31)(w:World):
  Calls Tryz.prog 182 #[.int .u32 p,.int .i64 (a:Int),.int .i64 (b:Int),.int .i64 (c:Int)] w fun e w' =>Ret (.int .u32 (Z8d p a b c)) w w' e:=by
 have D:Off [] w w:=Off.refl _ _
 go_enter Tryz.func182,Tryz.ntmps182
 go_upto_region 1 with fail;refine wp_region_lit ?_;refine Lv ?_;refine Lv ?_;refine Lr ?_ (Q1s p a (by omega) (by omega) w);intro W1 hO;replace D:=D.o hO;clear hO;refine Lv ?_;refine Lv ?_;refine Lr ?_ (Q1s p b (by omega) (by omega) W1);intro W2 hO;replace D:=D.o hO;clear hO;refine Lw ?_ (v:=.int .u32 (xo4 (rt4 p a) (rt4 p b))) (hv:=J62 rfl rfl rfl);refine Lv ?_;refine Lv ?_;refine Lr ?_ (Q1s p c (by omega) (by omega) W2);intro W3 hO;replace D:=D.o hO;clear hO;refine Lw ?_ (v:=.int .u32 (xo4 (xo4 (rt4 p a) (rt4 p b)) (rt4 p c))) (hv:=J62 rfl rfl rfl);refine Lv ?_;refine J2 ?_;go_wp2;exact bodyPost_ret (v:=.int .u32 (xo4 (xo4 (rt4 p a) (rt4 p b)) (rt4 p c))) (by simp only[results,Tryz.results182];go_simp) rfl ⟨rfl,D.ext⟩
theorem Z14 (p:Int)(a b c:Nat)(ha:1≤a∧a≤31)(hb:1≤b∧b≤31)(hc:1≤c∧c≤31)(w:World):
  Calls Tryz.prog 198 #[.int .u32 p,.int .i64 (a:Int),.int .i64 (b:Int),.int .i64 (c:Int)] w fun e w' =>Ret (.int .u32 (J61 p a b c)) w w' e:=by
 have D:Off [] w w:=Off.refl _ _
 go_enter Tryz.func198,Tryz.ntmps198
 go_upto_region 1 with fail;refine Rx 12 ?_;refine Xv ?_;refine Xv ?_;refine Xf ?_ (fun W hW=>Q1s p a (by omega) (by omega) W);refine Xv ?_;refine Xv ?_;refine Xf ?_ (fun W hW=>Q1s p b (by omega) (by omega) W);refine Xw ?_ (v:=.int .u32 (xo4 (rt4 p a) (rt4 p b))) (hv:=fun _ _=>J62 rfl rfl rfl);refine Xv ?_;refine Xv ?_;refine Xw ?_ (v:=.int .u32 (sr4 p c)) (hv:=fun _ _=>J9b (n:=c) (by omega) rfl rfl rfl);refine Xw ?_ (v:=.int .u32 (xo4 (xo4 (rt4 p a) (rt4 p b)) (sr4 p c))) (hv:=fun _ _=>J62 rfl rfl rfl);refine Xv ?_;refine K3 fun W1 hE=> ?_;have hO:=J0b hE;replace D:=D.o hO;clear hO hE;refine LN ?_;go_wp2;exact bodyPost_ret (v:=.int .u32 (xo4 (xo4 (rt4 p a) (rt4 p b)) (sr4 p c))) (by simp only[results,Tryz.results198];go_simp) rfl ⟨rfl,D.ext⟩
end

section
set_option maxHeartbeats 1500000
attribute [local irreducible] wpList

theorem Y9j {w:World}{o:Oper}{a:Act}{x:Operand}{c:UInt8}(ho:o.op=.convert 5 236 x)(hx:a.eval x=.int .u8 (c.toNat:Int)):(execOp a.eval o).run Tryz.prog w=.ok (.value (.int .u32 (c.toNat:Int))) w:=by
  have hc:=c.toNat_lt;have hw:IntKind.wrap .u32 (c.toNat:Int)=(c.toNat:Int):=by rw[IntKind.wrap_u32];omega
  simp[execOp,ho,hx,convert,run_underlying Tryz.underlying5,run_underlying Tryz.underlying236,Sem.run_bind,Conv.intToInt,hw]
theorem Z8e {w:World}{o:Oper}{a:Act}{x y:Operand}{adr:Addr}{n c:Nat}(hl:64≤n)(hn:n≤c)(ho:o.op=.slice 35 x none (some y) none)(hx:a.eval x=.slice (some adr) n c)(hy:a.eval y=.int .i64 64):(execOp a.eval o).run Tryz.prog w=.ok (.value (.slice (some adr) 64 c)) w:=by
  have J:64≤c:=by omega
  have G:¬c=0:=by omega
  have h1:=J6g;have D:adr.add 0=adr:=by unfold Addr.add;simp
  cases hq:Tryz.prog.info? 5 with
  |none=>simp[hq] at h1
  |some i=>simp[execOp,ho,hx,hy,Instr.sliceAt,Instr.slice,Instr.sliceBounds,Instr.sliceBound,asIntOf,run_underlying Tryz.underlying35,Sem.run_bind,sizeOf,typeInfo,hq,J,G,D];intro h_;omega
def Q0m (b:Nat→Int)(i:Nat):Nat→Int
  |0=>0
  |k+1=>oo4 (sl4 (Q0m b i k) 8) (b (4*i+k))
def sg4 (f:Nat→Int)(i:Nat):Int:=ad4 (ad4 (ad4 (f (i-16)) (J61 (f (i-15)) 7 18 3)) (f (i-7))) (J61 (f (i-2)) 17 19 10)
def Q8 (b:Nat→Int):Nat→Nat→Int
  |0=>fun _=>0
  |i+1=>upd (Q8 b i) i (if i<16 then Q0m b i 4 else sg4 (Q8 b i) i)
theorem Y9k {b:Nat→Int}{i:Nat}(h:16≤i):upd (Q8 b i) i (sg4 (Q8 b i) i)=Q8 b (i+1):=by
  show _=upd (Q8 b i) i (if i<16 then Q0m b i 4 else sg4 (Q8 b i) i);rw[if_neg (by omega)]
theorem Z6c (b:Nat→Int):∀i,i≤16→∀j,Q8 b i j=if j<i then Q0m b j 4 else 0
  |0,_,j=>by simp[Q8]
  |i+1,h,j=>by
    show upd (Q8 b i) i (if i<16 then Q0m b i 4 else sg4 (Q8 b i) i) j=_;rw[if_pos (by omega)];unfold upd
    by_cases hj:j=i
    · rw[if_pos hj,if_pos (by omega),hj]
    · rw[if_neg hj,Z6c b i (by omega) j]
      by_cases hl:j<i
      · rw[if_pos hl,if_pos (by omega)]
      · rw[if_neg hl,if_neg (by omega)]
def J84 (b:Nat→Int)(n j:Nat):Int:=if j<n / 4 then Q0m b j 4 else if j=n / 4 then Q0m b j (n % 4) else 0
theorem Z8f (b:Nat→Int)(n:Nat):upd (J84 b n) (n / 4) (oo4 (sl4 (J84 b n (n / 4)) 8) (b n))=J84 b (n+1):=by
  funext j
  have e:J84 b n (n / 4)=Q0m b (n / 4) (n % 4):=by unfold J84;rw[if_neg (by omega),if_pos rfl]
  have hb:b n=b (4*(n / 4)+n % 4):=by rw[Nat.div_add_mod]
  rw[e,hb];show(if j=n / 4 then Q0m b (n / 4) (n % 4+1) else J84 b n j)=J84 b (n+1) j;unfold J84
  by_cases hm:n % 4=3
  · have h1:(n+1) / 4=n / 4+1:=by omega
    have h2:(n+1) % 4=0:=by omega
    rw[h1,h2,hm]
    by_cases hj:j=n / 4
    · rw[if_pos hj,if_pos (by omega),hj]
    rw[if_neg hj]
    by_cases hl:j<n / 4
    · rw[if_pos hl,if_pos (by omega)]
    rw[if_neg hl,if_neg hj,if_neg (by omega)]
    split
    · rfl
    rfl
  have h1:(n+1) / 4=n / 4:=by omega
  have h2:(n+1) % 4=n % 4+1:=by omega
  rw[h1,h2]
  by_cases hj:j=n / 4
  · rw[if_pos hj,if_neg (by omega),if_pos hj,hj]
  rw[if_neg hj]
  by_cases hl:j<n / 4
  · rw[if_pos hl,if_pos hl]
  rw[if_neg hl,if_neg hj,if_neg hl,if_neg hj]
theorem Y4y (b:Nat→Int):J84 b 64=Q8 b 16:=by
  funext j
  rw[Z6c b 16 (Nat.le_refl _) j];unfold J84
  by_cases h:j<16
  · rw[if_pos (by omega),if_pos h]
  rw[if_neg (by omega),if_neg h]
  split
  · rename_i h2;rw[show 64 % 4=0 by rfl];rfl
  rfl
theorem Z8g (b:Nat→Int):J84 b 0=fun _=>0:=by
  funext j
  unfold J84;rw[if_neg (by omega)]
  split<;>rfl

theorem Z8h (l:List UInt8)(adr:Addr)(c:Nat)(hl:64≤l.length)(hc:l.length≤c)(w:World)(hs:Sl w (.slice (some adr) l.length c) l):
  Calls Tryz.prog 181 #[.slice (some adr) l.length c] w fun e w' =>Ret (.agg (J0 .u32 64 (Q8 (bt l) 64))) w w' e:=by
 have Q3:=hs;have D:Off [] w w:=Off.refl _ _
 go_enter Tryz.func181,Tryz.ntmps181
 go_upto_region 0 with fail;refine wp_region_lit ?_;refine Ln ?_ (z:=J0 .u32 64 (fun _=>0)) (t:=285);intro Z8 W1 V hO h_;have Z:=fbn D V;replace Q3:=Sl.off Q3 hO f0;replace D:=D.o hO;have J:=h_;clear hO h_ V;refine J2 ?_;go_upto_region 1 with fail;refine wp_region_lit ?_;refine Ln ?_ (z:=J0 .u32 64 (fun _=>0)) (t:=285);intro M W2 N hO h_;have X:=bn J N;have T:=J3c (Sl.lt Q3) N;have U:=fbn D N;replace J:=J.o hO;replace Q3:=Sl.off Q3 hO f0;replace D:=D.o hO;have G:=h_;clear hO h_ N;refine J2 ?_;go_upto_region 2 with fail;refine wp_region_lit ?_;refine Lv ?_;refine Lw ?_ (v:=.slice (some adr) 64 c) (hv:=Z8e hl hc rfl rfl rfl);refine Lw ?_ (v:=.int .i64 64);refine Lw ?_ (v:=.int .i64 0);refine J2 ?_
 go_wp2_with fail
 go_loopw [9] (fun ii wr=> ∃(n:Nat),(n≤64)∧(ii=.int .i64 (n:Int))∧Off [] w wr∧Blk wr Z8 (J0 .u32 64 (fun _=>0)) 285∧Blk wr M (J0 .u32 64 (J84 (bt l) n)) 285∧Sl wr (.slice (some adr) l.length c) l)
  (fun ii _=>64-(intOf ii).toNat)
 case atStart=>exact⟨0,Nat.zero_le _,rfl,D,J,(by rw[Z8g];exact G),Q3⟩
 case round=>
  obtain⟨n,hn,rfl,D,J,G,Q3⟩:=hrel;obtain⟨W3,S⟩:=J76 D;subst S
  by_cases R:n<64
  ·
   go_upto_region 3 with fail;refine wp_region_lit ?_;refine Lw ?_ (v:=.bool true);refine J2 ?_;go_upto_region 5 with fail;refine Rx 14 ?_;refine Xv ?_;refine Xw ?_ (v:=.int .i64 (((n / 4:Nat):Int))) (hv:=fun _ _=>by go_simp;(try simp only[IntKind.wrap_u64,IntKind.wrap_i64]);(try omega));refine Xv ?_;refine Xw ?_ (v:=.int .i64 (((n / 4:Nat):Int))) (hv:=fun _ _=>by go_simp;(try simp only[IntKind.wrap_u64,IntKind.wrap_i64]);(try omega));refine Xw ?_ (v:=.pointer (some ⟨M,0+(n / 4),none⟩)) (hv:=fun _ _=>rxa Tryz.underlying285 (by omega));refine Xc ?_ (v:=.int .u32 ((J84 (bt l) n) (n / 4))) (V2 G) (hj:=ag0 (by omega));refine Xw ?_ (v:=.int .u32 (sl4 ((J84 (bt l) n) (n / 4)) 8)) (hv:=fun _ _=>Z13 (n:=8) (by decide) rfl rfl rfl);refine Xv ?_;refine Xv ?_;refine Xw ?_ (v:=.pointer (some (adr.add n))) (hv:=fun W hW=>J4l (j:=n) (by omega) rfl rfl rfl);refine J8y (by rfl) rfl rfl (fun W hW=>J0q (Y1a Q3 (Q6i (by omega))) hW) (by kernel_rfl) ?_
   (try simp only[Act.put,mA,mB,mC])
   refine Xw ?_ (v:=.int .u32 (bt l n)) (hv:=fun _ _=>by exact Y9j rfl rfl);refine Xw ?_ (v:=.int .u32 (oo4 (sl4 ((J84 (bt l) n) (n / 4)) 8) (bt l n))) (hv:=fun _ _=>Z6b rfl rfl rfl);refine Xw ?_ (v:=.pointer (some ⟨M,0+(n / 4),none⟩)) (hv:=fun _ _=>rxa Tryz.underlying285 (by omega));refine K3 fun W4 hE=> ?_;have hO:=J0b hE;replace J:=J.o hO;replace G:=G.o hO;replace Q3:=Sl.off Q3 hO f0;replace D:=D.o hO;clear hO hE;refine J1k (v:=.int .u32 (oo4 (sl4 ((J84 (bt l) n) (n / 4)) 8) (bt l n))) ⟨rfl,rfl⟩ (by rfl) rfl rfl rfl G (by rw[J1,Nat.zero_add];omega) (by kernel_rfl) ?_
   (try simp only[Act.put,mA,mB,mC])
   intro W5 hO h_;rw[Nat.zero_add,X6] at h_;replace G:Blk W5 M (J0 .u32 64 (upd (J84 (bt l) n) (n / 4) (oo4 (sl4 ((J84 (bt l) n) (n / 4)) 8) (bt l n)))) 285:=h_;clear h_;replace J:=J.p hO X;replace Q3:=Sl.off Q3 hO (f1 T);replace D:=D.p hO U;clear hO;refine LN ?_;go_wp2;go_roundw
   case rel=>exact⟨n+1,by omega,by go_num,D,J,(by rw[←Z8f];exact G),Q3⟩
   case measure=>simp[intOf];omega
  obtain rfl:n=64:=by omega
  rw[Y4y] at G;go_upto_region 3 with fail;refine wp_region_lit ?_;refine Lw ?_ (v:=.bool false);refine J2 ?_
  go_wp2_with fail
  go_loopw [5] (fun ii wr=> ∃(i:Nat),(16≤i∧i≤64)∧(ii=.int .i64 (i:Int))∧Off [] w wr∧Blk wr Z8 (J0 .u32 64 (fun _=>0)) 285∧Blk wr M (J0 .u32 64 (Q8 (bt l) i)) 285∧Sl wr (.slice (some adr) l.length c) l)
   (fun ii _=>64-(intOf ii).toNat)
  case atStart=>exact⟨16,⟨Nat.le_refl _,by decide⟩,rfl,D,J,G,Q3⟩
  case round=>
   obtain⟨i,⟨hi,α⟩,rfl,D,J,G,Q3⟩:=hrel;obtain⟨W4,S⟩:=J76 D;subst S
   by_cases Y:i<64
   ·
    go_upto_region 8 with fail;refine wp_region_lit ?_;refine Lv ?_;refine Lw ?_ (v:=.bool true);refine J2 ?_;go_upto_region 10 with fail;refine Rx 23 ?_;refine Xv ?_;refine Xv ?_;refine Xw ?_ (v:=.int .i64 (((i-16:Nat):Int))) (hv:=fun _ _=>by go_simp;(try simp only[IntKind.wrap_u64,IntKind.wrap_i64]);(try omega));refine Xw ?_ (v:=.pointer (some ⟨M,0+(i-16),none⟩)) (hv:=fun _ _=>rxa Tryz.underlying285 (by omega));refine Xc ?_ (v:=.int .u32 ((Q8 (bt l) i) (i-16))) (V2 G) (hj:=ag0 (by omega));refine Xv ?_;refine Xw ?_ (v:=.int .i64 (((i-15:Nat):Int))) (hv:=fun _ _=>by go_simp;(try simp only[IntKind.wrap_u64,IntKind.wrap_i64]);(try omega));refine Xw ?_ (v:=.pointer (some ⟨M,0+(i-15),none⟩)) (hv:=fun _ _=>rxa Tryz.underlying285 (by omega));refine Xc ?_ (v:=.int .u32 ((Q8 (bt l) i) (i-15))) (V2 G) (hj:=ag0 (by omega));refine Xf ?_ (fun W hW=>Z14 ((Q8 (bt l) i) (i-15)) 7 18 3 (by decide) (by decide) (by decide) W);refine Xw ?_ (v:=.int .u32 (ad4 ((Q8 (bt l) i) (i-16)) (J61 ((Q8 (bt l) i) (i-15)) 7 18 3))) (hv:=fun _ _=>J43 rfl rfl rfl);refine Xv ?_;refine Xw ?_ (v:=.int .i64 (((i-7:Nat):Int))) (hv:=fun _ _=>by go_simp;(try simp only[IntKind.wrap_u64,IntKind.wrap_i64]);(try omega));refine Xw ?_ (v:=.pointer (some ⟨M,0+(i-7),none⟩)) (hv:=fun _ _=>rxa Tryz.underlying285 (by omega));refine Xc ?_ (v:=.int .u32 ((Q8 (bt l) i) (i-7))) (V2 G) (hj:=ag0 (by omega));refine Xw ?_ (v:=.int .u32 (ad4 (ad4 ((Q8 (bt l) i) (i-16)) (J61 ((Q8 (bt l) i) (i-15)) 7 18 3)) ((Q8 (bt l) i) (i-7)))) (hv:=fun _ _=>J43 rfl rfl rfl);refine Xv ?_;refine Xw ?_ (v:=.int .i64 (((i-2:Nat):Int))) (hv:=fun _ _=>by go_simp;(try simp only[IntKind.wrap_u64,IntKind.wrap_i64]);(try omega));refine Xw ?_ (v:=.pointer (some ⟨M,0+(i-2),none⟩)) (hv:=fun _ _=>rxa Tryz.underlying285 (by omega));refine Xc ?_ (v:=.int .u32 ((Q8 (bt l) i) (i-2))) (V2 G) (hj:=ag0 (by omega));refine Xf ?_ (fun W hW=>Z14 ((Q8 (bt l) i) (i-2)) 17 19 10 (by decide) (by decide) (by decide) W);refine Xw ?_ (v:=.int .u32 (ad4 (ad4 (ad4 ((Q8 (bt l) i) (i-16)) (J61 ((Q8 (bt l) i) (i-15)) 7 18 3)) ((Q8 (bt l) i) (i-7))) (J61 ((Q8 (bt l) i) (i-2)) 17 19 10))) (hv:=fun _ _=>J43 rfl rfl rfl);refine Xw ?_ (v:=.pointer (some ⟨M,0+i,none⟩)) (hv:=fun _ _=>rxa Tryz.underlying285 (by omega));refine K3 fun W5 hE=> ?_;have hO:=J0b hE;replace J:=J.o hO;replace G:=G.o hO;replace Q3:=Sl.off Q3 hO f0;replace D:=D.o hO;clear hO hE;refine J1k (v:=.int .u32 (ad4 (ad4 (ad4 ((Q8 (bt l) i) (i-16)) (J61 ((Q8 (bt l) i) (i-15)) 7 18 3)) ((Q8 (bt l) i) (i-7))) (J61 ((Q8 (bt l) i) (i-2)) 17 19 10))) ⟨rfl,rfl⟩ (by rfl) rfl rfl rfl G (by rw[J1,Nat.zero_add];omega) (by kernel_rfl) ?_
    (try simp only[Act.put,mA,mB,mC])
    intro W6 hO h_;rw[Nat.zero_add,X6] at h_;replace G:Blk W6 M (J0 .u32 64 (upd (Q8 (bt l) i) i (ad4 (ad4 (ad4 ((Q8 (bt l) i) (i-16)) (J61 ((Q8 (bt l) i) (i-15)) 7 18 3)) ((Q8 (bt l) i) (i-7))) (J61 ((Q8 (bt l) i) (i-2)) 17 19 10)))) 285:=h_;clear h_;replace J:=J.p hO X;replace Q3:=Sl.off Q3 hO (f1 T);replace D:=D.p hO U;clear hO;refine LN ?_;go_wp2;go_roundw
    case rel=>exact⟨i+1,⟨by omega,by omega⟩,by go_num,D,J,(by rw[←Y9k hi];exact G),Q3⟩
    case measure=>simp[intOf];omega
   obtain rfl:i=64:=by omega
   go_upto_region 8 with fail;refine wp_region_lit ?_;refine Lv ?_;refine Lw ?_ (v:=.bool false);refine J2 ?_;go_upto_region 11 with fail;refine wp_region_lit ?_;refine L0A ?_ G;refine LpA ?_ J (k:=.u32) (n:=64) (f:=Q8 (bt l) 64);intro W5 hO h_;replace J:Blk W5 Z8 (J0 .u32 64 (Q8 (bt l) 64)) 285:=h_;clear h_;replace D:=D.p hO Z;clear hO;refine J2 ?_;go_wp2;refine bodyPost_ret (Z0 rfl rfl J (by kernel_rfl) (by rw[J1];kernel_rfl)) rfl ⟨rfl,D.ext⟩
end

section
set_option maxHeartbeats 1500000
attribute [local irreducible] wpList

def kk4:List Int:=[1116352408,1899447441,3049323471,3921009573,961987163,1508970993,2453635748,2870763221,3624381080,310598401,607225278,1426881987,1925078388,2162078206,2614888103,3248222580,3835390401,4022224774,264347078,604807628,770255983,1249150122,1555081692,1996064986,2554220882,2821834349,2952996808,3210313671,3336571891,3584528711,113926993,338241895,666307205,773529912,1294757372,1396182291,1695183700,1986661051,2177026350,2456956037,2730485921,2820302411,3259730800,3345764771,3516065817,3600352804,4094571909,275423344,430227734,506948616,659060556,883997877,958139571,1322822218,1537002063,1747873779,1955562222,2024104815,2227730452,2361852424,2428436474,2756734187,3204031479,3329325298]
def hh4:List Int:=[1779033703,3144134277,1013904242,2773480762,1359893119,2600822924,528734635,1541459225]
def kf4 (i:Nat):Int:=kk4.getD i 0
def hf4 (i:Nat):Int:=hh4.getD i 0
def GS4 (w:World):Prop:=Rd w 10 (J0 .u32 64 kf4)∧Rd w 2 (J0 .u32 8 hf4)
theorem J23 {w W:World}(h:GS4 w)(e:Ext w W):GS4 W:=⟨h.1.ext e,h.2.ext e⟩
def rT4 (k w:Nat→Int)(i:Nat)(v:Nat→Int):Int:=ad4 (ad4 (ad4 (ad4 (v 7) (Z8d (v 4) 6 11 25)) (xo4 (an4 (v 4) (v 5)) (an4 (nt4 (v 4)) (v 6)))) (k i)) (w i)
def rU4 (v:Nat→Int):Int:=ad4 (Z8d (v 0) 2 13 22) (xo4 (xo4 (an4 (v 0) (v 1)) (an4 (v 0) (v 2))) (an4 (v 1) (v 2)))
def K42 (k w:Nat→Int)(i:Nat)(v:Nat→Int):Nat→Int
  |0=>ad4 (rT4 k w i v) (rU4 v)
  |1=>v 0
  |2=>v 1
  |3=>v 2
  |4=>ad4 (v 3) (rT4 k w i v)
  |5=>v 4
  |6=>v 5
  |7=>v 6
  |_=>0
def Q9 (k w v:Nat→Int):Nat→Nat→Int
  |0=>v
  |i+1=>K42 k w i (Q9 k w v i)
def J85 (h b:Nat→Int)(j:Nat):Int:=ad4 (h j) (Q9 kf4 (Q8 b 64) h 64 j)
def mx4 (h v:Nat→Int)(i j:Nat):Int:=if j<i then ad4 (h j) (v j) else h j
theorem Y4z (h v:Nat→Int)(i:Nat):upd (mx4 h v i) i (ad4 (mx4 h v i i) (v i))=mx4 h v (i+1):=by
  funext j
  unfold upd mx4
  by_cases hj:j=i
  · subst hj;rw[if_pos rfl,if_neg (by omega),if_pos (by omega)]
  rw[if_neg hj]
  by_cases hl:j<i
  · rw[if_pos hl,if_pos (by omega)]
  rw[if_neg hl,if_neg (by omega)]
theorem Y50 (h v:Nat→Int):mx4 h v 0=h:=by funext j;unfold mx4;rw[if_neg (by omega)]
theorem Y9l (h b:Nat→Int):J0 .u32 8 (mx4 h (Q9 kf4 (Q8 b 64) h 64) 8)=J0 .u32 8 (J85 h b):=J0f _ _ _ _ fun j hj=>by unfold mx4 J85;rw[if_pos hj]

theorem Y51 (h:Nat→Int)(l:List UInt8)(adr:Addr)(c:Nat)(hl:64≤l.length)(hlc:l.length≤c)(w:World)(hs:Sl w (.slice (some adr) l.length c) l)(hG:GS4 w):
  Calls Tryz.prog 133 #[.agg (J0 .u32 8 h),.slice (some adr) l.length c] w fun e w' =>Ret (.agg (J0 .u32 8 (J85 h (bt l)))) w w' e:=by
 have HG:=Lib.hid hG;clear hG;have Q3:=hs;have G:Off [] w w:=Off.refl _ _
 go_enter Tryz.func133,Tryz.ntmps133
 go_upto_region 0 with fail;refine wp_region_lit ?_;refine Ln ?_ (z:=J0 .u32 8 h) (t:=237);intro Z8 W1 δ hO h_;have μ:=J3c (Sl.lt Q3) δ;have ρ:=fbn G δ;replace Q3:=Sl.off Q3 hO f0;replace G:=G.o hO;have J:=h_;clear hO h_ δ;refine Ln ?_ (z:=J0 .u32 8 (fun _=>0)) (t:=237);intro Y W2 β hO h_;have U:=bn J β;have η:=fbn G β;replace J:=J.o hO;replace Q3:=Sl.off Q3 hO f0;replace G:=G.o hO;have M:=h_;clear hO h_ β;refine J2 ?_;go_upto_region 1 with fail;refine wp_region_lit ?_;refine Lv ?_;refine Lr ?_ (Z8h l adr c hl hlc W2 Q3);intro W3 hO;replace J:=J.o hO;replace M:=M.o hO;replace Q3:=Sl.off Q3 hO f0;replace G:=G.o hO;clear hO;refine LnA ?_ (z:=J0 .u32 64 (fun _=>0)) (t:=285) (k:=.u32) (n:=64) (f:=Q8 (bt l) 64);intro α W5 ζ hO h_;have V:=bn J ζ;replace J:=J.o hO;replace M:=M.o hO;replace Q3:=Sl.off Q3 hO f0;replace G:=G.o hO;have N:=h_;clear hO h_ ζ;refine J2 ?_;go_upto_region 2 with fail;refine wp_region_lit ?_;refine L0A ?_ J;refine LnA ?_ (z:=J0 .u32 8 (fun _=>0)) (t:=237) (k:=.u32) (n:=8) (f:=h);intro R W7 T hO h_;have S:=bn J T;have κ:=bn M T;have ν:=bn N T;have ξ:=J3c (Sl.lt Q3) T;have θ:=fbn G T;replace J:=J.o hO;replace M:=M.o hO;replace N:=N.o hO;replace Q3:=Sl.off Q3 hO f0;replace G:=G.o hO;have D:=h_;clear hO h_ T;refine J2 ?_
 go_wp2_with fail
 go_loopw [14] (fun ii wr=> ∃(i:Nat),(i≤64)∧(ii=.int .i64 (i:Int))∧Off [] w wr∧Blk wr Z8 (J0 .u32 8 h) 237∧Blk wr Y (J0 .u32 8 (fun _=>0)) 237∧Blk wr α (J0 .u32 64 (Q8 (bt l) 64)) 285∧Blk wr R (J0 .u32 8 (Q9 kf4 (Q8 (bt l) 64) h i)) 237∧Sl wr (.slice (some adr) l.length c) l)
  (fun ii _=>64-(intOf ii).toNat)
 case atStart=>exact⟨0,Nat.zero_le _,rfl,G,J,M,N,D,Q3⟩
 case round=>
  obtain⟨i,hi,rfl,G,J,M,N,D,Q3⟩:=hrel;obtain⟨W8,γ⟩:=J76 G;subst γ
  by_cases ε:i<64
  ·
   go_upto_region 4 with fail;refine wp_region_lit ?_;refine Lw ?_ (v:=.bool true);refine J2 ?_;go_upto_region 6 with fail;refine Rx 28 ?_;refine Xw ?_ (v:=.pointer (some ⟨R,0+7,none⟩)) (hv:=fun _ _=>rxa Tryz.underlying237 (by omega));refine Xc ?_ (v:=.int .u32 ((Q9 kf4 (Q8 (bt l) 64) h i) 7)) (V2 D) (hj:=ag0 (by omega));refine Xw ?_ (v:=.pointer (some ⟨R,0+4,none⟩)) (hv:=fun _ _=>rxa Tryz.underlying237 (by omega));refine Xc ?_ (v:=.int .u32 ((Q9 kf4 (Q8 (bt l) 64) h i) 4)) (V2 D) (hj:=ag0 (by omega));refine Xf ?_ (fun W hW=>Y4x ((Q9 kf4 (Q8 (bt l) 64) h i) 4) 6 11 25 (by decide) (by decide) (by decide) W);refine Xw ?_ (v:=.int .u32 (ad4 ((Q9 kf4 (Q8 (bt l) 64) h i) 7) (Z8d ((Q9 kf4 (Q8 (bt l) 64) h i) 4) 6 11 25))) (hv:=fun _ _=>J43 rfl rfl rfl);refine Xw ?_ (v:=.pointer (some ⟨R,0+4,none⟩)) (hv:=fun _ _=>rxa Tryz.underlying237 (by omega));refine Xc ?_ (v:=.int .u32 ((Q9 kf4 (Q8 (bt l) 64) h i) 4)) (V2 D) (hj:=ag0 (by omega));refine Xw ?_ (v:=.pointer (some ⟨R,0+5,none⟩)) (hv:=fun _ _=>rxa Tryz.underlying237 (by omega));refine Xc ?_ (v:=.int .u32 ((Q9 kf4 (Q8 (bt l) 64) h i) 5)) (V2 D) (hj:=ag0 (by omega));refine Xw ?_ (v:=.int .u32 (an4 ((Q9 kf4 (Q8 (bt l) 64) h i) 4) ((Q9 kf4 (Q8 (bt l) 64) h i) 5))) (hv:=fun _ _=>J9c rfl rfl rfl);refine Xw ?_ (v:=.pointer (some ⟨R,0+4,none⟩)) (hv:=fun _ _=>rxa Tryz.underlying237 (by omega));refine Xc ?_ (v:=.int .u32 ((Q9 kf4 (Q8 (bt l) 64) h i) 4)) (V2 D) (hj:=ag0 (by omega));refine Xw ?_ (v:=.int .u32 (nt4 ((Q9 kf4 (Q8 (bt l) 64) h i) 4))) (hv:=fun _ _=>Y52 rfl rfl);refine Xw ?_ (v:=.pointer (some ⟨R,0+6,none⟩)) (hv:=fun _ _=>rxa Tryz.underlying237 (by omega));refine Xc ?_ (v:=.int .u32 ((Q9 kf4 (Q8 (bt l) 64) h i) 6)) (V2 D) (hj:=ag0 (by omega));refine Xw ?_ (v:=.int .u32 (an4 (nt4 ((Q9 kf4 (Q8 (bt l) 64) h i) 4)) ((Q9 kf4 (Q8 (bt l) 64) h i) 6))) (hv:=fun _ _=>J9c rfl rfl rfl);refine Xw ?_ (v:=.int .u32 (xo4 (an4 ((Q9 kf4 (Q8 (bt l) 64) h i) 4) ((Q9 kf4 (Q8 (bt l) 64) h i) 5)) (an4 (nt4 ((Q9 kf4 (Q8 (bt l) 64) h i) 4)) ((Q9 kf4 (Q8 (bt l) 64) h i) 6)))) (hv:=fun _ _=>J62 rfl rfl rfl);refine Xw ?_ (v:=.int .u32 (ad4 (ad4 ((Q9 kf4 (Q8 (bt l) 64) h i) 7) (Z8d ((Q9 kf4 (Q8 (bt l) 64) h i) 4) 6 11 25)) (xo4 (an4 ((Q9 kf4 (Q8 (bt l) 64) h i) 4) ((Q9 kf4 (Q8 (bt l) 64) h i) 5)) (an4 (nt4 ((Q9 kf4 (Q8 (bt l) 64) h i) 4)) ((Q9 kf4 (Q8 (bt l) 64) h i) 6))))) (hv:=fun _ _=>J43 rfl rfl rfl);refine Xv ?_;refine Xw ?_ (v:=.pointer (some ⟨10,0+i,none⟩)) (hv:=fun _ _=>rxa Tryz.underlying285 (by omega));refine Xc ?_ (v:=.int .u32 (kf4 i)) ((J23 HG.out G.ext).1) (hj:=ag0 (by omega));refine Xw ?_ (v:=.int .u32 (ad4 (ad4 (ad4 ((Q9 kf4 (Q8 (bt l) 64) h i) 7) (Z8d ((Q9 kf4 (Q8 (bt l) 64) h i) 4) 6 11 25)) (xo4 (an4 ((Q9 kf4 (Q8 (bt l) 64) h i) 4) ((Q9 kf4 (Q8 (bt l) 64) h i) 5)) (an4 (nt4 ((Q9 kf4 (Q8 (bt l) 64) h i) 4)) ((Q9 kf4 (Q8 (bt l) 64) h i) 6)))) (kf4 i))) (hv:=fun _ _=>J43 rfl rfl rfl);refine Xv ?_;refine Xw ?_ (v:=.pointer (some ⟨α,0+i,none⟩)) (hv:=fun _ _=>rxa Tryz.underlying285 (by omega));refine Xc ?_ (v:=.int .u32 ((Q8 (bt l) 64) i)) (V2 N) (hj:=ag0 (by omega));refine Xw ?_ (v:=.int .u32 (rT4 kf4 (Q8 (bt l) 64) i (Q9 kf4 (Q8 (bt l) 64) h i)));refine Xv ?_;refine K3 fun W9 hE=> ?_;have hO:=J0b hE;replace J:=J.o hO;replace M:=M.o hO;replace N:=N.o hO;replace D:=D.o hO;replace Q3:=Sl.off Q3 hO f0;replace G:=G.o hO;clear hO hE;refine LN ?_;go_upto_region 7 with fail;refine Rx 22 ?_;refine Xw ?_ (v:=.pointer (some ⟨R,0+0,none⟩)) (hv:=fun _ _=>rxa Tryz.underlying237 (by omega));refine Xc ?_ (v:=.int .u32 ((Q9 kf4 (Q8 (bt l) 64) h i) 0)) (V2 D) (hj:=ag0 (by omega));refine Xf ?_ (fun W hW=>Y4x ((Q9 kf4 (Q8 (bt l) 64) h i) 0) 2 13 22 (by decide) (by decide) (by decide) W);refine Xw ?_ (v:=.pointer (some ⟨R,0+0,none⟩)) (hv:=fun _ _=>rxa Tryz.underlying237 (by omega));refine Xc ?_ (v:=.int .u32 ((Q9 kf4 (Q8 (bt l) 64) h i) 0)) (V2 D) (hj:=ag0 (by omega));refine Xw ?_ (v:=.pointer (some ⟨R,0+1,none⟩)) (hv:=fun _ _=>rxa Tryz.underlying237 (by omega));refine Xc ?_ (v:=.int .u32 ((Q9 kf4 (Q8 (bt l) 64) h i) 1)) (V2 D) (hj:=ag0 (by omega));refine Xw ?_ (v:=.int .u32 (an4 ((Q9 kf4 (Q8 (bt l) 64) h i) 0) ((Q9 kf4 (Q8 (bt l) 64) h i) 1))) (hv:=fun _ _=>J9c rfl rfl rfl);refine Xw ?_ (v:=.pointer (some ⟨R,0+0,none⟩)) (hv:=fun _ _=>rxa Tryz.underlying237 (by omega));refine Xc ?_ (v:=.int .u32 ((Q9 kf4 (Q8 (bt l) 64) h i) 0)) (V2 D) (hj:=ag0 (by omega));refine Xw ?_ (v:=.pointer (some ⟨R,0+2,none⟩)) (hv:=fun _ _=>rxa Tryz.underlying237 (by omega));refine Xc ?_ (v:=.int .u32 ((Q9 kf4 (Q8 (bt l) 64) h i) 2)) (V2 D) (hj:=ag0 (by omega));refine Xw ?_ (v:=.int .u32 (an4 ((Q9 kf4 (Q8 (bt l) 64) h i) 0) ((Q9 kf4 (Q8 (bt l) 64) h i) 2))) (hv:=fun _ _=>J9c rfl rfl rfl);refine Xw ?_ (v:=.int .u32 (xo4 (an4 ((Q9 kf4 (Q8 (bt l) 64) h i) 0) ((Q9 kf4 (Q8 (bt l) 64) h i) 1)) (an4 ((Q9 kf4 (Q8 (bt l) 64) h i) 0) ((Q9 kf4 (Q8 (bt l) 64) h i) 2)))) (hv:=fun _ _=>J62 rfl rfl rfl);refine Xw ?_ (v:=.pointer (some ⟨R,0+1,none⟩)) (hv:=fun _ _=>rxa Tryz.underlying237 (by omega));refine Xc ?_ (v:=.int .u32 ((Q9 kf4 (Q8 (bt l) 64) h i) 1)) (V2 D) (hj:=ag0 (by omega));refine Xw ?_ (v:=.pointer (some ⟨R,0+2,none⟩)) (hv:=fun _ _=>rxa Tryz.underlying237 (by omega));refine Xc ?_ (v:=.int .u32 ((Q9 kf4 (Q8 (bt l) 64) h i) 2)) (V2 D) (hj:=ag0 (by omega));refine Xw ?_ (v:=.int .u32 (an4 ((Q9 kf4 (Q8 (bt l) 64) h i) 1) ((Q9 kf4 (Q8 (bt l) 64) h i) 2))) (hv:=fun _ _=>J9c rfl rfl rfl);refine Xw ?_ (v:=.int .u32 (xo4 (xo4 (an4 ((Q9 kf4 (Q8 (bt l) 64) h i) 0) ((Q9 kf4 (Q8 (bt l) 64) h i) 1)) (an4 ((Q9 kf4 (Q8 (bt l) 64) h i) 0) ((Q9 kf4 (Q8 (bt l) 64) h i) 2))) (an4 ((Q9 kf4 (Q8 (bt l) 64) h i) 1) ((Q9 kf4 (Q8 (bt l) 64) h i) 2)))) (hv:=fun _ _=>J62 rfl rfl rfl);refine Xw ?_ (v:=.int .u32 (rU4 (Q9 kf4 (Q8 (bt l) 64) h i)));refine Xv ?_;refine K3 fun Z hE=> ?_;have hO:=J0b hE;replace J:=J.o hO;replace M:=M.o hO;replace N:=N.o hO;replace D:=D.o hO;replace Q3:=Sl.off Q3 hO f0;replace G:=G.o hO;clear hO hE;refine LN ?_;go_upto_region 8 with fail;refine wp_region_lit ?_;refine Lv ?_;refine Lv ?_;refine Lw ?_ (v:=.int .u32 (ad4 (rT4 kf4 (Q8 (bt l) 64) i (Q9 kf4 (Q8 (bt l) 64) h i)) (rU4 (Q9 kf4 (Q8 (bt l) 64) h i)))) (hv:=J43 rfl rfl rfl);refine Lw ?_ (v:=.pointer (some ⟨R,0+0,none⟩)) (hv:=rxa Tryz.underlying237 (by omega));refine Lg ?_ D (v:=.int .u32 ((Q9 kf4 (Q8 (bt l) 64) h i) 0)) (hj:=ag0 (by omega));refine Lw ?_ (v:=.pointer (some ⟨R,0+1,none⟩)) (hv:=rxa Tryz.underlying237 (by omega));refine Lg ?_ D (v:=.int .u32 ((Q9 kf4 (Q8 (bt l) 64) h i) 1)) (hj:=ag0 (by omega));refine Lw ?_ (v:=.pointer (some ⟨R,0+2,none⟩)) (hv:=rxa Tryz.underlying237 (by omega));refine Lg ?_ D (v:=.int .u32 ((Q9 kf4 (Q8 (bt l) 64) h i) 2)) (hj:=ag0 (by omega));refine Lw ?_ (v:=.pointer (some ⟨R,0+3,none⟩)) (hv:=rxa Tryz.underlying237 (by omega));refine Lg ?_ D (v:=.int .u32 ((Q9 kf4 (Q8 (bt l) 64) h i) 3)) (hj:=ag0 (by omega));refine Lv ?_;refine Lw ?_ (v:=.int .u32 (ad4 ((Q9 kf4 (Q8 (bt l) 64) h i) 3) (rT4 kf4 (Q8 (bt l) 64) i (Q9 kf4 (Q8 (bt l) 64) h i)))) (hv:=J43 rfl rfl rfl);refine Lw ?_ (v:=.pointer (some ⟨R,0+4,none⟩)) (hv:=rxa Tryz.underlying237 (by omega));refine Lg ?_ D (v:=.int .u32 ((Q9 kf4 (Q8 (bt l) 64) h i) 4)) (hj:=ag0 (by omega));refine Lw ?_ (v:=.pointer (some ⟨R,0+5,none⟩)) (hv:=rxa Tryz.underlying237 (by omega));refine Lg ?_ D (v:=.int .u32 ((Q9 kf4 (Q8 (bt l) 64) h i) 5)) (hj:=ag0 (by omega));refine Lw ?_ (v:=.pointer (some ⟨R,0+6,none⟩)) (hv:=rxa Tryz.underlying237 (by omega));refine Lg ?_ D (v:=.int .u32 ((Q9 kf4 (Q8 (bt l) 64) h i) 6)) (hj:=ag0 (by omega));refine Lw ?_ (v:=.agg (J0 .u32 8 (Q9 kf4 (Q8 (bt l) 64) h (i+1)))) (hv:=by first|rfl|(go_simp;rfl));refine LpA ?_ D (k:=.u32) (n:=8) (f:=Q9 kf4 (Q8 (bt l) 64) h (i+1));intro X hO h_;replace D:Blk X R (J0 .u32 8 (Q9 kf4 (Q8 (bt l) 64) h (i+1))) 237:=h_;clear h_;replace J:=J.p hO S;replace M:=M.p hO κ;replace N:=N.p hO ν;replace Q3:=Sl.off Q3 hO (f1 ξ);replace G:=G.p hO θ;clear hO;refine J2 ?_;go_wp2;go_roundw
   case rel=>exact⟨i+1,by omega,by go_num,G,J,M,N,D,Q3⟩
   case measure=>simp[intOf];omega
  obtain rfl:i=64:=by omega
  go_upto_region 4 with fail;refine wp_region_lit ?_;refine Lw ?_ (v:=.bool false);refine J2 ?_
  go_wp2_with fail
  go_loopw [86] (fun ii wr=> ∃(i:Nat),(i≤8)∧(ii=.int .i64 (i:Int))∧Off [] w wr∧Blk wr Z8 (J0 .u32 8 (mx4 h (Q9 kf4 (Q8 (bt l) 64) h 64) i)) 237∧Blk wr Y (J0 .u32 8 (fun _=>0)) 237∧Blk wr α (J0 .u32 64 (Q8 (bt l) 64)) 285∧Blk wr R (J0 .u32 8 (Q9 kf4 (Q8 (bt l) 64) h 64)) 237∧Sl wr (.slice (some adr) l.length c) l)
   (fun ii _=>8-(intOf ii).toNat)
  case atStart=>exact⟨0,Nat.zero_le _,rfl,G,(by rw[Y50];exact J),M,N,D,Q3⟩
  case round=>
   obtain⟨i,hi,rfl,G,J,M,N,D,Q3⟩:=hrel;obtain⟨W9,γ⟩:=J76 G;subst γ
   by_cases h8:i<8
   ·
    go_upto_region 11 with fail;refine wp_region_lit ?_;refine Lw ?_ (v:=.bool true);refine J2 ?_;go_upto_region 13 with fail;refine Rx 8 ?_;refine Xv ?_;refine Xw ?_ (v:=.pointer (some ⟨Z8,0+i,none⟩)) (hv:=fun _ _=>rxa Tryz.underlying237 (by omega));refine Xc ?_ (v:=.int .u32 ((mx4 h (Q9 kf4 (Q8 (bt l) 64) h 64) i) i)) (V2 J) (hj:=ag0 (by omega));refine Xv ?_;refine Xw ?_ (v:=.pointer (some ⟨R,0+i,none⟩)) (hv:=fun _ _=>rxa Tryz.underlying237 (by omega));refine Xc ?_ (v:=.int .u32 ((Q9 kf4 (Q8 (bt l) 64) h 64) i)) (V2 D) (hj:=ag0 (by omega));refine Xw ?_ (v:=.int .u32 (ad4 ((mx4 h (Q9 kf4 (Q8 (bt l) 64) h 64) i) i) ((Q9 kf4 (Q8 (bt l) 64) h 64) i))) (hv:=fun _ _=>J43 rfl rfl rfl);refine Xw ?_ (v:=.pointer (some ⟨Z8,0+i,none⟩)) (hv:=fun _ _=>rxa Tryz.underlying237 (by omega));refine K3 fun Z hE=> ?_;have hO:=J0b hE;replace J:=J.o hO;replace M:=M.o hO;replace N:=N.o hO;replace D:=D.o hO;replace Q3:=Sl.off Q3 hO f0;replace G:=G.o hO;clear hO hE;refine J1k (v:=.int .u32 (ad4 ((mx4 h (Q9 kf4 (Q8 (bt l) 64) h 64) i) i) ((Q9 kf4 (Q8 (bt l) 64) h 64) i))) ⟨rfl,rfl⟩ (by rfl) rfl rfl rfl J (by rw[J1,Nat.zero_add];omega) (by kernel_rfl) ?_
    (try simp only[Act.put,mA,mB,mC])
    intro X hO h_;rw[Nat.zero_add,X6] at h_;replace J:Blk X Z8 (J0 .u32 8 (upd (mx4 h (Q9 kf4 (Q8 (bt l) 64) h 64) i) i (ad4 ((mx4 h (Q9 kf4 (Q8 (bt l) 64) h 64) i) i) ((Q9 kf4 (Q8 (bt l) 64) h 64) i)))) 237:=h_;clear h_;replace M:=M.p hO U.symm;replace N:=N.p hO V.symm;replace D:=D.p hO S.symm;replace Q3:=Sl.off Q3 hO (f1 μ);replace G:=G.p hO ρ;clear hO;refine LN ?_;go_wp2;go_roundw
    case rel=>exact⟨i+1,by omega,by go_num,G,(by rw[←Y4z];exact J),M,N,D,Q3⟩
    case measure=>simp[intOf];omega
   obtain rfl:i=8:=by omega
   rw[Y9l] at J;go_upto_region 11 with fail;refine wp_region_lit ?_;refine Lw ?_ (v:=.bool false);refine J2 ?_;go_upto_region 15 with fail;refine wp_region_lit ?_;refine L0A ?_ J;refine LpA ?_ M (k:=.u32) (n:=8) (f:=J85 h (bt l));intro Z hO h_;replace M:Blk Z Y (J0 .u32 8 (J85 h (bt l))) 237:=h_;clear h_;replace G:=G.p hO η;clear hO;refine J2 ?_;go_wp2;refine bodyPost_ret (Z0 rfl rfl M (by kernel_rfl) (by rw[J1];kernel_rfl)) rfl ⟨rfl,G.ext⟩
end

section

def zc4 (n:Nat):Nat:=(119-n % 64) % 64
def J2t (l:List UInt8):List UInt8:=l++[128]++List.replicate (zc4 l.length) 0++be8 (8*l.length)
def nb4 (n:Nat):Nat:=(n+1+zc4 n+8) / 64
theorem Q5d (n:Nat):(n+1+zc4 n) % 64=56∧zc4 n<64:=by unfold zc4;omega
theorem V6u {n k:Nat}(h:k<zc4 n):(n+1+k) % 64≠56:=by unfold zc4 at h;omega
theorem Y54 (n:Nat):zc4 (n-64*(n / 64))=zc4 n:=by unfold zc4;omega
theorem Y55 (n:Nat):nb4 (n-64*(n / 64))+n / 64=nb4 n:=by unfold nb4 zc4;omega
theorem Z1a (l:List UInt8):(J2t l).length=64*nb4 l.length:=by
  have h:=Q5d l.length;unfold J2t nb4;simp only[List.length_append,List.length_cons,List.length_nil,List.length_replicate,be8];omega
def Hs4 (P:List UInt8):Nat→Nat→Int
  |0=>hf4
  |j+1=>J85 (Hs4 P j) (bt (P.drop (64*j)))
def ob4 (H:Nat→Int)(j:Nat):Int:=w8 (sr4 (H (j / 4)) (8*(3-j % 4)))
def J8a (H:Nat→Int)(n j:Nat):Int:=if j<n then ob4 H j else 0
theorem Z3i (H:Nat→Int):J8a H 0=fun _=>0:=by funext j;unfold J8a;rw[if_neg (by omega)]
theorem J87 (H:Nat→Int)(i k:Nat)(hk:k<4):upd (J8a H (4*i+k)) (4*i+k) (w8 (sr4 (H i) (8*(3-k))))=J8a H (4*i+(k+1)):=by
  funext j
  unfold upd J8a
  by_cases h:j=4*i+k
  · subst h
    rw[if_pos rfl,if_pos (by omega),ob4,show(4*i+k) / 4=i by omega,show(4*i+k) % 4=k by omega]
  rw[if_neg h]
  by_cases hl:j<4*i+k
  · rw[if_pos hl,if_pos (by omega)]
  rw[if_neg hl,if_neg (by omega)]
theorem Z8l (H:Nat→Int):J0 .u8 32 (J8a H 32)=J0 .u8 32 (ob4 H):=J0f _ _ _ _ fun j hj=>by unfold J8a;rw[if_pos hj]
def sm4 (l:List UInt8):Nat→Int:=ob4 (Hs4 (J2t l) (nb4 l.length))
theorem Q5c (P:List UInt8)(j:Nat):List.drop 64 (List.drop (64*j) P)=List.drop (64*(j+1)) P:=by
  rw[List.drop_drop];congr 1
/-! ### a block's words are of its bytes alone -/
theorem Q5e {a b:Nat→Int}{i:Nat}:∀k,(∀j,j<4*i+k→a j=b j)→Q0m a i k=Q0m b i k
  |0,_=>rfl
  |k+1,h=>by
    show oo4 (sl4 (Q0m a i k) 8) (a (4*i+k))=oo4 (sl4 (Q0m b i k) 8) (b (4*i+k));rw[Q5e k (fun j hj=>h j (by omega)),h (4*i+k) (by omega)]
theorem Q5f {a b:Nat→Int}(h:∀j,j<64→a j=b j):∀i,Q8 a i=Q8 b i
  |0=>rfl
  |i+1=>by
    show upd (Q8 a i) i (if i<16 then Q0m a i 4 else sg4 (Q8 a i) i)=upd (Q8 b i) i (if i<16 then Q0m b i 4 else sg4 (Q8 b i) i);rw[Q5f h i]
    by_cases hi:i<16
    · rw[if_pos hi,if_pos hi,Q5e 4 (fun j hj=>h j (by omega))]
    · rw[if_neg hi,if_neg hi]
theorem Q5b {H a b:Nat→Int}(h:∀j,j<64→a j=b j):J85 H a=J85 H b:=by
  funext j
  unfold J85;rw[Q5f h 64]
theorem Z1d (P:List UInt8)(n m:Nat):bt (P.drop n) m=bt P (n+m):=by
  unfold bt;simp[List.getD_eq_getElem?_getD,List.getElem?_drop]
theorem Q6z {P Q:List UInt8}:∀k,(∀j,j<64*k→bt P j=bt Q j)→Hs4 P k=Hs4 Q k
  |0,_=>rfl
  |k+1,h=>by
    show J85 (Hs4 P k) (bt (P.drop (64*k)))=J85 (Hs4 Q k) (bt (Q.drop (64*k)));rw[Q6z k (fun j hj=>h j (by omega))];exact Q5b fun j hj=>by rw[Z1d,Z1d];exact h _ (by omega)
theorem Y9r {P Q:List UInt8}{j:Nat}(h:j<P.length):bt (P++Q) j=bt P j:=by
  unfold bt;simp[List.getD_eq_getElem?_getD,List.getElem?_append,h]
/-! ### a sum that goes on -/
def hw4 (F:List UInt8):Nat→Int:=Hs4 F (F.length / 64)
def hr4 (F:List UInt8):List UInt8:=F.drop (64*(F.length / 64))
theorem J86 (F:List UInt8):(hr4 F).length=F.length-64*(F.length / 64):=by unfold hr4;rw[List.length_drop]
theorem Z3h (F:List UInt8):(hr4 F).length<64:=by rw[J86];omega
theorem Q2g {F b:List UInt8}:(F++b).drop (64*(F.length / 64))=hr4 F++b:=by
  unfold hr4;rw[List.drop_append_of_le_length (by omega)]
theorem Z6e (F b:List UInt8):hw4 F=Hs4 (F++b) (F.length / 64):=Q6z _ fun j hj=>(Y9r (by omega)).symm
theorem Y53 (F b:List UInt8)(k:Nat):J85 (Hs4 (F++b) (F.length / 64+k)) (bt ((hr4 F++b).drop (64*k)))=Hs4 (F++b) (F.length / 64+(k+1)):=by
  rw[←Q2g,List.drop_drop,←Nat.mul_add];rfl
theorem Y9n {F b:List UInt8}{k:Nat}(h:k=(hr4 F++b).length / 64):Hs4 (F++b) (F.length / 64+k)=hw4 (F++b)∧(hr4 F++b).drop (64*k)=hr4 (F++b):=by
  have e:F.length / 64+k=(F++b).length / 64:=by rw[h,List.length_append,List.length_append,J86];omega
  refine⟨by rw[hw4,e],?_⟩;rw[←Q2g,List.drop_drop,←Nat.mul_add,e];rfl
theorem Z8j (F:List UInt8):(J2t F).drop (64*(F.length / 64))=hr4 F++[128]++List.replicate (zc4 F.length) 0++be8 (8*F.length):=by
  unfold J2t;rw[List.append_assoc,List.append_assoc,Q2g];simp only[List.append_assoc]
theorem Y9p (F:List UInt8):hw4 F=Hs4 (J2t F) (F.length / 64):=by
  unfold J2t;rw[List.append_assoc,List.append_assoc];exact Z6e _ _
theorem Z8k (F:List UInt8)(k:Nat):J85 (Hs4 (J2t F) (F.length / 64+k)) (bt (((J2t F).drop (64*(F.length / 64))).drop (64*k)))=Hs4 (J2t F) (F.length / 64+(k+1)):=by
  rw[List.drop_drop,←Nat.mul_add];rfl
theorem Z1b (F:List UInt8):F.length / 64+nb4 (hr4 F).length=nb4 F.length:=by
  rw[J86,Nat.add_comm];exact Y55 _
end

section

theorem J5g (k:IntKind)(j:Nat)(hj:j≤k.bits)(hk:∀n:Int,0≤n→n<2^j→k.wrap n=n)(a b:Nat)(ha:a<2^j)(hb:b<2^j):bits .xor k a b=((a^^^b:Nat):Int):=by
  have hp:2^j≤2^k.bits:=Nat.pow_le_pow_right (by decide) hj;have ha' :a % 2^k.bits=a:=Nat.mod_eq_of_lt (Nat.lt_of_lt_of_le ha hp);have hb' :b % 2^k.bits=b:=Nat.mod_eq_of_lt (Nat.lt_of_lt_of_le hb hp);simp only[bits,BitVec.ofInt_natCast,BitVec.toNat_xor,BitVec.toNat_ofNat,ha',hb'];exact hk _ (Int.natCast_nonneg _) (by exact_mod_cast Nat.xor_lt_two_pow ha hb)
theorem K2l (n:Int)(h0:0≤n)(h1:n<2^63):IntKind.i64.wrap n=n:=by rw[IntKind.wrap_i64];omega
section
variable {a b : Nat}
end
def W4 (x:Int):Prop:=0≤x∧x<4294967296
variable {x y : Int}
end

section
set_option maxHeartbeats 1500000
attribute [local irreducible] wpList

abbrev hc8 (H:Nat→Int)(v n:Value):Array Value:=J0 .u32 8 H++ #[v,n]
section
variable {H K : Nat → Int} {v n x : Value}
theorem Q8x:(hc8 H v n).size=10:=by simp[J1]
theorem Z15:∀i u,(J0 .u32 8 H)[i]?=some u→(hc8 H v n)[0+i]?=some u:=fun i u h=>by
  have hi:i<(J0 .u32 8 H).size:=by
    rcases Nat.lt_or_ge i (J0 .u32 8 H).size with h1|h1
    · exact h1
    · rw[Array.getElem?_eq_none h1] at h;cases h
  rw[Nat.zero_add,Array.getElem?_append_left hi];exact h
theorem Q3n:(hc8 H v n)[8]?=some v:=by rw[Array.getElem?_append_right (by rw[J1];decide),J1];rfl
theorem J44:(hc8 H v n)[9]?=some n:=by rw[Array.getElem?_append_right (by rw[J1];decide),J1];rfl
theorem Z3g:(hc8 H v n).setIfInBounds 8 x=hc8 H x n:=by
  apply Array.toList_inj.1;simp[J0]
theorem Z16:(hc8 H v n).setIfInBounds 9 x=hc8 H v x:=by
  apply Array.toList_inj.1;simp[J0]
theorem Z17:spl (hc8 H v n) 0 (J0 .u32 8 K).toList=hc8 K v n:=by
  first|kernel_rfl|rfl|(apply Array.toList_inj.1;simp[spl,J0,List.range,List.range.loop])
end
abbrev hcs (v:Value)(F:List UInt8):Array Value:=hc8 (hw4 F) v (.int .i64 (F.length:Int))
def Hsh (w:World)(p:Nat)(v:Value)(F:List UInt8):Prop:=Blk w p (hcs v F) 239∧Own w v (hr4 F)∧v.ownBlock≠some p

theorem Z9u (w:World)(hG:GS4 w):
  Calls Tryz.prog 95 #[] w fun e w' => ∃p,e=.returned (.pointer (some ⟨p,0,none⟩))∧w.heap.size≤p∧Off [] w w' ∧Hsh w' p (.slice none 0 0) []:=by
 have HG:=Lib.hid hG;clear hG;have D:Off [] w w:=Off.refl _ _
 go_enter Tryz.func95,Tryz.ntmps95
 go_upto_region 1 with fail;refine wp_region_lit ?_;refine Z4s (by rfl) rfl rfl ((J23 HG.out D.ext).2) (by kernel_rfl) (by rw[J1];kernel_rfl) ?_
 (try simp only[Act.put,mA,mB,mC])
 refine Lw ?_ (v:=.agg (hcs (.slice none 0 0) [])) (hv:=by first|rfl|(go_simp;rfl)|kernel_rfl);refine Ln ?_ (z:=hcs (.slice none 0 0) []) (t:=239);intro M W1 G hO h_;have N:=fbn D G;replace D:=D.o hO;have J:=h_;clear hO h_ G;refine Lv ?_;refine J2 ?_;go_wp2;exact bodyPost_ret (v:=.pointer (some ⟨M,0,none⟩)) (by simp only[results,Tryz.results95];go_simp) rfl ⟨_,rfl,Nat.le_of_not_lt (fun h_=>by simpa using N h_),D,J,Q1a _,fun e_=>by cases e_⟩
end
end Go.Proofs.YtlkbneflnjmgbaaGreatDoor

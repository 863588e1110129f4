/- Contracts and plain laws for directPuts_holds. Conditions: the tables hold their numbers. -/
import Derived.Test.YteehbddkcnkhfaaGreatDoorJ14
open Go.RowKit
set_option maxRecDepth 100000
set_option linter.unusedSimpArgs false
set_option linter.unusedVariables false
namespace Go.Proofs.YteehbddkcnkhfaaGreatDoor.S8.Sc
set_option maxHeartbeats 2000000

end Go.Proofs.YteehbddkcnkhfaaGreatDoor.S8.Sc

namespace Go.Proofs.YteehbddkcnkhfaaGreatDoor.S8
set_option maxHeartbeats 1500000
attribute [local irreducible] wpList Y8 wpX
end Go.Proofs.YteehbddkcnkhfaaGreatDoor.S8

namespace Go.Proofs.YteehbddkcnkhfaaGreatDoor
section
variable {ops : Array Oper} {Q : Exit → Act → World → Prop} {w : World} {r : List Oper} {o : Oper} {a a' : Act} {F : List Nat} {H H' : List As} {k : Wk}
end
end Go.Proofs.YteehbddkcnkhfaaGreatDoor

namespace Go.Proofs.YteehbddkcnkhfaaGreatDoor.S8
section
set_option maxHeartbeats 1500000
attribute [local irreducible] wpList Y8 wpX
end

section
set_option maxHeartbeats 1500000
attribute [local irreducible] wpList Y8 wpX
abbrev T3:=Nat×Nat×Nat
def qc (s:T3):Array Value:=p3 s.1 s.2.1 s.2.2
end

section
set_option maxHeartbeats 1500000
attribute [local irreducible] wpList Y8 wpX

end

section
set_option maxHeartbeats 1500000
attribute [local irreducible] wpList Y8 wpX

end

section
set_option maxHeartbeats 1000000
attribute [local irreducible] wpList Y8 wpX
open Sc (LL J0v)
variable {kn : Kn}
section
variable {w : World} {o : Oper} {a : Act} {x y : Operand} {t : TypeId}
end
end

section
attribute [local irreducible] wpList
variable {kn : Kn}
open Sc (LL J0v)
end
end Go.Proofs.YteehbddkcnkhfaaGreatDoor.S8

namespace Go.Proofs.YteehbddkcnkhfaaGreatDoor
section

def xo4 (p q:Int):Int:=bits .xor .u32 p q
def an4 (p q:Int):Int:=bits .and .u32 p q
def oo4 (p q:Int):Int:=bits .or .u32 p q
def nt4 (p:Int):Int:=bits .xor .u32 4294967295 p
def ad4 (p q:Int):Int:=IntKind.wrap .u32 (p+q)
def sl4 (p:Int)(n:Nat):Int:=IntKind.wrap .u32 (p*2^n)
def sr4 (p:Int)(n:Nat):Int:=p / 2^n
def rt4 (p:Int)(n:Nat):Int:=oo4 (sr4 p n) (sl4 p (32-n))
theorem Y45 (p q:Int):oo4 p q=oo4 q p:=by unfold oo4;simp only[bits,BitVec.or_comm]
section
variable {P : Program} {w : World} {o : Oper} {a : Act} {x y : Operand} {t t' : TypeId} {p q : Int}
theorem J65 (ho:o.op=.binOp .xor t x y t')(hx:a.eval x=.int .u32 p)(hy:a.eval y=.int .u32 q):(execOp a.eval o).run P w=.ok (.value (.int .u32 (xo4 p q))) w:=by
  simp only[execOp,ho,hx,hy];rfl
theorem J9a (ho:o.op=.binOp .and t x y t')(hx:a.eval x=.int .u32 p)(hy:a.eval y=.int .u32 q):(execOp a.eval o).run P w=.ok (.value (.int .u32 (an4 p q))) w:=by
  simp only[execOp,ho,hx,hy];rfl
theorem Z64 (ho:o.op=.binOp .or t x y t')(hx:a.eval x=.int .u32 p)(hy:a.eval y=.int .u32 q):(execOp a.eval o).run P w=.ok (.value (.int .u32 (oo4 p q))) w:=by
  simp only[execOp,ho,hx,hy];rfl
theorem J48 (ho:o.op=.binOp .add t x y t')(hx:a.eval x=.int .u32 p)(hy:a.eval y=.int .u32 q):(execOp a.eval o).run P w=.ok (.value (.int .u32 (ad4 p q))) w:=by
  simp only[execOp,ho,hx,hy];rfl
theorem Y49 (ho:o.op=.unOp .xor t x)(hx:a.eval x=.int .u32 p):(execOp a.eval o).run P w=.ok (.value (.int .u32 (nt4 p))) w:=by
  simp only[execOp,ho,hx];rfl
theorem Z0u {k:IntKind}{n:Nat}(hn:n≤32)(ho:o.op=.binOp .shl t x y t')(hx:a.eval x=.int .u32 p)(hy:a.eval y=.int k (n:Int)):(execOp a.eval o).run P w=.ok (.value (.int .u32 (sl4 p n))) w:=by
  have h:min ((n:Int)).toNat IntKind.u32.bits=n:=by rw[Int.toNat_natCast];exact Nat.min_eq_left hn
  simp only[execOp,ho,hx,hy,eqGuard,binOp,Sem.run_bind];simp[Op.shift,h,sl4,go_sem,Sem.run_bind]
theorem J99 {k:IntKind}{n:Nat}(hn:n≤32)(ho:o.op=.binOp .shr t x y t')(hx:a.eval x=.int .u32 p)(hy:a.eval y=.int k (n:Int)):(execOp a.eval o).run P w=.ok (.value (.int .u32 (sr4 p n))) w:=by
  have h:min ((n:Int)).toNat IntKind.u32.bits=n:=by rw[Int.toNat_natCast];exact Nat.min_eq_left hn
  simp only[execOp,ho,hx,hy,eqGuard,binOp,Sem.run_bind];simp[Op.shift,h,sr4,go_sem,Sem.run_bind]
end
end

section
set_option maxHeartbeats 1500000
attribute [local irreducible] wpList

theorem K1h (n:Nat)(h1:1≤n)(h2:n≤31):bits .and .u64 (18446744073709551616-(n:Int)) 31=((32-n:Nat):Int):=by
  obtain⟨m,hm⟩:∃m:Nat,m=18446744073709551616-n:=⟨_,rfl⟩
  have e:(18446744073709551616-(n:Int))=(m:Int):=by omega
  have D:(BitVec.ofInt 64 31).toNat=2^5-1:=by decide
  have G:(BitVec.ofInt 64 (m:Int) &&& BitVec.ofInt 64 31).toNat=m % 2^5:=by
    rw[BitVec.toNat_and,BitVec.toNat_ofInt,D,Nat.and_two_pow_sub_one_eq_mod];omega
  rw[e];show IntKind.u64.wrap ((BitVec.ofInt 64 (m:Int) &&& BitVec.ofInt 64 31).toNat:Nat)=_;rw[G,IntKind.wrap_u64];omega
def J2l (p:Int)(a b c:Nat):Int:=xo4 (xo4 (rt4 p a) (rt4 p b)) (sr4 p c)
def Q2y (p:Int)(a b c:Nat):Int:=xo4 (xo4 (rt4 p a) (rt4 p b)) (rt4 p c)

theorem Y8f (p:Int)(n:Nat)(h1:1≤n)(h2:n≤31)(w:World):
  Calls Tryz.prog 212 #[.int .u32 p,.int .i64 (-(n:Int))] w fun e w' =>K7 (.int .u32 (rt4 p n)) w w' e:=by
 have n0:(1:Int)≤(n:Int):=by omega
 have n1:(n:Int)≤31:=by omega
 have ha:=K1h n h1 h2;have D:Off [] w w:=Off.refl _ _
 go_enter Tryz.func212,Tryz.ntmps212
 go_upto_region 1 with fail;refine wp_region_lit ?_;refine Lv ?_;refine Lw ?_ (v:=.int .u64 (18446744073709551616-(n:Int))) (hv:=by go_simp;(try simp only[IntKind.wrap_u64,IntKind.wrap_i64]);(try omega));refine Lw ?_ (v:=.int .u64 (((32-n:Nat):Int))) (hv:=by first|(go_simp;done)|(go_simp;(try rw[ha]);(try omega)));refine Lv ?_;refine J5 ?_;go_upto_region 2 with fail;refine wp_region_lit ?_;refine Lv ?_;refine Lv ?_;refine Lw ?_ (v:=.int .u32 (sl4 p (32-n))) (hv:=Z0u (n:=(32-n)) (by omega) rfl rfl rfl);refine Lv ?_;refine Lv ?_;refine Lw ?_ (v:=.int .u64 ((n:Int))) (hv:=by go_simp;(try simp only[IntKind.wrap_u64,IntKind.wrap_i64]);(try omega));refine Lw ?_ (v:=.int .u32 (sr4 p n)) (hv:=J99 (n:=n) (by omega) rfl rfl rfl);refine Lw ?_ (v:=.int .u32 (oo4 (sl4 p (32-n)) (sr4 p n))) (hv:=Z64 rfl rfl rfl);refine Lv ?_;refine J5 ?_;go_wp2;exact bodyPost_ret (v:=.int .u32 (oo4 (sl4 p (32-n)) (sr4 p n))) (by simp only[results,Tryz.results212];go_simp) rfl ⟨congrArg (fun z=>Ending.returned (.int .u32 z)) (Y45 _ _),D.ext⟩
theorem Q1n (p:Int)(n:Nat)(h1:1≤n)(h2:n≤31)(w:World):
  Calls Tryz.prog 210 #[.int .u32 p,.int .i64 (n:Int)] w fun e w' =>K7 (.int .u32 (rt4 p n)) w w' e:=by
 have n0:(1:Int)≤(n:Int):=by omega
 have n1:(n:Int)≤31:=by omega
 have D:Off [] w w:=Off.refl _ _
 go_enter Tryz.func210,Tryz.ntmps210
 go_upto_region 1 with fail;refine wp_region_lit ?_;refine Lv ?_;refine Lv ?_;refine Lw ?_ (v:=.int .i64 (-(n:Int))) (hv:=by go_simp;(try simp only[IntKind.wrap_u64,IntKind.wrap_i64]);(try omega));refine Lr ?_ (Y8f p n h1 h2 w);intro W1 hO;replace D:=D.o hO;clear hO;refine Lv ?_;refine J5 ?_;go_wp2;exact bodyPost_ret (v:=.int .u32 (rt4 p n)) (by simp only[results,Tryz.results210];go_simp) rfl ⟨rfl,D.ext⟩
theorem Y46 (p:Int)(a b c:Nat)(ha:1≤a∧a≤31)(hb:1≤b∧b≤31)(hc:1≤c∧c≤31)(w:World):
  Calls Tryz.prog 195 #[.int .u32 p,.int .i64 (a:Int),.int .i64 (b:Int),.int .i64 (c:Int)] w fun e w' =>K7 (.int .u32 (Q2y p a b c)) w w' e:=by
 have D:Off [] w w:=Off.refl _ _
 go_enter Tryz.func195,Tryz.ntmps195
 go_upto_region 1 with fail;refine wp_region_lit ?_;refine Lv ?_;refine Lv ?_;refine Lr ?_ (Q1n p a (by omega) (by omega) w);intro W1 hO;replace D:=D.o hO;clear hO;refine Lv ?_;refine Lv ?_;refine Lr ?_ (Q1n p b (by omega) (by omega) W1);intro W2 hO;replace D:=D.o hO;clear hO;refine Lw ?_ (v:=.int .u32 (xo4 (rt4 p a) (rt4 p b))) (hv:=J65 rfl rfl rfl);refine Lv ?_;refine Lv ?_;refine Lr ?_ (Q1n p c (by omega) (by omega) W2);intro W3 hO;replace D:=D.o hO;clear hO;refine Lw ?_ (v:=.int .u32 (xo4 (xo4 (rt4 p a) (rt4 p b)) (rt4 p c))) (hv:=J65 rfl rfl rfl);refine Lv ?_;refine J5 ?_;go_wp2;exact bodyPost_ret (v:=.int .u32 (xo4 (xo4 (rt4 p a) (rt4 p b)) (rt4 p c))) (by simp only[results,Tryz.results195];go_simp) rfl ⟨rfl,D.ext⟩
theorem Z0v (p:Int)(a b c:Nat)(ha:1≤a∧a≤31)(hb:1≤b∧b≤31)(hc:1≤c∧c≤31)(w:World):
  Calls Tryz.prog 209 #[.int .u32 p,.int .i64 (a:Int),.int .i64 (b:Int),.int .i64 (c:Int)] w fun e w' =>K7 (.int .u32 (J2l p a b c)) w w' e:=by
 have D:Off [] w w:=Off.refl _ _
 go_enter Tryz.func209,Tryz.ntmps209
 go_upto_region 1 with fail;refine Rx 12 ?_;refine Xv ?_;refine Xv ?_;refine Xf ?_ (fun W hW=>Q1n p a (by omega) (by omega) W);refine Xv ?_;refine Xv ?_;refine Xf ?_ (fun W hW=>Q1n p b (by omega) (by omega) W);refine Xw ?_ (v:=.int .u32 (xo4 (rt4 p a) (rt4 p b))) (hv:=fun _ _=>J65 rfl rfl rfl);refine Xv ?_;refine Xv ?_;refine Xw ?_ (v:=.int .u32 (sr4 p c)) (hv:=fun _ _=>J99 (n:=c) (by omega) rfl rfl rfl);refine Xw ?_ (v:=.int .u32 (xo4 (xo4 (rt4 p a) (rt4 p b)) (sr4 p c))) (hv:=fun _ _=>J65 rfl rfl rfl);refine Xv ?_;refine K4 fun W1 hE=> ?_;have hO:=J08 hE;replace D:=D.o hO;clear hO hE;refine LN ?_;go_wp2;exact bodyPost_ret (v:=.int .u32 (xo4 (xo4 (rt4 p a) (rt4 p b)) (sr4 p c))) (by simp only[results,Tryz.results209];go_simp) rfl ⟨rfl,D.ext⟩
end

section
set_option maxHeartbeats 1500000
attribute [local irreducible] wpList

theorem Y8g {w:World}{o:Oper}{a:Act}{x:Operand}{c:UInt8}(ho:o.op=.convert 5 270 x)(hx:a.eval x=.int .u8 (c.toNat:Int)):(execOp a.eval o).run Tryz.prog w=.ok (.value (.int .u32 (c.toNat:Int))) w:=by
  have hc:=c.toNat_lt;have hw:IntKind.wrap .u32 (c.toNat:Int)=(c.toNat:Int):=by rw[IntKind.wrap_u32];omega
  simp[execOp,ho,hx,convert,run_underlying Tryz.underlying5,run_underlying Tryz.underlying270,Sem.run_bind,Conv.intToInt,hw]
theorem Z85 {w:World}{o:Oper}{a:Act}{x y:Operand}{adr:Addr}{n c:Nat}(hl:64≤n)(hn:n≤c)(ho:o.op=.slice 22 x none (some y) none)(hx:a.eval x=.slice (some adr) n c)(hy:a.eval y=.int .i64 64):(execOp a.eval o).run Tryz.prog w=.ok (.value (.slice (some adr) 64 c)) w:=by
  have G:64≤c:=by omega
  have J:¬c=0:=by omega
  have h1:=J9s;have D:adr.add 0=adr:=by unfold Addr.add;simp
  cases hq:Tryz.prog.info? 5 with
  |none=>simp[hq] at h1
  |some i=>simp[execOp,ho,hx,hy,Instr.sliceAt,Instr.slice,Instr.sliceBounds,Instr.sliceBound,asIntOf,run_underlying Tryz.underlying22,Sem.run_bind,sizeOf,typeInfo,hq,G,J,D];intro h_;omega
def J40 (b:Nat→Int)(i:Nat):Nat→Int
  |0=>0
  |k+1=>oo4 (sl4 (J40 b i k) 8) (b (4*i+k))
def sg4 (f:Nat→Int)(i:Nat):Int:=ad4 (ad4 (ad4 (f (i-16)) (J2l (f (i-15)) 7 18 3)) (f (i-7))) (J2l (f (i-2)) 17 19 10)
def Q2 (b:Nat→Int):Nat→Nat→Int
  |0=>fun _=>0
  |i+1=>upd (Q2 b i) i (if i<16 then J40 b i 4 else sg4 (Q2 b i) i)
theorem Z65 {b:Nat→Int}{i:Nat}(h:16≤i):upd (Q2 b i) i (sg4 (Q2 b i) i)=Q2 b (i+1):=by
  show _=upd (Q2 b i) i (if i<16 then J40 b i 4 else sg4 (Q2 b i) i);rw[if_neg (by omega)]
theorem Z66 (b:Nat→Int):∀i,i≤16→∀j,Q2 b i j=if j<i then J40 b j 4 else 0
  |0,_,j=>by simp[Q2]
  |i+1,h,j=>by
    show upd (Q2 b i) i (if i<16 then J40 b i 4 else sg4 (Q2 b i) i) j=_;rw[if_pos (by omega)];unfold upd
    by_cases hj:j=i
    · rw[if_pos hj,if_pos (by omega),hj]
    · rw[if_neg hj,Z66 b i (by omega) j]
      by_cases hl:j<i
      · rw[if_pos hl,if_pos (by omega)]
      · rw[if_neg hl,if_neg (by omega)]
def J81 (b:Nat→Int)(n j:Nat):Int:=if j<n / 4 then J40 b j 4 else if j=n / 4 then J40 b j (n % 4) else 0
theorem Z86 (b:Nat→Int)(n:Nat):upd (J81 b n) (n / 4) (oo4 (sl4 (J81 b n (n / 4)) 8) (b n))=J81 b (n+1):=by
  funext j
  have e:J81 b n (n / 4)=J40 b (n / 4) (n % 4):=by unfold J81;rw[if_neg (by omega),if_pos rfl]
  have hb:b n=b (4*(n / 4)+n % 4):=by rw[Nat.div_add_mod]
  rw[e,hb];show(if j=n / 4 then J40 b (n / 4) (n % 4+1) else J81 b n j)=J81 b (n+1) j;unfold J81
  by_cases hm:n % 4=3
  · have h1:(n+1) / 4=n / 4+1:=by omega
    have h2:(n+1) % 4=0:=by omega
    rw[h1,h2,hm]
    by_cases hj:j=n / 4
    · rw[if_pos hj,if_pos (by omega),hj]
    rw[if_neg hj]
    by_cases hl:j<n / 4
    · rw[if_pos hl,if_pos (by omega)]
    rw[if_neg hl,if_neg hj,if_neg (by omega)]
    split
    · rfl
    rfl
  have h1:(n+1) / 4=n / 4:=by omega
  have h2:(n+1) % 4=n % 4+1:=by omega
  rw[h1,h2]
  by_cases hj:j=n / 4
  · rw[if_pos hj,if_neg (by omega),if_pos hj,hj]
  rw[if_neg hj]
  by_cases hl:j<n / 4
  · rw[if_pos hl,if_pos hl]
  rw[if_neg hl,if_neg hj,if_neg hl,if_neg hj]
theorem Y47 (b:Nat→Int):J81 b 64=Q2 b 16:=by
  funext j
  rw[Z66 b 16 (Nat.le_refl _) j];unfold J81
  by_cases h:j<16
  · rw[if_pos (by omega),if_pos h]
  rw[if_neg (by omega),if_neg h]
  split
  · rename_i h2;rw[show 64 % 4=0 by rfl];rfl
  rfl
theorem Z87 (b:Nat→Int):J81 b 0=fun _=>0:=by
  funext j
  unfold J81;rw[if_neg (by omega)]
  split<;>rfl

theorem Z88 (l:List UInt8)(adr:Addr)(c:Nat)(hl:64≤l.length)(hc:l.length≤c)(w:World)(hs:Sl w (.slice (some adr) l.length c) l):
  Calls Tryz.prog 194 #[.slice (some adr) l.length c] w fun e w' =>K7 (.agg (J0 .u32 64 (Q2 (bt l) 64))) w w' e:=by
 have Q8:=hs;have D:Off [] w w:=Off.refl _ _
 go_enter Tryz.func194,Tryz.ntmps194
 go_upto_region 0 with fail;refine wp_region_lit ?_;refine Ln ?_ (z:=J0 .u32 64 (fun _=>0)) (t:=295);intro V5 W1 V hO h_;have Z:=fbn D V;replace Q8:=Sl.off Q8 hO f0;replace D:=D.o hO;have J:=h_;clear hO h_ V;refine J5 ?_;go_upto_region 1 with fail;refine wp_region_lit ?_;refine Ln ?_ (z:=J0 .u32 64 (fun _=>0)) (t:=295);intro M W2 N hO h_;have X:=bn J N;have U:=J4h (Sl.lt Q8) N;have Y:=fbn D N;replace J:=J.o hO;replace Q8:=Sl.off Q8 hO f0;replace D:=D.o hO;have G:=h_;clear hO h_ N;refine J5 ?_;go_upto_region 2 with fail;refine wp_region_lit ?_;refine Lv ?_;refine Lw ?_ (v:=.slice (some adr) 64 c) (hv:=Z85 hl hc rfl rfl rfl);refine Lw ?_ (v:=.int .i64 64);refine Lw ?_ (v:=.int .i64 0);refine J5 ?_
 go_wp2_with fail
 go_loopw [9] (fun ii wr=> ∃(n:Nat),(n≤64)∧(ii=.int .i64 (n:Int))∧Off [] w wr∧Blk wr V5 (J0 .u32 64 (fun _=>0)) 295∧Blk wr M (J0 .u32 64 (J81 (bt l) n)) 295∧Sl wr (.slice (some adr) l.length c) l)
  (fun ii _=>64-(intOf ii).toNat)
 case atStart=>exact⟨0,Nat.zero_le _,rfl,D,J,(by rw[Z87];exact G),Q8⟩
 case round=>
  obtain⟨n,hn,rfl,D,J,G,Q8⟩:=hrel;obtain⟨W3,R⟩:=J74 D;subst R
  by_cases S:n<64
  ·
   go_upto_region 3 with fail;refine wp_region_lit ?_;refine Lw ?_ (v:=.bool true);refine J5 ?_;go_upto_region 5 with fail;refine Rx 14 ?_;refine Xv ?_;refine Xw ?_ (v:=.int .i64 (((n / 4:Nat):Int))) (hv:=fun _ _=>by go_simp;(try simp only[IntKind.wrap_u64,IntKind.wrap_i64]);(try omega));refine Xv ?_;refine Xw ?_ (v:=.int .i64 (((n / 4:Nat):Int))) (hv:=fun _ _=>by go_simp;(try simp only[IntKind.wrap_u64,IntKind.wrap_i64]);(try omega));refine Xw ?_ (v:=.pointer (some ⟨M,0+(n / 4),none⟩)) (hv:=fun _ _=>rxa Tryz.underlying295 (by omega));refine Xc ?_ (v:=.int .u32 ((J81 (bt l) n) (n / 4))) (V6 G) (hj:=ag0 (by omega));refine Xw ?_ (v:=.int .u32 (sl4 ((J81 (bt l) n) (n / 4)) 8)) (hv:=fun _ _=>Z0u (n:=8) (by decide) rfl rfl rfl);refine Xv ?_;refine Xv ?_;refine Xw ?_ (v:=.pointer (some (adr.add n))) (hv:=fun W hW=>Q0w (j:=n) (by omega) rfl rfl rfl);refine Y16 (by rfl) rfl rfl (fun W hW=>J12 (Q4q Q8 (J2k (by omega))) hW) (by kernel_rfl) ?_
   (try simp only[Act.put,mA,mB,mC])
   refine Xw ?_ (v:=.int .u32 (bt l n)) (hv:=fun _ _=>by exact Y8g rfl rfl);refine Xw ?_ (v:=.int .u32 (oo4 (sl4 ((J81 (bt l) n) (n / 4)) 8) (bt l n))) (hv:=fun _ _=>Z64 rfl rfl rfl);refine Xw ?_ (v:=.pointer (some ⟨M,0+(n / 4),none⟩)) (hv:=fun _ _=>rxa Tryz.underlying295 (by omega));refine K4 fun W4 hE=> ?_;have hO:=J08 hE;replace J:=J.o hO;replace G:=G.o hO;replace Q8:=Sl.off Q8 hO f0;replace D:=D.o hO;clear hO hE;refine J44 (v:=.int .u32 (oo4 (sl4 ((J81 (bt l) n) (n / 4)) 8) (bt l n))) ⟨rfl,rfl⟩ (by rfl) rfl rfl rfl G (by rw[J1,Nat.zero_add];omega) (by kernel_rfl) ?_
   (try simp only[Act.put,mA,mB,mC])
   intro W5 hO h_;rw[Nat.zero_add,V8] at h_;replace G:Blk W5 M (J0 .u32 64 (upd (J81 (bt l) n) (n / 4) (oo4 (sl4 ((J81 (bt l) n) (n / 4)) 8) (bt l n)))) 295:=h_;clear h_;replace J:=J.p hO X;replace Q8:=Sl.off Q8 hO (f1 U);replace D:=D.p hO Y;clear hO;refine LN ?_;go_wp2;go_roundw
   case rel=>exact⟨n+1,by omega,by go_num,D,J,(by rw[←Z86];exact G),Q8⟩
   case measure=>simp[intOf];omega
  obtain rfl:n=64:=by omega
  rw[Y47] at G;go_upto_region 3 with fail;refine wp_region_lit ?_;refine Lw ?_ (v:=.bool false);refine J5 ?_
  go_wp2_with fail
  go_loopw [5] (fun ii wr=> ∃(i:Nat),(16≤i∧i≤64)∧(ii=.int .i64 (i:Int))∧Off [] w wr∧Blk wr V5 (J0 .u32 64 (fun _=>0)) 295∧Blk wr M (J0 .u32 64 (Q2 (bt l) i)) 295∧Sl wr (.slice (some adr) l.length c) l)
   (fun ii _=>64-(intOf ii).toNat)
  case atStart=>exact⟨16,⟨Nat.le_refl _,by decide⟩,rfl,D,J,G,Q8⟩
  case round=>
   obtain⟨i,⟨hi,α⟩,rfl,D,J,G,Q8⟩:=hrel;obtain⟨W4,R⟩:=J74 D;subst R
   by_cases T:i<64
   ·
    go_upto_region 8 with fail;refine wp_region_lit ?_;refine Lv ?_;refine Lw ?_ (v:=.bool true);refine J5 ?_;go_upto_region 10 with fail;refine Rx 23 ?_;refine Xv ?_;refine Xv ?_;refine Xw ?_ (v:=.int .i64 (((i-16:Nat):Int))) (hv:=fun _ _=>by go_simp;(try simp only[IntKind.wrap_u64,IntKind.wrap_i64]);(try omega));refine Xw ?_ (v:=.pointer (some ⟨M,0+(i-16),none⟩)) (hv:=fun _ _=>rxa Tryz.underlying295 (by omega));refine Xc ?_ (v:=.int .u32 ((Q2 (bt l) i) (i-16))) (V6 G) (hj:=ag0 (by omega));refine Xv ?_;refine Xw ?_ (v:=.int .i64 (((i-15:Nat):Int))) (hv:=fun _ _=>by go_simp;(try simp only[IntKind.wrap_u64,IntKind.wrap_i64]);(try omega));refine Xw ?_ (v:=.pointer (some ⟨M,0+(i-15),none⟩)) (hv:=fun _ _=>rxa Tryz.underlying295 (by omega));refine Xc ?_ (v:=.int .u32 ((Q2 (bt l) i) (i-15))) (V6 G) (hj:=ag0 (by omega));refine Xf ?_ (fun W hW=>Z0v ((Q2 (bt l) i) (i-15)) 7 18 3 (by decide) (by decide) (by decide) W);refine Xw ?_ (v:=.int .u32 (ad4 ((Q2 (bt l) i) (i-16)) (J2l ((Q2 (bt l) i) (i-15)) 7 18 3))) (hv:=fun _ _=>J48 rfl rfl rfl);refine Xv ?_;refine Xw ?_ (v:=.int .i64 (((i-7:Nat):Int))) (hv:=fun _ _=>by go_simp;(try simp only[IntKind.wrap_u64,IntKind.wrap_i64]);(try omega));refine Xw ?_ (v:=.pointer (some ⟨M,0+(i-7),none⟩)) (hv:=fun _ _=>rxa Tryz.underlying295 (by omega));refine Xc ?_ (v:=.int .u32 ((Q2 (bt l) i) (i-7))) (V6 G) (hj:=ag0 (by omega));refine Xw ?_ (v:=.int .u32 (ad4 (ad4 ((Q2 (bt l) i) (i-16)) (J2l ((Q2 (bt l) i) (i-15)) 7 18 3)) ((Q2 (bt l) i) (i-7)))) (hv:=fun _ _=>J48 rfl rfl rfl);refine Xv ?_;refine Xw ?_ (v:=.int .i64 (((i-2:Nat):Int))) (hv:=fun _ _=>by go_simp;(try simp only[IntKind.wrap_u64,IntKind.wrap_i64]);(try omega));refine Xw ?_ (v:=.pointer (some ⟨M,0+(i-2),none⟩)) (hv:=fun _ _=>rxa Tryz.underlying295 (by omega));refine Xc ?_ (v:=.int .u32 ((Q2 (bt l) i) (i-2))) (V6 G) (hj:=ag0 (by omega));refine Xf ?_ (fun W hW=>Z0v ((Q2 (bt l) i) (i-2)) 17 19 10 (by decide) (by decide) (by decide) W);refine Xw ?_ (v:=.int .u32 (ad4 (ad4 (ad4 ((Q2 (bt l) i) (i-16)) (J2l ((Q2 (bt l) i) (i-15)) 7 18 3)) ((Q2 (bt l) i) (i-7))) (J2l ((Q2 (bt l) i) (i-2)) 17 19 10))) (hv:=fun _ _=>J48 rfl rfl rfl);refine Xw ?_ (v:=.pointer (some ⟨M,0+i,none⟩)) (hv:=fun _ _=>rxa Tryz.underlying295 (by omega));refine K4 fun W5 hE=> ?_;have hO:=J08 hE;replace J:=J.o hO;replace G:=G.o hO;replace Q8:=Sl.off Q8 hO f0;replace D:=D.o hO;clear hO hE;refine J44 (v:=.int .u32 (ad4 (ad4 (ad4 ((Q2 (bt l) i) (i-16)) (J2l ((Q2 (bt l) i) (i-15)) 7 18 3)) ((Q2 (bt l) i) (i-7))) (J2l ((Q2 (bt l) i) (i-2)) 17 19 10))) ⟨rfl,rfl⟩ (by rfl) rfl rfl rfl G (by rw[J1,Nat.zero_add];omega) (by kernel_rfl) ?_
    (try simp only[Act.put,mA,mB,mC])
    intro W6 hO h_;rw[Nat.zero_add,V8] at h_;replace G:Blk W6 M (J0 .u32 64 (upd (Q2 (bt l) i) i (ad4 (ad4 (ad4 ((Q2 (bt l) i) (i-16)) (J2l ((Q2 (bt l) i) (i-15)) 7 18 3)) ((Q2 (bt l) i) (i-7))) (J2l ((Q2 (bt l) i) (i-2)) 17 19 10)))) 295:=h_;clear h_;replace J:=J.p hO X;replace Q8:=Sl.off Q8 hO (f1 U);replace D:=D.p hO Y;clear hO;refine LN ?_;go_wp2;go_roundw
    case rel=>exact⟨i+1,⟨by omega,by omega⟩,by go_num,D,J,(by rw[←Z65 hi];exact G),Q8⟩
    case measure=>simp[intOf];omega
   obtain rfl:i=64:=by omega
   go_upto_region 8 with fail;refine wp_region_lit ?_;refine Lv ?_;refine Lw ?_ (v:=.bool false);refine J5 ?_;go_upto_region 11 with fail;refine wp_region_lit ?_;refine L0A ?_ G;refine LpA ?_ J (k:=.u32) (n:=64) (f:=Q2 (bt l) 64);intro W5 hO h_;replace J:Blk W5 V5 (J0 .u32 64 (Q2 (bt l) 64)) 295:=h_;clear h_;replace D:=D.p hO Z;clear hO;refine J5 ?_;go_wp2;refine bodyPost_ret (Z7 rfl rfl J (by kernel_rfl) (by rw[J1];kernel_rfl)) rfl ⟨rfl,D.ext⟩
end

section
set_option maxHeartbeats 1500000
attribute [local irreducible] wpList

def kk4:List Int:=[1116352408,1899447441,3049323471,3921009573,961987163,1508970993,2453635748,2870763221,3624381080,310598401,607225278,1426881987,1925078388,2162078206,2614888103,3248222580,3835390401,4022224774,264347078,604807628,770255983,1249150122,1555081692,1996064986,2554220882,2821834349,2952996808,3210313671,3336571891,3584528711,113926993,338241895,666307205,773529912,1294757372,1396182291,1695183700,1986661051,2177026350,2456956037,2730485921,2820302411,3259730800,3345764771,3516065817,3600352804,4094571909,275423344,430227734,506948616,659060556,883997877,958139571,1322822218,1537002063,1747873779,1955562222,2024104815,2227730452,2361852424,2428436474,2756734187,3204031479,3329325298]
def hh4:List Int:=[1779033703,3144134277,1013904242,2773480762,1359893119,2600822924,528734635,1541459225]
def U0 (i:Nat):Int:=kk4.getD i 0
def hf4 (i:Nat):Int:=hh4.getD i 0
def GS4 (w:World):Prop:=Rd w 14 (J0 .u32 64 U0)∧Rd w 11 (J0 .u32 8 hf4)
theorem J1u {w W:World}(h:GS4 w)(e:Ext w W):GS4 W:=⟨h.1.ext e,h.2.ext e⟩
def rT4 (k w:Nat→Int)(i:Nat)(v:Nat→Int):Int:=ad4 (ad4 (ad4 (ad4 (v 7) (Q2y (v 4) 6 11 25)) (xo4 (an4 (v 4) (v 5)) (an4 (nt4 (v 4)) (v 6)))) (k i)) (w i)
def rU4 (v:Nat→Int):Int:=ad4 (Q2y (v 0) 2 13 22) (xo4 (xo4 (an4 (v 0) (v 1)) (an4 (v 0) (v 2))) (an4 (v 1) (v 2)))
def Z1d (k w:Nat→Int)(i:Nat)(v:Nat→Int):Nat→Int
  |0=>ad4 (rT4 k w i v) (rU4 v)
  |1=>v 0
  |2=>v 1
  |3=>v 2
  |4=>ad4 (v 3) (rT4 k w i v)
  |5=>v 4
  |6=>v 5
  |7=>v 6
  |_=>0
def Q3 (k w v:Nat→Int):Nat→Nat→Int
  |0=>v
  |i+1=>Z1d k w i (Q3 k w v i)
def J6y (h b:Nat→Int)(j:Nat):Int:=ad4 (h j) (Q3 U0 (Q2 b 64) h 64 j)
def mx4 (h v:Nat→Int)(i j:Nat):Int:=if j<i then ad4 (h j) (v j) else h j
theorem Z0w (h v:Nat→Int)(i:Nat):upd (mx4 h v i) i (ad4 (mx4 h v i i) (v i))=mx4 h v (i+1):=by
  funext j
  unfold upd mx4
  by_cases hj:j=i
  · subst hj;rw[if_pos rfl,if_neg (by omega),if_pos (by omega)]
  rw[if_neg hj]
  by_cases hl:j<i
  · rw[if_pos hl,if_pos (by omega)]
  rw[if_neg hl,if_neg (by omega)]
theorem Z0x (h v:Nat→Int):mx4 h v 0=h:=by funext j;unfold mx4;rw[if_neg (by omega)]
theorem Y8h (h b:Nat→Int):J0 .u32 8 (mx4 h (Q3 U0 (Q2 b 64) h 64) 8)=J0 .u32 8 (J6y h b):=X8 _ _ _ _ fun j hj=>by unfold mx4 J6y;rw[if_pos hj]

theorem Y48 (h:Nat→Int)(l:List UInt8)(adr:Addr)(c:Nat)(hl:64≤l.length)(hlc:l.length≤c)(w:World)(hs:Sl w (.slice (some adr) l.length c) l)(hG:GS4 w):
  Calls Tryz.prog 168 #[.agg (J0 .u32 8 h),.slice (some adr) l.length c] w fun e w' =>K7 (.agg (J0 .u32 8 (J6y h (bt l)))) w w' e:=by
 have HG:=Lib.hid hG;clear hG;have Q8:=hs;have G:Off [] w w:=Off.refl _ _
 go_enter Tryz.func168,Tryz.ntmps168
 go_upto_region 0 with fail;refine wp_region_lit ?_;refine Ln ?_ (z:=J0 .u32 8 h) (t:=271);intro V5 W1 β hO h_;have θ:=J4h (Sl.lt Q8) β;have ρ:=fbn G β;replace Q8:=Sl.off Q8 hO f0;replace G:=G.o hO;have J:=h_;clear hO h_ β;refine Ln ?_ (z:=J0 .u32 8 (fun _=>0)) (t:=271);intro γ W2 α hO h_;have V:=bn J α;have μ:=fbn G α;replace J:=J.o hO;replace Q8:=Sl.off Q8 hO f0;replace G:=G.o hO;have M:=h_;clear hO h_ α;refine J5 ?_;go_upto_region 1 with fail;refine wp_region_lit ?_;refine Lv ?_;refine Lr ?_ (Z88 l adr c hl hlc W2 Q8);intro W3 hO;replace J:=J.o hO;replace M:=M.o hO;replace Q8:=Sl.off Q8 hO f0;replace G:=G.o hO;clear hO;refine LnA ?_ (z:=J0 .u32 64 (fun _=>0)) (t:=295) (k:=.u32) (n:=64) (f:=Q2 (bt l) 64);intro Z W5 ε hO h_;have U:=bn J ε;replace J:=J.o hO;replace M:=M.o hO;replace Q8:=Sl.off Q8 hO f0;replace G:=G.o hO;have N:=h_;clear hO h_ ε;refine J5 ?_;go_upto_region 2 with fail;refine wp_region_lit ?_;refine L0A ?_ J;refine LnA ?_ (z:=J0 .u32 8 (fun _=>0)) (t:=271) (k:=.u32) (n:=8) (f:=h);intro R W7 T hO h_;have S:=bn J T;have κ:=bn M T;have ν:=bn N T;have η:=J4h (Sl.lt Q8) T;have ξ:=fbn G T;replace J:=J.o hO;replace M:=M.o hO;replace N:=N.o hO;replace Q8:=Sl.off Q8 hO f0;replace G:=G.o hO;have D:=h_;clear hO h_ T;refine J5 ?_
 go_wp2_with fail
 go_loopw [14] (fun ii wr=> ∃(i:Nat),(i≤64)∧(ii=.int .i64 (i:Int))∧Off [] w wr∧Blk wr V5 (J0 .u32 8 h) 271∧Blk wr γ (J0 .u32 8 (fun _=>0)) 271∧Blk wr Z (J0 .u32 64 (Q2 (bt l) 64)) 295∧Blk wr R (J0 .u32 8 (Q3 U0 (Q2 (bt l) 64) h i)) 271∧Sl wr (.slice (some adr) l.length c) l)
  (fun ii _=>64-(intOf ii).toNat)
 case atStart=>exact⟨0,Nat.zero_le _,rfl,G,J,M,N,D,Q8⟩
 case round=>
  obtain⟨i,hi,rfl,G,J,M,N,D,Q8⟩:=hrel;obtain⟨W8,X⟩:=J74 G;subst X
  by_cases ζ:i<64
  ·
   go_upto_region 4 with fail;refine wp_region_lit ?_;refine Lw ?_ (v:=.bool true);refine J5 ?_;go_upto_region 6 with fail;refine Rx 28 ?_;refine Xw ?_ (v:=.pointer (some ⟨R,0+7,none⟩)) (hv:=fun _ _=>rxa Tryz.underlying271 (by omega));refine Xc ?_ (v:=.int .u32 ((Q3 U0 (Q2 (bt l) 64) h i) 7)) (V6 D) (hj:=ag0 (by omega));refine Xw ?_ (v:=.pointer (some ⟨R,0+4,none⟩)) (hv:=fun _ _=>rxa Tryz.underlying271 (by omega));refine Xc ?_ (v:=.int .u32 ((Q3 U0 (Q2 (bt l) 64) h i) 4)) (V6 D) (hj:=ag0 (by omega));refine Xf ?_ (fun W hW=>Y46 ((Q3 U0 (Q2 (bt l) 64) h i) 4) 6 11 25 (by decide) (by decide) (by decide) W);refine Xw ?_ (v:=.int .u32 (ad4 ((Q3 U0 (Q2 (bt l) 64) h i) 7) (Q2y ((Q3 U0 (Q2 (bt l) 64) h i) 4) 6 11 25))) (hv:=fun _ _=>J48 rfl rfl rfl);refine Xw ?_ (v:=.pointer (some ⟨R,0+4,none⟩)) (hv:=fun _ _=>rxa Tryz.underlying271 (by omega));refine Xc ?_ (v:=.int .u32 ((Q3 U0 (Q2 (bt l) 64) h i) 4)) (V6 D) (hj:=ag0 (by omega));refine Xw ?_ (v:=.pointer (some ⟨R,0+5,none⟩)) (hv:=fun _ _=>rxa Tryz.underlying271 (by omega));refine Xc ?_ (v:=.int .u32 ((Q3 U0 (Q2 (bt l) 64) h i) 5)) (V6 D) (hj:=ag0 (by omega));refine Xw ?_ (v:=.int .u32 (an4 ((Q3 U0 (Q2 (bt l) 64) h i) 4) ((Q3 U0 (Q2 (bt l) 64) h i) 5))) (hv:=fun _ _=>J9a rfl rfl rfl);refine Xw ?_ (v:=.pointer (some ⟨R,0+4,none⟩)) (hv:=fun _ _=>rxa Tryz.underlying271 (by omega));refine Xc ?_ (v:=.int .u32 ((Q3 U0 (Q2 (bt l) 64) h i) 4)) (V6 D) (hj:=ag0 (by omega));refine Xw ?_ (v:=.int .u32 (nt4 ((Q3 U0 (Q2 (bt l) 64) h i) 4))) (hv:=fun _ _=>Y49 rfl rfl);refine Xw ?_ (v:=.pointer (some ⟨R,0+6,none⟩)) (hv:=fun _ _=>rxa Tryz.underlying271 (by omega));refine Xc ?_ (v:=.int .u32 ((Q3 U0 (Q2 (bt l) 64) h i) 6)) (V6 D) (hj:=ag0 (by omega));refine Xw ?_ (v:=.int .u32 (an4 (nt4 ((Q3 U0 (Q2 (bt l) 64) h i) 4)) ((Q3 U0 (Q2 (bt l) 64) h i) 6))) (hv:=fun _ _=>J9a rfl rfl rfl);refine Xw ?_ (v:=.int .u32 (xo4 (an4 ((Q3 U0 (Q2 (bt l) 64) h i) 4) ((Q3 U0 (Q2 (bt l) 64) h i) 5)) (an4 (nt4 ((Q3 U0 (Q2 (bt l) 64) h i) 4)) ((Q3 U0 (Q2 (bt l) 64) h i) 6)))) (hv:=fun _ _=>J65 rfl rfl rfl);refine Xw ?_ (v:=.int .u32 (ad4 (ad4 ((Q3 U0 (Q2 (bt l) 64) h i) 7) (Q2y ((Q3 U0 (Q2 (bt l) 64) h i) 4) 6 11 25)) (xo4 (an4 ((Q3 U0 (Q2 (bt l) 64) h i) 4) ((Q3 U0 (Q2 (bt l) 64) h i) 5)) (an4 (nt4 ((Q3 U0 (Q2 (bt l) 64) h i) 4)) ((Q3 U0 (Q2 (bt l) 64) h i) 6))))) (hv:=fun _ _=>J48 rfl rfl rfl);refine Xv ?_;refine Xw ?_ (v:=.pointer (some ⟨14,0+i,none⟩)) (hv:=fun _ _=>rxa Tryz.underlying295 (by omega));refine Xc ?_ (v:=.int .u32 (U0 i)) ((J1u HG.out G.ext).1) (hj:=ag0 (by omega));refine Xw ?_ (v:=.int .u32 (ad4 (ad4 (ad4 ((Q3 U0 (Q2 (bt l) 64) h i) 7) (Q2y ((Q3 U0 (Q2 (bt l) 64) h i) 4) 6 11 25)) (xo4 (an4 ((Q3 U0 (Q2 (bt l) 64) h i) 4) ((Q3 U0 (Q2 (bt l) 64) h i) 5)) (an4 (nt4 ((Q3 U0 (Q2 (bt l) 64) h i) 4)) ((Q3 U0 (Q2 (bt l) 64) h i) 6)))) (U0 i))) (hv:=fun _ _=>J48 rfl rfl rfl);refine Xv ?_;refine Xw ?_ (v:=.pointer (some ⟨Z,0+i,none⟩)) (hv:=fun _ _=>rxa Tryz.underlying295 (by omega));refine Xc ?_ (v:=.int .u32 ((Q2 (bt l) 64) i)) (V6 N) (hj:=ag0 (by omega));refine Xw ?_ (v:=.int .u32 (rT4 U0 (Q2 (bt l) 64) i (Q3 U0 (Q2 (bt l) 64) h i)));refine Xv ?_;refine K4 fun W9 hE=> ?_;have hO:=J08 hE;replace J:=J.o hO;replace M:=M.o hO;replace N:=N.o hO;replace D:=D.o hO;replace Q8:=Sl.off Q8 hO f0;replace G:=G.o hO;clear hO hE;refine LN ?_;go_upto_region 7 with fail;refine Rx 22 ?_;refine Xw ?_ (v:=.pointer (some ⟨R,0+0,none⟩)) (hv:=fun _ _=>rxa Tryz.underlying271 (by omega));refine Xc ?_ (v:=.int .u32 ((Q3 U0 (Q2 (bt l) 64) h i) 0)) (V6 D) (hj:=ag0 (by omega));refine Xf ?_ (fun W hW=>Y46 ((Q3 U0 (Q2 (bt l) 64) h i) 0) 2 13 22 (by decide) (by decide) (by decide) W);refine Xw ?_ (v:=.pointer (some ⟨R,0+0,none⟩)) (hv:=fun _ _=>rxa Tryz.underlying271 (by omega));refine Xc ?_ (v:=.int .u32 ((Q3 U0 (Q2 (bt l) 64) h i) 0)) (V6 D) (hj:=ag0 (by omega));refine Xw ?_ (v:=.pointer (some ⟨R,0+1,none⟩)) (hv:=fun _ _=>rxa Tryz.underlying271 (by omega));refine Xc ?_ (v:=.int .u32 ((Q3 U0 (Q2 (bt l) 64) h i) 1)) (V6 D) (hj:=ag0 (by omega));refine Xw ?_ (v:=.int .u32 (an4 ((Q3 U0 (Q2 (bt l) 64) h i) 0) ((Q3 U0 (Q2 (bt l) 64) h i) 1))) (hv:=fun _ _=>J9a rfl rfl rfl);refine Xw ?_ (v:=.pointer (some ⟨R,0+0,none⟩)) (hv:=fun _ _=>rxa Tryz.underlying271 (by omega));refine Xc ?_ (v:=.int .u32 ((Q3 U0 (Q2 (bt l) 64) h i) 0)) (V6 D) (hj:=ag0 (by omega));refine Xw ?_ (v:=.pointer (some ⟨R,0+2,none⟩)) (hv:=fun _ _=>rxa Tryz.underlying271 (by omega));refine Xc ?_ (v:=.int .u32 ((Q3 U0 (Q2 (bt l) 64) h i) 2)) (V6 D) (hj:=ag0 (by omega));refine Xw ?_ (v:=.int .u32 (an4 ((Q3 U0 (Q2 (bt l) 64) h i) 0) ((Q3 U0 (Q2 (bt l) 64) h i) 2))) (hv:=fun _ _=>J9a rfl rfl rfl);refine Xw ?_ (v:=.int .u32 (xo4 (an4 ((Q3 U0 (Q2 (bt l) 64) h i) 0) ((Q3 U0 (Q2 (bt l) 64) h i) 1)) (an4 ((Q3 U0 (Q2 (bt l) 64) h i) 0) ((Q3 U0 (Q2 (bt l) 64) h i) 2)))) (hv:=fun _ _=>J65 rfl rfl rfl);refine Xw ?_ (v:=.pointer (some ⟨R,0+1,none⟩)) (hv:=fun _ _=>rxa Tryz.underlying271 (by omega));refine Xc ?_ (v:=.int .u32 ((Q3 U0 (Q2 (bt l) 64) h i) 1)) (V6 D) (hj:=ag0 (by omega));refine Xw ?_ (v:=.pointer (some ⟨R,0+2,none⟩)) (hv:=fun _ _=>rxa Tryz.underlying271 (by omega));refine Xc ?_ (v:=.int .u32 ((Q3 U0 (Q2 (bt l) 64) h i) 2)) (V6 D) (hj:=ag0 (by omega));refine Xw ?_ (v:=.int .u32 (an4 ((Q3 U0 (Q2 (bt l) 64) h i) 1) ((Q3 U0 (Q2 (bt l) 64) h i) 2))) (hv:=fun _ _=>J9a rfl rfl rfl);refine Xw ?_ (v:=.int .u32 (xo4 (xo4 (an4 ((Q3 U0 (Q2 (bt l) 64) h i) 0) ((Q3 U0 (Q2 (bt l) 64) h i) 1)) (an4 ((Q3 U0 (Q2 (bt l) 64) h i) 0) ((Q3 U0 (Q2 (bt l) 64) h i) 2))) (an4 ((Q3 U0 (Q2 (bt l) 64) h i) 1) ((Q3 U0 (Q2 (bt l) 64) h i) 2)))) (hv:=fun _ _=>J65 rfl rfl rfl);refine Xw ?_ (v:=.int .u32 (rU4 (Q3 U0 (Q2 (bt l) 64) h i)));refine Xv ?_;refine K4 fun δ hE=> ?_;have hO:=J08 hE;replace J:=J.o hO;replace M:=M.o hO;replace N:=N.o hO;replace D:=D.o hO;replace Q8:=Sl.off Q8 hO f0;replace G:=G.o hO;clear hO hE;refine LN ?_;go_upto_region 8 with fail;refine wp_region_lit ?_;refine Lv ?_;refine Lv ?_;refine Lw ?_ (v:=.int .u32 (ad4 (rT4 U0 (Q2 (bt l) 64) i (Q3 U0 (Q2 (bt l) 64) h i)) (rU4 (Q3 U0 (Q2 (bt l) 64) h i)))) (hv:=J48 rfl rfl rfl);refine Lw ?_ (v:=.pointer (some ⟨R,0+0,none⟩)) (hv:=rxa Tryz.underlying271 (by omega));refine Lg ?_ D (v:=.int .u32 ((Q3 U0 (Q2 (bt l) 64) h i) 0)) (hj:=ag0 (by omega));refine Lw ?_ (v:=.pointer (some ⟨R,0+1,none⟩)) (hv:=rxa Tryz.underlying271 (by omega));refine Lg ?_ D (v:=.int .u32 ((Q3 U0 (Q2 (bt l) 64) h i) 1)) (hj:=ag0 (by omega));refine Lw ?_ (v:=.pointer (some ⟨R,0+2,none⟩)) (hv:=rxa Tryz.underlying271 (by omega));refine Lg ?_ D (v:=.int .u32 ((Q3 U0 (Q2 (bt l) 64) h i) 2)) (hj:=ag0 (by omega));refine Lw ?_ (v:=.pointer (some ⟨R,0+3,none⟩)) (hv:=rxa Tryz.underlying271 (by omega));refine Lg ?_ D (v:=.int .u32 ((Q3 U0 (Q2 (bt l) 64) h i) 3)) (hj:=ag0 (by omega));refine Lv ?_;refine Lw ?_ (v:=.int .u32 (ad4 ((Q3 U0 (Q2 (bt l) 64) h i) 3) (rT4 U0 (Q2 (bt l) 64) i (Q3 U0 (Q2 (bt l) 64) h i)))) (hv:=J48 rfl rfl rfl);refine Lw ?_ (v:=.pointer (some ⟨R,0+4,none⟩)) (hv:=rxa Tryz.underlying271 (by omega));refine Lg ?_ D (v:=.int .u32 ((Q3 U0 (Q2 (bt l) 64) h i) 4)) (hj:=ag0 (by omega));refine Lw ?_ (v:=.pointer (some ⟨R,0+5,none⟩)) (hv:=rxa Tryz.underlying271 (by omega));refine Lg ?_ D (v:=.int .u32 ((Q3 U0 (Q2 (bt l) 64) h i) 5)) (hj:=ag0 (by omega));refine Lw ?_ (v:=.pointer (some ⟨R,0+6,none⟩)) (hv:=rxa Tryz.underlying271 (by omega));refine Lg ?_ D (v:=.int .u32 ((Q3 U0 (Q2 (bt l) 64) h i) 6)) (hj:=ag0 (by omega));refine Lw ?_ (v:=.agg (J0 .u32 8 (Q3 U0 (Q2 (bt l) 64) h (i+1)))) (hv:=by first|rfl|(go_simp;rfl));refine LpA ?_ D (k:=.u32) (n:=8) (f:=Q3 U0 (Q2 (bt l) 64) h (i+1));intro Y hO h_;replace D:Blk Y R (J0 .u32 8 (Q3 U0 (Q2 (bt l) 64) h (i+1))) 271:=h_;clear h_;replace J:=J.p hO S;replace M:=M.p hO κ;replace N:=N.p hO ν;replace Q8:=Sl.off Q8 hO (f1 η);replace G:=G.p hO ξ;clear hO;refine J5 ?_;go_wp2;go_roundw
   case rel=>exact⟨i+1,by omega,by go_num,G,J,M,N,D,Q8⟩
   case measure=>simp[intOf];omega
  obtain rfl:i=64:=by omega
  go_upto_region 4 with fail;refine wp_region_lit ?_;refine Lw ?_ (v:=.bool false);refine J5 ?_
  go_wp2_with fail
  go_loopw [86] (fun ii wr=> ∃(i:Nat),(i≤8)∧(ii=.int .i64 (i:Int))∧Off [] w wr∧Blk wr V5 (J0 .u32 8 (mx4 h (Q3 U0 (Q2 (bt l) 64) h 64) i)) 271∧Blk wr γ (J0 .u32 8 (fun _=>0)) 271∧Blk wr Z (J0 .u32 64 (Q2 (bt l) 64)) 295∧Blk wr R (J0 .u32 8 (Q3 U0 (Q2 (bt l) 64) h 64)) 271∧Sl wr (.slice (some adr) l.length c) l)
   (fun ii _=>8-(intOf ii).toNat)
  case atStart=>exact⟨0,Nat.zero_le _,rfl,G,(by rw[Z0x];exact J),M,N,D,Q8⟩
  case round=>
   obtain⟨i,hi,rfl,G,J,M,N,D,Q8⟩:=hrel;obtain⟨W9,X⟩:=J74 G;subst X
   by_cases h8:i<8
   ·
    go_upto_region 11 with fail;refine wp_region_lit ?_;refine Lw ?_ (v:=.bool true);refine J5 ?_;go_upto_region 13 with fail;refine Rx 8 ?_;refine Xv ?_;refine Xw ?_ (v:=.pointer (some ⟨V5,0+i,none⟩)) (hv:=fun _ _=>rxa Tryz.underlying271 (by omega));refine Xc ?_ (v:=.int .u32 ((mx4 h (Q3 U0 (Q2 (bt l) 64) h 64) i) i)) (V6 J) (hj:=ag0 (by omega));refine Xv ?_;refine Xw ?_ (v:=.pointer (some ⟨R,0+i,none⟩)) (hv:=fun _ _=>rxa Tryz.underlying271 (by omega));refine Xc ?_ (v:=.int .u32 ((Q3 U0 (Q2 (bt l) 64) h 64) i)) (V6 D) (hj:=ag0 (by omega));refine Xw ?_ (v:=.int .u32 (ad4 ((mx4 h (Q3 U0 (Q2 (bt l) 64) h 64) i) i) ((Q3 U0 (Q2 (bt l) 64) h 64) i))) (hv:=fun _ _=>J48 rfl rfl rfl);refine Xw ?_ (v:=.pointer (some ⟨V5,0+i,none⟩)) (hv:=fun _ _=>rxa Tryz.underlying271 (by omega));refine K4 fun δ hE=> ?_;have hO:=J08 hE;replace J:=J.o hO;replace M:=M.o hO;replace N:=N.o hO;replace D:=D.o hO;replace Q8:=Sl.off Q8 hO f0;replace G:=G.o hO;clear hO hE;refine J44 (v:=.int .u32 (ad4 ((mx4 h (Q3 U0 (Q2 (bt l) 64) h 64) i) i) ((Q3 U0 (Q2 (bt l) 64) h 64) i))) ⟨rfl,rfl⟩ (by rfl) rfl rfl rfl J (by rw[J1,Nat.zero_add];omega) (by kernel_rfl) ?_
    (try simp only[Act.put,mA,mB,mC])
    intro Y hO h_;rw[Nat.zero_add,V8] at h_;replace J:Blk Y V5 (J0 .u32 8 (upd (mx4 h (Q3 U0 (Q2 (bt l) 64) h 64) i) i (ad4 ((mx4 h (Q3 U0 (Q2 (bt l) 64) h 64) i) i) ((Q3 U0 (Q2 (bt l) 64) h 64) i)))) 271:=h_;clear h_;replace M:=M.p hO V.symm;replace N:=N.p hO U.symm;replace D:=D.p hO S.symm;replace Q8:=Sl.off Q8 hO (f1 θ);replace G:=G.p hO ρ;clear hO;refine LN ?_;go_wp2;go_roundw
    case rel=>exact⟨i+1,by omega,by go_num,G,(by rw[←Z0w];exact J),M,N,D,Q8⟩
    case measure=>simp[intOf];omega
   obtain rfl:i=8:=by omega
   rw[Y8h] at J;go_upto_region 11 with fail;refine wp_region_lit ?_;refine Lw ?_ (v:=.bool false);refine J5 ?_;go_upto_region 15 with fail;refine wp_region_lit ?_;refine L0A ?_ J;refine LpA ?_ M (k:=.u32) (n:=8) (f:=J6y h (bt l));intro δ hO h_;replace M:Blk δ γ (J0 .u32 8 (J6y h (bt l))) 271:=h_;clear h_;replace G:=G.p hO μ;clear hO;refine J5 ?_;go_wp2;refine bodyPost_ret (Z7 rfl rfl M (by kernel_rfl) (by rw[J1];kernel_rfl)) rfl ⟨rfl,G.ext⟩
end

section

def zc4 (n:Nat):Nat:=(119-n % 64) % 64
def J0e (l:List UInt8):List UInt8:=l++[128]++List.replicate (zc4 l.length) 0++be8 (8*l.length)
def nb4 (n:Nat):Nat:=(n+1+zc4 n+8) / 64
theorem J9c (n:Nat):(n+1+zc4 n) % 64=56∧zc4 n<64:=by unfold zc4;omega
theorem Y4c {n k:Nat}(h:k<zc4 n):(n+1+k) % 64≠56:=by unfold zc4 at h;omega
theorem Y4b (n:Nat):zc4 (n-64*(n / 64))=zc4 n:=by unfold zc4;omega
theorem Y4d (n:Nat):nb4 (n-64*(n / 64))+n / 64=nb4 n:=by unfold nb4 zc4;omega
theorem Q2w (l:List UInt8):(J0e l).length=64*nb4 l.length:=by
  have h:=J9c l.length;unfold J0e nb4;simp only[List.length_append,List.length_cons,List.length_nil,List.length_replicate,be8];omega
def Hs4 (P:List UInt8):Nat→Nat→Int
  |0=>hf4
  |j+1=>J6y (Hs4 P j) (bt (P.drop (64*j)))
def ob4 (H:Nat→Int)(j:Nat):Int:=w8 (sr4 (H (j / 4)) (8*(3-j % 4)))
def J87 (H:Nat→Int)(n j:Nat):Int:=if j<n then ob4 H j else 0
theorem Z3c (H:Nat→Int):J87 H 0=fun _=>0:=by funext j;unfold J87;rw[if_neg (by omega)]
theorem J83 (H:Nat→Int)(i k:Nat)(hk:k<4):upd (J87 H (4*i+k)) (4*i+k) (w8 (sr4 (H i) (8*(3-k))))=J87 H (4*i+(k+1)):=by
  funext j
  unfold upd J87
  by_cases h:j=4*i+k
  · subst h
    rw[if_pos rfl,if_pos (by omega),ob4,show(4*i+k) / 4=i by omega,show(4*i+k) % 4=k by omega]
  rw[if_neg h]
  by_cases hl:j<4*i+k
  · rw[if_pos hl,if_pos (by omega)]
  rw[if_neg hl,if_neg (by omega)]
theorem Z8c (H:Nat→Int):J0 .u8 32 (J87 H 32)=J0 .u8 32 (ob4 H):=X8 _ _ _ _ fun j hj=>by unfold J87;rw[if_pos hj]
def sm4 (l:List UInt8):Nat→Int:=ob4 (Hs4 (J0e l) (nb4 l.length))
theorem Q5j (P:List UInt8)(j:Nat):List.drop 64 (List.drop (64*j) P)=List.drop (64*(j+1)) P:=by
  rw[List.drop_drop];congr 1
/-! ### a block's words are of its bytes alone -/
theorem Q5m {a b:Nat→Int}{i:Nat}:∀k,(∀j,j<4*i+k→a j=b j)→J40 a i k=J40 b i k
  |0,_=>rfl
  |k+1,h=>by
    show oo4 (sl4 (J40 a i k) 8) (a (4*i+k))=oo4 (sl4 (J40 b i k) 8) (b (4*i+k));rw[Q5m k (fun j hj=>h j (by omega)),h (4*i+k) (by omega)]
theorem Q5n {a b:Nat→Int}(h:∀j,j<64→a j=b j):∀i,Q2 a i=Q2 b i
  |0=>rfl
  |i+1=>by
    show upd (Q2 a i) i (if i<16 then J40 a i 4 else sg4 (Q2 a i) i)=upd (Q2 b i) i (if i<16 then J40 b i 4 else sg4 (Q2 b i) i);rw[Q5n h i]
    by_cases hi:i<16
    · rw[if_pos hi,if_pos hi,Q5m 4 (fun j hj=>h j (by omega))]
    · rw[if_neg hi,if_neg hi]
theorem Q5i {H a b:Nat→Int}(h:∀j,j<64→a j=b j):J6y H a=J6y H b:=by
  funext j
  unfold J6y;rw[Q5n h 64]
theorem J7h (P:List UInt8)(n m:Nat):bt (P.drop n) m=bt P (n+m):=by
  unfold bt;simp[List.getD_eq_getElem?_getD,List.getElem?_drop]
theorem Q70 {P Q:List UInt8}:∀k,(∀j,j<64*k→bt P j=bt Q j)→Hs4 P k=Hs4 Q k
  |0,_=>rfl
  |k+1,h=>by
    show J6y (Hs4 P k) (bt (P.drop (64*k)))=J6y (Hs4 Q k) (bt (Q.drop (64*k)));rw[Q70 k (fun j hj=>h j (by omega))];exact Q5i fun j hj=>by rw[J7h,J7h];exact h _ (by omega)
theorem Y8r {P Q:List UInt8}{j:Nat}(h:j<P.length):bt (P++Q) j=bt P j:=by
  unfold bt;simp[List.getD_eq_getElem?_getD,List.getElem?_append,h]
/-! ### a sum that goes on -/
def hw4 (F:List UInt8):Nat→Int:=Hs4 F (F.length / 64)
def hr4 (F:List UInt8):List UInt8:=F.drop (64*(F.length / 64))
theorem J82 (F:List UInt8):(hr4 F).length=F.length-64*(F.length / 64):=by unfold hr4;rw[List.length_drop]
theorem Z3b (F:List UInt8):(hr4 F).length<64:=by rw[J82];omega
theorem Q2h {F b:List UInt8}:(F++b).drop (64*(F.length / 64))=hr4 F++b:=by
  unfold hr4;rw[List.drop_append_of_le_length (by omega)]
theorem Z67 (F b:List UInt8):hw4 F=Hs4 (F++b) (F.length / 64):=Q70 _ fun j hj=>(Y8r (by omega)).symm
theorem Y4a (F b:List UInt8)(k:Nat):J6y (Hs4 (F++b) (F.length / 64+k)) (bt ((hr4 F++b).drop (64*k)))=Hs4 (F++b) (F.length / 64+(k+1)):=by
  rw[←Q2h,List.drop_drop,←Nat.mul_add];rfl
theorem Y8j {F b:List UInt8}{k:Nat}(h:k=(hr4 F++b).length / 64):Hs4 (F++b) (F.length / 64+k)=hw4 (F++b)∧(hr4 F++b).drop (64*k)=hr4 (F++b):=by
  have e:F.length / 64+k=(F++b).length / 64:=by rw[h,List.length_append,List.length_append,J82];omega
  refine⟨by rw[hw4,e],?_⟩;rw[←Q2h,List.drop_drop,←Nat.mul_add,e];rfl
theorem Z8a (F:List UInt8):(J0e F).drop (64*(F.length / 64))=hr4 F++[128]++List.replicate (zc4 F.length) 0++be8 (8*F.length):=by
  unfold J0e;rw[List.append_assoc,List.append_assoc,Q2h];simp only[List.append_assoc]
theorem Y8l (F:List UInt8):hw4 F=Hs4 (J0e F) (F.length / 64):=by
  unfold J0e;rw[List.append_assoc,List.append_assoc];exact Z67 _ _
theorem Z8b (F:List UInt8)(k:Nat):J6y (Hs4 (J0e F) (F.length / 64+k)) (bt (((J0e F).drop (64*(F.length / 64))).drop (64*k)))=Hs4 (J0e F) (F.length / 64+(k+1)):=by
  rw[List.drop_drop,←Nat.mul_add];rfl
theorem Z13 (F:List UInt8):F.length / 64+nb4 (hr4 F).length=nb4 F.length:=by
  rw[J82,Nat.add_comm];exact Y4d _
end

section

theorem J31 (k:IntKind)(j:Nat)(hj:j≤k.bits)(hk:∀n:Int,0≤n→n<2^j→k.wrap n=n)(a b:Nat)(ha:a<2^j)(hb:b<2^j):bits .xor k a b=((a^^^b:Nat):Int):=by
  have hp:2^j≤2^k.bits:=Nat.pow_le_pow_right (by decide) hj;have ha' :a % 2^k.bits=a:=Nat.mod_eq_of_lt (Nat.lt_of_lt_of_le ha hp);have hb' :b % 2^k.bits=b:=Nat.mod_eq_of_lt (Nat.lt_of_lt_of_le hb hp);simp only[bits,BitVec.ofInt_natCast,BitVec.toNat_xor,BitVec.toNat_ofNat,ha',hb'];exact hk _ (Int.natCast_nonneg _) (by exact_mod_cast Nat.xor_lt_two_pow ha hb)
theorem V17 (n:Int)(h0:0≤n)(h1:n<2^32):IntKind.u32.wrap n=n:=by rw[IntKind.wrap_u32];omega
theorem Z1c (n:Int)(h0:0≤n)(h1:n<2^63):IntKind.i64.wrap n=n:=by rw[IntKind.wrap_i64];omega
section
variable {a b : Nat}
theorem Y92 (ha:a<2^32)(hb:b<2^32):an4 a b=((a &&& b:Nat):Int):=(bits_nat .u32 32 (by decide) V17 a b ha hb).1
theorem V18 (ha:a<2^32)(hb:b<2^32):oo4 a b=((a |||b:Nat):Int):=(bits_nat .u32 32 (by decide) V17 a b ha hb).2
theorem Y93 (ha:a<2^32)(hb:b<2^32):xo4 a b=((a^^^b:Nat):Int):=J31 .u32 32 (by decide) V17 a b ha hb
theorem V6u (ha:a<2^63)(hb:b<2^63):bits .and .i64 a b=((a &&& b:Nat):Int):=(bits_nat .i64 63 (by decide) Z1c a b ha hb).1
theorem V6v (ha:a<2^63)(hb:b<2^63):bits .or .i64 a b=((a |||b:Nat):Int):=(bits_nat .i64 63 (by decide) Z1c a b ha hb).2
theorem V6w (ha:a<2^63)(hb:b<2^63):bits .xor .i64 a b=((a^^^b:Nat):Int):=J31 .i64 63 (by decide) Z1c a b ha hb
end
theorem Q40 {x:Int}(h0:0≤x)(h1:x<2^63):bits .and .i64 x 4294967295=x % 4294967296:=bits_mask .i64 63 (by decide) Z1c 32 (by decide) x h0 h1
def W4 (x:Int):Prop:=0≤x∧x<4294967296
theorem W4.nat {x:Int}(h:W4 x):∃a:Nat,x=(a:Int)∧a<2^32:=⟨x.toNat,by have:=h.1;omega,by have:=h.1;have:=h.2;omega⟩
theorem W4.mk' {a:Nat}(h:a<2^32):W4 (a:Int):=⟨by omega,by omega⟩
theorem Z6h {a:Nat}(h:a<2^32):a<2^63:=by omega
variable {x y : Int}
theorem J5h (hx:W4 x)(hy:W4 y):W4 (xo4 x y):=by
  obtain⟨a,rfl,ha⟩:=hx.nat;obtain⟨b,rfl,hb⟩:=hy.nat;rw[Y93 ha hb];exact W4.mk' (Nat.xor_lt_two_pow ha hb)
theorem J4r (hx:W4 x)(hy:W4 y):W4 (an4 x y):=by
  obtain⟨a,rfl,ha⟩:=hx.nat;obtain⟨b,rfl,hb⟩:=hy.nat;rw[Y92 ha hb];exact W4.mk' (Nat.and_lt_two_pow _ hb)
theorem Y94 (hx:W4 x)(hy:W4 y):W4 (oo4 x y):=by
  obtain⟨a,rfl,ha⟩:=hx.nat;obtain⟨b,rfl,hb⟩:=hy.nat;rw[V18 ha hb];exact W4.mk' (Nat.or_lt_two_pow ha hb)
theorem Z3g (hx:W4 x):W4 (nt4 x):=J5h (x:=4294967295) ⟨by decide,by decide⟩ hx
theorem Z3h:W4 (ad4 x y):=by unfold ad4 W4;rw[IntKind.wrap_u32];omega
theorem Y95 {n:Nat}:W4 (sl4 x n):=by unfold sl4 W4;rw[IntKind.wrap_u32];omega
theorem Z3i {n:Nat}(hx:W4 x):W4 (sr4 x n):=by
  obtain⟨a,rfl,ha⟩:=hx.nat;unfold sr4;rw[show((a:Int) / 2^n)=((a / 2^n:Nat):Int) by rw[Int.natCast_ediv,Int.natCast_pow];rfl];exact W4.mk' (Nat.lt_of_le_of_lt (Nat.div_le_self _ _) ha)
theorem J2t {n:Nat}(hx:W4 x):W4 (rt4 x n):=Y94 (Z3i hx) Y95
theorem Z8r (hx:W4 x)(hy:W4 y):bits .xor .i64 x y=xo4 x y:=by
  obtain⟨a,rfl,ha⟩:=hx.nat;obtain⟨b,rfl,hb⟩:=hy.nat;rw[Y93 ha hb,V6w (Z6h ha) (Z6h hb)]
theorem V19 (hx:W4 x)(hy:W4 y):bits .and .i64 x y=an4 x y:=by
  obtain⟨a,rfl,ha⟩:=hx.nat;obtain⟨b,rfl,hb⟩:=hy.nat;rw[Y92 ha hb,V6u (Z6h ha) (Z6h hb)]
theorem V6x (hx:W4 x):bits .xor .i64 4294967295 x=nt4 x:=Z8r (x:=4294967295) ⟨by decide,by decide⟩ hx
theorem Q1r:ad4 x y=(x+y) % 4294967296:=by unfold ad4;rw[IntKind.wrap_u32]
theorem V1a {n:Nat}(hx:W4 x)(h1:1≤n)(h2:n≤31):IntKind.wrap .i64 (x*2^(32-n))=x*2^(32-n):=by
  obtain⟨a,rfl,ha⟩:=hx.nat;have e2:((a:Int)*2^(32-n))=((a*2^(32-n):Nat):Int):=by rw[Int.natCast_mul,Int.natCast_pow];rfl
  have h3:2^(32-n)≤2^31:=Nat.pow_le_pow_right (by decide) (by omega);have l2:a*2^(32-n)<2^63:=Nat.lt_of_le_of_lt (Nat.mul_le_mul_left _ h3) (by omega);rw[e2];exact Z1c _ (Int.natCast_nonneg _) (by exact_mod_cast l2)
theorem Y4w {n:Nat}(hx:W4 x)(h1:1≤n)(h2:n≤31):bits .and .i64 (bits .or .i64 (x / 2^n) (x*2^(32-n))) 4294967295=rt4 x n:=by
  obtain⟨a,rfl,ha⟩:=hx.nat;have e1:((a:Int) / 2^n)=((a / 2^n:Nat):Int):=by rw[Int.natCast_ediv,Int.natCast_pow];rfl
  have e2:((a:Int)*2^(32-n))=((a*2^(32-n):Nat):Int):=by rw[Int.natCast_mul,Int.natCast_pow];rfl
  have l1:a / 2^n<2^32:=Nat.lt_of_le_of_lt (Nat.div_le_self _ _) ha
  have l2:a*2^(32-n)<2^63:=by
    have h3:2^(32-n)≤2^31:=Nat.pow_le_pow_right (by decide) (by omega)
    calc a*2^(32-n)≤a*2^31:=Nat.mul_le_mul_left _ h3
      _<2^63:=by omega
  have e3:sl4 (a:Int) (32-n)=((a*2^(32-n) % 2^32:Nat):Int):=by
    unfold sl4;rw[IntKind.wrap_u32,e2];omega
  have l3:a*2^(32-n) % 2^32<2^32:=Nat.mod_lt _ (by decide);unfold rt4;rw[e3,show sr4 (a:Int) n=((a / 2^n:Nat):Int) from e1,V18 l1 l3,e1,e2,V6v (Z6h l1) l2,Q40 (by omega) (by exact_mod_cast Nat.or_lt_two_pow (Z6h l1) l2)];have h4:(a / 2^n |||a*2^(32-n)) % 2^32=a / 2^n |||a*2^(32-n) % 2^32:=by rw[Nat.or_mod_two_pow,Nat.mod_eq_of_lt l1]
  rw[←h4];omega
end
end Go.Proofs.YteehbddkcnkhfaaGreatDoor

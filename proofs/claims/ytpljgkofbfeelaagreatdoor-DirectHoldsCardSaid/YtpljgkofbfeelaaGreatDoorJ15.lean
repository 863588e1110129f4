/- Contracts and plain laws for directHolds_holds. Conditions: the tables hold their numbers. -/
import Derived.Test.YtpljgkofbfeelaaGreatDoorJ14
open Go renaming World->AA,Value->AB,bodyPost_ret->BC,execOp->AQ,Calls->Az,Operand->AS,Oper->AT,IntKind->AG
open Go.IntKind renaming wrap_i64->BD,wrap_u64->AH
open Go.Sem renaming run_bind->Ad
open _root_.List renaming length_append->Ai,append_assoc->Ak
open _root_.Nat renaming mod_eq_of_lt->AI,le_refl->AJ,zero_le->Ah,lt_of_lt_of_le->Au,lt_of_le_of_lt->AK,zero_add->AL
open Go.RowKit
set_option maxRecDepth 100000
set_option linter.unusedSimpArgs false
set_option linter.unusedVariables false
namespace Go.Proofs.YtpljgkofbfeelaaGreatDoor.S8.Sc
section
set_option maxHeartbeats 4000000

end

section
set_option maxHeartbeats 4000000

end

section
set_option maxHeartbeats 2000000

end
end Go.Proofs.YtpljgkofbfeelaaGreatDoor.S8.Sc

namespace Go.Proofs.YtpljgkofbfeelaaGreatDoor.S8
set_option maxHeartbeats 1500000
attribute [local irreducible] wpList Z9 wpX
end Go.Proofs.YtpljgkofbfeelaaGreatDoor.S8

namespace Go.Proofs.YtpljgkofbfeelaaGreatDoor
section
variable {ops : Array AT} {Q : Exit → Act → AA → Prop} {w : AA} {r : List AT} {o : AT} {a a' : Act} {F : List Nat} {H H' : List As} {k : Wk}
end
end Go.Proofs.YtpljgkofbfeelaaGreatDoor

namespace Go.Proofs.YtpljgkofbfeelaaGreatDoor.S8
section
set_option maxHeartbeats 1500000
attribute [local irreducible] wpList Z9 wpX
end

section
set_option maxHeartbeats 1500000
attribute [local irreducible] wpList Z9 wpX
abbrev T3:=Nat×Nat×Nat
def qc (s:T3):Array AB:=p3 s.1 s.2.1 s.2.2
end

section
set_option maxHeartbeats 1500000
attribute [local irreducible] wpList Z9 wpX

end

section
set_option maxHeartbeats 1500000
attribute [local irreducible] wpList Z9 wpX

end

section
set_option maxHeartbeats 1000000
attribute [local irreducible] wpList Z9 wpX
open Sc (LL J0k)
variable {kn : Kn}
section
variable {w : AA} {o : AT} {a : Act} {x y : AS} {t : TypeId}
end
end

section
attribute [local irreducible] wpList
variable {kn : Kn}
open Sc (LL J0k)
end
end Go.Proofs.YtpljgkofbfeelaaGreatDoor.S8

namespace Go.Proofs.YtpljgkofbfeelaaGreatDoor
section

def xo4 (p q:Int):Int:=bits .xor .u32 p q
def an4 (p q:Int):Int:=bits .and .u32 p q
def oo4 (p q:Int):Int:=bits .or .u32 p q
def nt4 (p:Int):Int:=bits .xor .u32 4294967295 p
def ad4 (p q:Int):Int:=AG.wrap .u32 (p+q)
def sl4 (p:Int)(n:Nat):Int:=AG.wrap .u32 (p*2^n)
def sr4 (p:Int)(n:Nat):Int:=p / 2^n
def rt4 (p:Int)(n:Nat):Int:=oo4 (sr4 p n) (sl4 p (32-n))
theorem Y3s (p q:Int):oo4 p q=oo4 q p:=by unfold oo4;simp only[bits,BitVec.or_comm]
section
variable {P : Program} {w : AA} {o : AT} {a : Act} {x y : AS} {t t' : TypeId} {p q : Int}
theorem J5r (ho:o.op=.binOp .xor t x y t')(hx:a.eval x=.int .u32 p)(hy:a.eval y=.int .u32 q):(AQ a.eval o).run P w=.ok (.value (.int .u32 (xo4 p q))) w:=by
  simp only[AQ,ho,hx,hy];rfl
theorem J8n (ho:o.op=.binOp .and t x y t')(hx:a.eval x=.int .u32 p)(hy:a.eval y=.int .u32 q):(AQ a.eval o).run P w=.ok (.value (.int .u32 (an4 p q))) w:=by
  simp only[AQ,ho,hx,hy];rfl
theorem Z6l (ho:o.op=.binOp .or t x y t')(hx:a.eval x=.int .u32 p)(hy:a.eval y=.int .u32 q):(AQ a.eval o).run P w=.ok (.value (.int .u32 (oo4 p q))) w:=by
  simp only[AQ,ho,hx,hy];rfl
theorem J3y (ho:o.op=.binOp .add t x y t')(hx:a.eval x=.int .u32 p)(hy:a.eval y=.int .u32 q):(AQ a.eval o).run P w=.ok (.value (.int .u32 (ad4 p q))) w:=by
  simp only[AQ,ho,hx,hy];rfl
theorem Y3w (ho:o.op=.unOp .xor t x)(hx:a.eval x=.int .u32 p):(AQ a.eval o).run P w=.ok (.value (.int .u32 (nt4 p))) w:=by
  simp only[AQ,ho,hx];rfl
theorem Z10 {k:AG}{n:Nat}(hn:n≤32)(ho:o.op=.binOp .shl t x y t')(hx:a.eval x=.int .u32 p)(hy:a.eval y=.int k (n:Int)):(AQ a.eval o).run P w=.ok (.value (.int .u32 (sl4 p n))) w:=by
  have h:min ((n:Int)).toNat AG.u32.bits=n:=by rw[Int.toNat_natCast];exact Nat.min_eq_left hn
  simp only[AQ,ho,hx,hy,eqGuard,binOp,Ad];simp[Op.shift,h,sl4,go_sem,Ad]
theorem J8m {k:AG}{n:Nat}(hn:n≤32)(ho:o.op=.binOp .shr t x y t')(hx:a.eval x=.int .u32 p)(hy:a.eval y=.int k (n:Int)):(AQ a.eval o).run P w=.ok (.value (.int .u32 (sr4 p n))) w:=by
  have h:min ((n:Int)).toNat AG.u32.bits=n:=by rw[Int.toNat_natCast];exact Nat.min_eq_left hn
  simp only[AQ,ho,hx,hy,eqGuard,binOp,Ad];simp[Op.shift,h,sr4,go_sem,Ad]
end
end

section
set_option maxHeartbeats 1500000
attribute [local irreducible] wpList

theorem K19 (n:Nat)(h1:1≤n)(h2:n≤31):bits .and .u64 (18446744073709551616-(n:Int)) 31=((32-n:Nat):Int):=by
  obtain⟨m,hm⟩:∃m:Nat,m=18446744073709551616-n:=⟨_,rfl⟩
  have e:(18446744073709551616-(n:Int))=(m:Int):=by omega
  have D:(BitVec.ofInt 64 31).toNat=2^5-1:=by decide
  have G:(BitVec.ofInt 64 (m:Int) &&& BitVec.ofInt 64 31).toNat=m % 2^5:=by
    rw[BitVec.toNat_and,BitVec.toNat_ofInt,D,Nat.and_two_pow_sub_one_eq_mod];omega
  rw[e];show AG.u64.wrap ((BitVec.ofInt 64 (m:Int) &&& BitVec.ofInt 64 31).toNat:Nat)=_;rw[G,AG.wrap_u64];omega
def J1z (p:Int)(a b c:Nat):Int:=xo4 (xo4 (rt4 p a) (rt4 p b)) (sr4 p c)
def Q0i (p:Int)(a b c:Nat):Int:=xo4 (xo4 (rt4 p a) (rt4 p b)) (rt4 p c)

theorem Y7x (p:Int)(n:Nat)(h1:1≤n)(h2:n≤31)(w:AA):
  Az Tryz.prog 200 #[.int .u32 p,.int .i64 (-(n:Int))] w fun e w' =>V5 (.int .u32 (rt4 p n)) w w' e:=by
 have n0:(1:Int)≤(n:Int):=by omega
 have n1:(n:Int)≤31:=by omega
 have ha:=K19 n h1 h2;have D:Off [] w w:=Off.refl _ _
 go_enter Tryz.func200,Tryz.ntmps200
 go_upto_region 1 with fail;refine wp_region_lit ?_;refine Lv ?_;refine Lw ?_ (v:=.int .u64 (18446744073709551616-(n:Int))) (hv:=by go_simp;(try simp only[AG.wrap_u64,AG.wrap_i64]);(try omega));refine Lw ?_ (v:=.int .u64 (((32-n:Nat):Int))) (hv:=by first|(go_simp;done)|(go_simp;(try rw[ha]);(try omega)));refine Lv ?_;refine J0p ?_;go_upto_region 2 with fail;refine wp_region_lit ?_;refine Lv ?_;refine Lv ?_;refine Lw ?_ (v:=.int .u32 (sl4 p (32-n))) (hv:=Z10 (n:=(32-n)) (by omega) rfl rfl rfl);refine Lv ?_;refine Lv ?_;refine Lw ?_ (v:=.int .u64 ((n:Int))) (hv:=by go_simp;(try simp only[AG.wrap_u64,AG.wrap_i64]);(try omega));refine Lw ?_ (v:=.int .u32 (sr4 p n)) (hv:=J8m (n:=n) (by omega) rfl rfl rfl);refine Lw ?_ (v:=.int .u32 (oo4 (sl4 p (32-n)) (sr4 p n))) (hv:=Z6l rfl rfl rfl);refine Lv ?_;refine J0p ?_;go_wp2;exact BC (v:=.int .u32 (oo4 (sl4 p (32-n)) (sr4 p n))) (by simp only[results,Tryz.results200];go_simp) rfl ⟨congrArg (fun z=>Ending.returned (.int .u32 z)) (Y3s _ _),D.ext⟩
theorem Q1d (p:Int)(n:Nat)(h1:1≤n)(h2:n≤31)(w:AA):
  Az Tryz.prog 198 #[.int .u32 p,.int .i64 (n:Int)] w fun e w' =>V5 (.int .u32 (rt4 p n)) w w' e:=by
 have n0:(1:Int)≤(n:Int):=by omega
 have n1:(n:Int)≤31:=by omega
 have D:Off [] w w:=Off.refl _ _
 go_enter Tryz.func198,Tryz.ntmps198
 go_upto_region 1 with fail;refine wp_region_lit ?_;refine Lv ?_;refine Lv ?_;refine Lw ?_ (v:=.int .i64 (-(n:Int))) (hv:=by go_simp;(try simp only[AG.wrap_u64,AG.wrap_i64]);(try omega));refine Lr ?_ (Y7x p n h1 h2 w);intro W1 hO;replace D:=D.o hO;clear hO;refine Lv ?_;refine J0p ?_;go_wp2;exact BC (v:=.int .u32 (rt4 p n)) (by simp only[results,Tryz.results198];go_simp) rfl ⟨rfl,D.ext⟩
theorem Y3t (p:Int)(a b c:Nat)(ha:1≤a∧a≤31)(hb:1≤b∧b≤31)(hc:1≤c∧c≤31)(w:AA):
  Az Tryz.prog 183 #[.int .u32 p,.int .i64 (a:Int),.int .i64 (b:Int),.int .i64 (c:Int)] w fun e w' =>V5 (.int .u32 (Q0i p a b c)) w w' e:=by
 have D:Off [] w w:=Off.refl _ _
 go_enter Tryz.func183,Tryz.ntmps183
 go_upto_region 1 with fail;refine wp_region_lit ?_;refine Lv ?_;refine Lv ?_;refine Lr ?_ (Q1d p a (by omega) (by omega) w);intro W1 hO;replace D:=D.o hO;clear hO;refine Lv ?_;refine Lv ?_;refine Lr ?_ (Q1d p b (by omega) (by omega) W1);intro W2 hO;replace D:=D.o hO;clear hO;refine Lw ?_ (v:=.int .u32 (xo4 (rt4 p a) (rt4 p b))) (hv:=J5r rfl rfl rfl);refine Lv ?_;refine Lv ?_;refine Lr ?_ (Q1d p c (by omega) (by omega) W2);intro W3 hO;replace D:=D.o hO;clear hO;refine Lw ?_ (v:=.int .u32 (xo4 (xo4 (rt4 p a) (rt4 p b)) (rt4 p c))) (hv:=J5r rfl rfl rfl);refine Lv ?_;refine J0p ?_;go_wp2;exact BC (v:=.int .u32 (xo4 (xo4 (rt4 p a) (rt4 p b)) (rt4 p c))) (by simp only[results,Tryz.results183];go_simp) rfl ⟨rfl,D.ext⟩
theorem Z11 (p:Int)(a b c:Nat)(ha:1≤a∧a≤31)(hb:1≤b∧b≤31)(hc:1≤c∧c≤31)(w:AA):
  Az Tryz.prog 197 #[.int .u32 p,.int .i64 (a:Int),.int .i64 (b:Int),.int .i64 (c:Int)] w fun e w' =>V5 (.int .u32 (J1z p a b c)) w w' e:=by
 have D:Off [] w w:=Off.refl _ _
 go_enter Tryz.func197,Tryz.ntmps197
 go_upto_region 1 with fail;refine Rx 12 ?_;refine Xv ?_;refine Xv ?_;refine Xf ?_ (fun W hW=>Q1d p a (by omega) (by omega) W);refine Xv ?_;refine Xv ?_;refine Xf ?_ (fun W hW=>Q1d p b (by omega) (by omega) W);refine Xw ?_ (v:=.int .u32 (xo4 (rt4 p a) (rt4 p b))) (hv:=fun _ _=>J5r rfl rfl rfl);refine Xv ?_;refine Xv ?_;refine Xw ?_ (v:=.int .u32 (sr4 p c)) (hv:=fun _ _=>J8m (n:=c) (by omega) rfl rfl rfl);refine Xw ?_ (v:=.int .u32 (xo4 (xo4 (rt4 p a) (rt4 p b)) (sr4 p c))) (hv:=fun _ _=>J5r rfl rfl rfl);refine Xv ?_;refine J3r fun W1 hE=> ?_;have hO:=J1t hE;replace D:=D.o hO;clear hO hE;refine LN ?_;go_wp2;exact BC (v:=.int .u32 (xo4 (xo4 (rt4 p a) (rt4 p b)) (sr4 p c))) (by simp only[results,Tryz.results197];go_simp) rfl ⟨rfl,D.ext⟩
end

section
set_option maxHeartbeats 1500000
attribute [local irreducible] wpList Z9 wpX

theorem Y7y {w:AA}{o:AT}{a:Act}{x:AS}{c:UInt8}(ho:o.op=.convert 5 257 x)(hx:a.eval x=.int .u8 (c.toNat:Int)):(AQ a.eval o).run Tryz.prog w=.ok (.value (.int .u32 (c.toNat:Int))) w:=by
 have hc:=c.toNat_lt;have hw:AG.wrap .u32 (c.toNat:Int)=(c.toNat:Int):=by rw[AG.wrap_u32];omega
 simp[AQ,ho,hx,convert,run_underlying Tryz.underlying5,run_underlying Tryz.underlying257,Ad,Conv.intToInt,hw]
theorem Z89 {w:AA}{o:AT}{a:Act}{x y:AS}{adr:Addr}{n c:Nat}(hl:64≤n)(hn:n≤c)(ho:o.op=.slice 22 x none (some y) none)(hx:a.eval x=.slice (some adr) n c)(hy:a.eval y=.int .i64 64):(AQ a.eval o).run Tryz.prog w=.ok (.value (.slice (some adr) 64 c)) w:=by
 have G:64≤c:=by omega
 have J:¬c=0:=by omega
 have h1:=J59;have D:adr.add 0=adr:=by unfold Addr.add;simp
 cases hq:Tryz.prog.info? 5 with
 |none=>simp[hq] at h1
 |some i=>simp[AQ,ho,hx,hy,Instr.sliceAt,Instr.slice,Instr.sliceBounds,Instr.sliceBound,asIntOf,run_underlying Tryz.underlying22,Ad,sizeOf,typeInfo,hq,G,J,D];intro h_;omega
def J3j (b:Nat→Int)(i:Nat):Nat→Int
 |0=>0
 |k+1=>oo4 (sl4 (J3j b i k) 8) (b (4*i+k))
def sg4 (f:Nat→Int)(i:Nat):Int:=ad4 (ad4 (ad4 (f (i-16)) (J1z (f (i-15)) 7 18 3)) (f (i-7))) (J1z (f (i-2)) 17 19 10)
def Q0 (b:Nat→Int):Nat→Nat→Int
 |0=>fun _=>0
 |i+1=>upd (Q0 b i) i (if i<16 then J3j b i 4 else sg4 (Q0 b i) i)
theorem Z6m {b:Nat→Int}{i:Nat}(h:16≤i):upd (Q0 b i) i (sg4 (Q0 b i) i)=Q0 b (i+1):=by
 show _=upd (Q0 b i) i (if i<16 then J3j b i 4 else sg4 (Q0 b i) i);rw[if_neg (by omega)]
theorem Z6n (b:Nat→Int):∀i,i≤16→∀j,Q0 b i j=if j<i then J3j b j 4 else 0
 |0,_,j=>by simp[Q0]
 |i+1,h,j=>by
  show upd (Q0 b i) i (if i<16 then J3j b i 4 else sg4 (Q0 b i) i) j=_;rw[if_pos (by omega)];unfold upd
  by_cases hj:j=i
  ·
   rw[if_pos hj,if_pos (by omega),hj]
  ·
   rw[if_neg hj,Z6n b i (by omega) j]
   by_cases hl:j<i
   ·
    rw[if_pos hl,if_pos (by omega)]
   ·
    rw[if_neg hl,if_neg (by omega)]
def J7n (b:Nat→Int)(n j:Nat):Int:=if j<n / 4 then J3j b j 4 else if j=n / 4 then J3j b j (n % 4) else 0
theorem Z8a (b:Nat→Int)(n:Nat):upd (J7n b n) (n / 4) (oo4 (sl4 (J7n b n (n / 4)) 8) (b n))=J7n b (n+1):=by
 funext j
 have e:J7n b n (n / 4)=J3j b (n / 4) (n % 4):=by unfold J7n;rw[if_neg (by omega),if_pos rfl]
 have hb:b n=b (4*(n / 4)+n % 4):=by rw[Nat.div_add_mod]
 rw[e,hb];show(if j=n / 4 then J3j b (n / 4) (n % 4+1) else J7n b n j)=J7n b (n+1) j;unfold J7n
 by_cases hm:n % 4=3
 ·
  have h1:(n+1) / 4=n / 4+1:=by omega
  have h2:(n+1) % 4=0:=by omega
  rw[h1,h2,hm]
  by_cases hj:j=n / 4
  ·
   rw[if_pos hj,if_pos (by omega),hj]
  rw[if_neg hj]
  by_cases hl:j<n / 4
  ·
   rw[if_pos hl,if_pos (by omega)]
  rw[if_neg hl,if_neg hj,if_neg (by omega)]
  split
  ·
   rfl
  rfl
 have h1:(n+1) / 4=n / 4:=by omega
 have h2:(n+1) % 4=n % 4+1:=by omega
 rw[h1,h2]
 by_cases hj:j=n / 4
 ·
  rw[if_pos hj,if_neg (by omega),if_pos hj,hj]
 rw[if_neg hj]
 by_cases hl:j<n / 4
 ·
  rw[if_pos hl,if_pos hl]
 rw[if_neg hl,if_neg hj,if_neg hl,if_neg hj]
theorem Y3u (b:Nat→Int):J7n b 64=Q0 b 16:=by
 funext j
 rw[Z6n b 16 (AJ _) j];unfold J7n
 by_cases h:j<16
 ·
  rw[if_pos (by omega),if_pos h]
 rw[if_neg (by omega),if_neg h]
 split
 ·
  rename_i h2;rw[show 64 % 4=0 by rfl];rfl
 rfl
theorem Z8b (b:Nat→Int):J7n b 0=fun _=>0:=by
 funext j
 unfold J7n;rw[if_neg (by omega)]
 split<;>rfl

theorem Z8c (l:List UInt8)(adr:Addr)(c:Nat)(hl:64≤l.length)(hc:l.length≤c)(w:AA)(hs:Sl w (.slice (some adr) l.length c) l):
  Az Tryz.prog 182 #[.slice (some adr) l.length c] w fun e w' =>V5 (.agg (J0 .u32 64 (Q0 (bt l) 64))) w w' e:=by
 have hS:=SH.nil [] w
 go_enter Tryz.func182,Tryz.ntmps182
 go_upto_region 0 with fail;refine RL hS ?_;clear hS;refine MN (z:=J0 .u32 64 (fun _=>0)) (t:=282) ?_;intro K9;refine MZ fun W hS=> ?_;go_upto_region 1 with fail;refine RL hS ?_;clear hS;refine MN (z:=J0 .u32 64 (fun _=>0)) (t:=282) ?_;intro D;refine MZ fun W hS=> ?_;go_upto_region 2 with fail;refine RL hS ?_;clear hS;refine MV ?_;refine MW ?_ (v:=.slice (some adr) 64 c) (hv:=fun _=>Z89 hl hc rfl rfl rfl);refine MW ?_ (v:=.int .i64 64);refine W0 ?_;refine MZ fun W hS=> ?_
 go_wp2_with fail
 go_loopw [9] (fun ii wr=> ∃(n:Nat),(n≤64)∧(ii=.int .i64 (n:Int))∧SH [] w wr [.b D (J0 .u32 64 (J7n (bt l) n)) 282,.b K9 (J0 .u32 64 (fun _=>0)) 282])
  (fun ii _=>64-(intOf ii).toNat)
 case atStart=>exact⟨0,Ah _,rfl,(by rw[Z8b];exact hS)⟩
 clear hS
 case round=>
  obtain⟨n,hn,rfl,hS⟩:=hrel
  by_cases G:n<64
  ·
   go_upto_region 3 with fail;refine RL hS ?_;clear hS;refine Wt ?_;refine MZ fun W hS=> ?_;go_upto_region 5 with fail;refine RX 14 hS ?_;clear hS;refine MV ?_;refine MW ?_ (v:=.int .i64 (((n / 4:Nat):Int))) (hv:=by intro W;go_simp;(try simp only[AG.wrap_u64,AG.wrap_i64]);(try omega));refine MV ?_;refine MW ?_ (v:=.int .i64 (((n / 4:Nat):Int))) (hv:=by intro W;go_simp;(try simp only[AG.wrap_u64,AG.wrap_i64]);(try omega));refine MW ?_ (v:=.pointer (some ⟨D,0+(n / 4),none⟩)) (hv:=fun _=>rxa Tryz.underlying282 (by omega));refine MG 0 ?_ (j:=0+(n / 4)) (v:=.int .u32 ((J7n (bt l) n) (n / 4))) (hj:=ag0 (by omega));refine MW ?_ (v:=.int .u32 (sl4 ((J7n (bt l) n) (n / 4)) 8)) (hv:=fun _=>Z10 (n:=8) (by decide) rfl rfl rfl);refine MV ?_;refine MV ?_;refine MW ?_ (v:=.pointer (some (adr.add n))) (hv:=fun _=>Q3j (j:=n) (by omega) rfl rfl rfl);refine MF (v:=.int .u8 ((l.getD n 0).toNat:Int)) (fun W hS=>Q6 rfl rfl (Q4l (K4 hs hS.ext) (J2a (by omega))) (by kernel_rfl)) ?_;refine MW ?_ (v:=.int .u32 (bt l n)) (hv:=by intro W;exact Y7y rfl rfl);refine MW ?_ (v:=.int .u32 (oo4 (sl4 ((J7n (bt l) n) (n / 4)) 8) (bt l n))) (hv:=fun _=>Z6l rfl rfl rfl);refine MW ?_ (v:=.pointer (some ⟨D,0+(n / 4),none⟩)) (hv:=fun _=>rxa Tryz.underlying282 (by omega));refine MZt ?_;refine MP 0 (v:=.int .u32 (oo4 (sl4 ((J7n (bt l) n) (n / 4)) 8) (bt l n))) (cs' :=J0 .u32 64 (upd (J7n (bt l) n) (n / 4) (oo4 (sl4 ((J7n (bt l) n) (n / 4)) 8) (bt l n)))) ?_ (hs:=by rw[J1,AL];omega) (hc:=by rw[AL];exact V1 _ _ _ _ _);refine MZn fun W hS=> ?_;go_wp2;go_roundw
   case rel=>exact⟨n+1,by omega,by go_num,(by rw[←Z8a];exact hS)⟩
   case measure=>simp[intOf];omega
  obtain rfl:n=64:=by omega
  rw[Y3u] at hS;go_upto_region 3 with fail;refine RL hS ?_;clear hS;refine Wf ?_;refine MZ fun W hS=> ?_
  go_wp2_with fail
  go_loopw [5] (fun ii wr=> ∃(i:Nat),(16≤i∧i≤64)∧(ii=.int .i64 (i:Int))∧SH [] w wr [.b D (J0 .u32 64 (Q0 (bt l) i)) 282,.b K9 (J0 .u32 64 (fun _=>0)) 282])
   (fun ii _=>64-(intOf ii).toNat)
  case atStart=>exact⟨16,⟨AJ _,by decide⟩,rfl,hS⟩
  clear hS
  case round=>
   obtain⟨i,⟨hi,M⟩,rfl,hS⟩:=hrel
   by_cases J:i<64
   ·
    go_upto_region 8 with fail;refine RL hS ?_;clear hS;refine MV ?_;refine Wt ?_;refine MZ fun W hS=> ?_;go_upto_region 10 with fail;refine RX 23 hS ?_;clear hS;refine MV ?_;refine MV ?_;refine MW ?_ (v:=.int .i64 (((i-16:Nat):Int))) (hv:=by intro W;go_simp;(try simp only[AG.wrap_u64,AG.wrap_i64]);(try omega));refine MW ?_ (v:=.pointer (some ⟨D,0+(i-16),none⟩)) (hv:=fun _=>rxa Tryz.underlying282 (by omega));refine MG 0 ?_ (j:=0+(i-16)) (v:=.int .u32 ((Q0 (bt l) i) (i-16))) (hj:=ag0 (by omega));refine MV ?_;refine MW ?_ (v:=.int .i64 (((i-15:Nat):Int))) (hv:=by intro W;go_simp;(try simp only[AG.wrap_u64,AG.wrap_i64]);(try omega));refine MW ?_ (v:=.pointer (some ⟨D,0+(i-15),none⟩)) (hv:=fun _=>rxa Tryz.underlying282 (by omega));refine MG 0 ?_ (j:=0+(i-15)) (v:=.int .u32 ((Q0 (bt l) i) (i-15))) (hj:=ag0 (by omega));refine MC (v:=.int .u32 (J1z ((Q0 (bt l) i) (i-15)) 7 18 3)) (fun W hS=>Z11 ((Q0 (bt l) i) (i-15)) 7 18 3 (by decide) (by decide) (by decide) W) ?_;refine MW ?_ (v:=.int .u32 (ad4 ((Q0 (bt l) i) (i-16)) (J1z ((Q0 (bt l) i) (i-15)) 7 18 3))) (hv:=fun _=>J3y rfl rfl rfl);refine MV ?_;refine MW ?_ (v:=.int .i64 (((i-7:Nat):Int))) (hv:=by intro W;go_simp;(try simp only[AG.wrap_u64,AG.wrap_i64]);(try omega));refine MW ?_ (v:=.pointer (some ⟨D,0+(i-7),none⟩)) (hv:=fun _=>rxa Tryz.underlying282 (by omega));refine MG 0 ?_ (j:=0+(i-7)) (v:=.int .u32 ((Q0 (bt l) i) (i-7))) (hj:=ag0 (by omega));refine MW ?_ (v:=.int .u32 (ad4 (ad4 ((Q0 (bt l) i) (i-16)) (J1z ((Q0 (bt l) i) (i-15)) 7 18 3)) ((Q0 (bt l) i) (i-7)))) (hv:=fun _=>J3y rfl rfl rfl);refine MV ?_;refine MW ?_ (v:=.int .i64 (((i-2:Nat):Int))) (hv:=by intro W;go_simp;(try simp only[AG.wrap_u64,AG.wrap_i64]);(try omega));refine MW ?_ (v:=.pointer (some ⟨D,0+(i-2),none⟩)) (hv:=fun _=>rxa Tryz.underlying282 (by omega));refine MG 0 ?_ (j:=0+(i-2)) (v:=.int .u32 ((Q0 (bt l) i) (i-2))) (hj:=ag0 (by omega));refine MC (v:=.int .u32 (J1z ((Q0 (bt l) i) (i-2)) 17 19 10)) (fun W hS=>Z11 ((Q0 (bt l) i) (i-2)) 17 19 10 (by decide) (by decide) (by decide) W) ?_;refine MW ?_ (v:=.int .u32 (ad4 (ad4 (ad4 ((Q0 (bt l) i) (i-16)) (J1z ((Q0 (bt l) i) (i-15)) 7 18 3)) ((Q0 (bt l) i) (i-7))) (J1z ((Q0 (bt l) i) (i-2)) 17 19 10))) (hv:=fun _=>J3y rfl rfl rfl);refine MW ?_ (v:=.pointer (some ⟨D,0+i,none⟩)) (hv:=fun _=>rxa Tryz.underlying282 (by omega));refine MZt ?_;refine MP 0 (v:=.int .u32 (ad4 (ad4 (ad4 ((Q0 (bt l) i) (i-16)) (J1z ((Q0 (bt l) i) (i-15)) 7 18 3)) ((Q0 (bt l) i) (i-7))) (J1z ((Q0 (bt l) i) (i-2)) 17 19 10))) (cs' :=J0 .u32 64 (upd (Q0 (bt l) i) i (ad4 (ad4 (ad4 ((Q0 (bt l) i) (i-16)) (J1z ((Q0 (bt l) i) (i-15)) 7 18 3)) ((Q0 (bt l) i) (i-7))) (J1z ((Q0 (bt l) i) (i-2)) 17 19 10)))) ?_ (hs:=by rw[J1,AL];omega) (hc:=by rw[AL];exact V1 _ _ _ _ _);refine MZn fun W hS=> ?_;go_wp2;go_roundw
    case rel=>exact⟨i+1,⟨by omega,by omega⟩,by go_num,(by rw[←Z6m hi];exact hS)⟩
    case measure=>simp[intOf];omega
   obtain rfl:i=64:=by omega
   go_upto_region 8 with fail;refine RL hS ?_;clear hS;refine MV ?_;refine Wf ?_;refine MZ fun W hS=> ?_;go_upto_region 11 with fail;refine RL hS ?_;clear hS;refine ML 0 ?_;refine MR 1 ?_;refine MZ fun W hS=> ?_;go_wp2;refine BC (Z6 rfl rfl (hS.blk (i:=1) rfl) (by kernel_rfl) (by rw[J1];kernel_rfl)) rfl ⟨rfl,hS.ext⟩
end

section
set_option maxHeartbeats 1500000
attribute [local irreducible] wpList Z9 wpX

def kk4:List Int:=[1116352408,1899447441,3049323471,3921009573,961987163,1508970993,2453635748,2870763221,3624381080,310598401,607225278,1426881987,1925078388,2162078206,2614888103,3248222580,3835390401,4022224774,264347078,604807628,770255983,1249150122,1555081692,1996064986,2554220882,2821834349,2952996808,3210313671,3336571891,3584528711,113926993,338241895,666307205,773529912,1294757372,1396182291,1695183700,1986661051,2177026350,2456956037,2730485921,2820302411,3259730800,3345764771,3516065817,3600352804,4094571909,275423344,430227734,506948616,659060556,883997877,958139571,1322822218,1537002063,1747873779,1955562222,2024104815,2227730452,2361852424,2428436474,2756734187,3204031479,3329325298]
def hh4:List Int:=[1779033703,3144134277,1013904242,2773480762,1359893119,2600822924,528734635,1541459225]
def K6 (i:Nat):Int:=kk4.getD i 0
def hf4 (i:Nat):Int:=hh4.getD i 0
def GS4 (w:AA):Prop:=Rd w 14 (J0 .u32 64 K6)∧Rd w 11 (J0 .u32 8 hf4)
theorem J0h {w W:AA}(h:GS4 w)(e:Ext w W):GS4 W:=⟨h.1.ext e,h.2.ext e⟩
def rT4 (k w:Nat→Int)(i:Nat)(v:Nat→Int):Int:=ad4 (ad4 (ad4 (ad4 (v 7) (Q0i (v 4) 6 11 25)) (xo4 (an4 (v 4) (v 5)) (an4 (nt4 (v 4)) (v 6)))) (k i)) (w i)
def rU4 (v:Nat→Int):Int:=ad4 (Q0i (v 0) 2 13 22) (xo4 (xo4 (an4 (v 0) (v 1)) (an4 (v 0) (v 2))) (an4 (v 1) (v 2)))
def Z1l (k w:Nat→Int)(i:Nat)(v:Nat→Int):Nat→Int
 |0=>ad4 (rT4 k w i v) (rU4 v)
 |1=>v 0
 |2=>v 1
 |3=>v 2
 |4=>ad4 (v 3) (rT4 k w i v)
 |5=>v 4
 |6=>v 5
 |7=>v 6
 |_=>0
def Q1 (k w v:Nat→Int):Nat→Nat→Int
 |0=>v
 |i+1=>Z1l k w i (Q1 k w v i)
def J7o (h b:Nat→Int)(j:Nat):Int:=ad4 (h j) (Q1 K6 (Q0 b 64) h 64 j)
def mx4 (h v:Nat→Int)(i j:Nat):Int:=if j<i then ad4 (h j) (v j) else h j
theorem Z12 (h v:Nat→Int)(i:Nat):upd (mx4 h v i) i (ad4 (mx4 h v i i) (v i))=mx4 h v (i+1):=by
 funext j
 unfold upd mx4
 by_cases hj:j=i
 ·
  subst hj;rw[if_pos rfl,if_neg (by omega),if_pos (by omega)]
 rw[if_neg hj]
 by_cases hl:j<i
 ·
  rw[if_pos hl,if_pos (by omega)]
 rw[if_neg hl,if_neg (by omega)]
theorem Z13 (h v:Nat→Int):mx4 h v 0=h:=by funext j;unfold mx4;rw[if_neg (by omega)]
theorem Y7z (h b:Nat→Int):J0 .u32 8 (mx4 h (Q1 K6 (Q0 b 64) h 64) 8)=J0 .u32 8 (J7o h b):=X7 _ _ _ _ fun j hj=>by unfold mx4 J7o;rw[if_pos hj]

theorem Y3v (h:Nat→Int)(l:List UInt8)(adr:Addr)(c:Nat)(hl:64≤l.length)(hlc:l.length≤c)(w:AA)(hs:Sl w (.slice (some adr) l.length c) l)(hG:GS4 w):
  Az Tryz.prog 156 #[.agg (J0 .u32 8 h),.slice (some adr) l.length c] w fun e w' =>V5 (.agg (J0 .u32 8 (J7o h (bt l)))) w w' e:=by
 have HG:=Lib.hid hG;clear hG;have hS:=SH.nil [] w
 go_enter Tryz.func156,Tryz.ntmps156
 go_upto_region 0 with fail;refine RL hS ?_;clear hS;refine MN (z:=J0 .u32 8 h) (t:=258) ?_;intro K9;refine MN (z:=J0 .u32 8 (fun _=>0)) (t:=258) ?_;intro J;refine MZ fun W hS=> ?_;go_upto_region 1 with fail;refine RL hS ?_;clear hS;refine MV ?_;refine MC (v:=.agg (J0 .u32 64 (Q0 (bt l) 64))) (fun W hS=>Z8c l adr c hl hlc W (K4 hs hS.ext)) ?_;refine MN (z:=J0 .u32 64 (fun _=>0)) (t:=282) ?_;intro G;refine MR 0 ?_;refine MZ fun W hS=> ?_;go_upto_region 2 with fail;refine RL hS ?_;clear hS;refine ML 2 ?_;refine MN (z:=J0 .u32 8 (fun _=>0)) (t:=258) ?_;intro D;refine MR 0 ?_;refine MZ fun W hS=> ?_
 go_wp2_with fail
 go_loopw [14] (fun ii wr=> ∃(i:Nat),(i≤64)∧(ii=.int .i64 (i:Int))∧SH [] w wr [.b D (J0 .u32 8 (Q1 K6 (Q0 (bt l) 64) h i)) 258,.b G (J0 .u32 64 (Q0 (bt l) 64)) 282,.b J (J0 .u32 8 (fun _=>0)) 258,.b K9 (J0 .u32 8 h) 258])
  (fun ii _=>64-(intOf ii).toNat)
 case atStart=>exact⟨0,Ah _,rfl,hS⟩
 clear hS
 case round=>
  obtain⟨i,hi,rfl,hS⟩:=hrel
  by_cases M:i<64
  ·
   go_upto_region 4 with fail;refine RL hS ?_;clear hS;refine Wt ?_;refine MZ fun W hS=> ?_;go_upto_region 6 with fail;refine RS hS ?_;clear hS;refine MW ?_ (v:=.pointer (some ⟨D,0+7,none⟩)) (hv:=fun _=>rxa Tryz.underlying258 (by omega));refine MG 0 ?_ (j:=0+7) (v:=.int .u32 ((Q1 K6 (Q0 (bt l) 64) h i) 7)) (hj:=ag0 (by omega));refine MW ?_ (v:=.pointer (some ⟨D,0+4,none⟩)) (hv:=fun _=>rxa Tryz.underlying258 (by omega));refine MG 0 ?_ (j:=0+4) (v:=.int .u32 ((Q1 K6 (Q0 (bt l) 64) h i) 4)) (hj:=ag0 (by omega));refine MC (v:=.int .u32 (Q0i ((Q1 K6 (Q0 (bt l) 64) h i) 4) 6 11 25)) (fun W hS=>Y3t ((Q1 K6 (Q0 (bt l) 64) h i) 4) 6 11 25 (by decide) (by decide) (by decide) W) ?_;refine MW ?_ (v:=.int .u32 (ad4 ((Q1 K6 (Q0 (bt l) 64) h i) 7) (Q0i ((Q1 K6 (Q0 (bt l) 64) h i) 4) 6 11 25))) (hv:=fun _=>J3y rfl rfl rfl);refine MW ?_ (v:=.pointer (some ⟨D,0+4,none⟩)) (hv:=fun _=>rxa Tryz.underlying258 (by omega));refine MG 0 ?_ (j:=0+4) (v:=.int .u32 ((Q1 K6 (Q0 (bt l) 64) h i) 4)) (hj:=ag0 (by omega));refine MW ?_ (v:=.pointer (some ⟨D,0+5,none⟩)) (hv:=fun _=>rxa Tryz.underlying258 (by omega));refine MG 0 ?_ (j:=0+5) (v:=.int .u32 ((Q1 K6 (Q0 (bt l) 64) h i) 5)) (hj:=ag0 (by omega));refine MW ?_ (v:=.int .u32 (an4 ((Q1 K6 (Q0 (bt l) 64) h i) 4) ((Q1 K6 (Q0 (bt l) 64) h i) 5))) (hv:=fun _=>J8n rfl rfl rfl);refine MW ?_ (v:=.pointer (some ⟨D,0+4,none⟩)) (hv:=fun _=>rxa Tryz.underlying258 (by omega));refine MG 0 ?_ (j:=0+4) (v:=.int .u32 ((Q1 K6 (Q0 (bt l) 64) h i) 4)) (hj:=ag0 (by omega));refine MW ?_ (v:=.int .u32 (nt4 ((Q1 K6 (Q0 (bt l) 64) h i) 4))) (hv:=fun _=>Y3w rfl rfl);refine MW ?_ (v:=.pointer (some ⟨D,0+6,none⟩)) (hv:=fun _=>rxa Tryz.underlying258 (by omega));refine MG 0 ?_ (j:=0+6) (v:=.int .u32 ((Q1 K6 (Q0 (bt l) 64) h i) 6)) (hj:=ag0 (by omega));refine MW ?_ (v:=.int .u32 (an4 (nt4 ((Q1 K6 (Q0 (bt l) 64) h i) 4)) ((Q1 K6 (Q0 (bt l) 64) h i) 6))) (hv:=fun _=>J8n rfl rfl rfl);refine MW ?_ (v:=.int .u32 (xo4 (an4 ((Q1 K6 (Q0 (bt l) 64) h i) 4) ((Q1 K6 (Q0 (bt l) 64) h i) 5)) (an4 (nt4 ((Q1 K6 (Q0 (bt l) 64) h i) 4)) ((Q1 K6 (Q0 (bt l) 64) h i) 6)))) (hv:=fun _=>J5r rfl rfl rfl);refine MW ?_ (v:=.int .u32 (ad4 (ad4 ((Q1 K6 (Q0 (bt l) 64) h i) 7) (Q0i ((Q1 K6 (Q0 (bt l) 64) h i) 4) 6 11 25)) (xo4 (an4 ((Q1 K6 (Q0 (bt l) 64) h i) 4) ((Q1 K6 (Q0 (bt l) 64) h i) 5)) (an4 (nt4 ((Q1 K6 (Q0 (bt l) 64) h i) 4)) ((Q1 K6 (Q0 (bt l) 64) h i) 6))))) (hv:=fun _=>J3y rfl rfl rfl);refine MV ?_;refine MW ?_ (v:=.pointer (some ⟨14,0+i,none⟩)) (hv:=fun _=>rxa Tryz.underlying282 (by omega));refine MF (v:=.int .u32 (K6 i)) (fun W hS=>Q6 rfl rfl (((J0h HG.out hS.ext).1).1 _ _ (ag0 (by omega))) (by kernel_rfl)) ?_;refine MW ?_ (v:=.int .u32 (ad4 (ad4 (ad4 ((Q1 K6 (Q0 (bt l) 64) h i) 7) (Q0i ((Q1 K6 (Q0 (bt l) 64) h i) 4) 6 11 25)) (xo4 (an4 ((Q1 K6 (Q0 (bt l) 64) h i) 4) ((Q1 K6 (Q0 (bt l) 64) h i) 5)) (an4 (nt4 ((Q1 K6 (Q0 (bt l) 64) h i) 4)) ((Q1 K6 (Q0 (bt l) 64) h i) 6)))) (K6 i))) (hv:=fun _=>J3y rfl rfl rfl);refine MV ?_;refine MW ?_ (v:=.pointer (some ⟨G,0+i,none⟩)) (hv:=fun _=>rxa Tryz.underlying282 (by omega));refine MG 1 ?_ (j:=0+i) (v:=.int .u32 ((Q0 (bt l) 64) i)) (hj:=ag0 (by omega));refine MW ?_ (v:=.int .u32 (rT4 K6 (Q0 (bt l) 64) i (Q1 K6 (Q0 (bt l) 64) h i)));refine MV ?_;refine MZx fun W hS=> ?_;go_upto_region 7 with fail;refine RS hS ?_;clear hS;refine MW ?_ (v:=.pointer (some ⟨D,0+0,none⟩)) (hv:=fun _=>rxa Tryz.underlying258 (by omega));refine MG 0 ?_ (j:=0+0) (v:=.int .u32 ((Q1 K6 (Q0 (bt l) 64) h i) 0)) (hj:=ag0 (by omega));refine MC (v:=.int .u32 (Q0i ((Q1 K6 (Q0 (bt l) 64) h i) 0) 2 13 22)) (fun W hS=>Y3t ((Q1 K6 (Q0 (bt l) 64) h i) 0) 2 13 22 (by decide) (by decide) (by decide) W) ?_;refine MW ?_ (v:=.pointer (some ⟨D,0+0,none⟩)) (hv:=fun _=>rxa Tryz.underlying258 (by omega));refine MG 0 ?_ (j:=0+0) (v:=.int .u32 ((Q1 K6 (Q0 (bt l) 64) h i) 0)) (hj:=ag0 (by omega));refine MW ?_ (v:=.pointer (some ⟨D,0+1,none⟩)) (hv:=fun _=>rxa Tryz.underlying258 (by omega));refine MG 0 ?_ (j:=0+1) (v:=.int .u32 ((Q1 K6 (Q0 (bt l) 64) h i) 1)) (hj:=ag0 (by omega));refine MW ?_ (v:=.int .u32 (an4 ((Q1 K6 (Q0 (bt l) 64) h i) 0) ((Q1 K6 (Q0 (bt l) 64) h i) 1))) (hv:=fun _=>J8n rfl rfl rfl);refine MW ?_ (v:=.pointer (some ⟨D,0+0,none⟩)) (hv:=fun _=>rxa Tryz.underlying258 (by omega));refine MG 0 ?_ (j:=0+0) (v:=.int .u32 ((Q1 K6 (Q0 (bt l) 64) h i) 0)) (hj:=ag0 (by omega));refine MW ?_ (v:=.pointer (some ⟨D,0+2,none⟩)) (hv:=fun _=>rxa Tryz.underlying258 (by omega));refine MG 0 ?_ (j:=0+2) (v:=.int .u32 ((Q1 K6 (Q0 (bt l) 64) h i) 2)) (hj:=ag0 (by omega));refine MW ?_ (v:=.int .u32 (an4 ((Q1 K6 (Q0 (bt l) 64) h i) 0) ((Q1 K6 (Q0 (bt l) 64) h i) 2))) (hv:=fun _=>J8n rfl rfl rfl);refine MW ?_ (v:=.int .u32 (xo4 (an4 ((Q1 K6 (Q0 (bt l) 64) h i) 0) ((Q1 K6 (Q0 (bt l) 64) h i) 1)) (an4 ((Q1 K6 (Q0 (bt l) 64) h i) 0) ((Q1 K6 (Q0 (bt l) 64) h i) 2)))) (hv:=fun _=>J5r rfl rfl rfl);refine MW ?_ (v:=.pointer (some ⟨D,0+1,none⟩)) (hv:=fun _=>rxa Tryz.underlying258 (by omega));refine MG 0 ?_ (j:=0+1) (v:=.int .u32 ((Q1 K6 (Q0 (bt l) 64) h i) 1)) (hj:=ag0 (by omega));refine MW ?_ (v:=.pointer (some ⟨D,0+2,none⟩)) (hv:=fun _=>rxa Tryz.underlying258 (by omega));refine MG 0 ?_ (j:=0+2) (v:=.int .u32 ((Q1 K6 (Q0 (bt l) 64) h i) 2)) (hj:=ag0 (by omega));refine MW ?_ (v:=.int .u32 (an4 ((Q1 K6 (Q0 (bt l) 64) h i) 1) ((Q1 K6 (Q0 (bt l) 64) h i) 2))) (hv:=fun _=>J8n rfl rfl rfl);refine MW ?_ (v:=.int .u32 (xo4 (xo4 (an4 ((Q1 K6 (Q0 (bt l) 64) h i) 0) ((Q1 K6 (Q0 (bt l) 64) h i) 1)) (an4 ((Q1 K6 (Q0 (bt l) 64) h i) 0) ((Q1 K6 (Q0 (bt l) 64) h i) 2))) (an4 ((Q1 K6 (Q0 (bt l) 64) h i) 1) ((Q1 K6 (Q0 (bt l) 64) h i) 2)))) (hv:=fun _=>J5r rfl rfl rfl);refine MW ?_ (v:=.int .u32 (rU4 (Q1 K6 (Q0 (bt l) 64) h i)));refine MV ?_;refine MZx fun W hS=> ?_;go_upto_region 8 with fail;refine RL hS ?_;clear hS;refine MV ?_;refine MV ?_;refine MW ?_ (v:=.int .u32 (ad4 (rT4 K6 (Q0 (bt l) 64) i (Q1 K6 (Q0 (bt l) 64) h i)) (rU4 (Q1 K6 (Q0 (bt l) 64) h i)))) (hv:=fun _=>J3y rfl rfl rfl);refine MW ?_ (v:=.pointer (some ⟨D,0+0,none⟩)) (hv:=fun _=>rxa Tryz.underlying258 (by omega));refine MG 0 ?_ (j:=0+0) (v:=.int .u32 ((Q1 K6 (Q0 (bt l) 64) h i) 0)) (hj:=ag0 (by omega));refine MW ?_ (v:=.pointer (some ⟨D,0+1,none⟩)) (hv:=fun _=>rxa Tryz.underlying258 (by omega));refine MG 0 ?_ (j:=0+1) (v:=.int .u32 ((Q1 K6 (Q0 (bt l) 64) h i) 1)) (hj:=ag0 (by omega));refine MW ?_ (v:=.pointer (some ⟨D,0+2,none⟩)) (hv:=fun _=>rxa Tryz.underlying258 (by omega));refine MG 0 ?_ (j:=0+2) (v:=.int .u32 ((Q1 K6 (Q0 (bt l) 64) h i) 2)) (hj:=ag0 (by omega));refine MW ?_ (v:=.pointer (some ⟨D,0+3,none⟩)) (hv:=fun _=>rxa Tryz.underlying258 (by omega));refine MG 0 ?_ (j:=0+3) (v:=.int .u32 ((Q1 K6 (Q0 (bt l) 64) h i) 3)) (hj:=ag0 (by omega));refine MV ?_;refine MW ?_ (v:=.int .u32 (ad4 ((Q1 K6 (Q0 (bt l) 64) h i) 3) (rT4 K6 (Q0 (bt l) 64) i (Q1 K6 (Q0 (bt l) 64) h i)))) (hv:=fun _=>J3y rfl rfl rfl);refine MW ?_ (v:=.pointer (some ⟨D,0+4,none⟩)) (hv:=fun _=>rxa Tryz.underlying258 (by omega));refine MG 0 ?_ (j:=0+4) (v:=.int .u32 ((Q1 K6 (Q0 (bt l) 64) h i) 4)) (hj:=ag0 (by omega));refine MW ?_ (v:=.pointer (some ⟨D,0+5,none⟩)) (hv:=fun _=>rxa Tryz.underlying258 (by omega));refine MG 0 ?_ (j:=0+5) (v:=.int .u32 ((Q1 K6 (Q0 (bt l) 64) h i) 5)) (hj:=ag0 (by omega));refine MW ?_ (v:=.pointer (some ⟨D,0+6,none⟩)) (hv:=fun _=>rxa Tryz.underlying258 (by omega));refine MG 0 ?_ (j:=0+6) (v:=.int .u32 ((Q1 K6 (Q0 (bt l) 64) h i) 6)) (hj:=ag0 (by omega));refine MW ?_ (v:=.agg (J0 .u32 8 (Q1 K6 (Q0 (bt l) 64) h (i+1)))) (hv:=by intro W;first|rfl|(go_simp;rfl));refine MR 0 ?_;refine MZ fun W hS=> ?_;go_wp2;go_roundw
   case rel=>exact⟨i+1,by omega,by go_num,hS⟩
   case measure=>simp[intOf];omega
  obtain rfl:i=64:=by omega
  go_upto_region 4 with fail;refine RL hS ?_;clear hS;refine Wf ?_;refine MZ fun W hS=> ?_
  go_wp2_with fail
  go_loopw [86] (fun ii wr=> ∃(i:Nat),(i≤8)∧(ii=.int .i64 (i:Int))∧SH [] w wr [.b D (J0 .u32 8 (Q1 K6 (Q0 (bt l) 64) h 64)) 258,.b G (J0 .u32 64 (Q0 (bt l) 64)) 282,.b J (J0 .u32 8 (fun _=>0)) 258,.b K9 (J0 .u32 8 (mx4 h (Q1 K6 (Q0 (bt l) 64) h 64) i)) 258])
   (fun ii _=>8-(intOf ii).toNat)
  case atStart=>exact⟨0,Ah _,rfl,(by rw[Z13];exact hS)⟩
  clear hS
  case round=>
   obtain⟨i,hi,rfl,hS⟩:=hrel
   by_cases h8:i<8
   ·
    go_upto_region 11 with fail;refine RL hS ?_;clear hS;refine Wt ?_;refine MZ fun W hS=> ?_;go_upto_region 13 with fail;refine RX 8 hS ?_;clear hS;refine MV ?_;refine MW ?_ (v:=.pointer (some ⟨K9,0+i,none⟩)) (hv:=fun _=>rxa Tryz.underlying258 (by omega));refine MG 3 ?_ (j:=0+i) (v:=.int .u32 ((mx4 h (Q1 K6 (Q0 (bt l) 64) h 64) i) i)) (hj:=ag0 (by omega));refine MV ?_;refine MW ?_ (v:=.pointer (some ⟨D,0+i,none⟩)) (hv:=fun _=>rxa Tryz.underlying258 (by omega));refine MG 0 ?_ (j:=0+i) (v:=.int .u32 ((Q1 K6 (Q0 (bt l) 64) h 64) i)) (hj:=ag0 (by omega));refine MW ?_ (v:=.int .u32 (ad4 ((mx4 h (Q1 K6 (Q0 (bt l) 64) h 64) i) i) ((Q1 K6 (Q0 (bt l) 64) h 64) i))) (hv:=fun _=>J3y rfl rfl rfl);refine MW ?_ (v:=.pointer (some ⟨K9,0+i,none⟩)) (hv:=fun _=>rxa Tryz.underlying258 (by omega));refine MZt ?_;refine MP 3 (v:=.int .u32 (ad4 ((mx4 h (Q1 K6 (Q0 (bt l) 64) h 64) i) i) ((Q1 K6 (Q0 (bt l) 64) h 64) i))) (cs' :=J0 .u32 8 (upd (mx4 h (Q1 K6 (Q0 (bt l) 64) h 64) i) i (ad4 ((mx4 h (Q1 K6 (Q0 (bt l) 64) h 64) i) i) ((Q1 K6 (Q0 (bt l) 64) h 64) i)))) ?_ (hs:=by rw[J1,AL];omega) (hc:=by rw[AL];exact V1 _ _ _ _ _);refine MZn fun W hS=> ?_;go_wp2;go_roundw
    case rel=>exact⟨i+1,by omega,by go_num,(by rw[←Z12];exact hS)⟩
    case measure=>simp[intOf];omega
   obtain rfl:i=8:=by omega
   rw[Y7z] at hS;go_upto_region 11 with fail;refine RL hS ?_;clear hS;refine Wf ?_;refine MZ fun W hS=> ?_;go_upto_region 15 with fail;refine RL hS ?_;clear hS;refine ML 3 ?_;refine MR 2 ?_;refine MZ fun W hS=> ?_;go_wp2;refine BC (Z6 rfl rfl (hS.blk (i:=2) rfl) (by kernel_rfl) (by rw[J1];kernel_rfl)) rfl ⟨rfl,hS.ext⟩
end

section

def zc4 (n:Nat):Nat:=(119-n % 64) % 64
def J07 (l:List UInt8):List UInt8:=l++[128]++List.replicate (zc4 l.length) 0++be8 (8*l.length)
def nb4 (n:Nat):Nat:=(n+1+zc4 n+8) / 64
theorem J8p (n:Nat):(n+1+zc4 n) % 64=56∧zc4 n<64:=by unfold zc4;omega
theorem Y3z {n k:Nat}(h:k<zc4 n):(n+1+k) % 64≠56:=by unfold zc4 at h;omega
theorem Y3y (n:Nat):zc4 (n-64*(n / 64))=zc4 n:=by unfold zc4;omega
theorem Y40 (n:Nat):nb4 (n-64*(n / 64))+n / 64=nb4 n:=by unfold nb4 zc4;omega
theorem Q2t (l:List UInt8):(J07 l).length=64*nb4 l.length:=by
  have h:=J8p l.length;unfold J07 nb4;simp only[Ai,List.length_cons,List.length_nil,List.length_replicate,be8];omega
def Hs4 (P:List UInt8):Nat→Nat→Int
  |0=>hf4
  |j+1=>J7o (Hs4 P j) (bt (P.drop (64*j)))
def ob4 (H:Nat→Int)(j:Nat):Int:=w8 (sr4 (H (j / 4)) (8*(3-j % 4)))
def J7v (H:Nat→Int)(n j:Nat):Int:=if j<n then ob4 H j else 0
theorem Z3h (H:Nat→Int):J7v H 0=fun _=>0:=by funext j;unfold J7v;rw[if_neg (by omega)]
theorem J7q (H:Nat→Int)(i k:Nat)(hk:k<4):upd (J7v H (4*i+k)) (4*i+k) (w8 (sr4 (H i) (8*(3-k))))=J7v H (4*i+(k+1)):=by
  funext j
  unfold upd J7v
  by_cases h:j=4*i+k
  · subst h
    rw[if_pos rfl,if_pos (by omega),ob4,show(4*i+k) / 4=i by omega,show(4*i+k) % 4=k by omega]
  rw[if_neg h]
  by_cases hl:j<4*i+k
  · rw[if_pos hl,if_pos (by omega)]
  rw[if_neg hl,if_neg (by omega)]
theorem Z8g (H:Nat→Int):J0 .u8 32 (J7v H 32)=J0 .u8 32 (ob4 H):=X7 _ _ _ _ fun j hj=>by unfold J7v;rw[if_pos hj]
def sm4 (l:List UInt8):Nat→Int:=ob4 (Hs4 (J07 l) (nb4 l.length))
theorem Q5c (P:List UInt8)(j:Nat):List.drop 64 (List.drop (64*j) P)=List.drop (64*(j+1)) P:=by
  rw[List.drop_drop];congr 1
/-! ### a block's words are of its bytes alone -/
theorem Q5e {a b:Nat→Int}{i:Nat}:∀k,(∀j,j<4*i+k→a j=b j)→J3j a i k=J3j b i k
  |0,_=>rfl
  |k+1,h=>by
    show oo4 (sl4 (J3j a i k) 8) (a (4*i+k))=oo4 (sl4 (J3j b i k) 8) (b (4*i+k));rw[Q5e k (fun j hj=>h j (by omega)),h (4*i+k) (by omega)]
theorem Q5f {a b:Nat→Int}(h:∀j,j<64→a j=b j):∀i,Q0 a i=Q0 b i
  |0=>rfl
  |i+1=>by
    show upd (Q0 a i) i (if i<16 then J3j a i 4 else sg4 (Q0 a i) i)=upd (Q0 b i) i (if i<16 then J3j b i 4 else sg4 (Q0 b i) i);rw[Q5f h i]
    by_cases hi:i<16
    · rw[if_pos hi,if_pos hi,Q5e 4 (fun j hj=>h j (by omega))]
    · rw[if_neg hi,if_neg hi]
theorem Q5b {H a b:Nat→Int}(h:∀j,j<64→a j=b j):J7o H a=J7o H b:=by
  funext j
  unfold J7o;rw[Q5f h 64]
theorem J72 (P:List UInt8)(n m:Nat):bt (P.drop n) m=bt P (n+m):=by
  unfold bt;simp[List.getD_eq_getElem?_getD,List.getElem?_drop]
theorem Q6x {P Q:List UInt8}:∀k,(∀j,j<64*k→bt P j=bt Q j)→Hs4 P k=Hs4 Q k
  |0,_=>rfl
  |k+1,h=>by
    show J7o (Hs4 P k) (bt (P.drop (64*k)))=J7o (Hs4 Q k) (bt (Q.drop (64*k)));rw[Q6x k (fun j hj=>h j (by omega))];exact Q5b fun j hj=>by rw[J72,J72];exact h _ (by omega)
theorem Y88 {P Q:List UInt8}{j:Nat}(h:j<P.length):bt (P++Q) j=bt P j:=by
  unfold bt;simp[List.getD_eq_getElem?_getD,List.getElem?_append,h]
/-! ### a sum that goes on -/
def hw4 (F:List UInt8):Nat→Int:=Hs4 F (F.length / 64)
def hr4 (F:List UInt8):List UInt8:=F.drop (64*(F.length / 64))
theorem J7p (F:List UInt8):(hr4 F).length=F.length-64*(F.length / 64):=by unfold hr4;rw[List.length_drop]
theorem Z3g (F:List UInt8):(hr4 F).length<64:=by rw[J7p];omega
theorem Q2d {F b:List UInt8}:(F++b).drop (64*(F.length / 64))=hr4 F++b:=by
  unfold hr4;rw[List.drop_append_of_le_length (by omega)]
theorem Z6o (F b:List UInt8):hw4 F=Hs4 (F++b) (F.length / 64):=Q6x _ fun j hj=>(Y88 (by omega)).symm
theorem Y3x (F b:List UInt8)(k:Nat):J7o (Hs4 (F++b) (F.length / 64+k)) (bt ((hr4 F++b).drop (64*k)))=Hs4 (F++b) (F.length / 64+(k+1)):=by
  rw[←Q2d,List.drop_drop,←Nat.mul_add];rfl
theorem Y80 {F b:List UInt8}{k:Nat}(h:k=(hr4 F++b).length / 64):Hs4 (F++b) (F.length / 64+k)=hw4 (F++b)∧(hr4 F++b).drop (64*k)=hr4 (F++b):=by
  have e:F.length / 64+k=(F++b).length / 64:=by rw[h,Ai,Ai,J7p];omega
  refine⟨by rw[hw4,e],?_⟩;rw[←Q2d,List.drop_drop,←Nat.mul_add,e];rfl
theorem Z8e (F:List UInt8):(J07 F).drop (64*(F.length / 64))=hr4 F++[128]++List.replicate (zc4 F.length) 0++be8 (8*F.length):=by
  unfold J07;rw[Ak,Ak,Q2d];simp only[Ak]
theorem Y82 (F:List UInt8):hw4 F=Hs4 (J07 F) (F.length / 64):=by
  unfold J07;rw[Ak,Ak];exact Z6o _ _
theorem Z8f (F:List UInt8)(k:Nat):J7o (Hs4 (J07 F) (F.length / 64+k)) (bt (((J07 F).drop (64*(F.length / 64))).drop (64*k)))=Hs4 (J07 F) (F.length / 64+(k+1)):=by
  rw[List.drop_drop,←Nat.mul_add];rfl
theorem Z1a (F:List UInt8):F.length / 64+nb4 (hr4 F).length=nb4 F.length:=by
  rw[J7p,Nat.add_comm];exact Y40 _
end

section

theorem J2t (k:AG)(j:Nat)(hj:j≤k.bits)(hk:∀n:Int,0≤n→n<2^j→k.wrap n=n)(a b:Nat)(ha:a<2^j)(hb:b<2^j):bits .xor k a b=((a^^^b:Nat):Int):=by
  have hp:2^j≤2^k.bits:=Nat.pow_le_pow_right (by decide) hj;have ha' :a % 2^k.bits=a:=AI (Au ha hp);have hb' :b % 2^k.bits=b:=AI (Au hb hp);simp only[bits,BitVec.ofInt_natCast,BitVec.toNat_xor,BitVec.toNat_ofNat,ha',hb'];exact hk _ (Int.natCast_nonneg _) (by exact_mod_cast Nat.xor_lt_two_pow ha hb)
theorem V0v (n:Int)(h0:0≤n)(h1:n<2^32):AG.u32.wrap n=n:=by rw[AG.wrap_u32];omega
theorem Z1k (n:Int)(h0:0≤n)(h1:n<2^63):AG.i64.wrap n=n:=by rw[AG.wrap_i64];omega
section
variable {a b : Nat}
theorem Y8j (ha:a<2^32)(hb:b<2^32):an4 a b=((a &&& b:Nat):Int):=(bits_nat .u32 32 (by decide) V0v a b ha hb).1
theorem V0w (ha:a<2^32)(hb:b<2^32):oo4 a b=((a |||b:Nat):Int):=(bits_nat .u32 32 (by decide) V0v a b ha hb).2
theorem Y8k (ha:a<2^32)(hb:b<2^32):xo4 a b=((a^^^b:Nat):Int):=J2t .u32 32 (by decide) V0v a b ha hb
theorem V69 (ha:a<2^63)(hb:b<2^63):bits .and .i64 a b=((a &&& b:Nat):Int):=(bits_nat .i64 63 (by decide) Z1k a b ha hb).1
theorem V6a (ha:a<2^63)(hb:b<2^63):bits .or .i64 a b=((a |||b:Nat):Int):=(bits_nat .i64 63 (by decide) Z1k a b ha hb).2
theorem V6b (ha:a<2^63)(hb:b<2^63):bits .xor .i64 a b=((a^^^b:Nat):Int):=J2t .i64 63 (by decide) Z1k a b ha hb
end
theorem Q3v {x:Int}(h0:0≤x)(h1:x<2^63):bits .and .i64 x 4294967295=x % 4294967296:=bits_mask .i64 63 (by decide) Z1k 32 (by decide) x h0 h1
def W4 (x:Int):Prop:=0≤x∧x<4294967296
theorem W4.nat {x:Int}(h:W4 x):∃a:Nat,x=(a:Int)∧a<2^32:=⟨x.toNat,by have:=h.1;omega,by have:=h.1;have:=h.2;omega⟩
theorem W4.mk' {a:Nat}(h:a<2^32):W4 (a:Int):=⟨by omega,by omega⟩
theorem Z6y {a:Nat}(h:a<2^32):a<2^63:=by omega
variable {x y : Int}
theorem J51 (hx:W4 x)(hy:W4 y):W4 (xo4 x y):=by
  obtain⟨a,rfl,ha⟩:=hx.nat;obtain⟨b,rfl,hb⟩:=hy.nat;rw[Y8k ha hb];exact W4.mk' (Nat.xor_lt_two_pow ha hb)
theorem J4l (hx:W4 x)(hy:W4 y):W4 (an4 x y):=by
  obtain⟨a,rfl,ha⟩:=hx.nat;obtain⟨b,rfl,hb⟩:=hy.nat;rw[Y8j ha hb];exact W4.mk' (Nat.and_lt_two_pow _ hb)
theorem Y8l (hx:W4 x)(hy:W4 y):W4 (oo4 x y):=by
  obtain⟨a,rfl,ha⟩:=hx.nat;obtain⟨b,rfl,hb⟩:=hy.nat;rw[V0w ha hb];exact W4.mk' (Nat.or_lt_two_pow ha hb)
theorem Z3m (hx:W4 x):W4 (nt4 x):=J51 (x:=4294967295) ⟨by decide,by decide⟩ hx
theorem Z3n:W4 (ad4 x y):=by unfold ad4 W4;rw[AG.wrap_u32];omega
theorem Y8m {n:Nat}:W4 (sl4 x n):=by unfold sl4 W4;rw[AG.wrap_u32];omega
theorem Z3o {n:Nat}(hx:W4 x):W4 (sr4 x n):=by
  obtain⟨a,rfl,ha⟩:=hx.nat;unfold sr4;rw[show((a:Int) / 2^n)=((a / 2^n:Nat):Int) by rw[Int.natCast_ediv,Int.natCast_pow];rfl];exact W4.mk' (AK (Nat.div_le_self _ _) ha)
theorem J2m {n:Nat}(hx:W4 x):W4 (rt4 x n):=Y8l (Z3o hx) Y8m
theorem Z8u (hx:W4 x)(hy:W4 y):bits .xor .i64 x y=xo4 x y:=by
  obtain⟨a,rfl,ha⟩:=hx.nat;obtain⟨b,rfl,hb⟩:=hy.nat;rw[Y8k ha hb,V6b (Z6y ha) (Z6y hb)]
theorem V0x (hx:W4 x)(hy:W4 y):bits .and .i64 x y=an4 x y:=by
  obtain⟨a,rfl,ha⟩:=hx.nat;obtain⟨b,rfl,hb⟩:=hy.nat;rw[Y8j ha hb,V69 (Z6y ha) (Z6y hb)]
theorem V6c (hx:W4 x):bits .xor .i64 4294967295 x=nt4 x:=Z8u (x:=4294967295) ⟨by decide,by decide⟩ hx
theorem Q1m:ad4 x y=(x+y) % 4294967296:=by unfold ad4;rw[AG.wrap_u32]
theorem V0y {n:Nat}(hx:W4 x)(h1:1≤n)(h2:n≤31):AG.wrap .i64 (x*2^(32-n))=x*2^(32-n):=by
  obtain⟨a,rfl,ha⟩:=hx.nat;have e2:((a:Int)*2^(32-n))=((a*2^(32-n):Nat):Int):=by rw[Int.natCast_mul,Int.natCast_pow];rfl
  have h3:2^(32-n)≤2^31:=Nat.pow_le_pow_right (by decide) (by omega);have l2:a*2^(32-n)<2^63:=AK (Nat.mul_le_mul_left _ h3) (by omega);rw[e2];exact Z1k _ (Int.natCast_nonneg _) (by exact_mod_cast l2)
theorem Y4h {n:Nat}(hx:W4 x)(h1:1≤n)(h2:n≤31):bits .and .i64 (bits .or .i64 (x / 2^n) (x*2^(32-n))) 4294967295=rt4 x n:=by
  obtain⟨a,rfl,ha⟩:=hx.nat;have e1:((a:Int) / 2^n)=((a / 2^n:Nat):Int):=by rw[Int.natCast_ediv,Int.natCast_pow];rfl
  have e2:((a:Int)*2^(32-n))=((a*2^(32-n):Nat):Int):=by rw[Int.natCast_mul,Int.natCast_pow];rfl
  have l1:a / 2^n<2^32:=AK (Nat.div_le_self _ _) ha
  have l2:a*2^(32-n)<2^63:=by
    have h3:2^(32-n)≤2^31:=Nat.pow_le_pow_right (by decide) (by omega)
    calc a*2^(32-n)≤a*2^31:=Nat.mul_le_mul_left _ h3
      _<2^63:=by omega
  have e3:sl4 (a:Int) (32-n)=((a*2^(32-n) % 2^32:Nat):Int):=by
    unfold sl4;rw[AG.wrap_u32,e2];omega
  have l3:a*2^(32-n) % 2^32<2^32:=Nat.mod_lt _ (by decide);unfold rt4;rw[e3,show sr4 (a:Int) n=((a / 2^n:Nat):Int) from e1,V0w l1 l3,e1,e2,V6a (Z6y l1) l2,Q3v (by omega) (by exact_mod_cast Nat.or_lt_two_pow (Z6y l1) l2)];have h4:(a / 2^n |||a*2^(32-n)) % 2^32=a / 2^n |||a*2^(32-n) % 2^32:=by rw[Nat.or_mod_two_pow,AI l1]
  rw[←h4];omega
end

section
set_option maxHeartbeats 1500000
attribute [local irreducible] wpList

abbrev hc8 (H:Nat→Int)(v n:AB):Array AB:=J0 .u32 8 H++ #[v,n]
section
variable {H K : Nat → Int} {v n x : AB}
theorem Q8s:(hc8 H v n).size=10:=by simp[J1]
theorem Z14:∀i u,(J0 .u32 8 H)[i]?=some u→(hc8 H v n)[0+i]?=some u:=fun i u h=>by
  have hi:i<(J0 .u32 8 H).size:=by
    rcases Nat.lt_or_ge i (J0 .u32 8 H).size with h1|h1
    · exact h1
    · rw[Array.getElem?_eq_none h1] at h;cases h
  rw[AL,Array.getElem?_append_left hi];exact h
theorem Q3q:(hc8 H v n)[8]?=some v:=by rw[Array.getElem?_append_right (by rw[J1];decide),J1];rfl
theorem Z15:(hc8 H v n)[9]?=some n:=by rw[Array.getElem?_append_right (by rw[J1];decide),J1];rfl
theorem Z3f:(hc8 H v n).setIfInBounds 8 x=hc8 H x n:=by
  apply Array.toList_inj.1;simp[J0]
theorem Z16:(hc8 H v n).setIfInBounds 9 x=hc8 H v x:=by
  apply Array.toList_inj.1;simp[J0]
theorem Z17:spl (hc8 H v n) 0 (J0 .u32 8 K).toList=hc8 K v n:=by
  first|kernel_rfl|rfl|(apply Array.toList_inj.1;simp[spl,J0,List.range,List.range.loop])
end
abbrev hcs (v:AB)(F:List UInt8):Array AB:=hc8 (hw4 F) v (.int .i64 (F.length:Int))
def Hsh (w:AA)(p:Nat)(v:AB)(F:List UInt8):Prop:=Blk w p (hcs v F) 260∧Own w v (hr4 F)∧v.ownBlock≠some p

theorem Z96 (w:AA)(hG:GS4 w):
  Az Tryz.prog 111 #[] w fun e w' => ∃p,e=.returned (.pointer (some ⟨p,0,none⟩))∧w.heap.size≤p∧Off [] w w' ∧Hsh w' p (.slice none 0 0) []:=by
 have HG:=Lib.hid hG;clear hG;have D:Off [] w w:=Off.refl _ _
 go_enter Tryz.func111,Tryz.ntmps111
 go_upto_region 1 with fail;refine wp_region_lit ?_;refine Y5y (by rfl) rfl rfl ((J0h HG.out D.ext).2) (by kernel_rfl) (by rw[J1];kernel_rfl) ?_
 (try simp only[Act.put,mA,mB,mC])
 refine Lw ?_ (v:=.agg (hcs (.slice none 0 0) [])) (hv:=by first|rfl|(go_simp;rfl)|kernel_rfl);refine Ln ?_ (z:=hcs (.slice none 0 0) []) (t:=260);intro N W1 G hO h_;have M:=fbn D G;replace D:=D.o hO;have J:=h_;clear hO h_ G;refine Lv ?_;refine J0p ?_;go_wp2;exact BC (v:=.pointer (some ⟨N,0,none⟩)) (by simp only[results,Tryz.results111];go_simp) rfl ⟨_,rfl,Nat.le_of_not_lt (fun h_=>by simpa using M h_),D,J,Q7s _,fun e_=>by cases e_⟩
end
end Go.Proofs.YtpljgkofbfeelaaGreatDoor

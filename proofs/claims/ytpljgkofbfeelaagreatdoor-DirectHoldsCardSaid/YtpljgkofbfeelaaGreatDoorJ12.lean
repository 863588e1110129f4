/- Contracts and plain laws for directHolds_holds. Conditions: the tables hold their numbers. -/
import Derived.StillTailTactics
import Derived.Test.YtpljgkofbfeelaaGreatDoorJ11
open Go renaming World->AA,Value->AB,bodyPost_ret->BC,Calls->Az,IntKind->AG
open Go.Lib renaming hid->BF
open _root_.Nat renaming mod_eq_of_lt->AI,le_refl->AJ,lt_of_lt_of_le->Au,mod_lt->BH,zero_add->AL,mul_zero->Ay,two_pow_pos->AM,div_eq_of_lt->AN
open Go.RowKit
set_option maxRecDepth 100000
set_option linter.unusedSimpArgs false
set_option linter.unusedVariables false
namespace Go.Proofs.YtpljgkofbfeelaaGreatDoor.S8.Sc
section
set_option maxHeartbeats 2000000

def LL:Nat:=7237005577332262213973186563042994240857116359379907606001950938285454250989
def GL (w:AA):Prop:=w.cell? ⟨9,0,none⟩=some (.int .u64 6346243789798364141)∧w.cell? ⟨9,1,none⟩=some (.int .u64 1503914060200516822)∧w.cell? ⟨9,2,none⟩=some (.int .u64 0)∧w.cell? ⟨9,3,none⟩=some (.int .u64 1152921504606846976)∧9<w.heap.size
theorem J3x {B:Nat}{w w' :AA}(h:GL w)(hb:Below B w w')(hB:9<B):GL w' :=by
  obtain⟨h0,h1,h2,h3,h4⟩:=h;refine⟨?_,?_,?_,?_,Au h4 hb.size⟩
  · rw[hb.cell (p:=⟨9,0,none⟩) hB];exact h0
  · rw[hb.cell (p:=⟨9,1,none⟩) hB];exact h1
  · rw[hb.cell (p:=⟨9,2,none⟩) hB];exact h2
  rw[hb.cell (p:=⟨9,3,none⟩) hB];exact h3

theorem Z07 (a0 a1 a2 a3 b0 b1 b2 b3:Int)(ha:U4 a0 a1 a2 a3)(hb:U4 b0 b1 b2 b3)(w:AA):
    Az Tryz.prog 160 #[A4 a0 a1 a2 a3,A4 b0 b1 b2 b3] w fun e w' =>
      V5 (.tuple #[L4 (J7x (J0n a0 a1 a2 a3) (J0n b0 b1 b2 b3)),.int .u64 (brw (J0n a0 a1 a2 a3) (J0n b0 b1 b2 b3))]) w w' e:=by
  have D:=Q6b a0 a1 a2 a3 b0 b1 b2 b3 ha hb;have HC:=BF D;clear D;have h0:=J3g a0 b0 0 ha.1 hb.1 (by omega) (by omega);have h1:=J3g a1 b1 _ ha.2.1 hb.2.1 (J54 a0 b0 0).1 (J54 a0 b0 0).2;have h2:=J3g a2 b2 _ ha.2.2.1 hb.2.2.1 (J54 a1 b1 (sbB a0 b0 0)).1 (J54 a1 b1 (sbB a0 b0 0)).2;have h3:=J3g a3 b3 _ ha.2.2.2 hb.2.2.2 (J54 a2 b2 (sbB a1 b1 (sbB a0 b0 0))).1 (J54 a2 b2 (sbB a1 b1 (sbB a0 b0 0))).2;clear ha hb
  go_enter Tryz.func160,Tryz.ntmps160
  go_wp2;refine wp_loop_rounds 5 ?_;rw[rounds_succ];go_wp2
  go_region
  go_wp2;rw[rounds_succ];go_wp2
  go_region
  go_wp2;rw[rounds_succ];go_wp2
  go_region
  go_wp2;rw[rounds_succ];go_wp2
  go_region
  go_wp2;rw[rounds_succ];go_wp2;refine BC (v:=.tuple #[A4 (sbD a0 b0 0) (sbD a1 b1 (sbB a0 b0 0)) (sbD a2 b2 (sbB a1 b1 (sbB a0 b0 0))) (sbD a3 b3 (sbB a2 b2 (sbB a1 b1 (sbB a0 b0 0)))),.int .u64 (sbB a3 b3 (sbB a2 b2 (sbB a1 b1 (sbB a0 b0 0))))]) (by simp[results,Tryz.results160,go_sem]) rfl ⟨?_,?_⟩
  · rw[HC.out.1,HC.out.2]
  exact bz

theorem Y2q (a0 a1 a2 a3 b0 b1 b2 b3:Int)(ha:U4 a0 a1 a2 a3)(hb:U4 b0 b1 b2 b3)(w:AA):
    Az Tryz.prog 145 #[A4 a0 a1 a2 a3,A4 b0 b1 b2 b3] w fun e w' =>
      V5 (.bool (decide (J0n a0 a1 a2 a3<J0n b0 b1 b2 b3))) w w' e:=by
  go_enter Tryz.func145,Tryz.ntmps145
  go_wp2_with (go_at_call 160;refine(Z07 _ _ _ _ _ _ _ _ ha hb _).mono ?_;rintro e w1 ⟨rfl,D⟩)
  go_ret
  refine⟨?_,?_⟩
  · unfold brw;split<;>simp[*]
  have s1:=D.size;simp only[AA.size_alloc] at s1;exact bz

theorem Q58:U4 6346243789798364141 1503914060200516822 0 1152921504606846976:=by simp[U4,Z7]
theorem Q08:J0n 6346243789798364141 1503914060200516822 0 1152921504606846976=LL:=by decide+kernel
theorem L4_order:L4 LL=A4 6346243789798364141 1503914060200516822 0 1152921504606846976:=by rw[Z50 _ _ _ _ Q58,Q08]


theorem Z30 (a0 a1 a2 a3 bit:Int)(ha:U4 a0 a1 a2 a3)(hb0:0≤bit)(hb1:bit≤1)(hA:J0n a0 a1 a2 a3<LL):
    U4 (bits .or .u64 (AG.wrap .u64 (a0*2)) bit) (bits .or .u64 (AG.wrap .u64 (a1*2)) (a0 / 9223372036854775808)) (bits .or .u64 (AG.wrap .u64 (a2*2)) (a1 / 9223372036854775808)) (bits .or .u64 (AG.wrap .u64 (a3*2)) (a2 / 9223372036854775808))∧
    J0n (bits .or .u64 (AG.wrap .u64 (a0*2)) bit) (bits .or .u64 (AG.wrap .u64 (a1*2)) (a0 / 9223372036854775808)) (bits .or .u64 (AG.wrap .u64 (a2*2)) (a1 / 9223372036854775808)) (bits .or .u64 (AG.wrap .u64 (a3*2)) (a2 / 9223372036854775808))=2*J0n a0 a1 a2 a3+bit.toNat:=by
  obtain⟨h0,h1,h2,h3⟩:=ha;rw[Q3f a0 bit h0 hb0 hb1,Q3f a1 _ h1 (by unfold Z7 at h0;omega) (by unfold Z7 at h0;omega),Q3f a2 _ h2 (by unfold Z7 at h1;omega) (by unfold Z7 at h1;omega),Q3f a3 _ h3 (by unfold Z7 at h2;omega) (by unfold Z7 at h2;omega)]
  have hu:U4 (a0*2 % 18446744073709551616+bit) (a1*2 % 18446744073709551616+a0 / 9223372036854775808) (a2*2 % 18446744073709551616+a1 / 9223372036854775808) (a3*2 % 18446744073709551616+a2 / 9223372036854775808):=by
    unfold U4 Z7 at*;omega
  refine⟨hu,?_⟩;have i1:=J4q _ _ _ _ hu;have i2:=J4q _ _ _ _ ⟨h0,h1,h2,h3⟩
  have h3' :a3<1152921504606846977:=by
    have:(J0n a0 a1 a2 a3:Int)<LL:=by exact_mod_cast hA
    rw[i2] at this;unfold LL Z7 at*;omega
  generalize J0n (a0*2 % 18446744073709551616+bit) (a1*2 % 18446744073709551616+a0 / 9223372036854775808) (a2*2 % 18446744073709551616+a1 / 9223372036854775808) (a3*2 % 18446744073709551616+a2 / 9223372036854775808)=X at*;generalize J0n a0 a1 a2 a3=A at*;clear hA hu;unfold Z7 at*;omega

theorem Y2r (x:Nat)(h:x<2*LL)(hx:¬x<LL):J7x x LL=x % LL:=by
  have e:x % LL=x-LL:=by rw[Nat.mod_eq_sub_mod (by omega),AI (by omega)]
  rw[e];unfold J7x LL at*;omega

theorem Y74 (a0 a1 a2 a3 bit:Int)(ha:U4 a0 a1 a2 a3)(hb0:0≤bit)(hb1:bit≤1)(hA:J0n a0 a1 a2 a3<LL)(w:AA)(hG:GL w):
    Az Tryz.prog 146 #[A4 a0 a1 a2 a3,.int .u64 bit] w fun e w' =>
      V5 (L4 ((2*J0n a0 a1 a2 a3+bit.toNat) % LL)) w w' e:=by
  obtain⟨hO,hV⟩:=Z30 a0 a1 a2 a3 bit ha hb0 hb1 hA;have HV:=BF hV;have HA:=BF hA;clear hV hA;have HG:=BF hG;obtain⟨g0,g1,g2,g3,g4⟩:=hG;have Z:∀o,(w.alloc o).cell? ⟨9,0,none⟩=w.cell? ⟨9,0,none⟩:=fun o=>AA.cell?_alloc_lt w o _ g4;have S:∀o o',((w.alloc o).alloc o').cell? ⟨9,0,none⟩=w.cell? ⟨9,0,none⟩:=fun o o' =>(AA.cell?_alloc_lt _ o' _ (by rw[AA.size_alloc];show 9<_;omega)).trans (Z o);have γ:∀o o' D,(((w.alloc o).alloc o').alloc D).cell? ⟨9,0,none⟩=w.cell? ⟨9,0,none⟩:=fun o o' D=>(AA.cell?_alloc_lt _ D _ (by rw[AA.size_alloc,AA.size_alloc];show 9<_;omega)).trans (S o o');have X:∀o,(w.alloc o).cell? ⟨9,1,none⟩=w.cell? ⟨9,1,none⟩:=fun o=>AA.cell?_alloc_lt w o _ g4;have U:∀o o',((w.alloc o).alloc o').cell? ⟨9,1,none⟩=w.cell? ⟨9,1,none⟩:=fun o o' =>(AA.cell?_alloc_lt _ o' _ (by rw[AA.size_alloc];show 9<_;omega)).trans (X o);have δ:∀o o' D,(((w.alloc o).alloc o').alloc D).cell? ⟨9,1,none⟩=w.cell? ⟨9,1,none⟩:=fun o o' D=>(AA.cell?_alloc_lt _ D _ (by rw[AA.size_alloc,AA.size_alloc];show 9<_;omega)).trans (U o o');have N:∀o,(w.alloc o).cell? ⟨9,2,none⟩=w.cell? ⟨9,2,none⟩:=fun o=>AA.cell?_alloc_lt w o _ g4;have T:∀o o',((w.alloc o).alloc o').cell? ⟨9,2,none⟩=w.cell? ⟨9,2,none⟩:=fun o o' =>(AA.cell?_alloc_lt _ o' _ (by rw[AA.size_alloc];show 9<_;omega)).trans (N o);have α:∀o o' D,(((w.alloc o).alloc o').alloc D).cell? ⟨9,2,none⟩=w.cell? ⟨9,2,none⟩:=fun o o' D=>(AA.cell?_alloc_lt _ D _ (by rw[AA.size_alloc,AA.size_alloc];show 9<_;omega)).trans (T o o');have R:∀o,(w.alloc o).cell? ⟨9,3,none⟩=w.cell? ⟨9,3,none⟩:=fun o=>AA.cell?_alloc_lt w o _ g4;have V:∀o o',((w.alloc o).alloc o').cell? ⟨9,3,none⟩=w.cell? ⟨9,3,none⟩:=fun o o' =>(AA.cell?_alloc_lt _ o' _ (by rw[AA.size_alloc];show 9<_;omega)).trans (R o);have ζ:∀o o' D,(((w.alloc o).alloc o').alloc D).cell? ⟨9,3,none⟩=w.cell? ⟨9,3,none⟩:=fun o o' D=>(AA.cell?_alloc_lt _ D _ (by rw[AA.size_alloc,AA.size_alloc];show 9<_;omega)).trans (V o o');obtain⟨⟨l0,u0⟩,⟨l1,u1⟩,⟨l2,u2⟩,⟨l3,u3⟩⟩:=ha
  go_enter Tryz.func146,Tryz.ntmps146
  go_wp2;refine wp_loop_rounds 5 ?_;rw[rounds_succ];go_wp2;rw[rounds_succ];go_wp2;rw[rounds_succ];go_wp2;rw[rounds_succ];go_wp2;rw[rounds_succ]
  go_wp2_with fail
  generalize bits .or .u64 (AG.wrap .u64 (a0*2)) bit=o0 at*;generalize bits .or .u64 (AG.wrap .u64 (a1*2)) (a0 / 9223372036854775808)=o1 at*;generalize bits .or .u64 (AG.wrap .u64 (a2*2)) (a1 / 9223372036854775808)=o2 at*;generalize bits .or .u64 (AG.wrap .u64 (a3*2)) (a2 / 9223372036854775808)=o3 at*;refine(Y2q _ _ _ _ _ _ _ _ hO Q58 _).mono ?_;rintro e w1 ⟨rfl,hb1⟩;rw[Q08];obtain⟨J,Y⟩:=Y9c hb1;have s1:=hb1.size;simp only[AA.size_alloc] at s1 J Y;have z1:w.heap.size+1<w1.heap.size:=by omega
  have q0:w1.cell? ⟨9,0,none⟩=some (.int .u64 6346243789798364141):=by rw[J _ _ (by omega)];go_simp
  have q1:w1.cell? ⟨9,1,none⟩=some (.int .u64 1503914060200516822):=by rw[J _ _ (by omega)];go_simp
  have q2:w1.cell? ⟨9,2,none⟩=some (.int .u64 0):=by rw[J _ _ (by omega)];go_simp
  have q3:w1.cell? ⟨9,3,none⟩=some (.int .u64 1152921504606846976):=by rw[J _ _ (by omega)];go_simp
  by_cases G:J0n o0 o1 o2 o3<LL
  · rw[show decide (J0n o0 o1 o2 o3<LL)=true from decide_eq_true G]
    have HL:=BF G;clear G;go_wp2;refine BC (v:=A4 o0 o1 o2 o3) (by simp only[results,Tryz.results146];go_simp) rfl ⟨?_,?_⟩
    · rw[Z50 _ _ _ _ hO,←HV.out,AI HL.out]
    exact bz
  rw[show decide (J0n o0 o1 o2 o3<LL)=false from decide_eq_false G];have HL:=BF G;clear G
  go_wp2_with (go_at_call 160;refine(Z07 _ _ _ _ _ _ _ _ hO Q58 _).mono ?_;rintro e w2 ⟨rfl,M⟩;obtain⟨β,ε⟩:=Y9c M;have s2:=M.size;have z2:w.heap.size+1<w2.heap.size:=by omega)
  refine BC (v:=L4 (J7x (J0n o0 o1 o2 o3) LL)) (by simp only[results,Tryz.results146,←Q08];go_simp) rfl ⟨?_,?_⟩
  · rw[←HV.out,Y2r _ (by have:=HV.out;have:=HA.out;omega) HL.out]
  exact bz

theorem K04 (A B:Nat)(hA:A<Q3)(hB:B<Q3)(w:AA):Az Tryz.prog 160 #[L4 A,L4 B] w fun e w' =>V5 (.tuple #[L4 (J7x A B),.int .u64 (brw A B)]) w w' e:=by
  have h:=Z07 _ _ _ _ _ _ _ _ (J5n A) (J5n B) w;rw[J1c A hA,J1c B hB] at h;exact h
theorem V4m (A B:Nat)(hA:A<Q3)(hB:B<Q3)(w:AA):Az Tryz.prog 145 #[L4 A,L4 B] w fun e w' =>V5 (.bool (decide (A<B))) w w' e:=by
  have h:=Y2q _ _ _ _ _ _ _ _ (J5n A) (J5n B) w;rw[J1c A hA,J1c B hB] at h;exact h
theorem V04:LL<Q3:=by decide+kernel
@[go_sem] def LV:AB:=.agg #[.int .u64 6346243789798364141,.int .u64 1503914060200516822,.int .u64 0,.int .u64 1152921504606846976]
theorem V05:LV=L4 LL:=L4_order.symm
theorem K2z (A:Nat)(hA:A<Q3)(w:AA):Az Tryz.prog 160 #[L4 A,LV] w fun e w' =>V5 (.tuple #[L4 (J7x A LL),.int .u64 (brw A LL)]) w w' e:=by rw[V05];exact K04 A LL hA V04 w
theorem V06 (A:Nat)(hA:A<Q3)(w:AA):Az Tryz.prog 145 #[L4 A,LV] w fun e w' =>V5 (.bool (decide (A<LL))) w w' e:=by rw[V05];exact V4m A LL hA V04 w
end

section
set_option maxHeartbeats 2000000

theorem Z0k (ws:Nat→Int):∀n q r,q<n→r<64→(∀j,j<n→Z7 (ws j))→J1v ws n / 2^(64*q+r) % 2=(ws q).toNat / 2^r % 2
  |0,_,_,h,_,_=>by omega
  |n+1,q,r,h,hr,hw=>by
    show(J1v ws n+(ws n).toNat*2^(64*n)) / 2^(64*q+r) % 2=_
    by_cases hq:q=n
    · subst hq
      have hl:=Q0s ws q (fun j hj=>hw j (by omega));rw[Nat.pow_add,←Nat.div_div_eq_div_mul,Nat.add_mul_div_right _ _ (AM _),AN hl,AL]
    · have ih:=Z0k ws n q r (by omega) hr (fun j hj=>hw j (by omega))
      obtain⟨d,hd⟩:∃d,64*n=(64*q+r)+(1+d):=⟨64*n-(64*q+r)-1,by omega⟩
      rw[hd,Nat.pow_add 2 (64*q+r),Nat.mul_left_comm,Nat.add_mul_div_left _ _ (AM _),Nat.pow_add 2 1 d,Nat.mul_left_comm,Nat.pow_one,Nat.add_mul_mod_self_left];exact ih
theorem Y2s (ws:Nat→Int)(n q r:Nat)(hq:q<n)(hr:r<64)(hw:∀j,j<n→Z7 (ws j)):
    (0≤bits .and .u64 (ws q / 2^r) 1∧bits .and .u64 (ws q / 2^r) 1≤1)∧(bits .and .u64 (ws q / 2^r) 1).toNat=J1v ws n / 2^(64*q+r) % 2:=by
  have hb:=Z0k ws n q r hq hr hw;obtain⟨x0,x1⟩:=hw q hq;obtain⟨X,hX⟩:=Int.eq_ofNat_of_zero_le x0;rw[hX] at hb x1⊢;rw[Int.toNat_natCast] at hb;have e:((X:Int) / 2^r)=((X / 2^r:Nat):Int):=by push_cast;rfl
  have hl:X / 2^r≤X:=Nat.div_le_self _ _
  have e2:bits .and .u64 (((X / 2^r:Nat):Int)) ((1:Nat):Int)=((X / 2^r % 2:Nat):Int):=by
    rw[bits_and_u64_nat _ _ (by omega) (by omega),Nat.and_one_is_mod]
  rw[e];have e3:bits .and .u64 (((X / 2^r:Nat):Int)) 1=((X / 2^r % 2:Nat):Int):=e2;rw[e3,hb];omega
theorem Y2t (V K:Nat):(2*(V / 2^(K+1) % LL)+V / 2^K % 2) % LL=V / 2^K % LL:=by
  have e:V / 2^K=2*(V / 2^(K+1))+V / 2^K % 2:=by
    rw[Nat.pow_succ,←Nat.div_div_eq_div_mul];omega
  have h1:(2*(V / 2^(K+1) % LL)+V / 2^K % 2) % LL=(2*(V / 2^(K+1))+V / 2^K % 2) % LL:=by
    rw[Nat.add_mod,Nat.mul_mod,Nat.mod_mod,←Nat.mul_mod,←Nat.add_mod]
  rw[h1,←e]
theorem Q55 (x:Nat):x % LL<115792089237316195423570985008687907853269984665640564039457584007913129639936:=
  Nat.lt_trans (BH _ (by decide)) (by decide)
theorem Q8m (ws:Nat→Int)(b off len cap:Nat)(w:AA)(hG:GL w)(hlen:len≤100)(hws:∀j,j<len→Z7 (ws j))
    (hc:∀j,j<len→w.cell? ⟨b,off+j,none⟩=some (.int .u64 (ws j))) (hb:b<w.heap.size):
    Az Tryz.prog 99 #[.slice (some ⟨b,off,none⟩) len cap] w fun e w' =>V5 (L4 (J1v ws len % LL)) w w' e:=by
  go_enter Tryz.func99,Tryz.ntmps99
  go_wp2
  go_loopw [4] (fun i wr=> ∃k:Nat,k≤64*len∧i=.int .i64 ((k:Int)-1)∧Below w.heap.size w wr∧
      Blk wr w.heap.size #[.int .u64 0,.int .u64 0,.int .u64 0,.int .u64 0] 143∧
      Blk wr (w.heap.size+1) #[.int .u64 (V0 (J1v ws len / 2^k % LL) 0),.int .u64 (V0 (J1v ws len / 2^k % LL) 1),.int .u64 (V0 (J1v ws len / 2^k % LL) 2),.int .u64 (V0 (J1v ws len / 2^k % LL) 3)] 143)
    (fun i _=>(intOf i+1).toNat)
  case atStart=>
    refine⟨64*len,AJ _,?_,?_,?_,?_⟩
    · congr 1;omega
    · exact bz
    · exact K2 (X6 _ _ rfl) _
    rw[AN (Q0s ws len hws)];exact X6 _ _ (by simp)
  case round=>
    obtain⟨k,hk,rfl,J,M,D⟩:=hrel
    by_cases R:k=0
    · subst R
      have T:=J3 D;have U:=K7 D;have ζ:=J3 M;have ε:=K7 M;go_wp2;refine BC (v:=L4 (J1v ws len % LL)) (by simp only[results,Tryz.results99];go_simp) rfl ⟨rfl,?_⟩;exact bz
    obtain⟨q,r,hr,rfl⟩:∃q r,r<64∧k=64*q+r+1:=⟨(k-1) / 64,(k-1) % 64,by omega,by omega⟩
    have e1:((64*q+r+1:Nat):Int)-1=64*(q:Int)+(r:Int):=by omega
    rw[e1];clear R e1;have N:=(J.cell (p:=⟨b,off+q,none⟩) hb).trans (hc q (by omega));have w1:AG.i64.wrap ((64*(q:Int)+(r:Int)).tdiv 64)=(q:Int):=by rw[Int.tdiv_eq_ediv_of_nonneg (by omega),IntWalk.i64_in _ (by omega)];omega
    have w2:(64*(q:Int)+(r:Int)).tmod 64=(r:Int):=by rw[Int.tmod_eq_emod_of_nonneg (by omega)];omega
    have γ:0≤(r:Int):=by omega
    have Y:(0:Int)≤64*(q:Int)+(r:Int):=by omega
    have β:(q:Int)<(len:Int):=by omega
    have δ:(r:Int)<64:=by omega
    have T:=J3 D;have U:=K7 D;go_wp2
    go_still_tail 10,(by kernel_rfl)
    change wpList _ _ _ _ _ wr.drew
    obtain⟨hB,S⟩:=Y2s ws len q r (by omega) hr hws;generalize bits .and .u64 (ws q / 2^r) 1=bt at*;have HB:=BF S;clear S N w1 w2;have HT:=Y74 _ _ _ _ bt (J5n (J1v ws len / 2^(64*q+r+1) % LL)) hB.1 hB.2 (by rw[J1c _ (Q55 _)];exact BH _ (by decide)) wr.drew (J3x (hG) J.drew (by have:=hG.2.2.2.2;omega))
    go_wp2_with (go_at_call 146;refine HT.mono ?_;rintro e w3 ⟨rfl,G⟩;have Z:=J3 (J4 (J02 D) G);have α:=K7 (J4 (J02 D) G))
    rw[J1c _ (Q55 _),HB.out,Y2t];have V.size:=J.size;have X:=G.size;go_roundw
    case rel=>
      refine⟨64*q+r,by omega,by go_num,?_,J48 (J4 (J02 M) G) (by omega) _ _ _ _,Q0r (J4 (J02 D) G) _ _ _ _⟩;exact bz
    case measure=>simp[intOf];omega
end

section
set_option maxHeartbeats 2000000

theorem bytes_c (V:Nat)(hV:V<115792089237316195423570985008687907853269984665640564039457584007913129639936)(w:AA)(hG:GL w):
    Az Tryz.prog 53 #[L4 V] w fun e w' =>V5 (.agg (J0 .u8 32 (J2 (V % LL)))) w w' e:=by
  go_enter Tryz.func53,Tryz.ntmps53
  go_wp2_with fail
  refine(Q8m (V0 V) _ _ _ _ _ ?_ (by omega) (fun j _=>J11 V j) ?_ (by simp only[AA.size_alloc];omega)).mono ?_
  · exact J3x hG (B:=w.heap.size) (((Below.refl _ _).alloc (AJ _) _).alloc (by simp) _) hG.2.2.2.2
  · intro j hj
    have h4:j=0∨j=1∨j=2∨j=3:=by omega
    refine(J3 (K2 (X6 #[.int .u64 (V0 V 0),.int .u64 (V0 V 1),.int .u64 (V0 V 2),.int .u64 (V0 V 3)] 143 rfl) _) _).trans ?_;rcases h4 with rfl|rfl|rfl|rfl<;>rfl
  rintro e w1 ⟨rfl,M⟩;have b0:Blk w1 w.heap.size #[.int .u64 (V0 V 0),.int .u64 (V0 V 1),.int .u64 (V0 V 2),.int .u64 (V0 V 3)] 143:=J4 (K2 (X6 _ _ rfl) _) M;have b1:Blk w1 (w.heap.size+1) (J0 .u8 32 fun _=>0) 23:=J4 (X6 _ _ (by simp)) M;have s1:=M.size;simp only[AA.size_alloc] at s1;rw[Q6d V hV];generalize hN:V % LL=N;have HN:=BF hN;clear hN;have c0:=J3 b0;have f0:=K7 b0;go_wp2
  go_loopw [7] (fun i wr=> ∃k:Nat,k≤32∧i=.int .i64 k∧Below w.heap.size w wr∧
      Blk wr w.heap.size #[.int .u64 (V0 N 0),.int .u64 (V0 N 1),.int .u64 (V0 N 2),.int .u64 (V0 N 3)] 143∧
      Blk wr (w.heap.size+1) (J0 .u8 32 fun _=>0) 23∧
      Blk wr w1.heap.size (J0 .u8 32 fun j=>if j<k then J2 N j else 0) 23)
    (fun i _=>(32-intOf i).toNat)
  case atStart=>
    refine⟨0,by omega,rfl,?_,K2 (Q0r b0 _ _ _ _) _,K2 (J48 b1 (by omega) _ _ _ _) _,?_⟩
    · exact bz
    exact X6 _ _ (by simp)
  case round=>
    obtain⟨k,hk,rfl,J,S,G,D⟩:=hrel
    by_cases T:k=32
    · subst T
      go_wp2_with (first|(refine wpList_load_row rfl 23 (.tmp 3) rfl w1.heap.size rfl _ _ _ _ D Tryz.underlying23 rfl (by kernel_rfl) ?_)|(refine wpList_store_row rfl 23 (.tmp 2) (.tmp 22) rfl (w.heap.size+1) _ rfl rfl 23 _ G (by kernel_rfl) (by kernel_rfl) (J0b _ _ _) ?_))
      refine BC (results_cell_row rfl _ _ (w.heap.size+1) _ _ _ _ rfl (J2o G _) Tryz.underlying23 rfl (by kernel_rfl)) rfl ⟨?_,J3q J (by omega) _⟩;rw[X7 _ _ _ (J2 N) (fun i hi=>if_pos hi),HN.out]
    obtain⟨q,r,hr,rfl⟩:∃q r,r<8∧k=8*q+r:=⟨k / 8,k % 8,by omega,by omega⟩
    have d1:(8*(q:Int)+(r:Int)) / 8=(q:Int):=by omega
    have d2:(8*(q:Int)+(r:Int)) % 8=(r:Int):=by omega
    have X:(q:Int)<4:=by omega
    have Y:(r:Int)<8:=by omega
    have c0:=(J3 S q).trans (show _=some (.int .u64 (V0 N q)) by(have:q=0∨q=1∨q=2∨q=3:=by omega);rcases this with rfl|rfl|rfl|rfl<;>rfl);have c3:=J3 D (8*q+r);rw[Z8 _ _ _ _ (by omega)] at c3;have f3:=K7 D;go_wp2;have U.size:=J.size;have Z:=V8 D;go_roundw
    case rel=>
      refine⟨8*q+r+1,by omega,by go_num,?_,V7 S (by omega) _ _,V7 G (by omega) _ _,?_⟩
      · exact bz
      have hs:=J1k D (8*q+r) (.int .u8 (V0 N q / 2^(8*r) % 256));rw[V1] at hs;rw[X7 _ _ _ _ (fun j hj=> ?_)]
      · exact hs
      have R:=Z52 N (8*q+r);rw[show(8*q+r) / 8=q by omega,show(8*q+r) % 8=r by omega] at R;unfold upd;rw[R];dsimp only
      by_cases h1:j=8*q+r
      · subst h1;rw[if_pos (by omega),if_pos rfl]
      rw[if_neg h1]
      by_cases h2:j<8*q+r
      · rw[if_pos h2,if_pos (by omega)]
      rw[if_neg h2,if_neg (by omega)]
    case measure=>simp[intOf];omega
end

section
set_option maxHeartbeats 2000000

theorem Z66 (V b:Nat)(hV:V<Q3)(w:AA)(hG:GL w)(hB:Blk w b (c4 V) 143):
    Az Tryz.prog 99 #[.slice (some ⟨b,0,none⟩) 4 4] w fun e w' =>V5 (L4 (V % LL)) w w' e:=by
  have h:=Q8m (V0 V) b 0 4 4 w hG (by omega) (fun j _=>J11 V j) (fun j hj=>by
    have h4:j=0∨j=1∨j=2∨j=3:=by omega
    refine(J3 hB _).trans ?_
    rcases h4 with rfl|rfl|rfl|rfl<;>rfl) (V8 hB)
  rw[Q6d V hV] at h;exact h
theorem Y75 {w w' :AA}(h:GL w)(hb:Below w.heap.size w w'):GL w' :=J3x h hb h.2.2.2.2
theorem add_c (A B:Nat)(hA:A<Q3)(hB:B<Q3)(w:AA)(hG:GL w):
    Az Tryz.prog 116 #[L4 A,L4 B] w fun e w' =>V5 (L4 ((A+B) % LL)) w w' e:=by
  have HG:=BF hG;clear hG
  go_enter Tryz.func116,Tryz.ntmps116
  go_wp2
  refine Y0p (fun W=>Below w.heap.size w W∧w.heap.size+2<W.heap.size∧Blk W w.heap.size (c4 A) 143∧Blk W (w.heap.size+1) (c4 B) 143∧Blk W (w.heap.size+2) #[.int .u64 0,.int .u64 0,.int .u64 0,.int .u64 0] 143)
    ⟨bz,by simp,K2 (K2 (X6 _ _ rfl) _) _,K2 (X6 _ _ (by simp)) _,X6 _ _ (by simp)⟩ ?_
  rintro W ⟨M,κ,b2,b3,b4⟩;have α:Hid (GL W.drew):=BF (J3x HG.out M.drew HG.out.2.2.2.2);have b2:=J02 b2;have b3:=J02 b3
  go_region_with (first
    |(go_at_call 99;(with_reducible refine(Z66 A w.heap.size hA _ α.out b2).mono ?_);rintro e w1 ⟨rfl,N⟩;have V:=J4 b2 N;have U:=J4 b3 N)
    |(go_at_call 99;(with_reducible refine(Z66 B (w.heap.size+1) hB _ (Y75 α.out N) U).mono ?_);rintro e w2 ⟨rfl,D⟩;have τ:=J3 (J4 V D);have σ:=K7 (J4 V D);have ρ:=J3 (J4 U D);have ψ:=K7 (J4 U D)))
  clear τ σ ρ ψ;have μ:=J4 V D;have γ:=J4 U D;have ξ:=J4 (J4 (J02 b4) N) D;have s1:=N.size;have s2:=D.size;simp only[AA.size_drew] at s1;have ω:Below w.heap.size w w2:=J27 (J27 M.drew N (by simp only[AA.size_drew];omega)) D (by omega);have ν:w.heap.size+2<w2.heap.size:=by omega
  clear N D V U b2 b3 b4 α s1 s2
  refine Y0q (fun W=>Below w.heap.size w W∧w.heap.size+2<W.heap.size∧Blk W w.heap.size (c4 (A % LL)) 143∧Blk W (w.heap.size+1) (c4 (B % LL)) 143∧Blk W (w.heap.size+2) #[.int .u64 0,.int .u64 0,.int .u64 0,.int .u64 0] 143)
    ⟨bz,by simpa using ν,J48 (Q0r μ _ _ _ _) (by omega) _ _ _ _,Q0r (J48 γ (by omega) _ _ _ _) _ _ _ _,J48 (J48 ξ (by omega) _ _ _ _) (by omega) _ _ _ _⟩ ?_
  clear ω μ γ ξ M κ ν;rintro X ⟨M,κ,b2,b3,b4⟩;have δ:=BF (J3x HG.out M HG.out.2.2.2.2);have J:=J5n (A % LL);have G:=J5n (B % LL);have θ:=Q6c _ _ _ _ _ _ _ _ 0 J G (by omega) (by omega);have q0:=J9m _ _ 0 J.1 G.1 (by omega) (by omega);have q1:=J9m _ _ _ J.2.1 G.2.1 q0.1 q0.2;have q2:=J9m _ _ _ J.2.2.1 G.2.2.1 q1.1 q1.2;have h0:=J17 _ _ 0 J.1 G.1 (by omega) (by omega);have h1:=J17 _ _ _ J.2.1 G.2.1 q0.1 q0.2;have h2:=J17 _ _ _ J.2.2.1 G.2.2.1 q1.1 q1.2;have h3:=J17 _ _ _ J.2.2.2 G.2.2.2 q2.1 q2.2;obtain⟨e0,e1,e2,e3⟩:=V32 θ.1;rw[e0] at h0;rw[e1] at h1;rw[e2] at h2;rw[e3] at h3;clear θ q0 q1 q2 J G e0 e1 e2 e3
  have hS:(A % LL+B % LL+(0:Int).toNat) % 115792089237316195423570985008687907853269984665640564039457584007913129639936=A % LL+B % LL:=by
    have:=BH A (show 0<LL by decide);have:=BH B (show 0<LL by decide);unfold LL at*;omega
  rw[J1c _ (Q55 A),J1c _ (Q55 B),hS] at h0 h1 h2 h3
  have ζ:A % LL+B % LL<2*LL:=by
    have:=BH A (show 0<LL by decide);have:=BH B (show 0<LL by decide);omega
  have η:(A % LL+B % LL) % LL=(A+B) % LL:=by rw[←Nat.add_mod]
  generalize A % LL+B % LL=S at*;have HS:=BF ζ;have ε:=BF η;clear hS ζ η;have x2:=J3 b2;have x3:=J3 b3;obtain⟨g0,g1,g2,g3,g4⟩:=δ.out;have n1:w.heap.size<X.heap.size:=by omega
  have n2:w.heap.size+1<X.heap.size:=by omega
  go_wp2;refine wp_loop_rounds 5 ?_;rw[rounds_succ];go_wp2
  go_region
  go_wp2;rw[rounds_succ];go_wp2
  go_region
  go_wp2;rw[rounds_succ];go_wp2
  go_region
  go_wp2;rw[rounds_succ];go_wp2
  go_region
  go_wp2;rw[rounds_succ]
  go_wp2_with fail
  have β:S<Q3:=by have:=HS.out;unfold LL at this;unfold Q3;omega
  refine(V06 S β _).mono ?_;rintro e w3 ⟨rfl,T⟩;have Y:=J4 (J02 (J02 (J02 (J02 (K2 b4 _))))) T;have Γ:Blk w3 X.heap.size (c4 S) 143:=J4 (J02 (J02 (J02 (J02 (X6 _ _ rfl))))) T;have s3:=T.size;simp only[AA.size_drew,AA.size_alloc] at s3;have φ:Below w.heap.size w w3:=J27 bz T (by simp only[AA.size_drew,AA.size_alloc];omega);have χ:=BF (J3x HG.out φ HG.out.2.2.2.2);clear b2 b3 b4 M x2 x3 h0 h1 h2 h3 T g0 g1 g2 g3 g4 δ;have z2:=J3 Y;have t2:=K7 Y;have z5:=J3 Γ;obtain⟨g0,g1,g2,g3,g4⟩:=χ.out
  by_cases R:S<LL
  · rw[show decide (S<LL)=true from decide_eq_true R]
    have HL:=BF R;clear R;go_wp2;refine BC (v:=L4 S) (by simp only[results,Tryz.results116];go_simp) rfl ⟨?_,?_⟩
    · rw[←ε.out,AI HL.out]
    exact bz
  rw[show decide (S<LL)=false from decide_eq_false R];have HL:=BF R;clear R
  go_wp2_with (go_at_call 160;refine(K2z S β _).mono ?_;rintro e w4 ⟨rfl,Z⟩;have Θ:=J3 (J4 Y Z);have Δ:=K7 (J4 Y Z);have s4:=Z.size;have n4:w.heap.size+2<w4.heap.size:=by omega)
  refine BC (v:=L4 (J7x S LL)) (by simp only[results,Tryz.results116];go_simp) rfl ⟨?_,?_⟩
  · rw[←ε.out,Y2r _ HS.out HL.out]
  exact bz
end
end Go.Proofs.YtpljgkofbfeelaaGreatDoor.S8.Sc

namespace Go.Proofs.YtpljgkofbfeelaaGreatDoor.S8

abbrev Q4:=Nat×Nat×Nat×Nat
def RQ4 (s:Q4)(a:Pr):Prop:=RN s.1 s.2.1 s.2.2.1 s.2.2.2 a
def twN:Q4→Q4
  |(X,Y,Z,_)=>
    let A:=X*X % PP
    let B:=Y*Y % PP
    let C:=(Z*Z % PP+Z*Z % PP) % PP
    let H:=(A+B) % PP
    let S:=(X+Y) % PP
    let E:=(H+(PP-S*S % PP % PP)) % PP
    let G:=(A+(PP-B % PP)) % PP
    let F:=(C+G) % PP
    (E*F % PP,G*H % PP,F*G % PP,E*H % PP)
def adN:Q4→Q4→Q4
  |(X1,Y1,Z1,T1),(X2,Y2,Z2,T2)=>
    let A:=(Y1+(PP-X1 % PP)) % PP*((Y2+(PP-X2 % PP)) % PP) % PP
    let B:=(Y1+X1) % PP*((Y2+X2) % PP) % PP
    let C:=T1*D2 % PP*T2 % PP
    let D:=(Z1+Z1) % PP*Z2 % PP
    let E:=(B+(PP-A % PP)) % PP
    let F:=(D+(PP-C % PP)) % PP
    let G:=(D+C) % PP
    let H:=(B+A) % PP
    (E*F % PP,G*H % PP,F*G % PP,E*H % PP)
def tmN (P:Q4)(n:Nat):Nat→Q4
  |0=>(0,1,1,0)
  |c+1=>if n / 2^(255-c) % 2=1 then adN (twN (tmN P n c)) P else twN (tmN P n c)
theorem K05 {s:Q4}{a:Pr}(h:RQ4 s a):RQ4 (twN s) (V9 a a):=by
  obtain⟨X,Y,Z,T⟩:=s;exact Z0c (X:=X) (Y:=Y) (Z:=Z) (T:=T) h rfl rfl rfl rfl rfl rfl rfl rfl rfl rfl rfl rfl rfl rfl
theorem K06 {s t:Q4}{a b:Pr}(h:RQ4 s a)(k:RQ4 t b):RQ4 (adN s t) (V9 a b):=by
  obtain⟨X1,Y1,Z1,T1⟩:=s;obtain⟨X2,Y2,Z2,T2⟩:=t;exact Y2a (X1:=X1) (Y1:=Y1) (Z1:=Z1) (T1:=T1) (X2:=X2) (Y2:=Y2) (Z2:=Z2) (T2:=T2) h k rfl rfl rfl rfl rfl rfl rfl rfl rfl rfl rfl rfl rfl rfl rfl rfl rfl rfl
theorem V07 {P:Q4}{a:Pr}{n:Nat}(hP:RQ4 P a)(hn:n<2^256):∀c,c≤256→RQ4 (tmN P n c) (pm a (n / 2^(256-c)))
  |0,_=>by
    rw[show 256-0=256 by decide,AN hn];exact Y9q
  |c+1,h=>by
    have ih:=V07 hP hn c (by omega);rw[show 256-c=(255-c)+1 by omega] at ih;rw[show 256-(c+1)=255-c by omega];have e2:n / 2^(255-c+1)=n / 2^(255-c) / 2:=by rw[Nat.pow_succ,Nat.div_div_eq_div_mul]
    rw[e2] at ih;unfold tmN;generalize n / 2^(255-c)=m at*;have hm:=Nat.div_add_mod m 2;have D:=K05 ih;rw[←J6y hP.on] at D
    split
    · rename_i h1
      have:=K06 D hP
      rwa [show V9 (pm a (2*(m / 2))) a=pm a m by rw[show m=2*(m / 2)+1 by omega];exact congrArg (fun k=>V9 (pm a (2*k)) a) (by omega)] at this
    · rwa [show 2*(m / 2)=m by omega] at D
theorem Q7k {P:Q4}{a:Pr}{n:Nat}(hP:RQ4 P a)(hn:n<2^256):RQ4 (tmN P n 256) (pm a n):=by
  have:=V07 hP hn 256 (AJ _)
  rwa [Nat.sub_self,Nat.pow_zero,Nat.div_one] at this
theorem Y78 {s:Q4}{a:Pr}(h:RQ4 s a)(h1:s.1=0)(h2:s.2.1=s.2.2.1):a=p0:=by
  obtain⟨hz,hx,hy,_⟩:=h.rc;rw[h1,Q8g] at hx;rw[h2] at hy;have e1:a.1=0:=(J4b hx.symm).resolve_right hz
  have e2:a.2=1:=by
    have:=J0y hz;have e:(a.2-1)*fp s.2.2.1=0:=by grind
    have:=(J4b e).resolve_right hz
    grind
  exact Prod.ext e1 e2
open Sc (LL)
def BQ:Q4:=(BX,BY,1,BX*BY % PP)
theorem Z67:RQ4 BQ BP:=Z4l (by decide) (by decide) Q2n rfl
theorem order_x:(tmN BQ LL 256).1=0∧(tmN BQ LL 256).2.1=(tmN BQ LL 256).2.2.1:=by decide+kernel
theorem V08:pm BP LL=p0:=Y78 (Q7k Z67 (by decide)) order_x.1 order_x.2
end Go.Proofs.YtpljgkofbfeelaaGreatDoor.S8

namespace Go.Proofs.YtpljgkofbfeelaaGreatDoor.S8.Sc
section
set_option maxHeartbeats 4000000

theorem Z5n (A B:Nat)(hA:A<Q3)(hB:B<Q3)(h:∀i,i<4→V0 A i=V0 B i):A=B:=by
  rw[←J1c A hA,←J1c B hB,h 0 (by omega),h 1 (by omega),h 2 (by omega),h 3 (by omega)]
end

section
set_option maxHeartbeats 4000000

theorem Y76 (f:Nat→Int)(b:Nat)(hf:∀j,j<8→Z7 (f j))(w:AA)(hG:GL w)(hB:Blk w b (J0 .u64 8 f) 217):
    Az Tryz.prog 99 #[.slice (some ⟨b,0,none⟩) 8 8] w fun e w' =>V5 (L4 (J1v f 8 % LL)) w w' e:=
  Q8m f b 0 8 8 w hG (by omega) hf (fun j hj=>by rw[AL];exact(J3 hB _).trans (Z8 _ _ _ _ hj)) (V8 hB)

theorem J4z (V i:Nat)(h:i<4):(c4 V)[i]?=some (.int .u64 (V0 V i)):=by
  have:i=0∨i=1∨i=2∨i=3:=by omega
  rcases this with rfl|rfl|rfl|rfl<;>rfl

theorem Q8a (i k:Nat)(x y g c s cv:Int)(V V' Y Y' X B0:Nat)(hx:Z7 x)(hy:Z7 y)(hg:Z7 g)(hc:Z7 c)(hs:Z7 s)(hcv:Z7 cv)
    (h5:s+18446744073709551616*cv=x*y+g+c) (h1:V' +g.toNat*2^(64*(i+k))=V+s.toNat*2^(64*(i+k)))
    (h2:V+c.toNat*2^(64*(i+k))=X+x.toNat*2^(64*i)*Y) (hY:Y' =Y+y.toNat*2^(64*k)):
    V' +cv.toNat*2^(64*(i+(k+1)))=X+x.toNat*2^(64*i)*Y' :=by
  obtain⟨x,rfl⟩:=Int.eq_ofNat_of_zero_le hx.1;obtain⟨y,rfl⟩:=Int.eq_ofNat_of_zero_le hy.1;obtain⟨g,rfl⟩:=Int.eq_ofNat_of_zero_le hg.1;obtain⟨c,rfl⟩:=Int.eq_ofNat_of_zero_le hc.1;obtain⟨s,rfl⟩:=Int.eq_ofNat_of_zero_le hs.1;obtain⟨d,rfl⟩:=Int.eq_ofNat_of_zero_le hcv.1;simp only[Int.toNat_natCast] at*
  have h6:s+18446744073709551616*d=x*y+g+c:=by
    rw[←Int.natCast_mul] at h5;generalize x*y=p at*;omega
  have e1:(2:Nat)^(64*(i+(k+1)))=18446744073709551616*2^(64*(i+k)):=by
    rw[show 64*(i+(k+1))=64+64*(i+k) by omega,Nat.pow_add]
  have e2:(2:Nat)^(64*(i+k))=2^(64*i)*2^(64*k):=by rw[Nat.mul_add,Nat.pow_add]
  rw[hY,e1,Nat.mul_add (x*2^(64*i))];have e3:x*2^(64*i)*(y*2^(64*k))=x*y*2^(64*(i+k)):=by rw[e2,Nat.mul_mul_mul_comm]
  rw[e3];generalize 2^(64*(i+k))=W at*;have e4:d*(18446744073709551616*W)=18446744073709551616*d*W:=by rw[Nat.mul_left_comm,Nat.mul_assoc]
  rw[e4]
  have h7:s*W+18446744073709551616*d*W=x*y*W+g*W+c*W:=by
    rw[←Nat.add_mul,h6,Nat.add_mul,Nat.add_mul]
  omega

theorem Q8b (B V' V C X Y W:Nat){g:Int}(hB:B<Q3)(hg:g=0)(h1:V' +g.toNat*W=V+C)(h2:V+C=X+Y*(B % 2^(64*4))):V' =X+Y*B:=by
  rw[AI (show B<2^(64*4) from hB)] at h2;rw[hg,Int.toNat_zero,Nat.zero_mul,Nat.add_zero] at h1;rw[h1,h2]

theorem mul_c (A B:Nat)(hA:A<Q3)(hB:B<Q3)(w:AA)(hG:GL w):
    Az Tryz.prog 117 #[L4 A,L4 B] w fun e w' =>V5 (L4 (A*B % LL)) w w' e:=by
  have HG:=BF hG;clear hG
  go_enter Tryz.func117,Tryz.ntmps117
  go_wp2
  go_loopw [16] (fun ii wr=> ∃i:Nat,i≤4∧ii=.int .i64 i∧Below w.heap.size w wr∧
      Blk wr (w.heap.size+1) (c4 B) 143∧Blk wr (w.heap.size+2) #[.int .u64 0,.int .u64 0,.int .u64 0,.int .u64 0] 143∧
      ∃f:Nat→Int,Blk wr (w.heap.size+3) (J0 .u64 8 f) 217∧(∀j,Z7 (f j))∧(∀j,i+4≤j→f j=0)∧J1v f 8=A % 2^(64*i)*B)
    (fun ii _=>(4-intOf ii).toNat)
  case atStart=>
    refine⟨0,by omega,rfl,?_,K2 (K2 (X6 _ _ (by simp)) _) _,K2 (X6 _ _ (by simp)) _,fun _=>0,X6 _ _ (by simp),fun _=>⟨by simp,by simp⟩,fun _ _=>rfl,?_⟩
    · exact bz
    rw[J92,Ay,Nat.pow_zero,Nat.mod_one,Nat.zero_mul]
  case round=>
    obtain⟨i,hi,rfl,D,b1,b2,f,b3,hf,U,hv⟩:=hrel
    by_cases V:i=4
    · subst V
      have HV:=BF hv;clear hv;have c2:=J3 b2;have f2:=K7 b2
      go_wp2_with (go_at_call 99;refine(Y76 f (w.heap.size+3) (fun j _=>hf j) _ (J3x HG.out D HG.out.2.2.2.2) b3).mono ?_;rintro e w1 ⟨rfl,J⟩;have α:=J3 (J4 b2 J);have β:=K7 (J4 b2 J))
      refine BC (v:=L4 (J1v f 8 % LL)) (by simp only[results,Tryz.results117];go_simp) rfl ⟨?_,?_⟩
      · rw[HV.out,AI (show A<2^(64*4) from hA)]
      have:=J.size;have:=D.size;exact bz
    have Y:i<4:=by omega
    have hi3' :(i:Int)<4:=by omega
    have M:∀W,(Instr.index 143 (.agg #[.int .u64 (V0 A 0),.int .u64 (V0 A 1),.int .u64 (V0 A 2),.int .u64 (V0 A 3)]) (.int .i64 (i:Int))).run Tryz.prog W=.ok (.int .u64 (V0 A i)) W:=
      fun W=>J1u W 143 121 4 .u64 .i64 (c4 A) i (V0 A i) Tryz.underlying143 Tryz.underlying121 (by kernel_rfl) Y (J4z A i Y)
    have c1:=J3 b1;clear V;go_wp2;clear c1;have S:=BF U;have HV:=BF hv;clear U hv M hi3';obtain⟨wo,rfl⟩:∃wo:AA,wo=wr:=⟨_,rfl⟩
    go_loopw [8,21] (fun cc kk wq=> ∃(k:Nat)(c:Int),k≤4∧kk=.int .i64 k∧cc=.int .u64 c∧Z7 c∧Below w.heap.size w wq∧
        Blk wq (w.heap.size+1) (c4 B) 143∧Blk wq (w.heap.size+2) #[.int .u64 0,.int .u64 0,.int .u64 0,.int .u64 0] 143∧
        ∃g:Nat→Int,Blk wq (w.heap.size+3) (J0 .u64 8 g) 217∧(∀j,Z7 (g j))∧(∀j,i+4≤j→g j=0)∧
          J1v g 8+c.toNat*2^(64*(i+k))=A % 2^(64*i)*B+(V0 A i).toNat*2^(64*i)*(B % 2^(64*k)))
      (fun _ kk _=>(4-intOf kk).toNat)
    case atStart=>
      refine⟨0,0,by omega,rfl,rfl,⟨by omega,by omega⟩,D,b1,b2,f,b3,hf,S.out,?_⟩;rw[HV.out,Ay,Nat.pow_zero,Nat.mod_one];simp
    case round=>
      obtain⟨k,c,hk,rfl,rfl,hc,D,b1,b2,g,b3,hg,X,hv⟩:=hrel;have G:=BF X;have HV:=BF hv;clear X hv S
      by_cases T:k=4
      · subst T
        have c3:=(J3 b3 (i+4)).trans (Z8 _ _ _ _ (by omega));have f3:=K7 b3;have Z:(i:Int)+4<8:=by omega
        go_wp2;have hs:=J1k b3 (i+4) (.int .u64 c);rw[V1] at hs;go_roundw
        case rel=>
          refine⟨i+1,by omega,by go_num,?_,V7 b1 (by omega) _ _,V7 b2 (by omega) _ _,upd g (i+4) c,hs,?_,?_,?_⟩
          · exact bz
          · intro j
            by_cases hj:j=i+4
            · subst hj;rw[J35];exact hc
            rw[J12 _ _ _ _ hj];exact hg j
          · intro j hj
            rw[J12 _ _ _ _ (by omega)];exact G.out j (by omega)
          rw[J6u,Nat.add_mul];exact Q8b B _ _ _ _ _ _ hB (G.out (i+4) (by omega)) (J6t g (i+4) c 8 (by omega)) HV.out
        case measure=>simp[intOf];omega
      have N:k<4:=by omega
      have hk3' :(k:Int)<4:=by omega
      clear T
      have M:∀W,(Instr.index 143 (.agg #[.int .u64 (V0 B 0),.int .u64 (V0 B 1),.int .u64 (V0 B 2),.int .u64 (V0 B 3)]) (.int .i64 (k:Int))).run Tryz.prog W=.ok (.int .u64 (V0 B k)) W:=
        fun W=>J1u W 143 121 4 .u64 .i64 (c4 B) k (V0 B k) Tryz.underlying143 Tryz.underlying121 (by kernel_rfl) N (J4z B k N)
      obtain⟨m1,m2,m3,m4,m5⟩:=Q4f (V0 A i) (V0 B k) (g (i+k)) c (J11 A i) (J11 B k) (hg _) hc;have a1:=J17 (J6i (V0 A i) (V0 B k)) (g (i+k)) 0 m1 (hg _) (by omega) (by omega);have a2:=J17 (adS (J6i (V0 A i) (V0 B k)) (g (i+k)) 0) c 0 m2 hc (by omega) (by omega);obtain⟨sv,R⟩:∃sv,sv=adS (adS (J6i (V0 A i) (V0 B k)) (g (i+k)) 0) c 0:=⟨_,rfl⟩
      rw[←R] at m4 m5 a2;have M5:=BF m5;clear m5 R;have c3:=(J3 b3 (i+k)).trans (Z8 _ _ _ _ (by omega));have f3:=K7 b3;have Z:(i:Int)+(k:Int)<8:=by omega
      go_wp2_with (go_at_call 148;refine(Q7n _ _ (J11 A i) (J11 B k) _).mono ?_;rintro e w' ⟨rfl,rfl⟩)
      have hs:=J1k b3 (i+k) (.int .u64 sv);rw[V1] at hs;have h1:=J6t g (i+k) sv 8 (by omega);have h2:=HV.out;have h5:=M5.out;clear HV M5 a1 a2 c3 f3 M;go_roundw
      case rel=>
        (repeat apply Exists.intro)
        refine⟨?_,rfl⟩;refine⟨k+1,_,by omega,by go_num,rfl,m3,?_,V7 b1 (by omega) _ _,V7 b2 (by omega) _ _,upd g (i+k) sv,hs,?_,?_,?_⟩
        · exact bz
        · intro j
          by_cases hj:j=i+k
          · subst hj;rw[J35];exact m4
          rw[J12 _ _ _ _ hj];exact hg j
        · intro j hj
          rw[J12 _ _ _ _ (by omega)];exact G.out j hj
        exact Q8a i k (V0 A i) (V0 B k) (g (i+k)) c sv _ _ _ _ _ _ 0 (J11 A i) (J11 B k) (hg _) hc m4 m3 h5 h1 h2 (J6u B k)
      case measure=>simp[intOf];omega
end

section
set_option maxHeartbeats 4000000

end

section
set_option maxHeartbeats 4000000

def canonV (n:Nat):AB:=if n<LL then .tuple #[L4 n,.bool true] else .tuple #[L4 0,.bool false]
theorem Q51 (V:Nat):c4 V=J0 .u64 4 (V0 V):=rfl
theorem J8j (i:Nat):V0 0 i=0:=by simp[V0]
theorem Y2u:J0 .u64 4 (V0 0)= #[.int .u64 0,.int .u64 0,.int .u64 0,.int .u64 0]:=by
  show #[AB.int .u64 (V0 0 0),AB.int .u64 (V0 0 1),AB.int .u64 (V0 0 2),AB.int .u64 (V0 0 3)]=_;rw[J8j,J8j,J8j,J8j]
theorem Q12 (bs:Nat→Int)(h:∀j,J7b (bs j))(n q r:Nat)(hr:r<8):
    (J0 .u64 n (V0 (J13 bs (8*q+r)))).setIfInBounds q (.int .u64 (bits .or .u64 (V0 (J13 bs (8*q+r)) q) (AG.wrap .u64 (bs (8*q+r)*2^(8*r)))))=J0 .u64 n (V0 (J13 bs (8*q+r+1))):=by
  rw[Z54 bs h q r hr,V1];apply X7;intro j _
  by_cases hj:j=q
  · subst hj;rw[J35]
  rw[J12 _ _ _ _ hj,J85 bs h (8*q+r) j (by omega)]

theorem canon_c (bs:Nat→Int)(hbs:∀j,J7b (bs j))(w:AA)(hG:GL w):
    Az Tryz.prog 98 #[.agg (J0 .u8 32 bs)] w fun e w' =>V5 (canonV (J13 bs 32)) w w' e:=by
  have HG:=BF hG;have n0:=hG.2.2.2.2;clear hG;have HB:=BF hbs;clear hbs
  go_enter Tryz.func98,Tryz.ntmps98
  go_wp2_with (refine wpList_load_row rfl 23 (.tmp 1) rfl w.heap.size rfl 23 (J0 .u8 32 bs) (0,0) _ (K2 (K2 (X6 _ _ rfl) _) _) Tryz.underlying23 rfl (by kernel_rfl) ?_)
  go_loopw [8] (fun ii wr=> ∃k:Nat,k≤32∧ii=.int .i64 k∧Below w.heap.size w wr∧
      Blk wr (w.heap.size+1) #[.int .u64 0,.int .u64 0,.int .u64 0,.int .u64 0] 143∧Blk wr (w.heap.size+2) (J0 .u64 4 (V0 (J13 bs k))) 143)
    (fun ii _=>(32-intOf ii).toNat)
  case atStart=>
    refine⟨0,by omega,rfl,?_,?_,?_⟩
    · exact bz
    · exact K2 (X6 _ _ (AA.size_alloc _ _).symm) _
    rw[show J13 bs 0=0 from rfl,Y2u];exact X6 _ _ (by simp)
  case round=>
    obtain⟨k,hk,rfl,G,b1,b2⟩:=hrel
    by_cases M:k=32
    · subst M
      have hV:J13 bs 32<Q3:=J68 bs HB.out 32;rw[←Q51] at b2;have R:=BF (J3x HG.out G HG.out.2.2.2.2);have N.size:=G.size;have S:=V8 b2;have c2:=J3 b2;obtain⟨g0,g1,g2,g3,g4⟩:=R.out
      go_wp2_with fail
      refine(V06 (J13 bs 32) hV _).mono ?_;rintro e w1 ⟨rfl,J⟩;have T:=J3 (J4 b2 J);have X:=J3 (J4 b1 J);have U:=K7 (J4 b1 J);have s1:=J.size;have n1:w.heap.size+1<w.heap.size+2:=by omega
      clear c2
      by_cases D:J13 bs 32<LL
      · rw[show decide (J13 bs 32<LL)=true from decide_eq_true D]
        have HL:=BF D;clear D;go_wp2;refine BC (v:=.tuple #[L4 (J13 bs 32),.bool true]) (by simp only[results,Tryz.results98];go_simp) rfl ⟨(by unfold canonV;rw[if_pos HL.out]),?_⟩;exact bz
      rw[show decide (J13 bs 32<LL)=false from decide_eq_false D];have HL:=BF D;clear D;go_wp2;refine BC (v:=.tuple #[A4 0 0 0 0,.bool false]) (by simp only[results,Tryz.results98];go_simp) rfl ⟨(by unfold canonV;rw[if_neg HL.out];rfl),?_⟩;exact bz
    obtain⟨q,r,hr,rfl⟩:∃q r,r<8∧k=8*q+r:=⟨k / 8,k % 8,by omega,by omega⟩
    have β:∀W,(Instr.index 23 (.agg (J0 .u8 32 bs)) (.int .i64 (8*(q:Int)+(r:Int)))).run Tryz.prog W=.ok (.int .u8 (bs (8*q+r))) W:=
      fun W=>J1u W 23 5 32 .u8 .i64 _ (8*q+r) _ Tryz.underlying23 Tryz.underlying5 (by kernel_rfl) (by omega) (Z8 _ _ _ _ (by omega))
    have d1:AG.i64.wrap ((8*(q:Int)+(r:Int)).tdiv 8)=(q:Int):=by rw[Int.tdiv_eq_ediv_of_nonneg (by omega),IntWalk.i64_in _ (by omega)];omega
    have d2:(8*(q:Int)+(r:Int)).tmod 8=(r:Int):=by rw[Int.tmod_eq_emod_of_nonneg (by omega)];omega
    have d3:AG.i64.wrap (8*(r:Int))=8*(r:Int):=IntWalk.i64_in _ (by omega);have d4:AG.u64.wrap (bs (8*q+r))=bs (8*q+r):=by have:=HB.out (8*q+r);unfold J7b at this;rw[AG.wrap_u64];omega
    have V:(0:Int)≤(q:Int):=by omega
    have Y:(q:Int)<4:=by omega
    have Z:(0:Int)≤(r:Int):=by omega
    have α:(r:Int)<8:=by omega
    have c2:=(J3 b2 q).trans (Z8 _ _ _ _ (by omega));have f2:=K7 b2;have hs:=fun v=>J1k b2 q v;go_wp2
    go_region
    go_wp2;have N.size:=G.size;go_roundw
    case rel=>
      refine⟨8*q+r+1,by omega,by go_num,?_,J02 (V7 b1 (by omega) _ _),?_⟩
      · exact bz
      have:=hs (.int .u64 (bits .or .u64 (V0 (J13 bs (8*q+r)) q) (AG.wrap .u64 (bs (8*q+r)*2^(8*r)))));rw[Q12 bs HB.out 4 q r hr] at this;exact J02 this
    case measure=>simp[intOf];omega
end

section
set_option maxHeartbeats 4000000

theorem Y2v (k:AG)(n:Nat):madeCells (AB.int k 0).cells n=J0 k n (fun _=>0):=by
  apply Array.ext
  · simp[madeCells,J0]
  intro i h1 h2;simp[madeCells,J0,AB.cells,Nat.mod_one]
theorem Z81 (bs:Nat→Int)(h:∀j,J7b (bs j))(k n:Nat)(hk:k≤8*n):J1v (V0 (J13 bs k)) n=J13 bs k:=by
  rw[J84,AI];exact Au (J68 bs h k) (Nat.pow_le_pow_right (by omega) (by omega))

theorem of_c (bs:Nat→Int)(hbs:∀j,J7b (bs j))(b off len cap:Nat)(w:AA)(hG:GL w)(hlen:len≤700)
    (hc:∀j,j<len→w.cell? ⟨b,off+j,none⟩=some (.int .u8 (bs j))) (hb:b<w.heap.size):
    Az Tryz.prog 115 #[.slice (some ⟨b,off,none⟩) len cap] w fun e w' =>V5 (L4 (J13 bs len % LL)) w w' e:=by
  have HG:=BF hG;have n0:=hG.2.2.2.2;clear hG;have HB:=BF hbs;have HC:=BF hc;clear hbs hc;obtain⟨n,hn⟩:∃n,n=(len+7) / 8:=⟨_,rfl⟩
  have d0:((len:Int)+7) / 8=(n:Int):=by omega
  have R:len≤8*n:=by omega
  have G:n≤100:=by omega
  have Y:∀W,(Instr.makeSlice 201 (.int .i64 (n:Int)) (.int .i64 (n:Int))).run Tryz.prog W=.ok (.slice (some ⟨W.heap.size,0,none⟩) n n) (W.alloc (.cells (J0 .u64 n fun _=>0) 121)):=by
    intro W;obtain⟨i,hi,hz,hs,N⟩:=info_parts (show(Tryz.prog.info? 121).map (fun i=>(i.zero,i.size,i.bytes))=some (some (.int .u64 0),1,8) by kernel_rfl);have h:=run_make (P:=Tryz.prog) W 201 121 i (.int .u64 0) Tryz.underlying201 hi hz .i64 .i64 (n:Int) (n:Int) (by omega) (by omega) (by rw[N];omega) (by omega);rw[Int.toNat_natCast,hs,Nat.mul_one,Y2v] at h;exact h
  have HN:=BF hn;clear hn
  go_enter Tryz.func115,Tryz.ntmps115
  go_wp2
  go_loopw [13] (fun ii wr=> ∃k:Nat,k≤len∧ii=.int .i64 k∧Below w.heap.size w wr∧
      Blk wr w.heap.size #[.int .u64 0,.int .u64 0,.int .u64 0,.int .u64 0] 143∧Blk wr (w.heap.size+1) (J0 .u64 n (V0 (J13 bs k))) 121)
    (fun ii _=>(len-intOf ii).toNat)
  case atStart=>
    refine⟨0,by omega,rfl,?_,K2 (X6 _ _ rfl) _,?_⟩
    · exact bz
    rw[show J13 bs 0=0 from rfl,X7 .u64 n (V0 0) (fun _=>0) (fun i _=>J8j i)];exact X6 _ _ (by simp)
  case round=>
    obtain⟨k,hk,rfl,D,b1,b2⟩:=hrel;have S.size:=D.size
    by_cases J:k=len
    · subst J
      have hs:∀j,Z7 (V0 (J13 bs k) j):=fun j=>J11 _ j
      go_wp2_with (go_at_call 99;refine(Q8m (V0 (J13 bs k)) (w.heap.size+1) 0 n n _ (J3x HG.out D HG.out.2.2.2.2) G (fun j _=>hs j) (fun j hj=>(by rw[AL];exact(J3 b2 j).trans (Z8 _ _ _ _ hj))) (V8 b2)).mono ?_;rintro e w1 ⟨rfl,M⟩;have c1:=J3 (J4 b1 M);have f1:=K7 (J4 b1 M))
      refine BC (v:=L4 (J1v (V0 (J13 bs k)) n % LL)) (by simp only[results,Tryz.results115];go_simp) rfl ⟨?_,?_⟩
      · rw[Z81 bs HB.out k n R]
      exact bz
    obtain⟨q,r,hr,rfl⟩:∃q r,r<8∧k=8*q+r:=⟨k / 8,k % 8,by omega,by omega⟩
    have hkl' :8*(q:Int)+(r:Int)<(len:Int):=by omega
    have cb:=(D.cell (p:=⟨b,off+(8*q+r),none⟩) hb).trans (HC.out (8*q+r) (by omega));have d1:AG.i64.wrap ((8*(q:Int)+(r:Int)).tdiv 8)=(q:Int):=by rw[Int.tdiv_eq_ediv_of_nonneg (by omega),IntWalk.i64_in _ (by omega)];omega
    have d2:(8*(q:Int)+(r:Int)).tmod 8=(r:Int):=by rw[Int.tmod_eq_emod_of_nonneg (by omega)];omega
    have d3:AG.i64.wrap (8*(r:Int))=8*(r:Int):=IntWalk.i64_in _ (by omega);have d4:AG.u64.wrap (bs (8*q+r))=bs (8*q+r):=by have:=HB.out (8*q+r);unfold J7b at this;rw[AG.wrap_u64];omega
    have T:(0:Int)≤(q:Int):=by omega
    have U:(q:Int)<(n:Int):=by have:=HN.out;omega
    have V:(0:Int)≤(r:Int):=by omega
    have X:(r:Int)<8:=by omega
    have c2:=(J3 b2 q).trans (Z8 _ _ _ _ (by omega));have f2:=K7 b2;have hs:=fun v=>J1k b2 q v;clear J;go_wp2
    go_region
    go_wp2;go_roundw
    case rel=>
      refine⟨8*q+r+1,by omega,by go_num,?_,J02 (V7 b1 (by omega) _ _),?_⟩
      · exact bz
      have:=hs (.int .u64 (bits .or .u64 (V0 (J13 bs (8*q+r)) q) (AG.wrap .u64 (bs (8*q+r)*2^(8*r)))));rw[Q12 bs HB.out n q r hr] at this;exact J02 this
    case measure=>simp[intOf];omega
end

section
set_option maxHeartbeats 4000000

def J0k (bs:Nat→Int):Nat→Int:=fun j=>if j=0 then bs 0-bs 0 % 8 else if j=31 then bs 31 % 64+64 else bs j
theorem Y77 (x:Int)(h:J7b x):bits .andNot .u8 x 7=x-x % 8:=by
  obtain⟨h0,h1⟩:=h;obtain⟨n,rfl⟩:=Int.eq_ofNat_of_zero_le h0;have D:∀n:Nat,n<256→bits .andNot .u8 (n:Int) 7=(n:Int)-(n:Int) % 8:=by decide+kernel
  exact D n (by omega)
theorem Z82 (x:Int)(h:J7b x):bits .or .u8 (bits .and .u8 x 63) 64=x % 64+64:=by
  obtain⟨h0,h1⟩:=h;obtain⟨n,rfl⟩:=Int.eq_ofNat_of_zero_le h0;have D:∀n:Nat,n<256→bits .or .u8 (bits .and .u8 (n:Int) 63) 64=(n:Int) % 64+64:=by decide+kernel
  exact D n (by omega)
theorem Z83 (bs:Nat→Int):((J0 .u8 32 bs).setIfInBounds 0 (.int .u8 (bs 0-bs 0 % 8))).setIfInBounds 31 (.int .u8 (bs 31 % 64+64))=J0 .u8 32 (J0k bs):=by
  rw[V1,V1];apply X7;intro j _;unfold upd J0k
  by_cases h:j=31
  · subst h;rfl
  by_cases h2:j=0
  · subst h2;rfl
  simp[h,h2]

theorem clamp_c (bs:Nat→Int)(hbs:∀j,J7b (bs j))(w:AA):
  Az Tryz.prog 75 #[.agg (J0 .u8 32 bs)] w fun e w' =>V5 (.agg (J0 .u8 32 (J0k bs))) w w' e:=by
 have a0:=Y77 (bs 0) (hbs 0);have a1:=Z82 (bs 31) (hbs 31);clear hbs
 go_enter Tryz.func75,Tryz.ntmps75
 go_upto_region 1 with fail;refine wn2 (c1:=(J0 .u8 32 bs)) (t1:=23) (c2:=(J0 .u8 32 (fun _=>0))) (t2:=23) fun W J b1 b2=> ?_;have c0:=(J3 b1 0).trans (Z8 _ _ _ _ (by omega));have M:=(J3 b1 31).trans (Z8 _ _ _ _ (by omega));have f1:=K7 b1;have hs:=J1k (J1k b1 0 (.int .u8 (bs 0-bs 0 % 8))) 31 (.int .u8 (bs 31 % 64+64));rw[Z83] at hs;have D:=V7 (V7 b2 (show w.heap.size+1≠w.heap.size by omega) 0 (.int .u8 (bs 0-bs 0 % 8))) (show w.heap.size+1≠w.heap.size by omega) 31 (.int .u8 (bs 31 % 64+64));have HS:=BF hs;have G:=BF D;clear hs D
 go_wp2_with (first
  |(refine wpList_load_row rfl 23 (.tmp 1) rfl w.heap.size rfl _ _ _ _ HS.out Tryz.underlying23 rfl (by kernel_rfl) ?_)
  |(refine wpList_store_row rfl 23 (.tmp 2) (.tmp 12) rfl (w.heap.size+1) _ rfl rfl 23 _ G.out (by kernel_rfl) (by kernel_rfl) (J0b _ _ _) ?_))
 refine BC (results_cell_row rfl _ _ (w.heap.size+1) _ _ _ _ rfl (J2o G.out _) Tryz.underlying23 rfl (by kernel_rfl)) rfl ⟨rfl,J3q ?_ (by omega) _⟩;exact J47 (J47 J (by omega) _ _) (by omega) _ _
end
end Go.Proofs.YtpljgkofbfeelaaGreatDoor.S8.Sc

/- Contracts and plain laws for bundleAny_holds. Conditions: the tables hold their numbers. -/
import Derived.StillTailTactics
import Derived.Test.YtlkbneflnjmgbaaGreatDoorJ10
open Go.RowKit
set_option maxRecDepth 100000
set_option linter.unusedSimpArgs false
set_option linter.unusedVariables false
namespace Go.Proofs.YtlkbneflnjmgbaaGreatDoor.S8.Sc
section
set_option maxHeartbeats 2000000

def LL:Nat:=7237005577332262213973186563042994240857116359379907606001950938285454250989
def GL (w:World):Prop:=w.cell? ⟨6,0,none⟩=some (.int .u64 6346243789798364141)∧w.cell? ⟨6,1,none⟩=some (.int .u64 1503914060200516822)∧w.cell? ⟨6,2,none⟩=some (.int .u64 0)∧w.cell? ⟨6,3,none⟩=some (.int .u64 1152921504606846976)∧6<w.heap.size
theorem J4z {B:Nat}{w w' :World}(h:GL w)(hb:Below B w w')(hB:6<B):GL w' :=by
  obtain⟨h0,h1,h2,h3,h4⟩:=h;refine⟨?_,?_,?_,?_,Nat.lt_of_lt_of_le h4 hb.size⟩
  · rw[hb.cell (p:=⟨6,0,none⟩) hB];exact h0
  · rw[hb.cell (p:=⟨6,1,none⟩) hB];exact h1
  · rw[hb.cell (p:=⟨6,2,none⟩) hB];exact h2
  rw[hb.cell (p:=⟨6,3,none⟩) hB];exact h3

theorem Z0h (a0 a1 a2 a3 b0 b1 b2 b3:Int)(ha:U4 a0 a1 a2 a3)(hb:U4 b0 b1 b2 b3)(w:World):
    Calls Tryz.prog 148 #[A4 a0 a1 a2 a3,A4 b0 b1 b2 b3] w fun e w' =>
      Ret (.tuple #[L4 (J8d (J0t a0 a1 a2 a3) (J0t b0 b1 b2 b3)),.int .u64 (brw (J0t a0 a1 a2 a3) (J0t b0 b1 b2 b3))]) w w' e:=by
  have D:=Q6c a0 a1 a2 a3 b0 b1 b2 b3 ha hb;have HC:=Lib.hid D;clear D;have h0:=J3n a0 b0 0 ha.1 hb.1 (by omega) (by omega);have h1:=J3n a1 b1 _ ha.2.1 hb.2.1 (J5e a0 b0 0).1 (J5e a0 b0 0).2;have h2:=J3n a2 b2 _ ha.2.2.1 hb.2.2.1 (J5e a1 b1 (sbB a0 b0 0)).1 (J5e a1 b1 (sbB a0 b0 0)).2;have h3:=J3n a3 b3 _ ha.2.2.2 hb.2.2.2 (J5e a2 b2 (sbB a1 b1 (sbB a0 b0 0))).1 (J5e a2 b2 (sbB a1 b1 (sbB a0 b0 0))).2;clear ha hb
  go_enter Tryz.func148,Tryz.ntmps148
  go_wp2;refine wp_loop_rounds 5 ?_;rw[rounds_succ];go_wp2
  go_region
  go_wp2;rw[rounds_succ];go_wp2
  go_region
  go_wp2;rw[rounds_succ];go_wp2
  go_region
  go_wp2;rw[rounds_succ];go_wp2
  go_region
  go_wp2;rw[rounds_succ];go_wp2;refine bodyPost_ret (v:=.tuple #[A4 (sbD a0 b0 0) (sbD a1 b1 (sbB a0 b0 0)) (sbD a2 b2 (sbB a1 b1 (sbB a0 b0 0))) (sbD a3 b3 (sbB a2 b2 (sbB a1 b1 (sbB a0 b0 0)))),.int .u64 (sbB a3 b3 (sbB a2 b2 (sbB a1 b1 (sbB a0 b0 0))))]) (by simp[results,Tryz.results148,go_sem]) rfl ⟨?_,?_⟩
  · rw[HC.out.1,HC.out.2]
  exact bz

theorem Y3h (a0 a1 a2 a3 b0 b1 b2 b3:Int)(ha:U4 a0 a1 a2 a3)(hb:U4 b0 b1 b2 b3)(w:World):
    Calls Tryz.prog 147 #[A4 a0 a1 a2 a3,A4 b0 b1 b2 b3] w fun e w' =>
      Ret (.bool (decide (J0t a0 a1 a2 a3<J0t b0 b1 b2 b3))) w w' e:=by
  go_enter Tryz.func147,Tryz.ntmps147
  go_wp2_with (go_at_call 148;refine(Z0h _ _ _ _ _ _ _ _ ha hb _).mono ?_;rintro e w1 ⟨rfl,D⟩)
  go_ret
  refine⟨?_,?_⟩
  · unfold brw;split<;>simp[*]
  have s1:=D.size;simp only[World.size_alloc] at s1;exact bz

theorem Q51:U4 6346243789798364141 1503914060200516822 0 1152921504606846976:=by simp[U4,Z5]
theorem Q0k:J0t 6346243789798364141 1503914060200516822 0 1152921504606846976=LL:=by decide+kernel
theorem L4_order:L4 LL=A4 6346243789798364141 1503914060200516822 0 1152921504606846976:=by rw[Z4l _ _ _ _ Q51,Q0k]


theorem Z2w (a0 a1 a2 a3 bit:Int)(ha:U4 a0 a1 a2 a3)(hb0:0≤bit)(hb1:bit≤1)(hA:J0t a0 a1 a2 a3<LL):
    U4 (bits .or .u64 (IntKind.wrap .u64 (a0*2)) bit) (bits .or .u64 (IntKind.wrap .u64 (a1*2)) (a0 / 9223372036854775808)) (bits .or .u64 (IntKind.wrap .u64 (a2*2)) (a1 / 9223372036854775808)) (bits .or .u64 (IntKind.wrap .u64 (a3*2)) (a2 / 9223372036854775808))∧
    J0t (bits .or .u64 (IntKind.wrap .u64 (a0*2)) bit) (bits .or .u64 (IntKind.wrap .u64 (a1*2)) (a0 / 9223372036854775808)) (bits .or .u64 (IntKind.wrap .u64 (a2*2)) (a1 / 9223372036854775808)) (bits .or .u64 (IntKind.wrap .u64 (a3*2)) (a2 / 9223372036854775808))=2*J0t a0 a1 a2 a3+bit.toNat:=by
  obtain⟨h0,h1,h2,h3⟩:=ha;rw[Q3b a0 bit h0 hb0 hb1,Q3b a1 _ h1 (by unfold Z5 at h0;omega) (by unfold Z5 at h0;omega),Q3b a2 _ h2 (by unfold Z5 at h1;omega) (by unfold Z5 at h1;omega),Q3b a3 _ h3 (by unfold Z5 at h2;omega) (by unfold Z5 at h2;omega)]
  have hu:U4 (a0*2 % 18446744073709551616+bit) (a1*2 % 18446744073709551616+a0 / 9223372036854775808) (a2*2 % 18446744073709551616+a1 / 9223372036854775808) (a3*2 % 18446744073709551616+a2 / 9223372036854775808):=by
    unfold U4 Z5 at*;omega
  refine⟨hu,?_⟩;have i1:=J4t _ _ _ _ hu;have i2:=J4t _ _ _ _ ⟨h0,h1,h2,h3⟩
  have h3' :a3<1152921504606846977:=by
    have:(J0t a0 a1 a2 a3:Int)<LL:=by exact_mod_cast hA
    rw[i2] at this;unfold LL Z5 at*;omega
  generalize J0t (a0*2 % 18446744073709551616+bit) (a1*2 % 18446744073709551616+a0 / 9223372036854775808) (a2*2 % 18446744073709551616+a1 / 9223372036854775808) (a3*2 % 18446744073709551616+a2 / 9223372036854775808)=X at*;generalize J0t a0 a1 a2 a3=A at*;clear hA hu;unfold Z5 at*;omega

theorem Y3i (x:Nat)(h:x<2*LL)(hx:¬x<LL):J8d x LL=x % LL:=by
  have e:x % LL=x-LL:=by rw[Nat.mod_eq_sub_mod (by omega),Nat.mod_eq_of_lt (by omega)]
  rw[e];unfold J8d LL at*;omega

theorem Y8w (a0 a1 a2 a3 bit:Int)(ha:U4 a0 a1 a2 a3)(hb0:0≤bit)(hb1:bit≤1)(hA:J0t a0 a1 a2 a3<LL)(w:World)(hG:GL w):
    Calls Tryz.prog 189 #[A4 a0 a1 a2 a3,.int .u64 bit] w fun e w' =>
      Ret (L4 ((2*J0t a0 a1 a2 a3+bit.toNat) % LL)) w w' e:=by
  obtain⟨hO,hV⟩:=Z2w a0 a1 a2 a3 bit ha hb0 hb1 hA;have HV:=Lib.hid hV;have HA:=Lib.hid hA;clear hV hA;have HG:=Lib.hid hG;obtain⟨g0,g1,g2,g3,g4⟩:=hG;have R:∀o,(w.alloc o).cell? ⟨6,0,none⟩=w.cell? ⟨6,0,none⟩:=fun o=>World.cell?_alloc_lt w o _ g4;have N:∀o o',((w.alloc o).alloc o').cell? ⟨6,0,none⟩=w.cell? ⟨6,0,none⟩:=fun o o' =>(World.cell?_alloc_lt _ o' _ (by rw[World.size_alloc];show 6<_;omega)).trans (R o);have ζ:∀o o' D,(((w.alloc o).alloc o').alloc D).cell? ⟨6,0,none⟩=w.cell? ⟨6,0,none⟩:=fun o o' D=>(World.cell?_alloc_lt _ D _ (by rw[World.size_alloc,World.size_alloc];show 6<_;omega)).trans (N o o');have X:∀o,(w.alloc o).cell? ⟨6,1,none⟩=w.cell? ⟨6,1,none⟩:=fun o=>World.cell?_alloc_lt w o _ g4;have Y:∀o o',((w.alloc o).alloc o').cell? ⟨6,1,none⟩=w.cell? ⟨6,1,none⟩:=fun o o' =>(World.cell?_alloc_lt _ o' _ (by rw[World.size_alloc];show 6<_;omega)).trans (X o);have δ:∀o o' D,(((w.alloc o).alloc o').alloc D).cell? ⟨6,1,none⟩=w.cell? ⟨6,1,none⟩:=fun o o' D=>(World.cell?_alloc_lt _ D _ (by rw[World.size_alloc,World.size_alloc];show 6<_;omega)).trans (Y o o');have S:∀o,(w.alloc o).cell? ⟨6,2,none⟩=w.cell? ⟨6,2,none⟩:=fun o=>World.cell?_alloc_lt w o _ g4;have Z:∀o o',((w.alloc o).alloc o').cell? ⟨6,2,none⟩=w.cell? ⟨6,2,none⟩:=fun o o' =>(World.cell?_alloc_lt _ o' _ (by rw[World.size_alloc];show 6<_;omega)).trans (S o);have α:∀o o' D,(((w.alloc o).alloc o').alloc D).cell? ⟨6,2,none⟩=w.cell? ⟨6,2,none⟩:=fun o o' D=>(World.cell?_alloc_lt _ D _ (by rw[World.size_alloc,World.size_alloc];show 6<_;omega)).trans (Z o o');have T:∀o,(w.alloc o).cell? ⟨6,3,none⟩=w.cell? ⟨6,3,none⟩:=fun o=>World.cell?_alloc_lt w o _ g4;have V:∀o o',((w.alloc o).alloc o').cell? ⟨6,3,none⟩=w.cell? ⟨6,3,none⟩:=fun o o' =>(World.cell?_alloc_lt _ o' _ (by rw[World.size_alloc];show 6<_;omega)).trans (T o);have γ:∀o o' D,(((w.alloc o).alloc o').alloc D).cell? ⟨6,3,none⟩=w.cell? ⟨6,3,none⟩:=fun o o' D=>(World.cell?_alloc_lt _ D _ (by rw[World.size_alloc,World.size_alloc];show 6<_;omega)).trans (V o o');obtain⟨⟨l0,u0⟩,⟨l1,u1⟩,⟨l2,u2⟩,⟨l3,u3⟩⟩:=ha
  go_enter Tryz.func189,Tryz.ntmps189
  go_wp2;refine wp_loop_rounds 5 ?_;rw[rounds_succ];go_wp2;rw[rounds_succ];go_wp2;rw[rounds_succ];go_wp2;rw[rounds_succ];go_wp2;rw[rounds_succ]
  go_wp2_with fail
  generalize bits .or .u64 (IntKind.wrap .u64 (a0*2)) bit=o0 at*;generalize bits .or .u64 (IntKind.wrap .u64 (a1*2)) (a0 / 9223372036854775808)=o1 at*;generalize bits .or .u64 (IntKind.wrap .u64 (a2*2)) (a1 / 9223372036854775808)=o2 at*;generalize bits .or .u64 (IntKind.wrap .u64 (a3*2)) (a2 / 9223372036854775808)=o3 at*;refine(Y3h _ _ _ _ _ _ _ _ hO Q51 _).mono ?_;rintro e w1 ⟨rfl,hb1⟩;rw[Q0k];obtain⟨J,U⟩:=V0d hb1;have s1:=hb1.size;simp only[World.size_alloc] at s1 J U;have z1:w.heap.size+1<w1.heap.size:=by omega
  have q0:w1.cell? ⟨6,0,none⟩=some (.int .u64 6346243789798364141):=by rw[J _ _ (by omega)];go_simp
  have q1:w1.cell? ⟨6,1,none⟩=some (.int .u64 1503914060200516822):=by rw[J _ _ (by omega)];go_simp
  have q2:w1.cell? ⟨6,2,none⟩=some (.int .u64 0):=by rw[J _ _ (by omega)];go_simp
  have q3:w1.cell? ⟨6,3,none⟩=some (.int .u64 1152921504606846976):=by rw[J _ _ (by omega)];go_simp
  by_cases G:J0t o0 o1 o2 o3<LL
  · rw[show decide (J0t o0 o1 o2 o3<LL)=true from decide_eq_true G]
    have HL:=Lib.hid G;clear G;go_wp2;refine bodyPost_ret (v:=A4 o0 o1 o2 o3) (by simp only[results,Tryz.results189];go_simp) rfl ⟨?_,?_⟩
    · rw[Z4l _ _ _ _ hO,←HV.out,Nat.mod_eq_of_lt HL.out]
    exact bz
  rw[show decide (J0t o0 o1 o2 o3<LL)=false from decide_eq_false G];have HL:=Lib.hid G;clear G
  go_wp2_with (go_at_call 148;refine(Z0h _ _ _ _ _ _ _ _ hO Q51 _).mono ?_;rintro e w2 ⟨rfl,M⟩;obtain⟨β,ε⟩:=V0d M;have s2:=M.size;have z2:w.heap.size+1<w2.heap.size:=by omega)
  refine bodyPost_ret (v:=L4 (J8d (J0t o0 o1 o2 o3) LL)) (by simp only[results,Tryz.results189,←Q0k];go_simp) rfl ⟨?_,?_⟩
  · rw[←HV.out,Y3i _ (by have:=HV.out;have:=HA.out;omega) HL.out]
  exact bz

theorem K0e (A B:Nat)(hA:A<Q5)(hB:B<Q5)(w:World):Calls Tryz.prog 148 #[L4 A,L4 B] w fun e w' =>Ret (.tuple #[L4 (J8d A B),.int .u64 (brw A B)]) w w' e:=by
  have h:=Z0h _ _ _ _ _ _ _ _ (J5t A) (J5t B) w;rw[J1f A hA,J1f B hB] at h;exact h
theorem V5h (A B:Nat)(hA:A<Q5)(hB:B<Q5)(w:World):Calls Tryz.prog 147 #[L4 A,L4 B] w fun e w' =>Ret (.bool (decide (A<B))) w w' e:=by
  have h:=Y3h _ _ _ _ _ _ _ _ (J5t A) (J5t B) w;rw[J1f A hA,J1f B hB] at h;exact h
theorem V1o:LL<Q5:=by decide+kernel
@[go_sem] def LV:Value:=.agg #[.int .u64 6346243789798364141,.int .u64 1503914060200516822,.int .u64 0,.int .u64 1152921504606846976]
theorem V1p:LV=L4 LL:=L4_order.symm
theorem K3c (A:Nat)(hA:A<Q5)(w:World):Calls Tryz.prog 148 #[L4 A,LV] w fun e w' =>Ret (.tuple #[L4 (J8d A LL),.int .u64 (brw A LL)]) w w' e:=by rw[V1p];exact K0e A LL hA V1o w
theorem K0f (A:Nat)(hA:A<Q5)(w:World):Calls Tryz.prog 147 #[L4 A,LV] w fun e w' =>Ret (.bool (decide (A<LL))) w w' e:=by rw[V1p];exact V5h A LL hA V1o w
end

section
set_option maxHeartbeats 2000000

theorem Z0s (ws:Nat→Int):∀n q r,q<n→r<64→(∀j,j<n→Z5 (ws j))→J26 ws n / 2^(64*q+r) % 2=(ws q).toNat / 2^r % 2
  |0,_,_,h,_,_=>by omega
  |n+1,q,r,h,hr,hw=>by
    show(J26 ws n+(ws n).toNat*2^(64*n)) / 2^(64*q+r) % 2=_
    by_cases hq:q=n
    · subst hq
      have hl:=Q16 ws q (fun j hj=>hw j (by omega));rw[Nat.pow_add,←Nat.div_div_eq_div_mul,Nat.add_mul_div_right _ _ (Nat.two_pow_pos _),Nat.div_eq_of_lt hl,Nat.zero_add]
    · have ih:=Z0s ws n q r (by omega) hr (fun j hj=>hw j (by omega))
      obtain⟨d,hd⟩:∃d,64*n=(64*q+r)+(1+d):=⟨64*n-(64*q+r)-1,by omega⟩
      rw[hd,Nat.pow_add 2 (64*q+r),Nat.mul_left_comm,Nat.add_mul_div_left _ _ (Nat.two_pow_pos _),Nat.pow_add 2 1 d,Nat.mul_left_comm,Nat.pow_one,Nat.add_mul_mod_self_left];exact ih
theorem Y3j (ws:Nat→Int)(n q r:Nat)(hq:q<n)(hr:r<64)(hw:∀j,j<n→Z5 (ws j)):
    (0≤bits .and .u64 (ws q / 2^r) 1∧bits .and .u64 (ws q / 2^r) 1≤1)∧(bits .and .u64 (ws q / 2^r) 1).toNat=J26 ws n / 2^(64*q+r) % 2:=by
  have hb:=Z0s ws n q r hq hr hw;obtain⟨x0,x1⟩:=hw q hq;obtain⟨X,hX⟩:=Int.eq_ofNat_of_zero_le x0;rw[hX] at hb x1⊢;rw[Int.toNat_natCast] at hb;have e:((X:Int) / 2^r)=((X / 2^r:Nat):Int):=by push_cast;rfl
  have hl:X / 2^r≤X:=Nat.div_le_self _ _
  have e2:bits .and .u64 (((X / 2^r:Nat):Int)) ((1:Nat):Int)=((X / 2^r % 2:Nat):Int):=by
    rw[bits_and_u64_nat _ _ (by omega) (by omega),Nat.and_one_is_mod]
  rw[e];have e3:bits .and .u64 (((X / 2^r:Nat):Int)) 1=((X / 2^r % 2:Nat):Int):=e2;rw[e3,hb];omega
theorem Y3k (V K:Nat):(2*(V / 2^(K+1) % LL)+V / 2^K % 2) % LL=V / 2^K % LL:=by
  have e:V / 2^K=2*(V / 2^(K+1))+V / 2^K % 2:=by
    rw[Nat.pow_succ,←Nat.div_div_eq_div_mul];omega
  have h1:(2*(V / 2^(K+1) % LL)+V / 2^K % 2) % LL=(2*(V / 2^(K+1))+V / 2^K % 2) % LL:=by
    rw[Nat.add_mod,Nat.mul_mod,Nat.mod_mod,←Nat.mul_mod,←Nat.add_mod]
  rw[h1,←e]
theorem Q4x (x:Nat):x % LL<115792089237316195423570985008687907853269984665640564039457584007913129639936:=
  Nat.lt_trans (Nat.mod_lt _ (by decide)) (by decide)
theorem Q8o (ws:Nat→Int)(b off len cap:Nat)(w:World)(hG:GL w)(hlen:len≤100)(hws:∀j,j<len→Z5 (ws j))
    (hc:∀j,j<len→w.cell? ⟨b,off+j,none⟩=some (.int .u64 (ws j))) (hb:b<w.heap.size):
    Calls Tryz.prog 144 #[.slice (some ⟨b,off,none⟩) len cap] w fun e w' =>Ret (L4 (J26 ws len % LL)) w w' e:=by
  go_enter Tryz.func144,Tryz.ntmps144
  go_wp2
  go_loopw [4] (fun i wr=> ∃k:Nat,k≤64*len∧i=.int .i64 ((k:Int)-1)∧Below w.heap.size w wr∧
      Blk wr w.heap.size #[.int .u64 0,.int .u64 0,.int .u64 0,.int .u64 0] 201∧
      Blk wr (w.heap.size+1) #[.int .u64 (K6 (J26 ws len / 2^k % LL) 0),.int .u64 (K6 (J26 ws len / 2^k % LL) 1),.int .u64 (K6 (J26 ws len / 2^k % LL) 2),.int .u64 (K6 (J26 ws len / 2^k % LL) 3)] 201)
    (fun i _=>(intOf i+1).toNat)
  case atStart=>
    refine⟨64*len,Nat.le_refl _,?_,?_,?_,?_⟩
    · congr 1;omega
    · exact bz
    · exact J08 (J0c _ _ rfl) _
    rw[Nat.div_eq_of_lt (Q16 ws len hws)];exact J0c _ _ (by simp)
  case round=>
    obtain⟨k,hk,rfl,J,M,D⟩:=hrel
    by_cases S:k=0
    · subst S
      have T:=J4 D;have U:=J06 D;have γ:=J4 M;have ε:=J06 M;go_wp2;refine bodyPost_ret (v:=L4 (J26 ws len % LL)) (by simp only[results,Tryz.results144];go_simp) rfl ⟨rfl,?_⟩;exact bz
    obtain⟨q,r,hr,rfl⟩:∃q r,r<64∧k=64*q+r+1:=⟨(k-1) / 64,(k-1) % 64,by omega,by omega⟩
    have e1:((64*q+r+1:Nat):Int)-1=64*(q:Int)+(r:Int):=by omega
    rw[e1];clear S e1;have N:=(J.cell (p:=⟨b,off+q,none⟩) hb).trans (hc q (by omega));have w1:IntKind.i64.wrap ((64*(q:Int)+(r:Int)).tdiv 64)=(q:Int):=by rw[Int.tdiv_eq_ediv_of_nonneg (by omega),IntWalk.i64_in _ (by omega)];omega
    have w2:(64*(q:Int)+(r:Int)).tmod 64=(r:Int):=by rw[Int.tmod_eq_emod_of_nonneg (by omega)];omega
    have Y:0≤(r:Int):=by omega
    have δ:(0:Int)≤64*(q:Int)+(r:Int):=by omega
    have Z:(q:Int)<(len:Int):=by omega
    have ζ:(r:Int)<64:=by omega
    have T:=J4 D;have U:=J06 D;go_wp2
    go_still_tail 10,(by kernel_rfl)
    change wpList _ _ _ _ _ wr.drew
    obtain⟨hB,R⟩:=Y3j ws len q r (by omega) hr hws;generalize bits .and .u64 (ws q / 2^r) 1=bt at*;have HB:=Lib.hid R;clear R N w1 w2;have HT:=Y8w _ _ _ _ bt (J5t (J26 ws len / 2^(64*q+r+1) % LL)) hB.1 hB.2 (by rw[J1f _ (Q4x _)];exact Nat.mod_lt _ (by decide)) wr.drew (J4z (hG) J.drew (by have:=hG.2.2.2.2;omega))
    go_wp2_with (go_at_call 189;refine HT.mono ?_;rintro e w3 ⟨rfl,G⟩;have β:=J4 (J3 (J0r D) G);have X:=J06 (J3 (J0r D) G))
    rw[J1f _ (Q4x _),HB.out,Y3k];have V.size:=J.size;have α:=G.size;go_roundw
    case rel=>
      refine⟨64*q+r,by omega,by go_num,?_,J4e (J3 (J0r M) G) (by omega) _ _ _ _,Q15 (J3 (J0r D) G) _ _ _ _⟩;exact bz
    case measure=>simp[intOf];omega
end

section
set_option maxHeartbeats 2000000

theorem bytes_c (V:Nat)(hV:V<115792089237316195423570985008687907853269984665640564039457584007913129639936)(w:World)(hG:GL w):
    Calls Tryz.prog 106 #[L4 V] w fun e w' =>Ret (.agg (J0 .u8 32 (J7 (V % LL)))) w w' e:=by
  go_enter Tryz.func106,Tryz.ntmps106
  go_wp2_with fail
  refine(Q8o (K6 V) _ _ _ _ _ ?_ (by omega) (fun j _=>J11 V j) ?_ (by simp only[World.size_alloc];omega)).mono ?_
  · exact J4z hG (B:=w.heap.size) (((Below.refl _ _).alloc (Nat.le_refl _) _).alloc (by simp) _) hG.2.2.2.2
  · intro j hj
    have h4:j=0∨j=1∨j=2∨j=3:=by omega
    refine(J4 (J08 (J0c #[.int .u64 (K6 V 0),.int .u64 (K6 V 1),.int .u64 (K6 V 2),.int .u64 (K6 V 3)] 201 rfl) _) _).trans ?_;rcases h4 with rfl|rfl|rfl|rfl<;>rfl
  rintro e w1 ⟨rfl,M⟩;have b0:Blk w1 w.heap.size #[.int .u64 (K6 V 0),.int .u64 (K6 V 1),.int .u64 (K6 V 2),.int .u64 (K6 V 3)] 201:=J3 (J08 (J0c _ _ rfl) _) M;have b1:Blk w1 (w.heap.size+1) (J0 .u8 32 fun _=>0) 22:=J3 (J0c _ _ (by simp)) M;have s1:=M.size;simp only[World.size_alloc] at s1;rw[Q6e V hV];generalize hN:V % LL=N;have HN:=Lib.hid hN;clear hN;have c0:=J4 b0;have f0:=J06 b0;go_wp2
  go_loopw [7] (fun i wr=> ∃k:Nat,k≤32∧i=.int .i64 k∧Below w.heap.size w wr∧
      Blk wr w.heap.size #[.int .u64 (K6 N 0),.int .u64 (K6 N 1),.int .u64 (K6 N 2),.int .u64 (K6 N 3)] 201∧
      Blk wr (w.heap.size+1) (J0 .u8 32 fun _=>0) 22∧
      Blk wr w1.heap.size (J0 .u8 32 fun j=>if j<k then J7 N j else 0) 22)
    (fun i _=>(32-intOf i).toNat)
  case atStart=>
    refine⟨0,by omega,rfl,?_,J08 (Q15 b0 _ _ _ _) _,J08 (J4e b1 (by omega) _ _ _ _) _,?_⟩
    · exact bz
    exact J0c _ _ (by simp)
  case round=>
    obtain⟨k,hk,rfl,G,R,J,D⟩:=hrel
    by_cases T:k=32
    · subst T
      go_wp2_with (first|(refine wpList_load_row rfl 22 (.tmp 3) rfl w1.heap.size rfl _ _ _ _ D Tryz.underlying22 rfl (by kernel_rfl) ?_)|(refine wpList_store_row rfl 22 (.tmp 2) (.tmp 22) rfl (w.heap.size+1) _ rfl rfl 22 _ J (by kernel_rfl) (by kernel_rfl) (J04 _ _ _) ?_))
      refine bodyPost_ret (results_cell_row rfl _ _ (w.heap.size+1) _ _ _ _ rfl (V9 J _) Tryz.underlying22 rfl (by kernel_rfl)) rfl ⟨?_,Y9 G (by omega) _⟩;rw[J0f _ _ _ (J7 N) (fun i hi=>if_pos hi),HN.out]
    obtain⟨q,r,hr,rfl⟩:∃q r,r<8∧k=8*q+r:=⟨k / 8,k % 8,by omega,by omega⟩
    have d1:(8*(q:Int)+(r:Int)) / 8=(q:Int):=by omega
    have d2:(8*(q:Int)+(r:Int)) % 8=(r:Int):=by omega
    have Y:(q:Int)<4:=by omega
    have Z:(r:Int)<8:=by omega
    have c0:=(J4 R q).trans (show _=some (.int .u64 (K6 N q)) by(have:q=0∨q=1∨q=2∨q=3:=by omega);rcases this with rfl|rfl|rfl|rfl<;>rfl);have c3:=J4 D (8*q+r);rw[K7 _ _ _ _ (by omega)] at c3;have f3:=J06 D;go_wp2;have U.size:=G.size;have X:=Q2 D;go_roundw
    case rel=>
      refine⟨8*q+r+1,by omega,by go_num,?_,X9 R (by omega) _ _,X9 J (by omega) _ _,?_⟩
      · exact bz
      have hs:=J25 D (8*q+r) (.int .u8 (K6 N q / 2^(8*r) % 256));rw[X6] at hs;rw[J0f _ _ _ _ (fun j hj=> ?_)]
      · exact hs
      have S:=Z4n N (8*q+r);rw[show(8*q+r) / 8=q by omega,show(8*q+r) % 8=r by omega] at S;unfold upd;rw[S];dsimp only
      by_cases h1:j=8*q+r
      · subst h1;rw[if_pos (by omega),if_pos rfl]
      rw[if_neg h1]
      by_cases h2:j<8*q+r
      · rw[if_pos h2,if_pos (by omega)]
      rw[if_neg h2,if_neg (by omega)]
    case measure=>simp[intOf];omega
end

section
set_option maxHeartbeats 2000000

theorem Z5x (V b:Nat)(hV:V<Q5)(w:World)(hG:GL w)(hB:Blk w b (c4 V) 201):
    Calls Tryz.prog 144 #[.slice (some ⟨b,0,none⟩) 4 4] w fun e w' =>Ret (L4 (V % LL)) w w' e:=by
  have h:=Q8o (K6 V) b 0 4 4 w hG (by omega) (fun j _=>J11 V j) (fun j hj=>by
    have h4:j=0∨j=1∨j=2∨j=3:=by omega
    refine(J4 hB _).trans ?_
    rcases h4 with rfl|rfl|rfl|rfl<;>rfl) (Q2 hB)
  rw[Q6e V hV] at h;exact h
theorem Y8x {w w' :World}(h:GL w)(hb:Below w.heap.size w w'):GL w' :=J4z h hb h.2.2.2.2
theorem add_c (A B:Nat)(hA:A<Q5)(hB:B<Q5)(w:World)(hG:GL w):
    Calls Tryz.prog 107 #[L4 A,L4 B] w fun e w' =>Ret (L4 ((A+B) % LL)) w w' e:=by
  have HG:=Lib.hid hG;clear hG
  go_enter Tryz.func107,Tryz.ntmps107
  go_wp2
  refine Y0o (fun W=>Below w.heap.size w W∧w.heap.size+2<W.heap.size∧Blk W w.heap.size (c4 A) 201∧Blk W (w.heap.size+1) (c4 B) 201∧Blk W (w.heap.size+2) #[.int .u64 0,.int .u64 0,.int .u64 0,.int .u64 0] 201)
    ⟨bz,by simp,J08 (J08 (J0c _ _ rfl) _) _,J08 (J0c _ _ (by simp)) _,J0c _ _ (by simp)⟩ ?_
  rintro W ⟨M,κ,b2,b3,b4⟩;have α:Hid (GL W.drew):=Lib.hid (J4z HG.out M.drew HG.out.2.2.2.2);have b2:=J0r b2;have b3:=J0r b3
  go_region_with (first
    |(go_at_call 144;(with_reducible refine(Z5x A w.heap.size hA _ α.out b2).mono ?_);rintro e w1 ⟨rfl,N⟩;have V:=J3 b2 N;have U:=J3 b3 N)
    |(go_at_call 144;(with_reducible refine(Z5x B (w.heap.size+1) hB _ (Y8x α.out N) U).mono ?_);rintro e w2 ⟨rfl,D⟩;have Γ:=J4 (J3 V D);have τ:=J06 (J3 V D);have χ:=J4 (J3 U D);have ρ:=J06 (J3 U D)))
  clear Γ τ χ ρ;have ξ:=J3 V D;have η:=J3 U D;have γ:=J3 (J3 (J0r b4) N) D;have s1:=N.size;have s2:=D.size;simp only[World.size_drew] at s1;have ω:Below w.heap.size w w2:=V4 (V4 M.drew N (by simp only[World.size_drew];omega)) D (by omega);have β:w.heap.size+2<w2.heap.size:=by omega
  clear N D V U b2 b3 b4 α s1 s2
  refine J72 (fun W=>Below w.heap.size w W∧w.heap.size+2<W.heap.size∧Blk W w.heap.size (c4 (A % LL)) 201∧Blk W (w.heap.size+1) (c4 (B % LL)) 201∧Blk W (w.heap.size+2) #[.int .u64 0,.int .u64 0,.int .u64 0,.int .u64 0] 201)
    ⟨bz,by simpa using β,J4e (Q15 ξ _ _ _ _) (by omega) _ _ _ _,Q15 (J4e η (by omega) _ _ _ _) _ _ _ _,J4e (J4e γ (by omega) _ _ _ _) (by omega) _ _ _ _⟩ ?_
  clear ω ξ η γ M κ β;rintro X ⟨M,κ,b2,b3,b4⟩;have ε:=Lib.hid (J4z HG.out M HG.out.2.2.2.2);have J:=J5t (A % LL);have G:=J5t (B % LL);have ν:=Q6d _ _ _ _ _ _ _ _ 0 J G (by omega) (by omega);have q0:=J9z _ _ 0 J.1 G.1 (by omega) (by omega);have q1:=J9z _ _ _ J.2.1 G.2.1 q0.1 q0.2;have q2:=J9z _ _ _ J.2.2.1 G.2.2.1 q1.1 q1.2;have h0:=J19 _ _ 0 J.1 G.1 (by omega) (by omega);have h1:=J19 _ _ _ J.2.1 G.2.1 q0.1 q0.2;have h2:=J19 _ _ _ J.2.2.1 G.2.2.1 q1.1 q1.2;have h3:=J19 _ _ _ J.2.2.2 G.2.2.2 q2.1 q2.2;obtain⟨e0,e1,e2,e3⟩:=V3m ν.1;rw[e0] at h0;rw[e1] at h1;rw[e2] at h2;rw[e3] at h3;clear ν q0 q1 q2 J G e0 e1 e2 e3
  have hS:(A % LL+B % LL+(0:Int).toNat) % 115792089237316195423570985008687907853269984665640564039457584007913129639936=A % LL+B % LL:=by
    have:=Nat.mod_lt A (show 0<LL by decide);have:=Nat.mod_lt B (show 0<LL by decide);unfold LL at*;omega
  rw[J1f _ (Q4x A),J1f _ (Q4x B),hS] at h0 h1 h2 h3
  have θ:A % LL+B % LL<2*LL:=by
    have:=Nat.mod_lt A (show 0<LL by decide);have:=Nat.mod_lt B (show 0<LL by decide);omega
  have δ:(A % LL+B % LL) % LL=(A+B) % LL:=by rw[←Nat.add_mod]
  generalize A % LL+B % LL=S at*;have HS:=Lib.hid θ;have μ:=Lib.hid δ;clear hS θ δ;have x2:=J4 b2;have x3:=J4 b3;obtain⟨g0,g1,g2,g3,g4⟩:=ε.out;have n1:w.heap.size<X.heap.size:=by omega
  have n2:w.heap.size+1<X.heap.size:=by omega
  go_wp2;refine wp_loop_rounds 5 ?_;rw[rounds_succ];go_wp2
  go_region
  go_wp2;rw[rounds_succ];go_wp2
  go_region
  go_wp2;rw[rounds_succ];go_wp2
  go_region
  go_wp2;rw[rounds_succ];go_wp2
  go_region
  go_wp2;rw[rounds_succ]
  go_wp2_with fail
  have ζ:S<Q5:=by have:=HS.out;unfold LL at this;unfold Q5;omega
  refine(K0f S ζ _).mono ?_;rintro e w3 ⟨rfl,T⟩;have Y:=J3 (J0r (J0r (J0r (J0r (J08 b4 _))))) T;have φ:Blk w3 X.heap.size (c4 S) 201:=J3 (J0r (J0r (J0r (J0r (J0c _ _ rfl))))) T;have s3:=T.size;simp only[World.size_drew,World.size_alloc] at s3;have σ:Below w.heap.size w w3:=V4 bz T (by simp only[World.size_drew,World.size_alloc];omega);have ψ:=Lib.hid (J4z HG.out σ HG.out.2.2.2.2);clear b2 b3 b4 M x2 x3 h0 h1 h2 h3 T g0 g1 g2 g3 g4 ε;have z2:=J4 Y;have t2:=J06 Y;have z5:=J4 φ;obtain⟨g0,g1,g2,g3,g4⟩:=ψ.out
  by_cases R:S<LL
  · rw[show decide (S<LL)=true from decide_eq_true R]
    have HL:=Lib.hid R;clear R;go_wp2;refine bodyPost_ret (v:=L4 S) (by simp only[results,Tryz.results107];go_simp) rfl ⟨?_,?_⟩
    · rw[←μ.out,Nat.mod_eq_of_lt HL.out]
    exact bz
  rw[show decide (S<LL)=false from decide_eq_false R];have HL:=Lib.hid R;clear R
  go_wp2_with (go_at_call 148;refine(K3c S ζ _).mono ?_;rintro e w4 ⟨rfl,Z⟩;have Θ:=J4 (J3 Y Z);have Δ:=J06 (J3 Y Z);have s4:=Z.size;have n4:w.heap.size+2<w4.heap.size:=by omega)
  refine bodyPost_ret (v:=L4 (J8d S LL)) (by simp only[results,Tryz.results107];go_simp) rfl ⟨?_,?_⟩
  · rw[←μ.out,Y3i _ HS.out HL.out]
  exact bz
end
end Go.Proofs.YtlkbneflnjmgbaaGreatDoor.S8.Sc

namespace Go.Proofs.YtlkbneflnjmgbaaGreatDoor.S8

abbrev Q4:=Nat×Nat×Nat×Nat
def RQ4 (s:Q4)(a:Pr):Prop:=RN s.1 s.2.1 s.2.2.1 s.2.2.2 a
def twN:Q4→Q4
  |(X,Y,Z,_)=>
    let A:=X*X % PP
    let B:=Y*Y % PP
    let C:=(Z*Z % PP+Z*Z % PP) % PP
    let H:=(A+B) % PP
    let S:=(X+Y) % PP
    let E:=(H+(PP-S*S % PP % PP)) % PP
    let G:=(A+(PP-B % PP)) % PP
    let F:=(C+G) % PP
    (E*F % PP,G*H % PP,F*G % PP,E*H % PP)
def adN:Q4→Q4→Q4
  |(X1,Y1,Z1,T1),(X2,Y2,Z2,T2)=>
    let A:=(Y1+(PP-X1 % PP)) % PP*((Y2+(PP-X2 % PP)) % PP) % PP
    let B:=(Y1+X1) % PP*((Y2+X2) % PP) % PP
    let C:=T1*D2 % PP*T2 % PP
    let D:=(Z1+Z1) % PP*Z2 % PP
    let E:=(B+(PP-A % PP)) % PP
    let F:=(D+(PP-C % PP)) % PP
    let G:=(D+C) % PP
    let H:=(B+A) % PP
    (E*F % PP,G*H % PP,F*G % PP,E*H % PP)
def tmN (P:Q4)(n:Nat):Nat→Q4
  |0=>(0,1,1,0)
  |c+1=>if n / 2^(255-c) % 2=1 then adN (twN (tmN P n c)) P else twN (tmN P n c)
theorem K0g {s:Q4}{a:Pr}(h:RQ4 s a):RQ4 (twN s) (J1x a a):=by
  obtain⟨X,Y,Z,T⟩:=s;exact Z0l (X:=X) (Y:=Y) (Z:=Z) (T:=T) h rfl rfl rfl rfl rfl rfl rfl rfl rfl rfl rfl rfl rfl rfl
theorem K0h {s t:Q4}{a b:Pr}(h:RQ4 s a)(k:RQ4 t b):RQ4 (adN s t) (J1x a b):=by
  obtain⟨X1,Y1,Z1,T1⟩:=s;obtain⟨X2,Y2,Z2,T2⟩:=t;exact Y2z (X1:=X1) (Y1:=Y1) (Z1:=Z1) (T1:=T1) (X2:=X2) (Y2:=Y2) (Z2:=Z2) (T2:=T2) h k rfl rfl rfl rfl rfl rfl rfl rfl rfl rfl rfl rfl rfl rfl rfl rfl rfl rfl
theorem V1q {P:Q4}{a:Pr}{n:Nat}(hP:RQ4 P a)(hn:n<2^256):∀c,c≤256→RQ4 (tmN P n c) (pm a (n / 2^(256-c)))
  |0,_=>by
    rw[show 256-0=256 by decide,Nat.div_eq_of_lt hn];exact V19
  |c+1,h=>by
    have ih:=V1q hP hn c (by omega);rw[show 256-c=(255-c)+1 by omega] at ih;rw[show 256-(c+1)=255-c by omega];have e2:n / 2^(255-c+1)=n / 2^(255-c) / 2:=by rw[Nat.pow_succ,Nat.div_div_eq_div_mul]
    rw[e2] at ih;unfold tmN;generalize n / 2^(255-c)=m at*;have hm:=Nat.div_add_mod m 2;have D:=K0g ih;rw[←J7d hP.on] at D
    split
    · rename_i h1
      have:=K0h D hP
      rwa [show J1x (pm a (2*(m / 2))) a=pm a m by rw[show m=2*(m / 2)+1 by omega];exact congrArg (fun k=>J1x (pm a (2*k)) a) (by omega)] at this
    · rwa [show 2*(m / 2)=m by omega] at D
theorem V5i {P:Q4}{a:Pr}{n:Nat}(hP:RQ4 P a)(hn:n<2^256):RQ4 (tmN P n 256) (pm a n):=by
  have:=V1q hP hn 256 (Nat.le_refl _)
  rwa [Nat.sub_self,Nat.pow_zero,Nat.div_one] at this
open Sc (LL)
end Go.Proofs.YtlkbneflnjmgbaaGreatDoor.S8

namespace Go.Proofs.YtlkbneflnjmgbaaGreatDoor.S8.Sc
section
set_option maxHeartbeats 4000000

theorem Z5f (A B:Nat)(hA:A<Q5)(hB:B<Q5)(h:∀i,i<4→K6 A i=K6 B i):A=B:=by
  rw[←J1f A hA,←J1f B hB,h 0 (by omega),h 1 (by omega),h 2 (by omega),h 3 (by omega)]
end

section
set_option maxHeartbeats 4000000

theorem Y8y (f:Nat→Int)(b:Nat)(hf:∀j,j<8→Z5 (f j))(w:World)(hG:GL w)(hB:Blk w b (J0 .u64 8 f) 248):
    Calls Tryz.prog 144 #[.slice (some ⟨b,0,none⟩) 8 8] w fun e w' =>Ret (L4 (J26 f 8 % LL)) w w' e:=
  Q8o f b 0 8 8 w hG (by omega) hf (fun j hj=>by rw[Nat.zero_add];exact(J4 hB _).trans (K7 _ _ _ _ hj)) (Q2 hB)

theorem J57 (V i:Nat)(h:i<4):(c4 V)[i]?=some (.int .u64 (K6 V i)):=by
  have:i=0∨i=1∨i=2∨i=3:=by omega
  rcases this with rfl|rfl|rfl|rfl<;>rfl

theorem Q8b (i k:Nat)(x y g c s cv:Int)(V V' Y Y' X B0:Nat)(hx:Z5 x)(hy:Z5 y)(hg:Z5 g)(hc:Z5 c)(hs:Z5 s)(hcv:Z5 cv)
    (h5:s+18446744073709551616*cv=x*y+g+c) (h1:V' +g.toNat*2^(64*(i+k))=V+s.toNat*2^(64*(i+k)))
    (h2:V+c.toNat*2^(64*(i+k))=X+x.toNat*2^(64*i)*Y) (hY:Y' =Y+y.toNat*2^(64*k)):
    V' +cv.toNat*2^(64*(i+(k+1)))=X+x.toNat*2^(64*i)*Y' :=by
  obtain⟨x,rfl⟩:=Int.eq_ofNat_of_zero_le hx.1;obtain⟨y,rfl⟩:=Int.eq_ofNat_of_zero_le hy.1;obtain⟨g,rfl⟩:=Int.eq_ofNat_of_zero_le hg.1;obtain⟨c,rfl⟩:=Int.eq_ofNat_of_zero_le hc.1;obtain⟨s,rfl⟩:=Int.eq_ofNat_of_zero_le hs.1;obtain⟨d,rfl⟩:=Int.eq_ofNat_of_zero_le hcv.1;simp only[Int.toNat_natCast] at*
  have h6:s+18446744073709551616*d=x*y+g+c:=by
    rw[←Int.natCast_mul] at h5;generalize x*y=p at*;omega
  have e1:(2:Nat)^(64*(i+(k+1)))=18446744073709551616*2^(64*(i+k)):=by
    rw[show 64*(i+(k+1))=64+64*(i+k) by omega,Nat.pow_add]
  have e2:(2:Nat)^(64*(i+k))=2^(64*i)*2^(64*k):=by rw[Nat.mul_add,Nat.pow_add]
  rw[hY,e1,Nat.mul_add (x*2^(64*i))];have e3:x*2^(64*i)*(y*2^(64*k))=x*y*2^(64*(i+k)):=by rw[e2,Nat.mul_mul_mul_comm]
  rw[e3];generalize 2^(64*(i+k))=W at*;have e4:d*(18446744073709551616*W)=18446744073709551616*d*W:=by rw[Nat.mul_left_comm,Nat.mul_assoc]
  rw[e4]
  have h7:s*W+18446744073709551616*d*W=x*y*W+g*W+c*W:=by
    rw[←Nat.add_mul,h6,Nat.add_mul,Nat.add_mul]
  omega

theorem Q8c (B V' V C X Y W:Nat){g:Int}(hB:B<Q5)(hg:g=0)(h1:V' +g.toNat*W=V+C)(h2:V+C=X+Y*(B % 2^(64*4))):V' =X+Y*B:=by
  rw[Nat.mod_eq_of_lt (show B<2^(64*4) from hB)] at h2;rw[hg,Int.toNat_zero,Nat.zero_mul,Nat.add_zero] at h1;rw[h1,h2]

theorem mul_c (A B:Nat)(hA:A<Q5)(hB:B<Q5)(w:World)(hG:GL w):
    Calls Tryz.prog 108 #[L4 A,L4 B] w fun e w' =>Ret (L4 (A*B % LL)) w w' e:=by
  have HG:=Lib.hid hG;clear hG
  go_enter Tryz.func108,Tryz.ntmps108
  go_wp2
  go_loopw [16] (fun ii wr=> ∃i:Nat,i≤4∧ii=.int .i64 i∧Below w.heap.size w wr∧
      Blk wr (w.heap.size+1) (c4 B) 201∧Blk wr (w.heap.size+2) #[.int .u64 0,.int .u64 0,.int .u64 0,.int .u64 0] 201∧
      ∃f:Nat→Int,Blk wr (w.heap.size+3) (J0 .u64 8 f) 248∧(∀j,Z5 (f j))∧(∀j,i+4≤j→f j=0)∧J26 f 8=A % 2^(64*i)*B)
    (fun ii _=>(4-intOf ii).toNat)
  case atStart=>
    refine⟨0,by omega,rfl,?_,J08 (J08 (J0c _ _ (by simp)) _) _,J08 (J0c _ _ (by simp)) _,fun _=>0,J0c _ _ (by simp),fun _=>⟨by simp,by simp⟩,fun _ _=>rfl,?_⟩
    · exact bz
    rw[J9p,Nat.mul_zero,Nat.pow_zero,Nat.mod_one,Nat.zero_mul]
  case round=>
    obtain⟨i,hi,rfl,D,b1,b2,f,b3,hf,Y,hv⟩:=hrel
    by_cases N:i=4
    · subst N
      have HV:=Lib.hid hv;clear hv;have c2:=J4 b2;have f2:=J06 b2
      go_wp2_with (go_at_call 144;refine(Y8y f (w.heap.size+3) (fun j _=>hf j) _ (J4z HG.out D HG.out.2.2.2.2) b3).mono ?_;rintro e w1 ⟨rfl,J⟩;have β:=J4 (J3 b2 J);have α:=J06 (J3 b2 J))
      refine bodyPost_ret (v:=L4 (J26 f 8 % LL)) (by simp only[results,Tryz.results108];go_simp) rfl ⟨?_,?_⟩
      · rw[HV.out,Nat.mod_eq_of_lt (show A<2^(64*4) from hA)]
      have:=J.size;have:=D.size;exact bz
    have V:i<4:=by omega
    have hi3' :(i:Int)<4:=by omega
    have M:∀W,(Instr.index 201 (.agg #[.int .u64 (K6 A 0),.int .u64 (K6 A 1),.int .u64 (K6 A 2),.int .u64 (K6 A 3)]) (.int .i64 (i:Int))).run Tryz.prog W=.ok (.int .u64 (K6 A i)) W:=
      fun W=>J2n W 201 43 4 .u64 .i64 (c4 A) i (K6 A i) Tryz.underlying201 Tryz.underlying43 (by kernel_rfl) V (J57 A i V)
    have c1:=J4 b1;clear N;go_wp2;clear c1;have U:=Lib.hid Y;have HV:=Lib.hid hv;clear Y hv M hi3';obtain⟨wo,rfl⟩:∃wo:World,wo=wr:=⟨_,rfl⟩
    go_loopw [8,21] (fun cc kk wq=> ∃(k:Nat)(c:Int),k≤4∧kk=.int .i64 k∧cc=.int .u64 c∧Z5 c∧Below w.heap.size w wq∧
        Blk wq (w.heap.size+1) (c4 B) 201∧Blk wq (w.heap.size+2) #[.int .u64 0,.int .u64 0,.int .u64 0,.int .u64 0] 201∧
        ∃g:Nat→Int,Blk wq (w.heap.size+3) (J0 .u64 8 g) 248∧(∀j,Z5 (g j))∧(∀j,i+4≤j→g j=0)∧
          J26 g 8+c.toNat*2^(64*(i+k))=A % 2^(64*i)*B+(K6 A i).toNat*2^(64*i)*(B % 2^(64*k)))
      (fun _ kk _=>(4-intOf kk).toNat)
    case atStart=>
      refine⟨0,0,by omega,rfl,rfl,⟨by omega,by omega⟩,D,b1,b2,f,b3,hf,U.out,?_⟩;rw[HV.out,Nat.mul_zero,Nat.pow_zero,Nat.mod_one];simp
    case round=>
      obtain⟨k,c,hk,rfl,rfl,hc,D,b1,b2,g,b3,hg,S,hv⟩:=hrel;have G:=Lib.hid S;have HV:=Lib.hid hv;clear S hv U
      by_cases X:k=4
      · subst X
        have c3:=(J4 b3 (i+4)).trans (K7 _ _ _ _ (by omega));have f3:=J06 b3;have Z:(i:Int)+4<8:=by omega
        go_wp2;have hs:=J25 b3 (i+4) (.int .u64 c);rw[X6] at hs;go_roundw
        case rel=>
          refine⟨i+1,by omega,by go_num,?_,X9 b1 (by omega) _ _,X9 b2 (by omega) _ _,upd g (i+4) c,hs,?_,?_,?_⟩
          · exact bz
          · intro j
            by_cases hj:j=i+4
            · subst hj;rw[J3g];exact hc
            rw[J12 _ _ _ _ hj];exact hg j
          · intro j hj
            rw[J12 _ _ _ _ (by omega)];exact G.out j (by omega)
          rw[J74,Nat.add_mul];exact Q8c B _ _ _ _ _ _ hB (G.out (i+4) (by omega)) (J73 g (i+4) c 8 (by omega)) HV.out
        case measure=>simp[intOf];omega
      have R:k<4:=by omega
      have hk3' :(k:Int)<4:=by omega
      clear X
      have M:∀W,(Instr.index 201 (.agg #[.int .u64 (K6 B 0),.int .u64 (K6 B 1),.int .u64 (K6 B 2),.int .u64 (K6 B 3)]) (.int .i64 (k:Int))).run Tryz.prog W=.ok (.int .u64 (K6 B k)) W:=
        fun W=>J2n W 201 43 4 .u64 .i64 (c4 B) k (K6 B k) Tryz.underlying201 Tryz.underlying43 (by kernel_rfl) R (J57 B k R)
      obtain⟨m1,m2,m3,m4,m5⟩:=Q4a (K6 A i) (K6 B k) (g (i+k)) c (J11 A i) (J11 B k) (hg _) hc;have a1:=J19 (J6q (K6 A i) (K6 B k)) (g (i+k)) 0 m1 (hg _) (by omega) (by omega);have a2:=J19 (adS (J6q (K6 A i) (K6 B k)) (g (i+k)) 0) c 0 m2 hc (by omega) (by omega);obtain⟨sv,T⟩:∃sv,sv=adS (adS (J6q (K6 A i) (K6 B k)) (g (i+k)) 0) c 0:=⟨_,rfl⟩
      rw[←T] at m4 m5 a2;have M5:=Lib.hid m5;clear m5 T;have c3:=(J4 b3 (i+k)).trans (K7 _ _ _ _ (by omega));have f3:=J06 b3;have Z:(i:Int)+(k:Int)<8:=by omega
      go_wp2_with (go_at_call 149;refine(Q7m _ _ (J11 A i) (J11 B k) _).mono ?_;rintro e w' ⟨rfl,rfl⟩)
      have hs:=J25 b3 (i+k) (.int .u64 sv);rw[X6] at hs;have h1:=J73 g (i+k) sv 8 (by omega);have h2:=HV.out;have h5:=M5.out;clear HV M5 a1 a2 c3 f3 M;go_roundw
      case rel=>
        (repeat apply Exists.intro)
        refine⟨?_,rfl⟩;refine⟨k+1,_,by omega,by go_num,rfl,m3,?_,X9 b1 (by omega) _ _,X9 b2 (by omega) _ _,upd g (i+k) sv,hs,?_,?_,?_⟩
        · exact bz
        · intro j
          by_cases hj:j=i+k
          · subst hj;rw[J3g];exact m4
          rw[J12 _ _ _ _ hj];exact hg j
        · intro j hj
          rw[J12 _ _ _ _ (by omega)];exact G.out j hj
        exact Q8b i k (K6 A i) (K6 B k) (g (i+k)) c sv _ _ _ _ _ _ 0 (J11 A i) (J11 B k) (hg _) hc m4 m3 h5 h1 h2 (J74 B k)
      case measure=>simp[intOf];omega
end

section

end

section

theorem Q8e (V:Nat):c4 V=J0 .u64 4 (K6 V):=rfl
theorem Y3l (i:Nat):K6 0 i=0:=by simp[K6]
theorem Q4u (bs:Nat→Int)(h:∀j,J8s (bs j))(n q r:Nat)(hr:r<8):
    (J0 .u64 n (K6 (J1w bs (8*q+r)))).setIfInBounds q (.int .u64 (bits .or .u64 (K6 (J1w bs (8*q+r)) q) (IntKind.wrap .u64 (bs (8*q+r)*2^(8*r)))))=J0 .u64 n (K6 (J1w bs (8*q+r+1))):=by
  rw[Z4p bs h q r hr,X6];apply J0f;intro j _
  by_cases hj:j=q
  · subst hj;rw[J3g]
  rw[J12 _ _ _ _ hj,J8t bs h (8*q+r) j (by omega)]

end

section
set_option maxHeartbeats 4000000

theorem Y3m (k:IntKind)(n:Nat):madeCells (Value.int k 0).cells n=J0 k n (fun _=>0):=by
  apply Array.ext
  · simp[madeCells,J0]
  intro i h1 h2;simp[madeCells,J0,Value.cells,Nat.mod_one]
theorem Z7w (bs:Nat→Int)(h:∀j,J8s (bs j))(k n:Nat)(hk:k≤8*n):J26 (K6 (J1w bs k)) n=J1w bs k:=by
  rw[J8r,Nat.mod_eq_of_lt];exact Nat.lt_of_lt_of_le (J7r bs h k) (Nat.pow_le_pow_right (by omega) (by omega))

theorem of_c (bs:Nat→Int)(hbs:∀j,J8s (bs j))(b off len cap:Nat)(w:World)(hG:GL w)(hlen:len≤700)
    (hc:∀j,j<len→w.cell? ⟨b,off+j,none⟩=some (.int .u8 (bs j))) (hb:b<w.heap.size):
    Calls Tryz.prog 103 #[.slice (some ⟨b,off,none⟩) len cap] w fun e w' =>Ret (L4 (J1w bs len % LL)) w w' e:=by
  have HG:=Lib.hid hG;have n0:=hG.2.2.2.2;clear hG;have HB:=Lib.hid hbs;have HC:=Lib.hid hc;clear hbs hc;obtain⟨n,hn⟩:∃n,n=(len+7) / 8:=⟨_,rfl⟩
  have d0:((len:Int)+7) / 8=(n:Int):=by omega
  have R:len≤8*n:=by omega
  have G:n≤100:=by omega
  have X:∀W,(Instr.makeSlice 250 (.int .i64 (n:Int)) (.int .i64 (n:Int))).run Tryz.prog W=.ok (.slice (some ⟨W.heap.size,0,none⟩) n n) (W.alloc (.cells (J0 .u64 n fun _=>0) 43)):=by
    intro W;obtain⟨i,hi,hz,hs,N⟩:=info_parts (show(Tryz.prog.info? 43).map (fun i=>(i.zero,i.size,i.bytes))=some (some (.int .u64 0),1,8) by kernel_rfl);have h:=run_make (P:=Tryz.prog) W 250 43 i (.int .u64 0) Tryz.underlying250 hi hz .i64 .i64 (n:Int) (n:Int) (by omega) (by omega) (by rw[N];omega) (by omega);rw[Int.toNat_natCast,hs,Nat.mul_one,Y3m] at h;exact h
  have HN:=Lib.hid hn;clear hn
  go_enter Tryz.func103,Tryz.ntmps103
  go_wp2
  go_loopw [13] (fun ii wr=> ∃k:Nat,k≤len∧ii=.int .i64 k∧Below w.heap.size w wr∧
      Blk wr w.heap.size #[.int .u64 0,.int .u64 0,.int .u64 0,.int .u64 0] 201∧Blk wr (w.heap.size+1) (J0 .u64 n (K6 (J1w bs k))) 43)
    (fun ii _=>(len-intOf ii).toNat)
  case atStart=>
    refine⟨0,by omega,rfl,?_,J08 (J0c _ _ rfl) _,?_⟩
    · exact bz
    rw[show J1w bs 0=0 from rfl,J0f .u64 n (K6 0) (fun _=>0) (fun i _=>Y3l i)];exact J0c _ _ (by simp)
  case round=>
    obtain⟨k,hk,rfl,D,b1,b2⟩:=hrel;have S.size:=D.size
    by_cases M:k=len
    · subst M
      have hs:∀j,Z5 (K6 (J1w bs k) j):=fun j=>J11 _ j
      go_wp2_with (go_at_call 144;refine(Q8o (K6 (J1w bs k)) (w.heap.size+1) 0 n n _ (J4z HG.out D HG.out.2.2.2.2) G (fun j _=>hs j) (fun j hj=>(by rw[Nat.zero_add];exact(J4 b2 j).trans (K7 _ _ _ _ hj))) (Q2 b2)).mono ?_;rintro e w1 ⟨rfl,J⟩;have c1:=J4 (J3 b1 J);have f1:=J06 (J3 b1 J))
      refine bodyPost_ret (v:=L4 (J26 (K6 (J1w bs k)) n % LL)) (by simp only[results,Tryz.results103];go_simp) rfl ⟨?_,?_⟩
      · rw[Z7w bs HB.out k n R]
      exact bz
    obtain⟨q,r,hr,rfl⟩:∃q r,r<8∧k=8*q+r:=⟨k / 8,k % 8,by omega,by omega⟩
    have hkl' :8*(q:Int)+(r:Int)<(len:Int):=by omega
    have cb:=(D.cell (p:=⟨b,off+(8*q+r),none⟩) hb).trans (HC.out (8*q+r) (by omega));have d1:IntKind.i64.wrap ((8*(q:Int)+(r:Int)).tdiv 8)=(q:Int):=by rw[Int.tdiv_eq_ediv_of_nonneg (by omega),IntWalk.i64_in _ (by omega)];omega
    have d2:(8*(q:Int)+(r:Int)).tmod 8=(r:Int):=by rw[Int.tmod_eq_emod_of_nonneg (by omega)];omega
    have d3:IntKind.i64.wrap (8*(r:Int))=8*(r:Int):=IntWalk.i64_in _ (by omega);have d4:IntKind.u64.wrap (bs (8*q+r))=bs (8*q+r):=by have:=HB.out (8*q+r);unfold J8s at this;rw[IntKind.wrap_u64];omega
    have V:(0:Int)≤(q:Int):=by omega
    have U:(q:Int)<(n:Int):=by have:=HN.out;omega
    have T:(0:Int)≤(r:Int):=by omega
    have Y:(r:Int)<8:=by omega
    have c2:=(J4 b2 q).trans (K7 _ _ _ _ (by omega));have f2:=J06 b2;have hs:=fun v=>J25 b2 q v;clear M;go_wp2
    go_region
    go_wp2;go_roundw
    case rel=>
      refine⟨8*q+r+1,by omega,by go_num,?_,J0r (X9 b1 (by omega) _ _),?_⟩
      · exact bz
      have:=hs (.int .u64 (bits .or .u64 (K6 (J1w bs (8*q+r)) q) (IntKind.wrap .u64 (bs (8*q+r)*2^(8*r)))));rw[Q4u bs HB.out n q r hr] at this;exact J0r this
    case measure=>simp[intOf];omega
end

section
set_option maxHeartbeats 4000000

def J10 (bs:Nat→Int):Nat→Int:=fun j=>if j=0 then bs 0-bs 0 % 8 else if j=31 then bs 31 % 64+64 else bs j
theorem Y8z (x:Int)(h:J8s x):bits .andNot .u8 x 7=x-x % 8:=by
  obtain⟨h0,h1⟩:=h;obtain⟨n,rfl⟩:=Int.eq_ofNat_of_zero_le h0;have D:∀n:Nat,n<256→bits .andNot .u8 (n:Int) 7=(n:Int)-(n:Int) % 8:=by decide+kernel
  exact D n (by omega)
theorem Z7x (x:Int)(h:J8s x):bits .or .u8 (bits .and .u8 x 63) 64=x % 64+64:=by
  obtain⟨h0,h1⟩:=h;obtain⟨n,rfl⟩:=Int.eq_ofNat_of_zero_le h0;have D:∀n:Nat,n<256→bits .or .u8 (bits .and .u8 (n:Int) 63) 64=(n:Int) % 64+64:=by decide+kernel
  exact D n (by omega)
theorem Z7y (bs:Nat→Int):((J0 .u8 32 bs).setIfInBounds 0 (.int .u8 (bs 0-bs 0 % 8))).setIfInBounds 31 (.int .u8 (bs 31 % 64+64))=J0 .u8 32 (J10 bs):=by
  rw[X6,X6];apply J0f;intro j _;unfold upd J10
  by_cases h:j=31
  · subst h;rfl
  by_cases h2:j=0
  · subst h2;rfl
  simp[h,h2]

theorem clamp_c (bs:Nat→Int)(hbs:∀j,J8s (bs j))(w:World):
  Calls Tryz.prog 134 #[.agg (J0 .u8 32 bs)] w fun e w' =>Ret (.agg (J0 .u8 32 (J10 bs))) w w' e:=by
 have a0:=Y8z (bs 0) (hbs 0);have a1:=Z7x (bs 31) (hbs 31);clear hbs
 go_enter Tryz.func134,Tryz.ntmps134
 go_upto_region 1 with fail;refine wn2 (c1:=(J0 .u8 32 bs)) (t1:=22) (c2:=(J0 .u8 32 (fun _=>0))) (t2:=22) fun W J b1 b2=> ?_;have c0:=(J4 b1 0).trans (K7 _ _ _ _ (by omega));have M:=(J4 b1 31).trans (K7 _ _ _ _ (by omega));have f1:=J06 b1;have hs:=J25 (J25 b1 0 (.int .u8 (bs 0-bs 0 % 8))) 31 (.int .u8 (bs 31 % 64+64));rw[Z7y] at hs;have D:=X9 (X9 b2 (show w.heap.size+1≠w.heap.size by omega) 0 (.int .u8 (bs 0-bs 0 % 8))) (show w.heap.size+1≠w.heap.size by omega) 31 (.int .u8 (bs 31 % 64+64));have HS:=Lib.hid hs;have G:=Lib.hid D;clear hs D
 go_wp2_with (first
  |(refine wpList_load_row rfl 22 (.tmp 1) rfl w.heap.size rfl _ _ _ _ HS.out Tryz.underlying22 rfl (by kernel_rfl) ?_)
  |(refine wpList_store_row rfl 22 (.tmp 2) (.tmp 12) rfl (w.heap.size+1) _ rfl rfl 22 _ G.out (by kernel_rfl) (by kernel_rfl) (J04 _ _ _) ?_))
 refine bodyPost_ret (results_cell_row rfl _ _ (w.heap.size+1) _ _ _ _ rfl (V9 G.out _) Tryz.underlying22 rfl (by kernel_rfl)) rfl ⟨rfl,Y9 ?_ (by omega) _⟩;exact J4d (J4d J (by omega) _ _) (by omega) _ _
end
end Go.Proofs.YtlkbneflnjmgbaaGreatDoor.S8.Sc

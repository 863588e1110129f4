/- Contracts and plain laws for superSeals_holds. Conditions: the tables hold their numbers. -/
import Derived.StillTailTactics
import Derived.Test.YtdjacgmmidbieaaGreatDoorJ11
open Go renaming World->AA,Value->AB,bodyPost_ret->BH,Calls->BI,IntKind->AI
open Go.Lib renaming hid->BK
open _root_.Nat renaming mod_eq_of_lt->AL,le_refl->AM,lt_of_lt_of_le->BA,mod_lt->AO,zero_add->AP,mul_zero->BF,two_pow_pos->AQ,div_eq_of_lt->AR
open Go.RowKit
set_option maxRecDepth 100000
set_option linter.unusedSimpArgs false
set_option linter.unusedVariables false
namespace Go.Proofs.YtdjacgmmidbieaaGreatDoor.S8.Sc
section
set_option maxHeartbeats 2000000

def LL:Nat:=7237005577332262213973186563042994240857116359379907606001950938285454250989
def GL (w:AA):Prop:=w.cell? ⟨7,0,none⟩=some (.int .u64 6346243789798364141)∧w.cell? ⟨7,1,none⟩=some (.int .u64 1503914060200516822)∧w.cell? ⟨7,2,none⟩=some (.int .u64 0)∧w.cell? ⟨7,3,none⟩=some (.int .u64 1152921504606846976)∧7<w.heap.size
theorem J3c {B:Nat}{w w' :AA}(h:GL w)(hb:Below B w w')(hB:7<B):GL w' :=by
  obtain⟨h0,h1,h2,h3,h4⟩:=h;refine⟨?_,?_,?_,?_,BA h4 hb.size⟩
  · rw[hb.cell (p:=⟨7,0,none⟩) hB];exact h0
  · rw[hb.cell (p:=⟨7,1,none⟩) hB];exact h1
  · rw[hb.cell (p:=⟨7,2,none⟩) hB];exact h2
  rw[hb.cell (p:=⟨7,3,none⟩) hB];exact h3

theorem Q00 (a0 a1 a2 a3 b0 b1 b2 b3:Int)(ha:U4 a0 a1 a2 a3)(hb:U4 b0 b1 b2 b3)(w:AA):
    BI Tryz.prog 113 #[A4 a0 a1 a2 a3,A4 b0 b1 b2 b3] w fun e w' =>
      V4 (.tuple #[L4 (J75 (J0k a0 a1 a2 a3) (J0k b0 b1 b2 b3)),.int .u64 (brw (J0k a0 a1 a2 a3) (J0k b0 b1 b2 b3))]) w w' e:=by
  have D:=Q4u a0 a1 a2 a3 b0 b1 b2 b3 ha hb;have HC:=BK D;clear D;have h0:=J31 a0 b0 0 ha.1 hb.1 (by omega) (by omega);have h1:=J31 a1 b1 _ ha.2.1 hb.2.1 (J4s a0 b0 0).1 (J4s a0 b0 0).2;have h2:=J31 a2 b2 _ ha.2.2.1 hb.2.2.1 (J4s a1 b1 (sbB a0 b0 0)).1 (J4s a1 b1 (sbB a0 b0 0)).2;have h3:=J31 a3 b3 _ ha.2.2.2 hb.2.2.2 (J4s a2 b2 (sbB a1 b1 (sbB a0 b0 0))).1 (J4s a2 b2 (sbB a1 b1 (sbB a0 b0 0))).2;clear ha hb
  go_enter Tryz.func113,Tryz.ntmps113
  go_wp2;refine wp_loop_rounds 5 ?_;rw[rounds_succ];go_wp2
  go_region
  go_wp2;rw[rounds_succ];go_wp2
  go_region
  go_wp2;rw[rounds_succ];go_wp2
  go_region
  go_wp2;rw[rounds_succ];go_wp2
  go_region
  go_wp2;rw[rounds_succ];go_wp2;refine BH (v:=.tuple #[A4 (sbD a0 b0 0) (sbD a1 b1 (sbB a0 b0 0)) (sbD a2 b2 (sbB a1 b1 (sbB a0 b0 0))) (sbD a3 b3 (sbB a2 b2 (sbB a1 b1 (sbB a0 b0 0)))),.int .u64 (sbB a3 b3 (sbB a2 b2 (sbB a1 b1 (sbB a0 b0 0))))]) (by simp[results,Tryz.results113,go_sem]) rfl ⟨?_,?_⟩
  · rw[HC.out.1,HC.out.2]
  exact bz

theorem Z9i (a0 a1 a2 a3 b0 b1 b2 b3:Int)(ha:U4 a0 a1 a2 a3)(hb:U4 b0 b1 b2 b3)(w:AA):
    BI Tryz.prog 112 #[A4 a0 a1 a2 a3,A4 b0 b1 b2 b3] w fun e w' =>
      V4 (.bool (decide (J0k a0 a1 a2 a3<J0k b0 b1 b2 b3))) w w' e:=by
  go_enter Tryz.func112,Tryz.ntmps112
  go_wp2_with (go_at_call 113;refine(Q00 _ _ _ _ _ _ _ _ ha hb _).mono ?_;rintro e w1 ⟨rfl,D⟩)
  go_ret
  refine⟨?_,?_⟩
  · unfold brw;split<;>simp[*]
  have s1:=D.size;simp only[AA.size_alloc] at s1;exact bz

theorem Q3o:U4 6346243789798364141 1503914060200516822 0 1152921504606846976:=by simp[U4,Y8]
theorem J9a:J0k 6346243789798364141 1503914060200516822 0 1152921504606846976=LL:=by decide+kernel
theorem L4_order:L4 LL=A4 6346243789798364141 1503914060200516822 0 1152921504606846976:=by rw[Z25 _ _ _ _ Q3o,J9a]


theorem Z13 (a0 a1 a2 a3 bit:Int)(ha:U4 a0 a1 a2 a3)(hb0:0≤bit)(hb1:bit≤1)(hA:J0k a0 a1 a2 a3<LL):
    U4 (bits .or .u64 (AI.wrap .u64 (a0*2)) bit) (bits .or .u64 (AI.wrap .u64 (a1*2)) (a0 / 9223372036854775808)) (bits .or .u64 (AI.wrap .u64 (a2*2)) (a1 / 9223372036854775808)) (bits .or .u64 (AI.wrap .u64 (a3*2)) (a2 / 9223372036854775808))∧
    J0k (bits .or .u64 (AI.wrap .u64 (a0*2)) bit) (bits .or .u64 (AI.wrap .u64 (a1*2)) (a0 / 9223372036854775808)) (bits .or .u64 (AI.wrap .u64 (a2*2)) (a1 / 9223372036854775808)) (bits .or .u64 (AI.wrap .u64 (a3*2)) (a2 / 9223372036854775808))=2*J0k a0 a1 a2 a3+bit.toNat:=by
  obtain⟨h0,h1,h2,h3⟩:=ha;rw[Q1s a0 bit h0 hb0 hb1,Q1s a1 _ h1 (by unfold Y8 at h0;omega) (by unfold Y8 at h0;omega),Q1s a2 _ h2 (by unfold Y8 at h1;omega) (by unfold Y8 at h1;omega),Q1s a3 _ h3 (by unfold Y8 at h2;omega) (by unfold Y8 at h2;omega)]
  have hu:U4 (a0*2 % 18446744073709551616+bit) (a1*2 % 18446744073709551616+a0 / 9223372036854775808) (a2*2 % 18446744073709551616+a1 / 9223372036854775808) (a3*2 % 18446744073709551616+a2 / 9223372036854775808):=by
    unfold U4 Y8 at*;omega
  refine⟨hu,?_⟩;have i1:=J49 _ _ _ _ hu;have i2:=J49 _ _ _ _ ⟨h0,h1,h2,h3⟩
  have h3' :a3<1152921504606846977:=by
    have:(J0k a0 a1 a2 a3:Int)<LL:=by exact_mod_cast hA
    rw[i2] at this;unfold LL Y8 at*;omega
  generalize J0k (a0*2 % 18446744073709551616+bit) (a1*2 % 18446744073709551616+a0 / 9223372036854775808) (a2*2 % 18446744073709551616+a1 / 9223372036854775808) (a3*2 % 18446744073709551616+a2 / 9223372036854775808)=X at*;generalize J0k a0 a1 a2 a3=A at*;clear hA hu;unfold Y8 at*;omega

theorem Z9j (x:Nat)(h:x<2*LL)(hx:¬x<LL):J75 x LL=x % LL:=by
  have e:x % LL=x-LL:=by rw[Nat.mod_eq_sub_mod (by omega),AL (by omega)]
  rw[e];unfold J75 LL at*;omega

theorem Y3v (a0 a1 a2 a3 bit:Int)(ha:U4 a0 a1 a2 a3)(hb0:0≤bit)(hb1:bit≤1)(hA:J0k a0 a1 a2 a3<LL)(w:AA)(hG:GL w):
    BI Tryz.prog 144 #[A4 a0 a1 a2 a3,.int .u64 bit] w fun e w' =>
      V4 (L4 ((2*J0k a0 a1 a2 a3+bit.toNat) % LL)) w w' e:=by
  obtain⟨hO,hV⟩:=Z13 a0 a1 a2 a3 bit ha hb0 hb1 hA;have HV:=BK hV;have HA:=BK hA;clear hV hA;have HG:=BK hG;obtain⟨g0,g1,g2,g3,g4⟩:=hG;have T:∀o,(w.alloc o).cell? ⟨7,0,none⟩=w.cell? ⟨7,0,none⟩:=fun o=>AA.cell?_alloc_lt w o _ g4;have U:∀o o',((w.alloc o).alloc o').cell? ⟨7,0,none⟩=w.cell? ⟨7,0,none⟩:=fun o o' =>(AA.cell?_alloc_lt _ o' _ (by rw[AA.size_alloc];show 7<_;omega)).trans (T o);have β:∀o o' D,(((w.alloc o).alloc o').alloc D).cell? ⟨7,0,none⟩=w.cell? ⟨7,0,none⟩:=fun o o' D=>(AA.cell?_alloc_lt _ D _ (by rw[AA.size_alloc,AA.size_alloc];show 7<_;omega)).trans (U o o');have S:∀o,(w.alloc o).cell? ⟨7,1,none⟩=w.cell? ⟨7,1,none⟩:=fun o=>AA.cell?_alloc_lt w o _ g4;have N:∀o o',((w.alloc o).alloc o').cell? ⟨7,1,none⟩=w.cell? ⟨7,1,none⟩:=fun o o' =>(AA.cell?_alloc_lt _ o' _ (by rw[AA.size_alloc];show 7<_;omega)).trans (S o);have ε:∀o o' D,(((w.alloc o).alloc o').alloc D).cell? ⟨7,1,none⟩=w.cell? ⟨7,1,none⟩:=fun o o' D=>(AA.cell?_alloc_lt _ D _ (by rw[AA.size_alloc,AA.size_alloc];show 7<_;omega)).trans (N o o');have Y:∀o,(w.alloc o).cell? ⟨7,2,none⟩=w.cell? ⟨7,2,none⟩:=fun o=>AA.cell?_alloc_lt w o _ g4;have R:∀o o',((w.alloc o).alloc o').cell? ⟨7,2,none⟩=w.cell? ⟨7,2,none⟩:=fun o o' =>(AA.cell?_alloc_lt _ o' _ (by rw[AA.size_alloc];show 7<_;omega)).trans (Y o);have ζ:∀o o' D,(((w.alloc o).alloc o').alloc D).cell? ⟨7,2,none⟩=w.cell? ⟨7,2,none⟩:=fun o o' D=>(AA.cell?_alloc_lt _ D _ (by rw[AA.size_alloc,AA.size_alloc];show 7<_;omega)).trans (R o o');have X:∀o,(w.alloc o).cell? ⟨7,3,none⟩=w.cell? ⟨7,3,none⟩:=fun o=>AA.cell?_alloc_lt w o _ g4;have Z:∀o o',((w.alloc o).alloc o').cell? ⟨7,3,none⟩=w.cell? ⟨7,3,none⟩:=fun o o' =>(AA.cell?_alloc_lt _ o' _ (by rw[AA.size_alloc];show 7<_;omega)).trans (X o);have α:∀o o' D,(((w.alloc o).alloc o').alloc D).cell? ⟨7,3,none⟩=w.cell? ⟨7,3,none⟩:=fun o o' D=>(AA.cell?_alloc_lt _ D _ (by rw[AA.size_alloc,AA.size_alloc];show 7<_;omega)).trans (Z o o');obtain⟨⟨l0,u0⟩,⟨l1,u1⟩,⟨l2,u2⟩,⟨l3,u3⟩⟩:=ha
  go_enter Tryz.func144,Tryz.ntmps144
  go_wp2;refine wp_loop_rounds 5 ?_;rw[rounds_succ];go_wp2;rw[rounds_succ];go_wp2;rw[rounds_succ];go_wp2;rw[rounds_succ];go_wp2;rw[rounds_succ]
  go_wp2_with fail
  generalize bits .or .u64 (AI.wrap .u64 (a0*2)) bit=o0 at*;generalize bits .or .u64 (AI.wrap .u64 (a1*2)) (a0 / 9223372036854775808)=o1 at*;generalize bits .or .u64 (AI.wrap .u64 (a2*2)) (a1 / 9223372036854775808)=o2 at*;generalize bits .or .u64 (AI.wrap .u64 (a3*2)) (a2 / 9223372036854775808)=o3 at*;refine(Z9i _ _ _ _ _ _ _ _ hO Q3o _).mono ?_;rintro e w1 ⟨rfl,hb1⟩;rw[J9a];obtain⟨J,V⟩:=Y6b hb1;have s1:=hb1.size;simp only[AA.size_alloc] at s1 J V;have z1:w.heap.size+1<w1.heap.size:=by omega
  have q0:w1.cell? ⟨7,0,none⟩=some (.int .u64 6346243789798364141):=by rw[J _ _ (by omega)];go_simp
  have q1:w1.cell? ⟨7,1,none⟩=some (.int .u64 1503914060200516822):=by rw[J _ _ (by omega)];go_simp
  have q2:w1.cell? ⟨7,2,none⟩=some (.int .u64 0):=by rw[J _ _ (by omega)];go_simp
  have q3:w1.cell? ⟨7,3,none⟩=some (.int .u64 1152921504606846976):=by rw[J _ _ (by omega)];go_simp
  by_cases G:J0k o0 o1 o2 o3<LL
  · rw[show decide (J0k o0 o1 o2 o3<LL)=true from decide_eq_true G]
    have HL:=BK G;clear G;go_wp2;refine BH (v:=A4 o0 o1 o2 o3) (by simp only[results,Tryz.results144];go_simp) rfl ⟨?_,?_⟩
    · rw[Z25 _ _ _ _ hO,←HV.out,AL HL.out]
    exact bz
  rw[show decide (J0k o0 o1 o2 o3<LL)=false from decide_eq_false G];have HL:=BK G;clear G
  go_wp2_with (go_at_call 113;refine(Q00 _ _ _ _ _ _ _ _ hO Q3o _).mono ?_;rintro e w2 ⟨rfl,M⟩;obtain⟨γ,δ⟩:=Y6b M;have s2:=M.size;have z2:w.heap.size+1<w2.heap.size:=by omega)
  refine BH (v:=L4 (J75 (J0k o0 o1 o2 o3) LL)) (by simp only[results,Tryz.results144,←J9a];go_simp) rfl ⟨?_,?_⟩
  · rw[←HV.out,Z9j _ (by have:=HV.out;have:=HA.out;omega) HL.out]
  exact bz

theorem V4o (A B:Nat)(hA:A<J8)(hB:B<J8)(w:AA):BI Tryz.prog 113 #[L4 A,L4 B] w fun e w' =>V4 (.tuple #[L4 (J75 A B),.int .u64 (brw A B)]) w w' e:=by
  have h:=Q00 _ _ _ _ _ _ _ _ (J52 A) (J52 B) w;rw[J16 A hA,J16 B hB] at h;exact h
theorem V0f (A B:Nat)(hA:A<J8)(hB:B<J8)(w:AA):BI Tryz.prog 112 #[L4 A,L4 B] w fun e w' =>V4 (.bool (decide (A<B))) w w' e:=by
  have h:=Z9i _ _ _ _ _ _ _ _ (J52 A) (J52 B) w;rw[J16 A hA,J16 B hB] at h;exact h
theorem Y78:LL<J8:=by decide+kernel
@[go_sem] def LV:AB:=.agg #[.int .u64 6346243789798364141,.int .u64 1503914060200516822,.int .u64 0,.int .u64 1152921504606846976]
theorem Y79:LV=L4 LL:=L4_order.symm
theorem V7h (A:Nat)(hA:A<J8)(w:AA):BI Tryz.prog 113 #[L4 A,LV] w fun e w' =>V4 (.tuple #[L4 (J75 A LL),.int .u64 (brw A LL)]) w w' e:=by rw[Y79];exact V4o A LL hA Y78 w
theorem Y7a (A:Nat)(hA:A<J8)(w:AA):BI Tryz.prog 112 #[L4 A,LV] w fun e w' =>V4 (.bool (decide (A<LL))) w w' e:=by rw[Y79];exact V0f A LL hA Y78 w
end

section
set_option maxHeartbeats 2000000

theorem Q92 (ws:Nat→Int):∀n q r,q<n→r<64→(∀j,j<n→Y8 (ws j))→J1m ws n / 2^(64*q+r) % 2=(ws q).toNat / 2^r % 2
  |0,_,_,h,_,_=>by omega
  |n+1,q,r,h,hr,hw=>by
    show(J1m ws n+(ws n).toNat*2^(64*n)) / 2^(64*q+r) % 2=_
    by_cases hq:q=n
    · subst hq
      have hl:=J9i ws q (fun j hj=>hw j (by omega));rw[Nat.pow_add,←Nat.div_div_eq_div_mul,Nat.add_mul_div_right _ _ (AQ _),AR hl,AP]
    · have ih:=Q92 ws n q r (by omega) hr (fun j hj=>hw j (by omega))
      obtain⟨d,hd⟩:∃d,64*n=(64*q+r)+(1+d):=⟨64*n-(64*q+r)-1,by omega⟩
      rw[hd,Nat.pow_add 2 (64*q+r),Nat.mul_left_comm,Nat.add_mul_div_left _ _ (AQ _),Nat.pow_add 2 1 d,Nat.mul_left_comm,Nat.pow_one,Nat.add_mul_mod_self_left];exact ih
theorem Z9k (ws:Nat→Int)(n q r:Nat)(hq:q<n)(hr:r<64)(hw:∀j,j<n→Y8 (ws j)):
    (0≤bits .and .u64 (ws q / 2^r) 1∧bits .and .u64 (ws q / 2^r) 1≤1)∧(bits .and .u64 (ws q / 2^r) 1).toNat=J1m ws n / 2^(64*q+r) % 2:=by
  have hb:=Q92 ws n q r hq hr hw;obtain⟨x0,x1⟩:=hw q hq;obtain⟨X,hX⟩:=Int.eq_ofNat_of_zero_le x0;rw[hX] at hb x1⊢;rw[Int.toNat_natCast] at hb;have e:((X:Int) / 2^r)=((X / 2^r:Nat):Int):=by push_cast;rfl
  have hl:X / 2^r≤X:=Nat.div_le_self _ _
  have e2:bits .and .u64 (((X / 2^r:Nat):Int)) ((1:Nat):Int)=((X / 2^r % 2:Nat):Int):=by
    rw[bits_and_u64_nat _ _ (by omega) (by omega),Nat.and_one_is_mod]
  rw[e];have e3:bits .and .u64 (((X / 2^r:Nat):Int)) 1=((X / 2^r % 2:Nat):Int):=e2;rw[e3,hb];omega
theorem Z9l (V K:Nat):(2*(V / 2^(K+1) % LL)+V / 2^K % 2) % LL=V / 2^K % LL:=by
  have e:V / 2^K=2*(V / 2^(K+1))+V / 2^K % 2:=by
    rw[Nat.pow_succ,←Nat.div_div_eq_div_mul];omega
  have h1:(2*(V / 2^(K+1) % LL)+V / 2^K % 2) % LL=(2*(V / 2^(K+1))+V / 2^K % 2) % LL:=by
    rw[Nat.add_mod,Nat.mul_mod,Nat.mod_mod,←Nat.mul_mod,←Nat.add_mod]
  rw[h1,←e]
theorem Q3k (x:Nat):x % LL<115792089237316195423570985008687907853269984665640564039457584007913129639936:=
  Nat.lt_trans (AO _ (by decide)) (by decide)
theorem Q7d (ws:Nat→Int)(b off len cap:Nat)(w:AA)(hG:GL w)(hlen:len≤100)(hws:∀j,j<len→Y8 (ws j))
    (hc:∀j,j<len→w.cell? ⟨b,off+j,none⟩=some (.int .u64 (ws j))) (hb:b<w.heap.size):
    BI Tryz.prog 110 #[.slice (some ⟨b,off,none⟩) len cap] w fun e w' =>V4 (L4 (J1m ws len % LL)) w w' e:=by
  go_enter Tryz.func110,Tryz.ntmps110
  go_wp2
  go_loopw [4] (fun i wr=> ∃k:Nat,k≤64*len∧i=.int .i64 ((k:Int)-1)∧Below w.heap.size w wr∧
      Blk wr w.heap.size #[.int .u64 0,.int .u64 0,.int .u64 0,.int .u64 0] 118∧
      Blk wr (w.heap.size+1) #[.int .u64 (K3 (J1m ws len / 2^k % LL) 0),.int .u64 (K3 (J1m ws len / 2^k % LL) 1),.int .u64 (K3 (J1m ws len / 2^k % LL) 2),.int .u64 (K3 (J1m ws len / 2^k % LL) 3)] 118)
    (fun i _=>(intOf i+1).toNat)
  case atStart=>
    refine⟨64*len,AM _,?_,?_,?_,?_⟩
    · congr 1;omega
    · exact bz
    · exact Z6 (Y4 _ _ rfl) _
    rw[AR (J9i ws len hws)];exact Y4 _ _ (by simp)
  case round=>
    obtain⟨k,hk,rfl,J,M,D⟩:=hrel
    by_cases R:k=0
    · subst R
      have U:=J5 D;have T:=V3 D;have X:=J5 M;have α:=V3 M;go_wp2;refine BH (v:=L4 (J1m ws len % LL)) (by simp only[results,Tryz.results110];go_simp) rfl ⟨rfl,?_⟩;exact bz
    obtain⟨q,r,hr,rfl⟩:∃q r,r<64∧k=64*q+r+1:=⟨(k-1) / 64,(k-1) % 64,by omega,by omega⟩
    have e1:((64*q+r+1:Nat):Int)-1=64*(q:Int)+(r:Int):=by omega
    rw[e1];clear R e1;have N:=(J.cell (p:=⟨b,off+q,none⟩) hb).trans (hc q (by omega));have w1:AI.i64.wrap ((64*(q:Int)+(r:Int)).tdiv 64)=(q:Int):=by rw[Int.tdiv_eq_ediv_of_nonneg (by omega),IntWalk.i64_in _ (by omega)];omega
    have w2:(64*(q:Int)+(r:Int)).tmod 64=(r:Int):=by rw[Int.tmod_eq_emod_of_nonneg (by omega)];omega
    have Z:0≤(r:Int):=by omega
    have δ:(0:Int)≤64*(q:Int)+(r:Int):=by omega
    have Y:(q:Int)<(len:Int):=by omega
    have γ:(r:Int)<64:=by omega
    have U:=J5 D;have T:=V3 D;go_wp2
    go_still_tail 10,(by kernel_rfl)
    change wpList _ _ _ _ _ wr.drew
    obtain⟨hB,S⟩:=Z9k ws len q r (by omega) hr hws;generalize bits .and .u64 (ws q / 2^r) 1=bt at*;have HB:=BK S;clear S N w1 w2;have HT:=Y3v _ _ _ _ bt (J52 (J1m ws len / 2^(64*q+r+1) % LL)) hB.1 hB.2 (by rw[J16 _ (Q3k _)];exact AO _ (by decide)) wr.drew (J3c (hG) J.drew (by have:=hG.2.2.2.2;omega))
    go_wp2_with (go_at_call 144;refine HT.mono ?_;rintro e w3 ⟨rfl,G⟩;have β:=J5 (J3 (Y3 D) G);have ζ:=V3 (J3 (Y3 D) G))
    rw[J16 _ (Q3k _),HB.out,Z9l];have V.size:=J.size;have ε:=G.size;go_roundw
    case rel=>
      refine⟨64*q+r,by omega,by go_num,?_,J3q (J3 (Y3 M) G) (by omega) _ _ _ _,J9h (J3 (Y3 D) G) _ _ _ _⟩;exact bz
    case measure=>simp[intOf];omega
end

section
set_option maxHeartbeats 2000000

theorem bytes_c (V:Nat)(hV:V<115792089237316195423570985008687907853269984665640564039457584007913129639936)(w:AA)(hG:GL w):
    BI Tryz.prog 64 #[L4 V] w fun e w' =>V4 (.agg (J0 .u8 32 (J6 (V % LL)))) w w' e:=by
  go_enter Tryz.func64,Tryz.ntmps64
  go_wp2_with fail
  refine(Q7d (K3 V) _ _ _ _ _ ?_ (by omega) (fun j _=>J0l V j) ?_ (by simp only[AA.size_alloc];omega)).mono ?_
  · exact J3c hG (B:=w.heap.size) (((Below.refl _ _).alloc (AM _) _).alloc (by simp) _) hG.2.2.2.2
  · intro j hj
    have h4:j=0∨j=1∨j=2∨j=3:=by omega
    refine(J5 (Z6 (Y4 #[.int .u64 (K3 V 0),.int .u64 (K3 V 1),.int .u64 (K3 V 2),.int .u64 (K3 V 3)] 118 rfl) _) _).trans ?_;rcases h4 with rfl|rfl|rfl|rfl<;>rfl
  rintro e w1 ⟨rfl,M⟩;have b0:Blk w1 w.heap.size #[.int .u64 (K3 V 0),.int .u64 (K3 V 1),.int .u64 (K3 V 2),.int .u64 (K3 V 3)] 118:=J3 (Z6 (Y4 _ _ rfl) _) M;have b1:Blk w1 (w.heap.size+1) (J0 .u8 32 fun _=>0) 22:=J3 (Y4 _ _ (by simp)) M;have s1:=M.size;simp only[AA.size_alloc] at s1;rw[Q4w V hV];generalize hN:V % LL=N;have HN:=BK hN;clear hN;have c0:=J5 b0;have f0:=V3 b0;go_wp2
  go_loopw [7] (fun i wr=> ∃k:Nat,k≤32∧i=.int .i64 k∧Below w.heap.size w wr∧
      Blk wr w.heap.size #[.int .u64 (K3 N 0),.int .u64 (K3 N 1),.int .u64 (K3 N 2),.int .u64 (K3 N 3)] 118∧
      Blk wr (w.heap.size+1) (J0 .u8 32 fun _=>0) 22∧
      Blk wr w1.heap.size (J0 .u8 32 fun j=>if j<k then J6 N j else 0) 22)
    (fun i _=>(32-intOf i).toNat)
  case atStart=>
    refine⟨0,by omega,rfl,?_,Z6 (J9h b0 _ _ _ _) _,Z6 (J3q b1 (by omega) _ _ _ _) _,?_⟩
    · exact bz
    exact Y4 _ _ (by simp)
  case round=>
    obtain⟨k,hk,rfl,G,R,J,D⟩:=hrel
    by_cases T:k=32
    · subst T
      go_wp2_with (first|(refine wpList_load_row rfl 22 (.tmp 3) rfl w1.heap.size rfl _ _ _ _ D Tryz.underlying22 rfl (by kernel_rfl) ?_)|(refine wpList_store_row rfl 22 (.tmp 2) (.tmp 22) rfl (w.heap.size+1) _ rfl rfl 22 _ J (by kernel_rfl) (by kernel_rfl) (Z8 _ _ _) ?_))
      refine BH (results_cell_row rfl _ _ (w.heap.size+1) _ _ _ _ rfl (X6 J _) Tryz.underlying22 rfl (by kernel_rfl)) rfl ⟨?_,K0 G (by omega) _⟩;rw[K6 _ _ _ (J6 N) (fun i hi=>if_pos hi),HN.out]
    obtain⟨q,r,hr,rfl⟩:∃q r,r<8∧k=8*q+r:=⟨k / 8,k % 8,by omega,by omega⟩
    have d1:(8*(q:Int)+(r:Int)) / 8=(q:Int):=by omega
    have d2:(8*(q:Int)+(r:Int)) % 8=(r:Int):=by omega
    have X:(q:Int)<4:=by omega
    have Z:(r:Int)<8:=by omega
    have c0:=(J5 R q).trans (show _=some (.int .u64 (K3 N q)) by(have:q=0∨q=1∨q=2∨q=3:=by omega);rcases this with rfl|rfl|rfl|rfl<;>rfl);have c3:=J5 D (8*q+r);rw[Q6 _ _ _ _ (by omega)] at c3;have f3:=V3 D;go_wp2;have U.size:=G.size;have Y:=Q3 D;go_roundw
    case rel=>
      refine⟨8*q+r+1,by omega,by go_num,?_,J4 R (by omega) _ _,J4 J (by omega) _ _,?_⟩
      · exact bz
      have hs:=Z7 D (8*q+r) (.int .u8 (K3 N q / 2^(8*r) % 256));rw[Y9] at hs;rw[K6 _ _ _ _ (fun j hj=> ?_)]
      · exact hs
      have S:=Z27 N (8*q+r);rw[show(8*q+r) / 8=q by omega,show(8*q+r) % 8=r by omega] at S;unfold upd;rw[S];dsimp only
      by_cases h1:j=8*q+r
      · subst h1;rw[if_pos (by omega),if_pos rfl]
      rw[if_neg h1]
      by_cases h2:j<8*q+r
      · rw[if_pos h2,if_pos (by omega)]
      rw[if_neg h2,if_neg (by omega)]
    case measure=>simp[intOf];omega
end

section
set_option maxHeartbeats 2000000

theorem Z3m (V b:Nat)(hV:V<J8)(w:AA)(hG:GL w)(hB:Blk w b (c4 V) 118):
    BI Tryz.prog 110 #[.slice (some ⟨b,0,none⟩) 4 4] w fun e w' =>V4 (L4 (V % LL)) w w' e:=by
  have h:=Q7d (K3 V) b 0 4 4 w hG (by omega) (fun j _=>J0l V j) (fun j hj=>by
    have h4:j=0∨j=1∨j=2∨j=3:=by omega
    refine(J5 hB _).trans ?_
    rcases h4 with rfl|rfl|rfl|rfl<;>rfl) (Q3 hB)
  rw[Q4w V hV] at h;exact h
theorem Y3w {w w' :AA}(h:GL w)(hb:Below w.heap.size w w'):GL w' :=J3c h hb h.2.2.2.2
theorem add_c (A B:Nat)(hA:A<J8)(hB:B<J8)(w:AA)(hG:GL w):
    BI Tryz.prog 65 #[L4 A,L4 B] w fun e w' =>V4 (L4 ((A+B) % LL)) w w' e:=by
  have HG:=BK hG;clear hG
  go_enter Tryz.func65,Tryz.ntmps65
  go_wp2
  refine Q2e (fun W=>Below w.heap.size w W∧w.heap.size+2<W.heap.size∧Blk W w.heap.size (c4 A) 118∧Blk W (w.heap.size+1) (c4 B) 118∧Blk W (w.heap.size+2) #[.int .u64 0,.int .u64 0,.int .u64 0,.int .u64 0] 118)
    ⟨bz,by simp,Z6 (Z6 (Y4 _ _ rfl) _) _,Z6 (Y4 _ _ (by simp)) _,Y4 _ _ (by simp)⟩ ?_
  rintro W ⟨M,θ,b2,b3,b4⟩;have α:Hid (GL W.drew):=BK (J3c HG.out M.drew HG.out.2.2.2.2);have b2:=Y3 b2;have b3:=Y3 b3
  go_region_with (first
    |(go_at_call 110;(with_reducible refine(Z3m A w.heap.size hA _ α.out b2).mono ?_);rintro e w1 ⟨rfl,N⟩;have V:=J3 b2 N;have U:=J3 b3 N)
    |(go_at_call 110;(with_reducible refine(Z3m B (w.heap.size+1) hB _ (Y3w α.out N) U).mono ?_);rintro e w2 ⟨rfl,D⟩;have Γ:=J5 (J3 V D);have ω:=V3 (J3 V D);have σ:=J5 (J3 U D);have χ:=V3 (J3 U D)))
  clear Γ ω σ χ;have ξ:=J3 V D;have ν:=J3 U D;have μ:=J3 (J3 (Y3 b4) N) D;have s1:=N.size;have s2:=D.size;simp only[AA.size_drew] at s1;have τ:Below w.heap.size w w2:=K5 (K5 M.drew N (by simp only[AA.size_drew];omega)) D (by omega);have κ:w.heap.size+2<w2.heap.size:=by omega
  clear N D V U b2 b3 b4 α s1 s2
  refine Z73 (fun W=>Below w.heap.size w W∧w.heap.size+2<W.heap.size∧Blk W w.heap.size (c4 (A % LL)) 118∧Blk W (w.heap.size+1) (c4 (B % LL)) 118∧Blk W (w.heap.size+2) #[.int .u64 0,.int .u64 0,.int .u64 0,.int .u64 0] 118)
    ⟨bz,by simpa using κ,J3q (J9h ξ _ _ _ _) (by omega) _ _ _ _,J9h (J3q ν (by omega) _ _ _ _) _ _ _ _,J3q (J3q μ (by omega) _ _ _ _) (by omega) _ _ _ _⟩ ?_
  clear τ ξ ν μ M θ κ;rintro X ⟨M,θ,b2,b3,b4⟩;have η:=BK (J3c HG.out M HG.out.2.2.2.2);have J:=J52 (A % LL);have G:=J52 (B % LL);have δ:=Q4v _ _ _ _ _ _ _ _ 0 J G (by omega) (by omega);have q0:=J8s _ _ 0 J.1 G.1 (by omega) (by omega);have q1:=J8s _ _ _ J.2.1 G.2.1 q0.1 q0.2;have q2:=J8s _ _ _ J.2.2.1 G.2.2.1 q1.1 q1.2;have h0:=J0z _ _ 0 J.1 G.1 (by omega) (by omega);have h1:=J0z _ _ _ J.2.1 G.2.1 q0.1 q0.2;have h2:=J0z _ _ _ J.2.2.1 G.2.2.1 q1.1 q1.2;have h3:=J0z _ _ _ J.2.2.2 G.2.2.2 q2.1 q2.2;obtain⟨e0,e1,e2,e3⟩:=Y8l δ.1;rw[e0] at h0;rw[e1] at h1;rw[e2] at h2;rw[e3] at h3;clear δ q0 q1 q2 J G e0 e1 e2 e3
  have hS:(A % LL+B % LL+(0:Int).toNat) % 115792089237316195423570985008687907853269984665640564039457584007913129639936=A % LL+B % LL:=by
    have:=AO A (show 0<LL by decide);have:=AO B (show 0<LL by decide);unfold LL at*;omega
  rw[J16 _ (Q3k A),J16 _ (Q3k B),hS] at h0 h1 h2 h3
  have γ:A % LL+B % LL<2*LL:=by
    have:=AO A (show 0<LL by decide);have:=AO B (show 0<LL by decide);omega
  have ε:(A % LL+B % LL) % LL=(A+B) % LL:=by rw[←Nat.add_mod]
  generalize A % LL+B % LL=S at*;have HS:=BK γ;have ζ:=BK ε;clear hS γ ε;have x2:=J5 b2;have x3:=J5 b3;obtain⟨g0,g1,g2,g3,g4⟩:=η.out;have n1:w.heap.size<X.heap.size:=by omega
  have n2:w.heap.size+1<X.heap.size:=by omega
  go_wp2;refine wp_loop_rounds 5 ?_;rw[rounds_succ];go_wp2
  go_region
  go_wp2;rw[rounds_succ];go_wp2
  go_region
  go_wp2;rw[rounds_succ];go_wp2
  go_region
  go_wp2;rw[rounds_succ];go_wp2
  go_region
  go_wp2;rw[rounds_succ]
  go_wp2_with fail
  have β:S<J8:=by have:=HS.out;unfold LL at this;unfold J8;omega
  refine(Y7a S β _).mono ?_;rintro e w3 ⟨rfl,T⟩;have Y:=J3 (Y3 (Y3 (Y3 (Y3 (Z6 b4 _))))) T;have ψ:Blk w3 X.heap.size (c4 S) 118:=J3 (Y3 (Y3 (Y3 (Y3 (Y4 _ _ rfl))))) T;have s3:=T.size;simp only[AA.size_drew,AA.size_alloc] at s3;have ρ:Below w.heap.size w w3:=K5 bz T (by simp only[AA.size_drew,AA.size_alloc];omega);have φ:=BK (J3c HG.out ρ HG.out.2.2.2.2);clear b2 b3 b4 M x2 x3 h0 h1 h2 h3 T g0 g1 g2 g3 g4 η;have z2:=J5 Y;have t2:=V3 Y;have z5:=J5 ψ;obtain⟨g0,g1,g2,g3,g4⟩:=φ.out
  by_cases R:S<LL
  · rw[show decide (S<LL)=true from decide_eq_true R]
    have HL:=BK R;clear R;go_wp2;refine BH (v:=L4 S) (by simp only[results,Tryz.results65];go_simp) rfl ⟨?_,?_⟩
    · rw[←ζ.out,AL HL.out]
    exact bz
  rw[show decide (S<LL)=false from decide_eq_false R];have HL:=BK R;clear R
  go_wp2_with (go_at_call 113;refine(V7h S β _).mono ?_;rintro e w4 ⟨rfl,Z⟩;have Δ:=J5 (J3 Y Z);have Θ:=V3 (J3 Y Z);have s4:=Z.size;have n4:w.heap.size+2<w4.heap.size:=by omega)
  refine BH (v:=L4 (J75 S LL)) (by simp only[results,Tryz.results65];go_simp) rfl ⟨?_,?_⟩
  · rw[←ζ.out,Z9j _ HS.out HL.out]
  exact bz
end
end Go.Proofs.YtdjacgmmidbieaaGreatDoor.S8.Sc

namespace Go.Proofs.YtdjacgmmidbieaaGreatDoor.S8

abbrev Q4:=Nat×Nat×Nat×Nat
def RQ4 (s:Q4)(a:Pr):Prop:=RN s.1 s.2.1 s.2.2.1 s.2.2.2 a
def twN:Q4→Q4
  |(X,Y,Z,_)=>
    let A:=X*X % PP
    let B:=Y*Y % PP
    let C:=(Z*Z % PP+Z*Z % PP) % PP
    let H:=(A+B) % PP
    let S:=(X+Y) % PP
    let E:=(H+(PP-S*S % PP % PP)) % PP
    let G:=(A+(PP-B % PP)) % PP
    let F:=(C+G) % PP
    (E*F % PP,G*H % PP,F*G % PP,E*H % PP)
def adN:Q4→Q4→Q4
  |(X1,Y1,Z1,T1),(X2,Y2,Z2,T2)=>
    let A:=(Y1+(PP-X1 % PP)) % PP*((Y2+(PP-X2 % PP)) % PP) % PP
    let B:=(Y1+X1) % PP*((Y2+X2) % PP) % PP
    let C:=T1*D2 % PP*T2 % PP
    let D:=(Z1+Z1) % PP*Z2 % PP
    let E:=(B+(PP-A % PP)) % PP
    let F:=(D+(PP-C % PP)) % PP
    let G:=(D+C) % PP
    let H:=(B+A) % PP
    (E*F % PP,G*H % PP,F*G % PP,E*H % PP)
def tmN (P:Q4)(n:Nat):Nat→Q4
  |0=>(0,1,1,0)
  |c+1=>if n / 2^(255-c) % 2=1 then adN (twN (tmN P n c)) P else twN (tmN P n c)
theorem V4p {s:Q4}{a:Pr}(h:RQ4 s a):RQ4 (twN s) (J15 a a):=by
  obtain⟨X,Y,Z,T⟩:=s;exact Q8s (X:=X) (Y:=Y) (Z:=Z) (T:=T) h rfl rfl rfl rfl rfl rfl rfl rfl rfl rfl rfl rfl rfl rfl
theorem V4q {s t:Q4}{a b:Pr}(h:RQ4 s a)(k:RQ4 t b):RQ4 (adN s t) (J15 a b):=by
  obtain⟨X1,Y1,Z1,T1⟩:=s;obtain⟨X2,Y2,Z2,T2⟩:=t;exact Z8w (X1:=X1) (Y1:=Y1) (Z1:=Z1) (T1:=T1) (X2:=X2) (Y2:=Y2) (Z2:=Z2) (T2:=T2) h k rfl rfl rfl rfl rfl rfl rfl rfl rfl rfl rfl rfl rfl rfl rfl rfl rfl rfl
theorem Y7c {P:Q4}{a:Pr}{n:Nat}(hP:RQ4 P a)(hn:n<2^256):∀c,c≤256→RQ4 (tmN P n c) (pm a (n / 2^(256-c)))
  |0,_=>by
    rw[show 256-0=256 by decide,AR hn];exact rn_p0
  |c+1,h=>by
    have ih:=Y7c hP hn c (by omega);rw[show 256-c=(255-c)+1 by omega] at ih;rw[show 256-(c+1)=255-c by omega];have e2:n / 2^(255-c+1)=n / 2^(255-c) / 2:=by rw[Nat.pow_succ,Nat.div_div_eq_div_mul]
    rw[e2] at ih;unfold tmN;generalize n / 2^(255-c)=m at*;have hm:=Nat.div_add_mod m 2;have D:=V4p ih;rw[←Q3i hP.on] at D
    split
    · rename_i h1
      have:=V4q D hP
      rwa [show J15 (pm a (2*(m / 2))) a=pm a m by rw[show m=2*(m / 2)+1 by omega];exact congrArg (fun k=>J15 (pm a (2*k)) a) (by omega)] at this
    · rwa [show 2*(m / 2)=m by omega] at D
theorem V0g {P:Q4}{a:Pr}{n:Nat}(hP:RQ4 P a)(hn:n<2^256):RQ4 (tmN P n 256) (pm a n):=by
  have:=Y7c hP hn 256 (AM _)
  rwa [Nat.sub_self,Nat.pow_zero,Nat.div_one] at this
theorem Y3z {s:Q4}{a:Pr}(h:RQ4 s a)(h1:s.1=0)(h2:s.2.1=s.2.2.1):a=p0:=by
  obtain⟨hz,hx,hy,_⟩:=h.rc;rw[h1,Q75] at hx;rw[h2] at hy;have e1:a.1=0:=(J3t hx.symm).resolve_right hz
  have e2:a.2=1:=by
    have:=J0m hz;have e:(a.2-1)*fp s.2.2.1=0:=by grind
    have:=(J3t e).resolve_right hz
    grind
  exact Prod.ext e1 e2
open Sc (LL)
def BQ:Q4:=(BX,BY,1,BX*BY % PP)
theorem Y40:RQ4 BQ BP:=Z8r (by decide) (by decide) Q02 rfl
theorem order_x:(tmN BQ LL 256).1=0∧(tmN BQ LL 256).2.1=(tmN BQ LL 256).2.2.1:=by decide+kernel
theorem V4r:pm BP LL=p0:=Y3z (V0g Y40 (by decide)) order_x.1 order_x.2
theorem Z14 (n:Nat):pm BP (n % LL)=pm BP n:=by
  have h:=Nat.div_add_mod n LL;have e:pm BP n=J15 (pm BP (LL*(n / LL))) (pm BP (n % LL)):=by rw[←Q3m Q02,h]
  rw[e,Z11 Q02,V4r,Y73,Q79]
end Go.Proofs.YtdjacgmmidbieaaGreatDoor.S8

namespace Go.Proofs.YtdjacgmmidbieaaGreatDoor.S8.Sc
section
set_option maxHeartbeats 4000000

theorem Z2y (A B:Nat)(hA:A<J8)(hB:B<J8)(h:∀i,i<4→K3 A i=K3 B i):A=B:=by
  rw[←J16 A hA,←J16 B hB,h 0 (by omega),h 1 (by omega),h 2 (by omega),h 3 (by omega)]
end

section
set_option maxHeartbeats 4000000

theorem Y3x (f:Nat→Int)(b:Nat)(hf:∀j,j<8→Y8 (f j))(w:AA)(hG:GL w)(hB:Blk w b (J0 .u64 8 f) 128):
    BI Tryz.prog 110 #[.slice (some ⟨b,0,none⟩) 8 8] w fun e w' =>V4 (L4 (J1m f 8 % LL)) w w' e:=
  Q7d f b 0 8 8 w hG (by omega) hf (fun j hj=>by rw[AP];exact(J5 hB _).trans (Q6 _ _ _ _ hj)) (Q3 hB)

theorem J3b (V i:Nat)(h:i<4):(c4 V)[i]?=some (.int .u64 (K3 V i)):=by
  have:i=0∨i=1∨i=2∨i=3:=by omega
  rcases this with rfl|rfl|rfl|rfl<;>rfl

theorem Q6s (i k:Nat)(x y g c s cv:Int)(V V' Y Y' X B0:Nat)(hx:Y8 x)(hy:Y8 y)(hg:Y8 g)(hc:Y8 c)(hs:Y8 s)(hcv:Y8 cv)
    (h5:s+18446744073709551616*cv=x*y+g+c) (h1:V' +g.toNat*2^(64*(i+k))=V+s.toNat*2^(64*(i+k)))
    (h2:V+c.toNat*2^(64*(i+k))=X+x.toNat*2^(64*i)*Y) (hY:Y' =Y+y.toNat*2^(64*k)):
    V' +cv.toNat*2^(64*(i+(k+1)))=X+x.toNat*2^(64*i)*Y' :=by
  obtain⟨x,rfl⟩:=Int.eq_ofNat_of_zero_le hx.1;obtain⟨y,rfl⟩:=Int.eq_ofNat_of_zero_le hy.1;obtain⟨g,rfl⟩:=Int.eq_ofNat_of_zero_le hg.1;obtain⟨c,rfl⟩:=Int.eq_ofNat_of_zero_le hc.1;obtain⟨s,rfl⟩:=Int.eq_ofNat_of_zero_le hs.1;obtain⟨d,rfl⟩:=Int.eq_ofNat_of_zero_le hcv.1;simp only[Int.toNat_natCast] at*
  have h6:s+18446744073709551616*d=x*y+g+c:=by
    rw[←Int.natCast_mul] at h5;generalize x*y=p at*;omega
  have e1:(2:Nat)^(64*(i+(k+1)))=18446744073709551616*2^(64*(i+k)):=by
    rw[show 64*(i+(k+1))=64+64*(i+k) by omega,Nat.pow_add]
  have e2:(2:Nat)^(64*(i+k))=2^(64*i)*2^(64*k):=by rw[Nat.mul_add,Nat.pow_add]
  rw[hY,e1,Nat.mul_add (x*2^(64*i))];have e3:x*2^(64*i)*(y*2^(64*k))=x*y*2^(64*(i+k)):=by rw[e2,Nat.mul_mul_mul_comm]
  rw[e3];generalize 2^(64*(i+k))=W at*;have e4:d*(18446744073709551616*W)=18446744073709551616*d*W:=by rw[Nat.mul_left_comm,Nat.mul_assoc]
  rw[e4]
  have h7:s*W+18446744073709551616*d*W=x*y*W+g*W+c*W:=by
    rw[←Nat.add_mul,h6,Nat.add_mul,Nat.add_mul]
  omega

theorem Q6t (B V' V C X Y W:Nat){g:Int}(hB:B<J8)(hg:g=0)(h1:V' +g.toNat*W=V+C)(h2:V+C=X+Y*(B % 2^(64*4))):V' =X+Y*B:=by
  rw[AL (show B<2^(64*4) from hB)] at h2;rw[hg,Int.toNat_zero,Nat.zero_mul,Nat.add_zero] at h1;rw[h1,h2]

theorem mul_c (A B:Nat)(hA:A<J8)(hB:B<J8)(w:AA)(hG:GL w):
    BI Tryz.prog 66 #[L4 A,L4 B] w fun e w' =>V4 (L4 (A*B % LL)) w w' e:=by
  have HG:=BK hG;clear hG
  go_enter Tryz.func66,Tryz.ntmps66
  go_wp2
  go_loopw [16] (fun ii wr=> ∃i:Nat,i≤4∧ii=.int .i64 i∧Below w.heap.size w wr∧
      Blk wr (w.heap.size+1) (c4 B) 118∧Blk wr (w.heap.size+2) #[.int .u64 0,.int .u64 0,.int .u64 0,.int .u64 0] 118∧
      ∃f:Nat→Int,Blk wr (w.heap.size+3) (J0 .u64 8 f) 128∧(∀j,Y8 (f j))∧(∀j,i+4≤j→f j=0)∧J1m f 8=A % 2^(64*i)*B)
    (fun ii _=>(4-intOf ii).toNat)
  case atStart=>
    refine⟨0,by omega,rfl,?_,Z6 (Z6 (Y4 _ _ (by simp)) _) _,Z6 (Y4 _ _ (by simp)) _,fun _=>0,Y4 _ _ (by simp),fun _=>⟨by simp,by simp⟩,fun _ _=>rfl,?_⟩
    · exact bz
    rw[J88,BF,Nat.pow_zero,Nat.mod_one,Nat.zero_mul]
  case round=>
    obtain⟨i,hi,rfl,D,b1,b2,f,b3,hf,T,hv⟩:=hrel
    by_cases X:i=4
    · subst X
      have HV:=BK hv;clear hv;have c2:=J5 b2;have f2:=V3 b2
      go_wp2_with (go_at_call 110;refine(Y3x f (w.heap.size+3) (fun j _=>hf j) _ (J3c HG.out D HG.out.2.2.2.2) b3).mono ?_;rintro e w1 ⟨rfl,M⟩;have β:=J5 (J3 b2 M);have α:=V3 (J3 b2 M))
      refine BH (v:=L4 (J1m f 8 % LL)) (by simp only[results,Tryz.results66];go_simp) rfl ⟨?_,?_⟩
      · rw[HV.out,AL (show A<2^(64*4) from hA)]
      have:=M.size;have:=D.size;exact bz
    have N:i<4:=by omega
    have hi3' :(i:Int)<4:=by omega
    have J:∀W,(Instr.index 118 (.agg #[.int .u64 (K3 A 0),.int .u64 (K3 A 1),.int .u64 (K3 A 2),.int .u64 (K3 A 3)]) (.int .i64 (i:Int))).run Tryz.prog W=.ok (.int .u64 (K3 A i)) W:=
      fun W=>J1l W 118 105 4 .u64 .i64 (c4 A) i (K3 A i) Tryz.underlying118 Tryz.underlying105 (by kernel_rfl) N (J3b A i N)
    have c1:=J5 b1;clear X;go_wp2;clear c1;have U:=BK T;have HV:=BK hv;clear T hv J hi3';obtain⟨wo,rfl⟩:∃wo:AA,wo=wr:=⟨_,rfl⟩
    go_loopw [8,21] (fun cc kk wq=> ∃(k:Nat)(c:Int),k≤4∧kk=.int .i64 k∧cc=.int .u64 c∧Y8 c∧Below w.heap.size w wq∧
        Blk wq (w.heap.size+1) (c4 B) 118∧Blk wq (w.heap.size+2) #[.int .u64 0,.int .u64 0,.int .u64 0,.int .u64 0] 118∧
        ∃g:Nat→Int,Blk wq (w.heap.size+3) (J0 .u64 8 g) 128∧(∀j,Y8 (g j))∧(∀j,i+4≤j→g j=0)∧
          J1m g 8+c.toNat*2^(64*(i+k))=A % 2^(64*i)*B+(K3 A i).toNat*2^(64*i)*(B % 2^(64*k)))
      (fun _ kk _=>(4-intOf kk).toNat)
    case atStart=>
      refine⟨0,0,by omega,rfl,rfl,⟨by omega,by omega⟩,D,b1,b2,f,b3,hf,U.out,?_⟩;rw[HV.out,BF,Nat.pow_zero,Nat.mod_one];simp
    case round=>
      obtain⟨k,c,hk,rfl,rfl,hc,D,b1,b2,g,b3,hg,R,hv⟩:=hrel;have G:=BK R;have HV:=BK hv;clear R hv U
      by_cases S:k=4
      · subst S
        have c3:=(J5 b3 (i+4)).trans (Q6 _ _ _ _ (by omega));have f3:=V3 b3;have Z:(i:Int)+4<8:=by omega
        go_wp2;have hs:=Z7 b3 (i+4) (.int .u64 c);rw[Y9] at hs;go_roundw
        case rel=>
          refine⟨i+1,by omega,by go_num,?_,J4 b1 (by omega) _ _,J4 b2 (by omega) _ _,upd g (i+4) c,hs,?_,?_,?_⟩
          · exact bz
          · intro j
            by_cases hj:j=i+4
            · subst hj;rw[J21];exact hc
            rw[J0h _ _ _ _ hj];exact hg j
          · intro j hj
            rw[J0h _ _ _ _ (by omega)];exact G.out j (by omega)
          rw[J60,Nat.add_mul];exact Q6t B _ _ _ _ _ _ hB (G.out (i+4) (by omega)) (J5z g (i+4) c 8 (by omega)) HV.out
        case measure=>simp[intOf];omega
      have V:k<4:=by omega
      have hk3' :(k:Int)<4:=by omega
      clear S
      have J:∀W,(Instr.index 118 (.agg #[.int .u64 (K3 B 0),.int .u64 (K3 B 1),.int .u64 (K3 B 2),.int .u64 (K3 B 3)]) (.int .i64 (k:Int))).run Tryz.prog W=.ok (.int .u64 (K3 B k)) W:=
        fun W=>J1l W 118 105 4 .u64 .i64 (c4 B) k (K3 B k) Tryz.underlying118 Tryz.underlying105 (by kernel_rfl) V (J3b B k V)
      obtain⟨m1,m2,m3,m4,m5⟩:=Q2g (K3 A i) (K3 B k) (g (i+k)) c (J0l A i) (J0l B k) (hg _) hc;have a1:=J0z (J5q (K3 A i) (K3 B k)) (g (i+k)) 0 m1 (hg _) (by omega) (by omega);have a2:=J0z (adS (J5q (K3 A i) (K3 B k)) (g (i+k)) 0) c 0 m2 hc (by omega) (by omega);obtain⟨sv,Y⟩:∃sv,sv=adS (adS (J5q (K3 A i) (K3 B k)) (g (i+k)) 0) c 0:=⟨_,rfl⟩
      rw[←Y] at m4 m5 a2;have M5:=BK m5;clear m5 Y;have c3:=(J5 b3 (i+k)).trans (Q6 _ _ _ _ (by omega));have f3:=V3 b3;have Z:(i:Int)+(k:Int)<8:=by omega
      go_wp2_with (go_at_call 114;refine(Q64 _ _ (J0l A i) (J0l B k) _).mono ?_;rintro e w' ⟨rfl,rfl⟩)
      have hs:=Z7 b3 (i+k) (.int .u64 sv);rw[Y9] at hs;have h1:=J5z g (i+k) sv 8 (by omega);have h2:=HV.out;have h5:=M5.out;clear HV M5 a1 a2 c3 f3 J;go_roundw
      case rel=>
        (repeat apply Exists.intro)
        refine⟨?_,rfl⟩;refine⟨k+1,_,by omega,by go_num,rfl,m3,?_,J4 b1 (by omega) _ _,J4 b2 (by omega) _ _,upd g (i+k) sv,hs,?_,?_,?_⟩
        · exact bz
        · intro j
          by_cases hj:j=i+k
          · subst hj;rw[J21];exact m4
          rw[J0h _ _ _ _ hj];exact hg j
        · intro j hj
          rw[J0h _ _ _ _ (by omega)];exact G.out j hj
        exact Q6s i k (K3 A i) (K3 B k) (g (i+k)) c sv _ _ _ _ _ _ 0 (J0l A i) (J0l B k) (hg _) hc m4 m3 h5 h1 h2 (J60 B k)
      case measure=>simp[intOf];omega
end

section
set_option maxHeartbeats 4000000

end

section
set_option maxHeartbeats 4000000

def canonV (n:Nat):AB:=if n<LL then .tuple #[L4 n,.bool true] else .tuple #[L4 0,.bool false]
theorem Q3d (V:Nat):c4 V=J0 .u64 4 (K3 V):=rfl
theorem J7t (i:Nat):K3 0 i=0:=by simp[K3]
theorem Z9m:J0 .u64 4 (K3 0)= #[.int .u64 0,.int .u64 0,.int .u64 0,.int .u64 0]:=by
  show #[AB.int .u64 (K3 0 0),AB.int .u64 (K3 0 1),AB.int .u64 (K3 0 2),AB.int .u64 (K3 0 3)]=_;rw[J7t,J7t,J7t,J7t]
theorem Q01 (bs:Nat→Int)(h:∀j,J4v (bs j))(n q r:Nat)(hr:r<8):
    (J0 .u64 n (K3 (J0t bs (8*q+r)))).setIfInBounds q (.int .u64 (bits .or .u64 (K3 (J0t bs (8*q+r)) q) (AI.wrap .u64 (bs (8*q+r)*2^(8*r)))))=J0 .u64 n (K3 (J0t bs (8*q+r+1))):=by
  rw[Z29 bs h q r hr,Y9];apply K6;intro j _
  by_cases hj:j=q
  · subst hj;rw[J21]
  rw[J0h _ _ _ _ hj,J7c bs h (8*q+r) j (by omega)]

theorem canon_c (bs:Nat→Int)(hbs:∀j,J4v (bs j))(w:AA)(hG:GL w):
    BI Tryz.prog 88 #[.agg (J0 .u8 32 bs)] w fun e w' =>V4 (canonV (J0t bs 32)) w w' e:=by
  have HG:=BK hG;have n0:=hG.2.2.2.2;clear hG;have HB:=BK hbs;clear hbs
  go_enter Tryz.func88,Tryz.ntmps88
  go_wp2_with (refine wpList_load_row rfl 22 (.tmp 1) rfl w.heap.size rfl 22 (J0 .u8 32 bs) (0,0) _ (Z6 (Z6 (Y4 _ _ rfl) _) _) Tryz.underlying22 rfl (by kernel_rfl) ?_)
  go_loopw [8] (fun ii wr=> ∃k:Nat,k≤32∧ii=.int .i64 k∧Below w.heap.size w wr∧
      Blk wr (w.heap.size+1) #[.int .u64 0,.int .u64 0,.int .u64 0,.int .u64 0] 118∧Blk wr (w.heap.size+2) (J0 .u64 4 (K3 (J0t bs k))) 118)
    (fun ii _=>(32-intOf ii).toNat)
  case atStart=>
    refine⟨0,by omega,rfl,?_,?_,?_⟩
    · exact bz
    · exact Z6 (Y4 _ _ (AA.size_alloc _ _).symm) _
    rw[show J0t bs 0=0 from rfl,Z9m];exact Y4 _ _ (by simp)
  case round=>
    obtain⟨k,hk,rfl,G,b1,b2⟩:=hrel
    by_cases M:k=32
    · subst M
      have hV:J0t bs 32<J8:=J5j bs HB.out 32;rw[←Q3d] at b2;have R:=BK (J3c HG.out G HG.out.2.2.2.2);have N.size:=G.size;have V:=Q3 b2;have c2:=J5 b2;obtain⟨g0,g1,g2,g3,g4⟩:=R.out
      go_wp2_with fail
      refine(Y7a (J0t bs 32) hV _).mono ?_;rintro e w1 ⟨rfl,J⟩;have β:=J5 (J3 b2 J);have Z:=J5 (J3 b1 J);have S:=V3 (J3 b1 J);have s1:=J.size;have n1:w.heap.size+1<w.heap.size+2:=by omega
      clear c2
      by_cases D:J0t bs 32<LL
      · rw[show decide (J0t bs 32<LL)=true from decide_eq_true D]
        have HL:=BK D;clear D;go_wp2;refine BH (v:=.tuple #[L4 (J0t bs 32),.bool true]) (by simp only[results,Tryz.results88];go_simp) rfl ⟨(by unfold canonV;rw[if_pos HL.out]),?_⟩;exact bz
      rw[show decide (J0t bs 32<LL)=false from decide_eq_false D];have HL:=BK D;clear D;go_wp2;refine BH (v:=.tuple #[A4 0 0 0 0,.bool false]) (by simp only[results,Tryz.results88];go_simp) rfl ⟨(by unfold canonV;rw[if_neg HL.out];rfl),?_⟩;exact bz
    obtain⟨q,r,hr,rfl⟩:∃q r,r<8∧k=8*q+r:=⟨k / 8,k % 8,by omega,by omega⟩
    have α:∀W,(Instr.index 22 (.agg (J0 .u8 32 bs)) (.int .i64 (8*(q:Int)+(r:Int)))).run Tryz.prog W=.ok (.int .u8 (bs (8*q+r))) W:=
      fun W=>J1l W 22 5 32 .u8 .i64 _ (8*q+r) _ Tryz.underlying22 Tryz.underlying5 (by kernel_rfl) (by omega) (Q6 _ _ _ _ (by omega))
    have d1:AI.i64.wrap ((8*(q:Int)+(r:Int)).tdiv 8)=(q:Int):=by rw[Int.tdiv_eq_ediv_of_nonneg (by omega),IntWalk.i64_in _ (by omega)];omega
    have d2:(8*(q:Int)+(r:Int)).tmod 8=(r:Int):=by rw[Int.tmod_eq_emod_of_nonneg (by omega)];omega
    have d3:AI.i64.wrap (8*(r:Int))=8*(r:Int):=IntWalk.i64_in _ (by omega);have d4:AI.u64.wrap (bs (8*q+r))=bs (8*q+r):=by have:=HB.out (8*q+r);unfold J4v at this;rw[AI.wrap_u64];omega
    have Y:(0:Int)≤(q:Int):=by omega
    have T:(q:Int)<4:=by omega
    have U:(0:Int)≤(r:Int):=by omega
    have X:(r:Int)<8:=by omega
    have c2:=(J5 b2 q).trans (Q6 _ _ _ _ (by omega));have f2:=V3 b2;have hs:=fun v=>Z7 b2 q v;go_wp2
    go_region
    go_wp2;have N.size:=G.size;go_roundw
    case rel=>
      refine⟨8*q+r+1,by omega,by go_num,?_,Y3 (J4 b1 (by omega) _ _),?_⟩
      · exact bz
      have:=hs (.int .u64 (bits .or .u64 (K3 (J0t bs (8*q+r)) q) (AI.wrap .u64 (bs (8*q+r)*2^(8*r)))));rw[Q01 bs HB.out 4 q r hr] at this;exact Y3 this
    case measure=>simp[intOf];omega
end

section
set_option maxHeartbeats 4000000

theorem Z9n (k:AI)(n:Nat):madeCells (AB.int k 0).cells n=J0 k n (fun _=>0):=by
  apply Array.ext
  · simp[madeCells,J0]
  intro i h1 h2;simp[madeCells,J0,AB.cells,Nat.mod_one]
theorem Z5p (bs:Nat→Int)(h:∀j,J4v (bs j))(k n:Nat)(hk:k≤8*n):J1m (K3 (J0t bs k)) n=J0t bs k:=by
  rw[J7b,AL];exact BA (J5j bs h k) (Nat.pow_le_pow_right (by omega) (by omega))

theorem of_c (bs:Nat→Int)(hbs:∀j,J4v (bs j))(b off len cap:Nat)(w:AA)(hG:GL w)(hlen:len≤700)
    (hc:∀j,j<len→w.cell? ⟨b,off+j,none⟩=some (.int .u8 (bs j))) (hb:b<w.heap.size):
    BI Tryz.prog 67 #[.slice (some ⟨b,off,none⟩) len cap] w fun e w' =>V4 (L4 (J0t bs len % LL)) w w' e:=by
  have HG:=BK hG;have n0:=hG.2.2.2.2;clear hG;have HB:=BK hbs;have HC:=BK hc;clear hbs hc;obtain⟨n,hn⟩:∃n,n=(len+7) / 8:=⟨_,rfl⟩
  have d0:((len:Int)+7) / 8=(n:Int):=by omega
  have N:len≤8*n:=by omega
  have G:n≤100:=by omega
  have Y:∀W,(Instr.makeSlice 171 (.int .i64 (n:Int)) (.int .i64 (n:Int))).run Tryz.prog W=.ok (.slice (some ⟨W.heap.size,0,none⟩) n n) (W.alloc (.cells (J0 .u64 n fun _=>0) 105)):=by
    intro W;obtain⟨i,hi,hz,hs,R⟩:=info_parts (show(Tryz.prog.info? 105).map (fun i=>(i.zero,i.size,i.bytes))=some (some (.int .u64 0),1,8) by kernel_rfl);have h:=run_make (P:=Tryz.prog) W 171 105 i (.int .u64 0) Tryz.underlying171 hi hz .i64 .i64 (n:Int) (n:Int) (by omega) (by omega) (by rw[R];omega) (by omega);rw[Int.toNat_natCast,hs,Nat.mul_one,Z9n] at h;exact h
  have HN:=BK hn;clear hn
  go_enter Tryz.func67,Tryz.ntmps67
  go_wp2
  go_loopw [13] (fun ii wr=> ∃k:Nat,k≤len∧ii=.int .i64 k∧Below w.heap.size w wr∧
      Blk wr w.heap.size #[.int .u64 0,.int .u64 0,.int .u64 0,.int .u64 0] 118∧Blk wr (w.heap.size+1) (J0 .u64 n (K3 (J0t bs k))) 105)
    (fun ii _=>(len-intOf ii).toNat)
  case atStart=>
    refine⟨0,by omega,rfl,?_,Z6 (Y4 _ _ rfl) _,?_⟩
    · exact bz
    rw[show J0t bs 0=0 from rfl,K6 .u64 n (K3 0) (fun _=>0) (fun i _=>J7t i)];exact Y4 _ _ (by simp)
  case round=>
    obtain⟨k,hk,rfl,D,b1,b2⟩:=hrel;have S.size:=D.size
    by_cases J:k=len
    · subst J
      have hs:∀j,Y8 (K3 (J0t bs k) j):=fun j=>J0l _ j
      go_wp2_with (go_at_call 110;refine(Q7d (K3 (J0t bs k)) (w.heap.size+1) 0 n n _ (J3c HG.out D HG.out.2.2.2.2) G (fun j _=>hs j) (fun j hj=>(by rw[AP];exact(J5 b2 j).trans (Q6 _ _ _ _ hj))) (Q3 b2)).mono ?_;rintro e w1 ⟨rfl,M⟩;have c1:=J5 (J3 b1 M);have f1:=V3 (J3 b1 M))
      refine BH (v:=L4 (J1m (K3 (J0t bs k)) n % LL)) (by simp only[results,Tryz.results67];go_simp) rfl ⟨?_,?_⟩
      · rw[Z5p bs HB.out k n N]
      exact bz
    obtain⟨q,r,hr,rfl⟩:∃q r,r<8∧k=8*q+r:=⟨k / 8,k % 8,by omega,by omega⟩
    have hkl' :8*(q:Int)+(r:Int)<(len:Int):=by omega
    have cb:=(D.cell (p:=⟨b,off+(8*q+r),none⟩) hb).trans (HC.out (8*q+r) (by omega));have d1:AI.i64.wrap ((8*(q:Int)+(r:Int)).tdiv 8)=(q:Int):=by rw[Int.tdiv_eq_ediv_of_nonneg (by omega),IntWalk.i64_in _ (by omega)];omega
    have d2:(8*(q:Int)+(r:Int)).tmod 8=(r:Int):=by rw[Int.tmod_eq_emod_of_nonneg (by omega)];omega
    have d3:AI.i64.wrap (8*(r:Int))=8*(r:Int):=IntWalk.i64_in _ (by omega);have d4:AI.u64.wrap (bs (8*q+r))=bs (8*q+r):=by have:=HB.out (8*q+r);unfold J4v at this;rw[AI.wrap_u64];omega
    have X:(0:Int)≤(q:Int):=by omega
    have T:(q:Int)<(n:Int):=by have:=HN.out;omega
    have U:(0:Int)≤(r:Int):=by omega
    have V:(r:Int)<8:=by omega
    have c2:=(J5 b2 q).trans (Q6 _ _ _ _ (by omega));have f2:=V3 b2;have hs:=fun v=>Z7 b2 q v;clear J;go_wp2
    go_region
    go_wp2;go_roundw
    case rel=>
      refine⟨8*q+r+1,by omega,by go_num,?_,Y3 (J4 b1 (by omega) _ _),?_⟩
      · exact bz
      have:=hs (.int .u64 (bits .or .u64 (K3 (J0t bs (8*q+r)) q) (AI.wrap .u64 (bs (8*q+r)*2^(8*r)))));rw[Q01 bs HB.out n q r hr] at this;exact Y3 this
    case measure=>simp[intOf];omega
end

section
set_option maxHeartbeats 4000000

def J1r (bs:Nat→Int):Nat→Int:=fun j=>if j=0 then bs 0-bs 0 % 8 else if j=31 then bs 31 % 64+64 else bs j
theorem Y3y (x:Int)(h:J4v x):bits .andNot .u8 x 7=x-x % 8:=by
  obtain⟨h0,h1⟩:=h;obtain⟨n,rfl⟩:=Int.eq_ofNat_of_zero_le h0;have D:∀n:Nat,n<256→bits .andNot .u8 (n:Int) 7=(n:Int)-(n:Int) % 8:=by decide+kernel
  exact D n (by omega)
theorem Z5q (x:Int)(h:J4v x):bits .or .u8 (bits .and .u8 x 63) 64=x % 64+64:=by
  obtain⟨h0,h1⟩:=h;obtain⟨n,rfl⟩:=Int.eq_ofNat_of_zero_le h0;have D:∀n:Nat,n<256→bits .or .u8 (bits .and .u8 (n:Int) 63) 64=(n:Int) % 64+64:=by decide+kernel
  exact D n (by omega)
theorem Z5r (bs:Nat→Int):((J0 .u8 32 bs).setIfInBounds 0 (.int .u8 (bs 0-bs 0 % 8))).setIfInBounds 31 (.int .u8 (bs 31 % 64+64))=J0 .u8 32 (J1r bs):=by
  rw[Y9,Y9];apply K6;intro j _;unfold upd J1r
  by_cases h:j=31
  · subst h;rfl
  by_cases h2:j=0
  · subst h2;rfl
  simp[h,h2]

theorem clamp_c (bs:Nat→Int)(hbs:∀j,J4v (bs j))(w:AA):
  BI Tryz.prog 56 #[.agg (J0 .u8 32 bs)] w fun e w' =>V4 (.agg (J0 .u8 32 (J1r bs))) w w' e:=by
 have a0:=Y3y (bs 0) (hbs 0);have a1:=Z5q (bs 31) (hbs 31);clear hbs
 go_enter Tryz.func56,Tryz.ntmps56
 go_upto_region 1 with fail;refine wn2 (c1:=(J0 .u8 32 bs)) (t1:=22) (c2:=(J0 .u8 32 (fun _=>0))) (t2:=22) fun W J b1 b2=> ?_;have c0:=(J5 b1 0).trans (Q6 _ _ _ _ (by omega));have M:=(J5 b1 31).trans (Q6 _ _ _ _ (by omega));have f1:=V3 b1;have hs:=Z7 (Z7 b1 0 (.int .u8 (bs 0-bs 0 % 8))) 31 (.int .u8 (bs 31 % 64+64));rw[Z5r] at hs;have D:=J4 (J4 b2 (show w.heap.size+1≠w.heap.size by omega) 0 (.int .u8 (bs 0-bs 0 % 8))) (show w.heap.size+1≠w.heap.size by omega) 31 (.int .u8 (bs 31 % 64+64));have HS:=BK hs;have G:=BK D;clear hs D
 go_wp2_with (first
  |(refine wpList_load_row rfl 22 (.tmp 1) rfl w.heap.size rfl _ _ _ _ HS.out Tryz.underlying22 rfl (by kernel_rfl) ?_)
  |(refine wpList_store_row rfl 22 (.tmp 2) (.tmp 12) rfl (w.heap.size+1) _ rfl rfl 22 _ G.out (by kernel_rfl) (by kernel_rfl) (Z8 _ _ _) ?_))
 refine BH (results_cell_row rfl _ _ (w.heap.size+1) _ _ _ _ rfl (X6 G.out _) Tryz.underlying22 rfl (by kernel_rfl)) rfl ⟨rfl,K0 ?_ (by omega) _⟩;exact Z0 (Z0 J (by omega) _ _) (by omega) _ _
end
end Go.Proofs.YtdjacgmmidbieaaGreatDoor.S8.Sc

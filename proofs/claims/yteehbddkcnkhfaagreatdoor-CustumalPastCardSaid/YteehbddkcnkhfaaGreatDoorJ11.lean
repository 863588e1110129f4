/- Contracts and plain laws for custumalPast_holds. Conditions: the tables hold their numbers. -/
import Derived.StillTailTactics
import Derived.Test.YteehbddkcnkhfaaGreatDoorJ10
open Go.RowKit
set_option maxRecDepth 100000
set_option linter.unusedSimpArgs false
set_option linter.unusedVariables false
namespace Go.Proofs.YteehbddkcnkhfaaGreatDoor.S8.Sc
section
set_option maxHeartbeats 2000000

def LL:Nat:=7237005577332262213973186563042994240857116359379907606001950938285454250989
def GL (w:World):Prop:=w.cell? ⟨9,0,none⟩=some (.int .u64 6346243789798364141)∧w.cell? ⟨9,1,none⟩=some (.int .u64 1503914060200516822)∧w.cell? ⟨9,2,none⟩=some (.int .u64 0)∧w.cell? ⟨9,3,none⟩=some (.int .u64 1152921504606846976)∧9<w.heap.size
theorem J4d {B:Nat}{w w' :World}(h:GL w)(hb:Below B w w')(hB:9<B):GL w' :=by
  obtain⟨h0,h1,h2,h3,h4⟩:=h;refine⟨?_,?_,?_,?_,Nat.lt_of_lt_of_le h4 hb.size⟩
  · rw[hb.cell (p:=⟨9,0,none⟩) hB];exact h0
  · rw[hb.cell (p:=⟨9,1,none⟩) hB];exact h1
  · rw[hb.cell (p:=⟨9,2,none⟩) hB];exact h2
  rw[hb.cell (p:=⟨9,3,none⟩) hB];exact h3

theorem Q8d (a0 a1 a2 a3 b0 b1 b2 b3:Int)(ha:U4 a0 a1 a2 a3)(hb:U4 b0 b1 b2 b3)(w:World):
    Calls Tryz.prog 169 #[A4 a0 a1 a2 a3,A4 b0 b1 b2 b3] w fun e w' =>
      X5 (.tuple #[L4 (J7f (J0l a0 a1 a2 a3) (J0l b0 b1 b2 b3)),.int .u64 (brw (J0l a0 a1 a2 a3) (J0l b0 b1 b2 b3))]) w w' e:=by
  have D:=Q4u a0 a1 a2 a3 b0 b1 b2 b3 ha hb;have HC:=Lib.hid D;clear D;have h0:=J3a a0 b0 0 ha.1 hb.1 (by omega) (by omega);have h1:=J3a a1 b1 _ ha.2.1 hb.2.1 (J4s a0 b0 0).1 (J4s a0 b0 0).2;have h2:=J3a a2 b2 _ ha.2.2.1 hb.2.2.1 (J4s a1 b1 (sbB a0 b0 0)).1 (J4s a1 b1 (sbB a0 b0 0)).2;have h3:=J3a a3 b3 _ ha.2.2.2 hb.2.2.2 (J4s a2 b2 (sbB a1 b1 (sbB a0 b0 0))).1 (J4s a2 b2 (sbB a1 b1 (sbB a0 b0 0))).2;clear ha hb
  go_enter Tryz.func169,Tryz.ntmps169
  go_wp2;refine wp_loop_rounds 5 ?_;rw[rounds_succ];go_wp2
  go_region
  go_wp2;rw[rounds_succ];go_wp2
  go_region
  go_wp2;rw[rounds_succ];go_wp2
  go_region
  go_wp2;rw[rounds_succ];go_wp2
  go_region
  go_wp2;rw[rounds_succ];go_wp2;refine bodyPost_ret (v:=.tuple #[A4 (sbD a0 b0 0) (sbD a1 b1 (sbB a0 b0 0)) (sbD a2 b2 (sbB a1 b1 (sbB a0 b0 0))) (sbD a3 b3 (sbB a2 b2 (sbB a1 b1 (sbB a0 b0 0)))),.int .u64 (sbB a3 b3 (sbB a2 b2 (sbB a1 b1 (sbB a0 b0 0))))]) (by simp[results,Tryz.results169,go_sem]) rfl ⟨?_,?_⟩
  · rw[HC.out.1,HC.out.2]
  exact bz

theorem Y0a (a0 a1 a2 a3 b0 b1 b2 b3:Int)(ha:U4 a0 a1 a2 a3)(hb:U4 b0 b1 b2 b3)(w:World):
    Calls Tryz.prog 157 #[A4 a0 a1 a2 a3,A4 b0 b1 b2 b3] w fun e w' =>
      X5 (.bool (decide (J0l a0 a1 a2 a3<J0l b0 b1 b2 b3))) w w' e:=by
  go_enter Tryz.func157,Tryz.ntmps157
  go_wp2_with (go_at_call 169;refine(Q8d _ _ _ _ _ _ _ _ ha hb _).mono ?_;rintro e w1 ⟨rfl,D⟩)
  go_ret
  refine⟨?_,?_⟩
  · unfold brw;split<;>simp[*]
  have s1:=D.size;simp only[World.size_alloc] at s1;exact bz

theorem Q3o:U4 6346243789798364141 1503914060200516822 0 1152921504606846976:=by simp[U4,Z7]
theorem J9c:J0l 6346243789798364141 1503914060200516822 0 1152921504606846976=LL:=by decide+kernel
theorem L4_order:L4 LL=A4 6346243789798364141 1503914060200516822 0 1152921504606846976:=by rw[Z2h _ _ _ _ Q3o,J9c]


theorem Z0q (a0 a1 a2 a3 bit:Int)(ha:U4 a0 a1 a2 a3)(hb0:0≤bit)(hb1:bit≤1)(hA:J0l a0 a1 a2 a3<LL):
    U4 (bits .or .u64 (IntKind.wrap .u64 (a0*2)) bit) (bits .or .u64 (IntKind.wrap .u64 (a1*2)) (a0 / 9223372036854775808)) (bits .or .u64 (IntKind.wrap .u64 (a2*2)) (a1 / 9223372036854775808)) (bits .or .u64 (IntKind.wrap .u64 (a3*2)) (a2 / 9223372036854775808))∧
    J0l (bits .or .u64 (IntKind.wrap .u64 (a0*2)) bit) (bits .or .u64 (IntKind.wrap .u64 (a1*2)) (a0 / 9223372036854775808)) (bits .or .u64 (IntKind.wrap .u64 (a2*2)) (a1 / 9223372036854775808)) (bits .or .u64 (IntKind.wrap .u64 (a3*2)) (a2 / 9223372036854775808))=2*J0l a0 a1 a2 a3+bit.toNat:=by
  obtain⟨h0,h1,h2,h3⟩:=ha;rw[Q22 a0 bit h0 hb0 hb1,Q22 a1 _ h1 (by unfold Z7 at h0;omega) (by unfold Z7 at h0;omega),Q22 a2 _ h2 (by unfold Z7 at h1;omega) (by unfold Z7 at h1;omega),Q22 a3 _ h3 (by unfold Z7 at h2;omega) (by unfold Z7 at h2;omega)]
  have hu:U4 (a0*2 % 18446744073709551616+bit) (a1*2 % 18446744073709551616+a0 / 9223372036854775808) (a2*2 % 18446744073709551616+a1 / 9223372036854775808) (a3*2 % 18446744073709551616+a2 / 9223372036854775808):=by
    unfold U4 Z7 at*;omega
  refine⟨hu,?_⟩;have i1:=J49 _ _ _ _ hu;have i2:=J49 _ _ _ _ ⟨h0,h1,h2,h3⟩
  have h3' :a3<1152921504606846977:=by
    have:(J0l a0 a1 a2 a3:Int)<LL:=by exact_mod_cast hA
    rw[i2] at this;unfold LL Z7 at*;omega
  generalize J0l (a0*2 % 18446744073709551616+bit) (a1*2 % 18446744073709551616+a0 / 9223372036854775808) (a2*2 % 18446744073709551616+a1 / 9223372036854775808) (a3*2 % 18446744073709551616+a2 / 9223372036854775808)=X at*;generalize J0l a0 a1 a2 a3=A at*;clear hA hu;unfold Z7 at*;omega

theorem Y0b (x:Nat)(h:x<2*LL)(hx:¬x<LL):J7f x LL=x % LL:=by
  have e:x % LL=x-LL:=by rw[Nat.mod_eq_sub_mod (by omega),Nat.mod_eq_of_lt (by omega)]
  rw[e];unfold J7f LL at*;omega

theorem Y5d (a0 a1 a2 a3 bit:Int)(ha:U4 a0 a1 a2 a3)(hb0:0≤bit)(hb1:bit≤1)(hA:J0l a0 a1 a2 a3<LL)(w:World)(hG:GL w):
    Calls Tryz.prog 158 #[A4 a0 a1 a2 a3,.int .u64 bit] w fun e w' =>
      X5 (L4 ((2*J0l a0 a1 a2 a3+bit.toNat) % LL)) w w' e:=by
  obtain⟨hO,hV⟩:=Z0q a0 a1 a2 a3 bit ha hb0 hb1 hA;have HV:=Lib.hid hV;have HA:=Lib.hid hA;clear hV hA;have HG:=Lib.hid hG;obtain⟨g0,g1,g2,g3,g4⟩:=hG;have Z:∀o,(w.alloc o).cell? ⟨9,0,none⟩=w.cell? ⟨9,0,none⟩:=fun o=>World.cell?_alloc_lt w o _ g4;have X:∀o o',((w.alloc o).alloc o').cell? ⟨9,0,none⟩=w.cell? ⟨9,0,none⟩:=fun o o' =>(World.cell?_alloc_lt _ o' _ (by rw[World.size_alloc];show 9<_;omega)).trans (Z o);have γ:∀o o' D,(((w.alloc o).alloc o').alloc D).cell? ⟨9,0,none⟩=w.cell? ⟨9,0,none⟩:=fun o o' D=>(World.cell?_alloc_lt _ D _ (by rw[World.size_alloc,World.size_alloc];show 9<_;omega)).trans (X o o');have N:∀o,(w.alloc o).cell? ⟨9,1,none⟩=w.cell? ⟨9,1,none⟩:=fun o=>World.cell?_alloc_lt w o _ g4;have R:∀o o',((w.alloc o).alloc o').cell? ⟨9,1,none⟩=w.cell? ⟨9,1,none⟩:=fun o o' =>(World.cell?_alloc_lt _ o' _ (by rw[World.size_alloc];show 9<_;omega)).trans (N o);have α:∀o o' D,(((w.alloc o).alloc o').alloc D).cell? ⟨9,1,none⟩=w.cell? ⟨9,1,none⟩:=fun o o' D=>(World.cell?_alloc_lt _ D _ (by rw[World.size_alloc,World.size_alloc];show 9<_;omega)).trans (R o o');have U:∀o,(w.alloc o).cell? ⟨9,2,none⟩=w.cell? ⟨9,2,none⟩:=fun o=>World.cell?_alloc_lt w o _ g4;have T:∀o o',((w.alloc o).alloc o').cell? ⟨9,2,none⟩=w.cell? ⟨9,2,none⟩:=fun o o' =>(World.cell?_alloc_lt _ o' _ (by rw[World.size_alloc];show 9<_;omega)).trans (U o);have β:∀o o' D,(((w.alloc o).alloc o').alloc D).cell? ⟨9,2,none⟩=w.cell? ⟨9,2,none⟩:=fun o o' D=>(World.cell?_alloc_lt _ D _ (by rw[World.size_alloc,World.size_alloc];show 9<_;omega)).trans (T o o');have Y:∀o,(w.alloc o).cell? ⟨9,3,none⟩=w.cell? ⟨9,3,none⟩:=fun o=>World.cell?_alloc_lt w o _ g4;have S:∀o o',((w.alloc o).alloc o').cell? ⟨9,3,none⟩=w.cell? ⟨9,3,none⟩:=fun o o' =>(World.cell?_alloc_lt _ o' _ (by rw[World.size_alloc];show 9<_;omega)).trans (Y o);have δ:∀o o' D,(((w.alloc o).alloc o').alloc D).cell? ⟨9,3,none⟩=w.cell? ⟨9,3,none⟩:=fun o o' D=>(World.cell?_alloc_lt _ D _ (by rw[World.size_alloc,World.size_alloc];show 9<_;omega)).trans (S o o');obtain⟨⟨l0,u0⟩,⟨l1,u1⟩,⟨l2,u2⟩,⟨l3,u3⟩⟩:=ha
  go_enter Tryz.func158,Tryz.ntmps158
  go_wp2;refine wp_loop_rounds 5 ?_;rw[rounds_succ];go_wp2;rw[rounds_succ];go_wp2;rw[rounds_succ];go_wp2;rw[rounds_succ];go_wp2;rw[rounds_succ]
  go_wp2_with fail
  generalize bits .or .u64 (IntKind.wrap .u64 (a0*2)) bit=o0 at*;generalize bits .or .u64 (IntKind.wrap .u64 (a1*2)) (a0 / 9223372036854775808)=o1 at*;generalize bits .or .u64 (IntKind.wrap .u64 (a2*2)) (a1 / 9223372036854775808)=o2 at*;generalize bits .or .u64 (IntKind.wrap .u64 (a3*2)) (a2 / 9223372036854775808)=o3 at*;refine(Y0a _ _ _ _ _ _ _ _ hO Q3o _).mono ?_;rintro e w1 ⟨rfl,hb1⟩;rw[J9c];obtain⟨J,V⟩:=Y75 hb1;have s1:=hb1.size;simp only[World.size_alloc] at s1 J V;have z1:w.heap.size+1<w1.heap.size:=by omega
  have q0:w1.cell? ⟨9,0,none⟩=some (.int .u64 6346243789798364141):=by rw[J _ _ (by omega)];go_simp
  have q1:w1.cell? ⟨9,1,none⟩=some (.int .u64 1503914060200516822):=by rw[J _ _ (by omega)];go_simp
  have q2:w1.cell? ⟨9,2,none⟩=some (.int .u64 0):=by rw[J _ _ (by omega)];go_simp
  have q3:w1.cell? ⟨9,3,none⟩=some (.int .u64 1152921504606846976):=by rw[J _ _ (by omega)];go_simp
  by_cases G:J0l o0 o1 o2 o3<LL
  · rw[show decide (J0l o0 o1 o2 o3<LL)=true from decide_eq_true G]
    have HL:=Lib.hid G;clear G;go_wp2;refine bodyPost_ret (v:=A4 o0 o1 o2 o3) (by simp only[results,Tryz.results158];go_simp) rfl ⟨?_,?_⟩
    · rw[Z2h _ _ _ _ hO,←HV.out,Nat.mod_eq_of_lt HL.out]
    exact bz
  rw[show decide (J0l o0 o1 o2 o3<LL)=false from decide_eq_false G];have HL:=Lib.hid G;clear G
  go_wp2_with (go_at_call 169;refine(Q8d _ _ _ _ _ _ _ _ hO Q3o _).mono ?_;rintro e w2 ⟨rfl,M⟩;obtain⟨ε,ζ⟩:=Y75 M;have s2:=M.size;have z2:w.heap.size+1<w2.heap.size:=by omega)
  refine bodyPost_ret (v:=L4 (J7f (J0l o0 o1 o2 o3) LL)) (by simp only[results,Tryz.results158,←J9c];go_simp) rfl ⟨?_,?_⟩
  · rw[←HV.out,Y0b _ (by have:=HV.out;have:=HA.out;omega) HL.out]
  exact bz

theorem V6l (A B:Nat)(hA:A<Q3)(hB:B<Q3)(w:World):Calls Tryz.prog 169 #[L4 A,L4 B] w fun e w' =>X5 (.tuple #[L4 (J7f A B),.int .u64 (brw A B)]) w w' e:=by
  have h:=Q8d _ _ _ _ _ _ _ _ (J54 A) (J54 B) w;rw[J13 A hA,J13 B hB] at h;exact h
theorem V1r (A B:Nat)(hA:A<Q3)(hB:B<Q3)(w:World):Calls Tryz.prog 157 #[L4 A,L4 B] w fun e w' =>X5 (.bool (decide (A<B))) w w' e:=by
  have h:=Y0a _ _ _ _ _ _ _ _ (J54 A) (J54 B) w;rw[J13 A hA,J13 B hB] at h;exact h
theorem Y7x:LL<Q3:=by decide+kernel
@[go_sem] def LV:Value:=.agg #[.int .u64 6346243789798364141,.int .u64 1503914060200516822,.int .u64 0,.int .u64 1152921504606846976]
theorem Y7y:LV=L4 LL:=L4_order.symm
theorem V9f (A:Nat)(hA:A<Q3)(w:World):Calls Tryz.prog 169 #[L4 A,LV] w fun e w' =>X5 (.tuple #[L4 (J7f A LL),.int .u64 (brw A LL)]) w w' e:=by rw[Y7y];exact V6l A LL hA Y7x w
theorem V6m (A:Nat)(hA:A<Q3)(w:World):Calls Tryz.prog 157 #[L4 A,LV] w fun e w' =>X5 (.bool (decide (A<LL))) w w' e:=by rw[Y7y];exact V1r A LL hA Y7x w
end

section
set_option maxHeartbeats 2000000

theorem Q8o (ws:Nat→Int):∀n q r,q<n→r<64→(∀j,j<n→Z7 (ws j))→J1p ws n / 2^(64*q+r) % 2=(ws q).toNat / 2^r % 2
  |0,_,_,h,_,_=>by omega
  |n+1,q,r,h,hr,hw=>by
    show(J1p ws n+(ws n).toNat*2^(64*n)) / 2^(64*q+r) % 2=_
    by_cases hq:q=n
    · subst hq
      have hl:=J9r ws q (fun j hj=>hw j (by omega));rw[Nat.pow_add,←Nat.div_div_eq_div_mul,Nat.add_mul_div_right _ _ (Nat.two_pow_pos _),Nat.div_eq_of_lt hl,Nat.zero_add]
    · have ih:=Q8o ws n q r (by omega) hr (fun j hj=>hw j (by omega))
      obtain⟨d,hd⟩:∃d,64*n=(64*q+r)+(1+d):=⟨64*n-(64*q+r)-1,by omega⟩
      rw[hd,Nat.pow_add 2 (64*q+r),Nat.mul_left_comm,Nat.add_mul_div_left _ _ (Nat.two_pow_pos _),Nat.pow_add 2 1 d,Nat.mul_left_comm,Nat.pow_one,Nat.add_mul_mod_self_left];exact ih
theorem Y0c (ws:Nat→Int)(n q r:Nat)(hq:q<n)(hr:r<64)(hw:∀j,j<n→Z7 (ws j)):
    (0≤bits .and .u64 (ws q / 2^r) 1∧bits .and .u64 (ws q / 2^r) 1≤1)∧(bits .and .u64 (ws q / 2^r) 1).toNat=J1p ws n / 2^(64*q+r) % 2:=by
  have hb:=Q8o ws n q r hq hr hw;obtain⟨x0,x1⟩:=hw q hq;obtain⟨X,hX⟩:=Int.eq_ofNat_of_zero_le x0;rw[hX] at hb x1⊢;rw[Int.toNat_natCast] at hb;have e:((X:Int) / 2^r)=((X / 2^r:Nat):Int):=by push_cast;rfl
  have hl:X / 2^r≤X:=Nat.div_le_self _ _
  have e2:bits .and .u64 (((X / 2^r:Nat):Int)) ((1:Nat):Int)=((X / 2^r % 2:Nat):Int):=by
    rw[bits_and_u64_nat _ _ (by omega) (by omega),Nat.and_one_is_mod]
  rw[e];have e3:bits .and .u64 (((X / 2^r:Nat):Int)) 1=((X / 2^r % 2:Nat):Int):=e2;rw[e3,hb];omega
theorem Y0d (V K:Nat):(2*(V / 2^(K+1) % LL)+V / 2^K % 2) % LL=V / 2^K % LL:=by
  have e:V / 2^K=2*(V / 2^(K+1))+V / 2^K % 2:=by
    rw[Nat.pow_succ,←Nat.div_div_eq_div_mul];omega
  have h1:(2*(V / 2^(K+1) % LL)+V / 2^K % 2) % LL=(2*(V / 2^(K+1))+V / 2^K % 2) % LL:=by
    rw[Nat.add_mod,Nat.mul_mod,Nat.mod_mod,←Nat.mul_mod,←Nat.add_mod]
  rw[h1,←e]
theorem Q3k (x:Nat):x % LL<115792089237316195423570985008687907853269984665640564039457584007913129639936:=
  Nat.lt_trans (Nat.mod_lt _ (by decide)) (by decide)
theorem Q6x (ws:Nat→Int)(b off len cap:Nat)(w:World)(hG:GL w)(hlen:len≤100)(hws:∀j,j<len→Z7 (ws j))
    (hc:∀j,j<len→w.cell? ⟨b,off+j,none⟩=some (.int .u64 (ws j))) (hb:b<w.heap.size):
    Calls Tryz.prog 111 #[.slice (some ⟨b,off,none⟩) len cap] w fun e w' =>X5 (L4 (J1p ws len % LL)) w w' e:=by
  go_enter Tryz.func111,Tryz.ntmps111
  go_wp2
  go_loopw [4] (fun i wr=> ∃k:Nat,k≤64*len∧i=.int .i64 ((k:Int)-1)∧Below w.heap.size w wr∧
      Blk wr w.heap.size #[.int .u64 0,.int .u64 0,.int .u64 0,.int .u64 0] 157∧
      Blk wr (w.heap.size+1) #[.int .u64 (V9 (J1p ws len / 2^k % LL) 0),.int .u64 (V9 (J1p ws len / 2^k % LL) 1),.int .u64 (V9 (J1p ws len / 2^k % LL) 2),.int .u64 (V9 (J1p ws len / 2^k % LL) 3)] 157)
    (fun i _=>(intOf i+1).toNat)
  case atStart=>
    refine⟨64*len,Nat.le_refl _,?_,?_,?_,?_⟩
    · congr 1;omega
    · exact bz
    · exact J02 (J04 _ _ rfl) _
    rw[Nat.div_eq_of_lt (J9r ws len hws)];exact J04 _ _ (by simp)
  case round=>
    obtain⟨k,hk,rfl,J,M,D⟩:=hrel
    by_cases S:k=0
    · subst S
      have T:=J3 D;have U:=X9 D;have X:=J3 M;have γ:=X9 M;go_wp2;refine bodyPost_ret (v:=L4 (J1p ws len % LL)) (by simp only[results,Tryz.results111];go_simp) rfl ⟨rfl,?_⟩;exact bz
    obtain⟨q,r,hr,rfl⟩:∃q r,r<64∧k=64*q+r+1:=⟨(k-1) / 64,(k-1) % 64,by omega,by omega⟩
    have e1:((64*q+r+1:Nat):Int)-1=64*(q:Int)+(r:Int):=by omega
    rw[e1];clear S e1;have N:=(J.cell (p:=⟨b,off+q,none⟩) hb).trans (hc q (by omega));have w1:IntKind.i64.wrap ((64*(q:Int)+(r:Int)).tdiv 64)=(q:Int):=by rw[Int.tdiv_eq_ediv_of_nonneg (by omega),IntWalk.i64_in _ (by omega)];omega
    have w2:(64*(q:Int)+(r:Int)).tmod 64=(r:Int):=by rw[Int.tmod_eq_emod_of_nonneg (by omega)];omega
    have α:0≤(r:Int):=by omega
    have β:(0:Int)≤64*(q:Int)+(r:Int):=by omega
    have Z:(q:Int)<(len:Int):=by omega
    have ε:(r:Int)<64:=by omega
    have T:=J3 D;have U:=X9 D;go_wp2
    go_still_tail 10,(by kernel_rfl)
    change wpList _ _ _ _ _ wr.drew
    obtain⟨hB,R⟩:=Y0c ws len q r (by omega) hr hws;generalize bits .and .u64 (ws q / 2^r) 1=bt at*;have HB:=Lib.hid R;clear R N w1 w2;have HT:=Y5d _ _ _ _ bt (J54 (J1p ws len / 2^(64*q+r+1) % LL)) hB.1 hB.2 (by rw[J13 _ (Q3k _)];exact Nat.mod_lt _ (by decide)) wr.drew (J4d (hG) J.drew (by have:=hG.2.2.2.2;omega))
    go_wp2_with (go_at_call 158;refine HT.mono ?_;rintro e w3 ⟨rfl,G⟩;have Y:=J3 (J2 (J0i D) G);have δ:=X9 (J2 (J0i D) G))
    rw[J13 _ (Q3k _),HB.out,Y0d];have V.size:=J.size;have ζ:=G.size;go_roundw
    case rel=>
      refine⟨64*q+r,by omega,by go_num,?_,J3t (J2 (J0i M) G) (by omega) _ _ _ _,J9q (J2 (J0i D) G) _ _ _ _⟩;exact bz
    case measure=>simp[intOf];omega
end

section
set_option maxHeartbeats 2000000

theorem bytes_c (V:Nat)(hV:V<115792089237316195423570985008687907853269984665640564039457584007913129639936)(w:World)(hG:GL w):
    Calls Tryz.prog 68 #[L4 V] w fun e w' =>X5 (.agg (J1 .u8 32 (J4 (V % LL)))) w w' e:=by
  go_enter Tryz.func68,Tryz.ntmps68
  go_wp2_with fail
  refine(Q6x (V9 V) _ _ _ _ _ ?_ (by omega) (fun j _=>J0s V j) ?_ (by simp only[World.size_alloc];omega)).mono ?_
  · exact J4d hG (B:=w.heap.size) (((Below.refl _ _).alloc (Nat.le_refl _) _).alloc (by simp) _) hG.2.2.2.2
  · intro j hj
    have h4:j=0∨j=1∨j=2∨j=3:=by omega
    refine(J3 (J02 (J04 #[.int .u64 (V9 V 0),.int .u64 (V9 V 1),.int .u64 (V9 V 2),.int .u64 (V9 V 3)] 157 rfl) _) _).trans ?_;rcases h4 with rfl|rfl|rfl|rfl<;>rfl
  rintro e w1 ⟨rfl,G⟩;have b0:Blk w1 w.heap.size #[.int .u64 (V9 V 0),.int .u64 (V9 V 1),.int .u64 (V9 V 2),.int .u64 (V9 V 3)] 157:=J2 (J02 (J04 _ _ rfl) _) G;have b1:Blk w1 (w.heap.size+1) (J1 .u8 32 fun _=>0) 23:=J2 (J04 _ _ (by simp)) G;have s1:=G.size;simp only[World.size_alloc] at s1;rw[Q4w V hV];generalize hN:V % LL=N;have HN:=Lib.hid hN;clear hN;have c0:=J3 b0;have f0:=X9 b0;go_wp2
  go_loopw [7] (fun i wr=> ∃k:Nat,k≤32∧i=.int .i64 k∧Below w.heap.size w wr∧
      Blk wr w.heap.size #[.int .u64 (V9 N 0),.int .u64 (V9 N 1),.int .u64 (V9 N 2),.int .u64 (V9 N 3)] 157∧
      Blk wr (w.heap.size+1) (J1 .u8 32 fun _=>0) 23∧
      Blk wr w1.heap.size (J1 .u8 32 fun j=>if j<k then J4 N j else 0) 23)
    (fun i _=>(32-intOf i).toNat)
  case atStart=>
    refine⟨0,by omega,rfl,?_,J02 (J9q b0 _ _ _ _) _,J02 (J3t b1 (by omega) _ _ _ _) _,?_⟩
    · exact bz
    exact J04 _ _ (by simp)
  case round=>
    obtain⟨k,hk,rfl,M,S,J,D⟩:=hrel
    by_cases T:k=32
    · subst T
      go_wp2_with (first|(refine wpList_load_row rfl 23 (.tmp 3) rfl w1.heap.size rfl _ _ _ _ D Tryz.underlying23 rfl (by kernel_rfl) ?_)|(refine wpList_store_row rfl 23 (.tmp 2) (.tmp 22) rfl (w.heap.size+1) _ rfl rfl 23 _ J (by kernel_rfl) (by kernel_rfl) (Y6 _ _ _) ?_))
      refine bodyPost_ret (results_cell_row rfl _ _ (w.heap.size+1) _ _ _ _ rfl (V6 J _) Tryz.underlying23 rfl (by kernel_rfl)) rfl ⟨?_,Y0 M (by omega) _⟩;rw[J07 _ _ _ (J4 N) (fun i hi=>if_pos hi),HN.out]
    obtain⟨q,r,hr,rfl⟩:∃q r,r<8∧k=8*q+r:=⟨k / 8,k % 8,by omega,by omega⟩
    have d1:(8*(q:Int)+(r:Int)) / 8=(q:Int):=by omega
    have d2:(8*(q:Int)+(r:Int)) % 8=(r:Int):=by omega
    have X:(q:Int)<4:=by omega
    have Z:(r:Int)<8:=by omega
    have c0:=(J3 S q).trans (show _=some (.int .u64 (V9 N q)) by(have:q=0∨q=1∨q=2∨q=3:=by omega);rcases this with rfl|rfl|rfl|rfl<;>rfl);have c3:=J3 D (8*q+r);rw[V3 _ _ _ _ (by omega)] at c3;have f3:=X9 D;go_wp2;have U.size:=M.size;have Y:=Q2 D;go_roundw
    case rel=>
      refine⟨8*q+r+1,by omega,by go_num,?_,K6 S (by omega) _ _,K6 J (by omega) _ _,?_⟩
      · exact bz
      have hs:=J1n D (8*q+r) (.int .u8 (V9 N q / 2^(8*r) % 256));rw[K3] at hs;rw[J07 _ _ _ _ (fun j hj=> ?_)]
      · exact hs
      have R:=Z2j N (8*q+r);rw[show(8*q+r) / 8=q by omega,show(8*q+r) % 8=r by omega] at R;unfold upd;rw[R];dsimp only
      by_cases h1:j=8*q+r
      · subst h1;rw[if_pos (by omega),if_pos rfl]
      rw[if_neg h1]
      by_cases h2:j<8*q+r
      · rw[if_pos h2,if_pos (by omega)]
      rw[if_neg h2,if_neg (by omega)]
    case measure=>simp[intOf];omega
end

section
set_option maxHeartbeats 2000000

theorem Z3k (V b:Nat)(hV:V<Q3)(w:World)(hG:GL w)(hB:Blk w b (c4 V) 157):
    Calls Tryz.prog 111 #[.slice (some ⟨b,0,none⟩) 4 4] w fun e w' =>X5 (L4 (V % LL)) w w' e:=by
  have h:=Q6x (V9 V) b 0 4 4 w hG (by omega) (fun j _=>J0s V j) (fun j hj=>by
    have h4:j=0∨j=1∨j=2∨j=3:=by omega
    refine(J3 hB _).trans ?_
    rcases h4 with rfl|rfl|rfl|rfl<;>rfl) (Q2 hB)
  rw[Q4w V hV] at h;exact h
theorem Y5e {w w' :World}(h:GL w)(hb:Below w.heap.size w w'):GL w' :=J4d h hb h.2.2.2.2
theorem add_c (A B:Nat)(hA:A<Q3)(hB:B<Q3)(w:World)(hG:GL w):
    Calls Tryz.prog 127 #[L4 A,L4 B] w fun e w' =>X5 (L4 ((A+B) % LL)) w w' e:=by
  have HG:=Lib.hid hG;clear hG
  go_enter Tryz.func127,Tryz.ntmps127
  go_wp2
  refine Z80 (fun W=>Below w.heap.size w W∧w.heap.size+2<W.heap.size∧Blk W w.heap.size (c4 A) 157∧Blk W (w.heap.size+1) (c4 B) 157∧Blk W (w.heap.size+2) #[.int .u64 0,.int .u64 0,.int .u64 0,.int .u64 0] 157)
    ⟨bz,by simp,J02 (J02 (J04 _ _ rfl) _) _,J02 (J04 _ _ (by simp)) _,J04 _ _ (by simp)⟩ ?_
  rintro W ⟨M,κ,b2,b3,b4⟩;have α:Hid (GL W.drew):=Lib.hid (J4d HG.out M.drew HG.out.2.2.2.2);have b2:=J0i b2;have b3:=J0i b3
  go_region_with (first
    |(go_at_call 111;(with_reducible refine(Z3k A w.heap.size hA _ α.out b2).mono ?_);rintro e w1 ⟨rfl,N⟩;have Y:=J2 b2 N;have T:=J2 b3 N)
    |(go_at_call 111;(with_reducible refine(Z3k B (w.heap.size+1) hB _ (Y5e α.out N) T).mono ?_);rintro e w2 ⟨rfl,D⟩;have ψ:=J3 (J2 Y D);have σ:=X9 (J2 Y D);have ω:=J3 (J2 T D);have Γ:=X9 (J2 T D)))
  clear ψ σ ω Γ;have η:=J2 Y D;have μ:=J2 T D;have β:=J2 (J2 (J0i b4) N) D;have s1:=N.size;have s2:=D.size;simp only[World.size_drew] at s1;have χ:Below w.heap.size w w2:=V0 (V0 M.drew N (by simp only[World.size_drew];omega)) D (by omega);have ε:w.heap.size+2<w2.heap.size:=by omega
  clear N D Y T b2 b3 b4 α s1 s2
  refine J63 (fun W=>Below w.heap.size w W∧w.heap.size+2<W.heap.size∧Blk W w.heap.size (c4 (A % LL)) 157∧Blk W (w.heap.size+1) (c4 (B % LL)) 157∧Blk W (w.heap.size+2) #[.int .u64 0,.int .u64 0,.int .u64 0,.int .u64 0] 157)
    ⟨bz,by simpa using ε,J3t (J9q η _ _ _ _) (by omega) _ _ _ _,J9q (J3t μ (by omega) _ _ _ _) _ _ _ _,J3t (J3t β (by omega) _ _ _ _) (by omega) _ _ _ _⟩ ?_
  clear χ η μ β M κ ε;rintro X ⟨M,κ,b2,b3,b4⟩;have δ:=Lib.hid (J4d HG.out M HG.out.2.2.2.2);have G:=J54 (A % LL);have J:=J54 (B % LL);have γ:=Q4v _ _ _ _ _ _ _ _ 0 G J (by omega) (by omega);have q0:=J8v _ _ 0 G.1 J.1 (by omega) (by omega);have q1:=J8v _ _ _ G.2.1 J.2.1 q0.1 q0.2;have q2:=J8v _ _ _ G.2.2.1 J.2.2.1 q1.1 q1.2;have h0:=J10 _ _ 0 G.1 J.1 (by omega) (by omega);have h1:=J10 _ _ _ G.2.1 J.2.1 q0.1 q0.2;have h2:=J10 _ _ _ G.2.2.1 J.2.2.1 q1.1 q1.2;have h3:=J10 _ _ _ G.2.2.2 J.2.2.2 q2.1 q2.2;obtain⟨e0,e1,e2,e3⟩:=V0a γ.1;rw[e0] at h0;rw[e1] at h1;rw[e2] at h2;rw[e3] at h3;clear γ q0 q1 q2 G J e0 e1 e2 e3
  have hS:(A % LL+B % LL+(0:Int).toNat) % 115792089237316195423570985008687907853269984665640564039457584007913129639936=A % LL+B % LL:=by
    have:=Nat.mod_lt A (show 0<LL by decide);have:=Nat.mod_lt B (show 0<LL by decide);unfold LL at*;omega
  rw[J13 _ (Q3k A),J13 _ (Q3k B),hS] at h0 h1 h2 h3
  have θ:A % LL+B % LL<2*LL:=by
    have:=Nat.mod_lt A (show 0<LL by decide);have:=Nat.mod_lt B (show 0<LL by decide);omega
  have ν:(A % LL+B % LL) % LL=(A+B) % LL:=by rw[←Nat.add_mod]
  generalize A % LL+B % LL=S at*;have HS:=Lib.hid θ;have ξ:=Lib.hid ν;clear hS θ ν;have x2:=J3 b2;have x3:=J3 b3;obtain⟨g0,g1,g2,g3,g4⟩:=δ.out;have n1:w.heap.size<X.heap.size:=by omega
  have n2:w.heap.size+1<X.heap.size:=by omega
  go_wp2;refine wp_loop_rounds 5 ?_;rw[rounds_succ];go_wp2
  go_region
  go_wp2;rw[rounds_succ];go_wp2
  go_region
  go_wp2;rw[rounds_succ];go_wp2
  go_region
  go_wp2;rw[rounds_succ];go_wp2
  go_region
  go_wp2;rw[rounds_succ]
  go_wp2_with fail
  have ζ:S<Q3:=by have:=HS.out;unfold LL at this;unfold Q3;omega
  refine(V6m S ζ _).mono ?_;rintro e w3 ⟨rfl,U⟩;have V:=J2 (J0i (J0i (J0i (J0i (J02 b4 _))))) U;have φ:Blk w3 X.heap.size (c4 S) 157:=J2 (J0i (J0i (J0i (J0i (J04 _ _ rfl))))) U;have s3:=U.size;simp only[World.size_drew,World.size_alloc] at s3;have τ:Below w.heap.size w w3:=V0 bz U (by simp only[World.size_drew,World.size_alloc];omega);have ρ:=Lib.hid (J4d HG.out τ HG.out.2.2.2.2);clear b2 b3 b4 M x2 x3 h0 h1 h2 h3 U g0 g1 g2 g3 g4 δ;have z2:=J3 V;have t2:=X9 V;have z5:=J3 φ;obtain⟨g0,g1,g2,g3,g4⟩:=ρ.out
  by_cases R:S<LL
  · rw[show decide (S<LL)=true from decide_eq_true R]
    have HL:=Lib.hid R;clear R;go_wp2;refine bodyPost_ret (v:=L4 S) (by simp only[results,Tryz.results127];go_simp) rfl ⟨?_,?_⟩
    · rw[←ξ.out,Nat.mod_eq_of_lt HL.out]
    exact bz
  rw[show decide (S<LL)=false from decide_eq_false R];have HL:=Lib.hid R;clear R
  go_wp2_with (go_at_call 169;refine(V9f S ζ _).mono ?_;rintro e w4 ⟨rfl,Z⟩;have Δ:=J3 (J2 V Z);have Θ:=X9 (J2 V Z);have s4:=Z.size;have n4:w.heap.size+2<w4.heap.size:=by omega)
  refine bodyPost_ret (v:=L4 (J7f S LL)) (by simp only[results,Tryz.results127];go_simp) rfl ⟨?_,?_⟩
  · rw[←ξ.out,Y0b _ HS.out HL.out]
  exact bz
end
end Go.Proofs.YteehbddkcnkhfaaGreatDoor.S8.Sc

namespace Go.Proofs.YteehbddkcnkhfaaGreatDoor.S8

abbrev Q4:=Nat×Nat×Nat×Nat
def RQ4 (s:Q4)(a:Pr):Prop:=RN s.1 s.2.1 s.2.2.1 s.2.2.2 a
def twN:Q4→Q4
  |(X,Y,Z,_)=>
    let A:=X*X % PP
    let B:=Y*Y % PP
    let C:=(Z*Z % PP+Z*Z % PP) % PP
    let H:=(A+B) % PP
    let S:=(X+Y) % PP
    let E:=(H+(PP-S*S % PP % PP)) % PP
    let G:=(A+(PP-B % PP)) % PP
    let F:=(C+G) % PP
    (E*F % PP,G*H % PP,F*G % PP,E*H % PP)
def adN:Q4→Q4→Q4
  |(X1,Y1,Z1,T1),(X2,Y2,Z2,T2)=>
    let A:=(Y1+(PP-X1 % PP)) % PP*((Y2+(PP-X2 % PP)) % PP) % PP
    let B:=(Y1+X1) % PP*((Y2+X2) % PP) % PP
    let C:=T1*D2 % PP*T2 % PP
    let D:=(Z1+Z1) % PP*Z2 % PP
    let E:=(B+(PP-A % PP)) % PP
    let F:=(D+(PP-C % PP)) % PP
    let G:=(D+C) % PP
    let H:=(B+A) % PP
    (E*F % PP,G*H % PP,F*G % PP,E*H % PP)
def tmN (P:Q4)(n:Nat):Nat→Q4
  |0=>(0,1,1,0)
  |c+1=>if n / 2^(255-c) % 2=1 then adN (twN (tmN P n c)) P else twN (tmN P n c)
theorem V6n {s:Q4}{a:Pr}(h:RQ4 s a):RQ4 (twN s) (J1k a a):=by
  obtain⟨X,Y,Z,T⟩:=s;exact Q8h (X:=X) (Y:=Y) (Z:=Z) (T:=T) h rfl rfl rfl rfl rfl rfl rfl rfl rfl rfl rfl rfl rfl rfl
theorem V6o {s t:Q4}{a b:Pr}(h:RQ4 s a)(k:RQ4 t b):RQ4 (adN s t) (J1k a b):=by
  obtain⟨X1,Y1,Z1,T1⟩:=s;obtain⟨X2,Y2,Z2,T2⟩:=t;exact Z9s (X1:=X1) (Y1:=Y1) (Z1:=Z1) (T1:=T1) (X2:=X2) (Y2:=Y2) (Z2:=Z2) (T2:=T2) h k rfl rfl rfl rfl rfl rfl rfl rfl rfl rfl rfl rfl rfl rfl rfl rfl rfl rfl
theorem Y7z {P:Q4}{a:Pr}{n:Nat}(hP:RQ4 P a)(hn:n<2^256):∀c,c≤256→RQ4 (tmN P n c) (pm a (n / 2^(256-c)))
  |0,_=>by
    rw[show 256-0=256 by decide,Nat.div_eq_of_lt hn];exact Y7j
  |c+1,h=>by
    have ih:=Y7z hP hn c (by omega);rw[show 256-c=(255-c)+1 by omega] at ih;rw[show 256-(c+1)=255-c by omega];have e2:n / 2^(255-c+1)=n / 2^(255-c) / 2:=by rw[Nat.pow_succ,Nat.div_div_eq_div_mul]
    rw[e2] at ih;unfold tmN;generalize n / 2^(255-c)=m at*;have hm:=Nat.div_add_mod m 2;have D:=V6n ih;rw[←J6b hP.on] at D
    split
    · rename_i h1
      have:=V6o D hP
      rwa [show J1k (pm a (2*(m / 2))) a=pm a m by rw[show m=2*(m / 2)+1 by omega];exact congrArg (fun k=>J1k (pm a (2*k)) a) (by omega)] at this
    · rwa [show 2*(m / 2)=m by omega] at D
theorem V1s {P:Q4}{a:Pr}{n:Nat}(hP:RQ4 P a)(hn:n<2^256):RQ4 (tmN P n 256) (pm a n):=by
  have:=Y7z hP hn 256 (Nat.le_refl _)
  rwa [Nat.sub_self,Nat.pow_zero,Nat.div_one] at this
open Sc (LL)
end Go.Proofs.YteehbddkcnkhfaaGreatDoor.S8

namespace Go.Proofs.YteehbddkcnkhfaaGreatDoor.S8.Sc
section
set_option maxHeartbeats 4000000

theorem Z31 (A B:Nat)(hA:A<Q3)(hB:B<Q3)(h:∀i,i<4→V9 A i=V9 B i):A=B:=by
  rw[←J13 A hA,←J13 B hB,h 0 (by omega),h 1 (by omega),h 2 (by omega),h 3 (by omega)]
end

section
set_option maxHeartbeats 4000000

theorem Y5f (f:Nat→Int)(b:Nat)(hf:∀j,j<8→Z7 (f j))(w:World)(hG:GL w)(hB:Blk w b (J1 .u64 8 f) 230):
    Calls Tryz.prog 111 #[.slice (some ⟨b,0,none⟩) 8 8] w fun e w' =>X5 (L4 (J1p f 8 % LL)) w w' e:=
  Q6x f b 0 8 8 w hG (by omega) hf (fun j hj=>by rw[Nat.zero_add];exact(J3 hB _).trans (V3 _ _ _ _ hj)) (Q2 hB)

theorem J4m (V i:Nat)(h:i<4):(c4 V)[i]?=some (.int .u64 (V9 V i)):=by
  have:i=0∨i=1∨i=2∨i=3:=by omega
  rcases this with rfl|rfl|rfl|rfl<;>rfl

theorem Q6k (i k:Nat)(x y g c s cv:Int)(V V' Y Y' X B0:Nat)(hx:Z7 x)(hy:Z7 y)(hg:Z7 g)(hc:Z7 c)(hs:Z7 s)(hcv:Z7 cv)
    (h5:s+18446744073709551616*cv=x*y+g+c) (h1:V' +g.toNat*2^(64*(i+k))=V+s.toNat*2^(64*(i+k)))
    (h2:V+c.toNat*2^(64*(i+k))=X+x.toNat*2^(64*i)*Y) (hY:Y' =Y+y.toNat*2^(64*k)):
    V' +cv.toNat*2^(64*(i+(k+1)))=X+x.toNat*2^(64*i)*Y' :=by
  obtain⟨x,rfl⟩:=Int.eq_ofNat_of_zero_le hx.1;obtain⟨y,rfl⟩:=Int.eq_ofNat_of_zero_le hy.1;obtain⟨g,rfl⟩:=Int.eq_ofNat_of_zero_le hg.1;obtain⟨c,rfl⟩:=Int.eq_ofNat_of_zero_le hc.1;obtain⟨s,rfl⟩:=Int.eq_ofNat_of_zero_le hs.1;obtain⟨d,rfl⟩:=Int.eq_ofNat_of_zero_le hcv.1;simp only[Int.toNat_natCast] at*
  have h6:s+18446744073709551616*d=x*y+g+c:=by
    rw[←Int.natCast_mul] at h5;generalize x*y=p at*;omega
  have e1:(2:Nat)^(64*(i+(k+1)))=18446744073709551616*2^(64*(i+k)):=by
    rw[show 64*(i+(k+1))=64+64*(i+k) by omega,Nat.pow_add]
  have e2:(2:Nat)^(64*(i+k))=2^(64*i)*2^(64*k):=by rw[Nat.mul_add,Nat.pow_add]
  rw[hY,e1,Nat.mul_add (x*2^(64*i))];have e3:x*2^(64*i)*(y*2^(64*k))=x*y*2^(64*(i+k)):=by rw[e2,Nat.mul_mul_mul_comm]
  rw[e3];generalize 2^(64*(i+k))=W at*;have e4:d*(18446744073709551616*W)=18446744073709551616*d*W:=by rw[Nat.mul_left_comm,Nat.mul_assoc]
  rw[e4]
  have h7:s*W+18446744073709551616*d*W=x*y*W+g*W+c*W:=by
    rw[←Nat.add_mul,h6,Nat.add_mul,Nat.add_mul]
  omega

theorem Q6l (B V' V C X Y W:Nat){g:Int}(hB:B<Q3)(hg:g=0)(h1:V' +g.toNat*W=V+C)(h2:V+C=X+Y*(B % 2^(64*4))):V' =X+Y*B:=by
  rw[Nat.mod_eq_of_lt (show B<2^(64*4) from hB)] at h2;rw[hg,Int.toNat_zero,Nat.zero_mul,Nat.add_zero] at h1;rw[h1,h2]

theorem mul_c (A B:Nat)(hA:A<Q3)(hB:B<Q3)(w:World)(hG:GL w):
    Calls Tryz.prog 128 #[L4 A,L4 B] w fun e w' =>X5 (L4 (A*B % LL)) w w' e:=by
  have HG:=Lib.hid hG;clear hG
  go_enter Tryz.func128,Tryz.ntmps128
  go_wp2
  go_loopw [16] (fun ii wr=> ∃i:Nat,i≤4∧ii=.int .i64 i∧Below w.heap.size w wr∧
      Blk wr (w.heap.size+1) (c4 B) 157∧Blk wr (w.heap.size+2) #[.int .u64 0,.int .u64 0,.int .u64 0,.int .u64 0] 157∧
      ∃f:Nat→Int,Blk wr (w.heap.size+3) (J1 .u64 8 f) 230∧(∀j,Z7 (f j))∧(∀j,i+4≤j→f j=0)∧J1p f 8=A % 2^(64*i)*B)
    (fun ii _=>(4-intOf ii).toNat)
  case atStart=>
    refine⟨0,by omega,rfl,?_,J02 (J02 (J04 _ _ (by simp)) _) _,J02 (J04 _ _ (by simp)) _,fun _=>0,J04 _ _ (by simp),fun _=>⟨by simp,by simp⟩,fun _ _=>rfl,?_⟩
    · exact bz
    rw[J8h,Nat.mul_zero,Nat.pow_zero,Nat.mod_one,Nat.zero_mul]
  case round=>
    obtain⟨i,hi,rfl,D,b1,b2,f,b3,hf,V,hv⟩:=hrel
    by_cases S:i=4
    · subst S
      have HV:=Lib.hid hv;clear hv;have c2:=J3 b2;have f2:=X9 b2
      go_wp2_with (go_at_call 111;refine(Y5f f (w.heap.size+3) (fun j _=>hf j) _ (J4d HG.out D HG.out.2.2.2.2) b3).mono ?_;rintro e w1 ⟨rfl,G⟩;have α:=J3 (J2 b2 G);have β:=X9 (J2 b2 G))
      refine bodyPost_ret (v:=L4 (J1p f 8 % LL)) (by simp only[results,Tryz.results128];go_simp) rfl ⟨?_,?_⟩
      · rw[HV.out,Nat.mod_eq_of_lt (show A<2^(64*4) from hA)]
      have:=G.size;have:=D.size;exact bz
    have T:i<4:=by omega
    have hi3' :(i:Int)<4:=by omega
    have M:∀W,(Instr.index 157 (.agg #[.int .u64 (V9 A 0),.int .u64 (V9 A 1),.int .u64 (V9 A 2),.int .u64 (V9 A 3)]) (.int .i64 (i:Int))).run Tryz.prog W=.ok (.int .u64 (V9 A i)) W:=
      fun W=>J27 W 157 99 4 .u64 .i64 (c4 A) i (V9 A i) Tryz.underlying157 Tryz.underlying99 (by kernel_rfl) T (J4m A i T)
    have c1:=J3 b1;clear S;go_wp2;clear c1;have Y:=Lib.hid V;have HV:=Lib.hid hv;clear V hv M hi3';obtain⟨wo,rfl⟩:∃wo:World,wo=wr:=⟨_,rfl⟩
    go_loopw [8,21] (fun cc kk wq=> ∃(k:Nat)(c:Int),k≤4∧kk=.int .i64 k∧cc=.int .u64 c∧Z7 c∧Below w.heap.size w wq∧
        Blk wq (w.heap.size+1) (c4 B) 157∧Blk wq (w.heap.size+2) #[.int .u64 0,.int .u64 0,.int .u64 0,.int .u64 0] 157∧
        ∃g:Nat→Int,Blk wq (w.heap.size+3) (J1 .u64 8 g) 230∧(∀j,Z7 (g j))∧(∀j,i+4≤j→g j=0)∧
          J1p g 8+c.toNat*2^(64*(i+k))=A % 2^(64*i)*B+(V9 A i).toNat*2^(64*i)*(B % 2^(64*k)))
      (fun _ kk _=>(4-intOf kk).toNat)
    case atStart=>
      refine⟨0,0,by omega,rfl,rfl,⟨by omega,by omega⟩,D,b1,b2,f,b3,hf,Y.out,?_⟩;rw[HV.out,Nat.mul_zero,Nat.pow_zero,Nat.mod_one];simp
    case round=>
      obtain⟨k,c,hk,rfl,rfl,hc,D,b1,b2,g,b3,hg,U,hv⟩:=hrel;have J:=Lib.hid U;have HV:=Lib.hid hv;clear U hv Y
      by_cases N:k=4
      · subst N
        have c3:=(J3 b3 (i+4)).trans (V3 _ _ _ _ (by omega));have f3:=X9 b3;have Z:(i:Int)+4<8:=by omega
        go_wp2;have hs:=J1n b3 (i+4) (.int .u64 c);rw[K3] at hs;go_roundw
        case rel=>
          refine⟨i+1,by omega,by go_num,?_,K6 b1 (by omega) _ _,K6 b2 (by omega) _ _,upd g (i+4) c,hs,?_,?_,?_⟩
          · exact bz
          · intro j
            by_cases hj:j=i+4
            · subst hj;rw[J2z];exact hc
            rw[J0t _ _ _ _ hj];exact hg j
          · intro j hj
            rw[J0t _ _ _ _ (by omega)];exact J.out j (by omega)
          rw[J65,Nat.add_mul];exact Q6l B _ _ _ _ _ _ hB (J.out (i+4) (by omega)) (J64 g (i+4) c 8 (by omega)) HV.out
        case measure=>simp[intOf];omega
      have R:k<4:=by omega
      have hk3' :(k:Int)<4:=by omega
      clear N
      have M:∀W,(Instr.index 157 (.agg #[.int .u64 (V9 B 0),.int .u64 (V9 B 1),.int .u64 (V9 B 2),.int .u64 (V9 B 3)]) (.int .i64 (k:Int))).run Tryz.prog W=.ok (.int .u64 (V9 B k)) W:=
        fun W=>J27 W 157 99 4 .u64 .i64 (c4 B) k (V9 B k) Tryz.underlying157 Tryz.underlying99 (by kernel_rfl) R (J4m B k R)
      obtain⟨m1,m2,m3,m4,m5⟩:=Q2y (V9 A i) (V9 B k) (g (i+k)) c (J0s A i) (J0s B k) (hg _) hc;have a1:=J10 (J5q (V9 A i) (V9 B k)) (g (i+k)) 0 m1 (hg _) (by omega) (by omega);have a2:=J10 (adS (J5q (V9 A i) (V9 B k)) (g (i+k)) 0) c 0 m2 hc (by omega) (by omega);obtain⟨sv,X⟩:∃sv,sv=adS (adS (J5q (V9 A i) (V9 B k)) (g (i+k)) 0) c 0:=⟨_,rfl⟩
      rw[←X] at m4 m5 a2;have M5:=Lib.hid m5;clear m5 X;have c3:=(J3 b3 (i+k)).trans (V3 _ _ _ _ (by omega));have f3:=X9 b3;have Z:(i:Int)+(k:Int)<8:=by omega
      go_wp2_with (go_at_call 160;refine(Q5y _ _ (J0s A i) (J0s B k) _).mono ?_;rintro e w' ⟨rfl,rfl⟩)
      have hs:=J1n b3 (i+k) (.int .u64 sv);rw[K3] at hs;have h1:=J64 g (i+k) sv 8 (by omega);have h2:=HV.out;have h5:=M5.out;clear HV M5 a1 a2 c3 f3 M;go_roundw
      case rel=>
        (repeat apply Exists.intro)
        refine⟨?_,rfl⟩;refine⟨k+1,_,by omega,by go_num,rfl,m3,?_,K6 b1 (by omega) _ _,K6 b2 (by omega) _ _,upd g (i+k) sv,hs,?_,?_,?_⟩
        · exact bz
        · intro j
          by_cases hj:j=i+k
          · subst hj;rw[J2z];exact m4
          rw[J0t _ _ _ _ hj];exact hg j
        · intro j hj
          rw[J0t _ _ _ _ (by omega)];exact J.out j hj
        exact Q6k i k (V9 A i) (V9 B k) (g (i+k)) c sv _ _ _ _ _ _ 0 (J0s A i) (J0s B k) (hg _) hc m4 m3 h5 h1 h2 (J65 B k)
      case measure=>simp[intOf];omega
end

section
set_option maxHeartbeats 4000000

end

section
set_option maxHeartbeats 4000000

theorem Q6n (V:Nat):c4 V=J1 .u64 4 (V9 V):=rfl
theorem Y0e (i:Nat):V9 0 i=0:=by simp[V9]
theorem Q3h (bs:Nat→Int)(h:∀j,J7m (bs j))(n q r:Nat)(hr:r<8):
    (J1 .u64 n (V9 (J1j bs (8*q+r)))).setIfInBounds q (.int .u64 (bits .or .u64 (V9 (J1j bs (8*q+r)) q) (IntKind.wrap .u64 (bs (8*q+r)*2^(8*r)))))=J1 .u64 n (V9 (J1j bs (8*q+r+1))):=by
  rw[Z2l bs h q r hr,K3];apply J07;intro j _
  by_cases hj:j=q
  · subst hj;rw[J2z]
  rw[J0t _ _ _ _ hj,J7n bs h (8*q+r) j (by omega)]

end

section
set_option maxHeartbeats 4000000

theorem Y0f (k:IntKind)(n:Nat):madeCells (Value.int k 0).cells n=J1 k n (fun _=>0):=by
  apply Array.ext
  · simp[madeCells,J1]
  intro i h1 h2;simp[madeCells,J1,Value.cells,Nat.mod_one]
theorem Z5e (bs:Nat→Int)(h:∀j,J7m (bs j))(k n:Nat)(hk:k≤8*n):J1p (V9 (J1j bs k)) n=J1j bs k:=by
  rw[J7l,Nat.mod_eq_of_lt];exact Nat.lt_of_lt_of_le (J6u bs h k) (Nat.pow_le_pow_right (by omega) (by omega))

theorem of_c (bs:Nat→Int)(hbs:∀j,J7m (bs j))(b off len cap:Nat)(w:World)(hG:GL w)(hlen:len≤700)
    (hc:∀j,j<len→w.cell? ⟨b,off+j,none⟩=some (.int .u8 (bs j))) (hb:b<w.heap.size):
    Calls Tryz.prog 126 #[.slice (some ⟨b,off,none⟩) len cap] w fun e w' =>X5 (L4 (J1j bs len % LL)) w w' e:=by
  have HG:=Lib.hid hG;have n0:=hG.2.2.2.2;clear hG;have HB:=Lib.hid hbs;have HC:=Lib.hid hc;clear hbs hc;obtain⟨n,hn⟩:∃n,n=(len+7) / 8:=⟨_,rfl⟩
  have d0:((len:Int)+7) / 8=(n:Int):=by omega
  have R:len≤8*n:=by omega
  have G:n≤100:=by omega
  have X:∀W,(Instr.makeSlice 214 (.int .i64 (n:Int)) (.int .i64 (n:Int))).run Tryz.prog W=.ok (.slice (some ⟨W.heap.size,0,none⟩) n n) (W.alloc (.cells (J1 .u64 n fun _=>0) 99)):=by
    intro W;obtain⟨i,hi,hz,hs,N⟩:=info_parts (show(Tryz.prog.info? 99).map (fun i=>(i.zero,i.size,i.bytes))=some (some (.int .u64 0),1,8) by kernel_rfl);have h:=run_make (P:=Tryz.prog) W 214 99 i (.int .u64 0) Tryz.underlying214 hi hz .i64 .i64 (n:Int) (n:Int) (by omega) (by omega) (by rw[N];omega) (by omega);rw[Int.toNat_natCast,hs,Nat.mul_one,Y0f] at h;exact h
  have HN:=Lib.hid hn;clear hn
  go_enter Tryz.func126,Tryz.ntmps126
  go_wp2
  go_loopw [13] (fun ii wr=> ∃k:Nat,k≤len∧ii=.int .i64 k∧Below w.heap.size w wr∧
      Blk wr w.heap.size #[.int .u64 0,.int .u64 0,.int .u64 0,.int .u64 0] 157∧Blk wr (w.heap.size+1) (J1 .u64 n (V9 (J1j bs k))) 99)
    (fun ii _=>(len-intOf ii).toNat)
  case atStart=>
    refine⟨0,by omega,rfl,?_,J02 (J04 _ _ rfl) _,?_⟩
    · exact bz
    rw[show J1j bs 0=0 from rfl,J07 .u64 n (V9 0) (fun _=>0) (fun i _=>Y0e i)];exact J04 _ _ (by simp)
  case round=>
    obtain⟨k,hk,rfl,D,b1,b2⟩:=hrel;have S.size:=D.size
    by_cases M:k=len
    · subst M
      have hs:∀j,Z7 (V9 (J1j bs k) j):=fun j=>J0s _ j
      go_wp2_with (go_at_call 111;refine(Q6x (V9 (J1j bs k)) (w.heap.size+1) 0 n n _ (J4d HG.out D HG.out.2.2.2.2) G (fun j _=>hs j) (fun j hj=>(by rw[Nat.zero_add];exact(J3 b2 j).trans (V3 _ _ _ _ hj))) (Q2 b2)).mono ?_;rintro e w1 ⟨rfl,J⟩;have c1:=J3 (J2 b1 J);have f1:=X9 (J2 b1 J))
      refine bodyPost_ret (v:=L4 (J1p (V9 (J1j bs k)) n % LL)) (by simp only[results,Tryz.results126];go_simp) rfl ⟨?_,?_⟩
      · rw[Z5e bs HB.out k n R]
      exact bz
    obtain⟨q,r,hr,rfl⟩:∃q r,r<8∧k=8*q+r:=⟨k / 8,k % 8,by omega,by omega⟩
    have hkl' :8*(q:Int)+(r:Int)<(len:Int):=by omega
    have cb:=(D.cell (p:=⟨b,off+(8*q+r),none⟩) hb).trans (HC.out (8*q+r) (by omega));have d1:IntKind.i64.wrap ((8*(q:Int)+(r:Int)).tdiv 8)=(q:Int):=by rw[Int.tdiv_eq_ediv_of_nonneg (by omega),IntWalk.i64_in _ (by omega)];omega
    have d2:(8*(q:Int)+(r:Int)).tmod 8=(r:Int):=by rw[Int.tmod_eq_emod_of_nonneg (by omega)];omega
    have d3:IntKind.i64.wrap (8*(r:Int))=8*(r:Int):=IntWalk.i64_in _ (by omega);have d4:IntKind.u64.wrap (bs (8*q+r))=bs (8*q+r):=by have:=HB.out (8*q+r);unfold J7m at this;rw[IntKind.wrap_u64];omega
    have V:(0:Int)≤(q:Int):=by omega
    have T:(q:Int)<(n:Int):=by have:=HN.out;omega
    have U:(0:Int)≤(r:Int):=by omega
    have Y:(r:Int)<8:=by omega
    have c2:=(J3 b2 q).trans (V3 _ _ _ _ (by omega));have f2:=X9 b2;have hs:=fun v=>J1n b2 q v;clear M;go_wp2
    go_region
    go_wp2;go_roundw
    case rel=>
      refine⟨8*q+r+1,by omega,by go_num,?_,J0i (K6 b1 (by omega) _ _),?_⟩
      · exact bz
      have:=hs (.int .u64 (bits .or .u64 (V9 (J1j bs (8*q+r)) q) (IntKind.wrap .u64 (bs (8*q+r)*2^(8*r)))));rw[Q3h bs HB.out n q r hr] at this;exact J0i this
    case measure=>simp[intOf];omega
end

section
set_option maxHeartbeats 4000000

def J0p (bs:Nat→Int):Nat→Int:=fun j=>if j=0 then bs 0-bs 0 % 8 else if j=31 then bs 31 % 64+64 else bs j
theorem Y5g (x:Int)(h:J7m x):bits .andNot .u8 x 7=x-x % 8:=by
  obtain⟨h0,h1⟩:=h;obtain⟨n,rfl⟩:=Int.eq_ofNat_of_zero_le h0;have D:∀n:Nat,n<256→bits .andNot .u8 (n:Int) 7=(n:Int)-(n:Int) % 8:=by decide+kernel
  exact D n (by omega)
theorem Z5f (x:Int)(h:J7m x):bits .or .u8 (bits .and .u8 x 63) 64=x % 64+64:=by
  obtain⟨h0,h1⟩:=h;obtain⟨n,rfl⟩:=Int.eq_ofNat_of_zero_le h0;have D:∀n:Nat,n<256→bits .or .u8 (bits .and .u8 (n:Int) 63) 64=(n:Int) % 64+64:=by decide+kernel
  exact D n (by omega)
theorem Z5g (bs:Nat→Int):((J1 .u8 32 bs).setIfInBounds 0 (.int .u8 (bs 0-bs 0 % 8))).setIfInBounds 31 (.int .u8 (bs 31 % 64+64))=J1 .u8 32 (J0p bs):=by
  rw[K3,K3];apply J07;intro j _;unfold upd J0p
  by_cases h:j=31
  · subst h;rfl
  by_cases h2:j=0
  · subst h2;rfl
  simp[h,h2]

theorem clamp_c (bs:Nat→Int)(hbs:∀j,J7m (bs j))(w:World):
  Calls Tryz.prog 90 #[.agg (J1 .u8 32 bs)] w fun e w' =>X5 (.agg (J1 .u8 32 (J0p bs))) w w' e:=by
 have a0:=Y5g (bs 0) (hbs 0);have a1:=Z5f (bs 31) (hbs 31);clear hbs
 go_enter Tryz.func90,Tryz.ntmps90
 go_upto_region 1 with fail;refine wn2 (c1:=(J1 .u8 32 bs)) (t1:=23) (c2:=(J1 .u8 32 (fun _=>0))) (t2:=23) fun W J b1 b2=> ?_;have c0:=(J3 b1 0).trans (V3 _ _ _ _ (by omega));have M:=(J3 b1 31).trans (V3 _ _ _ _ (by omega));have f1:=X9 b1;have hs:=J1n (J1n b1 0 (.int .u8 (bs 0-bs 0 % 8))) 31 (.int .u8 (bs 31 % 64+64));rw[Z5g] at hs;have G:=K6 (K6 b2 (show w.heap.size+1≠w.heap.size by omega) 0 (.int .u8 (bs 0-bs 0 % 8))) (show w.heap.size+1≠w.heap.size by omega) 31 (.int .u8 (bs 31 % 64+64));have HS:=Lib.hid hs;have D:=Lib.hid G;clear hs G
 go_wp2_with (first
  |(refine wpList_load_row rfl 23 (.tmp 1) rfl w.heap.size rfl _ _ _ _ HS.out Tryz.underlying23 rfl (by kernel_rfl) ?_)
  |(refine wpList_store_row rfl 23 (.tmp 2) (.tmp 12) rfl (w.heap.size+1) _ rfl rfl 23 _ D.out (by kernel_rfl) (by kernel_rfl) (Y6 _ _ _) ?_))
 refine bodyPost_ret (results_cell_row rfl _ _ (w.heap.size+1) _ _ _ _ rfl (V6 D.out _) Tryz.underlying23 rfl (by kernel_rfl)) rfl ⟨rfl,Y0 ?_ (by omega) _⟩;exact J3s (J3s J (by omega) _ _) (by omega) _ _
end
end Go.Proofs.YteehbddkcnkhfaaGreatDoor.S8.Sc

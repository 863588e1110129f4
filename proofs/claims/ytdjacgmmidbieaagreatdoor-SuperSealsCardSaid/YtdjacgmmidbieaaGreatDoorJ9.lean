/- Contracts and plain laws for superSeals_holds. Conditions: the tables hold their numbers. -/
import Derived.Test.YtdjacgmmidbieaaGreatDoorS8Ea
open Go renaming World->AA,bodyPost_ret->BH,Calls->BI,IntKind->AI
open Go.Lib renaming hid->BK
open _root_.List renaming mem_cons_self->BO,forall_mem_cons->BR,mem_cons->Ad
open _root_.Nat renaming mod_eq_of_lt->AL,le_refl->AM,mod_lt->AO,div_eq_of_lt->AR,mul_one->AS
open Go.RowKit
set_option maxRecDepth 100000
set_option linter.unusedSimpArgs false
set_option linter.unusedVariables false
namespace Go.Proofs.YtdjacgmmidbieaaGreatDoor.S8
section
set_option maxHeartbeats 4000000
attribute [local irreducible] wpList K1 wpX

def pw (A n:Nat):Nat:=A^n % PP
theorem Q6u (A:Nat):pw A 0=1:=by unfold pw;rw[Nat.pow_zero];rfl
theorem Q8r (A n:Nat):pw A n<J8:=J0i _
theorem Q6v (A n K:Nat)(h:n / 2^K % 2=0):pw A (n / 2^(K+1))*pw A (n / 2^(K+1)) % PP=pw A (n / 2^K):=by
 have e:n / 2^K=n / 2^(K+1)+n / 2^(K+1):=by rw[Nat.pow_succ,←Nat.div_div_eq_div_mul];omega
 unfold pw;rw[←Nat.mul_mod,←Nat.pow_add,←e]
theorem Q3c (A n K:Nat)(h:n / 2^K % 2=1):(pw A (n / 2^(K+1))*pw A (n / 2^(K+1)) % PP)*A % PP=pw A (n / 2^K):=by
 have e:n / 2^K=n / 2^(K+1)+n / 2^(K+1)+1:=by rw[Nat.pow_succ,←Nat.div_div_eq_div_mul];omega
 unfold pw;rw[←Nat.mul_mod,←Nat.pow_add,Nat.mod_mul_mod,←Nat.pow_succ,Nat.succ_eq_add_one,←e]
theorem Q1y (n q r:Nat)(hr:r<64):bits .and .u64 (K3 n q / 2^r) 1=((n / 2^(64*q+r) % 2:Nat):Int):=by
 obtain⟨l0,l1⟩:=J0l n q;obtain⟨X,hX⟩:=Int.eq_ofNat_of_zero_le l0;have hX' :X=n / 2^(64*q) % 18446744073709551616:=by unfold K3 at hX;omega
 rw[hX] at l1⊢;have e:((X:Int) / 2^r)=((X / 2^r:Nat):Int):=by push_cast;rfl
 have hl:X / 2^r≤X:=Nat.div_le_self _ _
 have e2:bits .and .u64 (((X / 2^r:Nat):Int)) ((1:Nat):Int)=((X / 2^r % 2:Nat):Int):=by
  rw[bits_and_u64_nat _ _ (by omega) (by omega),Nat.and_one_is_mod]
 rw[e];refine Eq.trans e2 ?_
 congr 1
 rw[hX',Nat.pow_add,←Nat.div_div_eq_div_mul];generalize n / 2^(64*q)=m;obtain⟨d,hd⟩:∃d,64=r+(1+d):=⟨64-r-1,by omega⟩
 rw[show(18446744073709551616:Nat)=2^r*2^(1+d) by rw[←Nat.pow_add,←hd],Nat.mod_mul_right_div_self,Nat.pow_add,Nat.pow_one,Nat.mod_mul_right_mod]

theorem Z8j (A n:Nat)(hA:A<J8)(hn:n<J8)(w:AA)(hG:GF w):
  BI Tryz.prog 137 #[L4 A,L4 n] w fun e w' =>V4 (L4 (pw A n)) w w' e:=by
 have hS:=SH.nil [] w
 go_enter Tryz.func137,Tryz.ntmps137
 go_upto_region 0 with fail;refine RL hS ?_;clear hS;refine MN (z:=c4 A) (t:=107) ?_;intro K9;refine MN (z:=c4 n) (t:=106) ?_;intro T;refine MN (z:=c4 0) (t:=107) ?_;intro S;refine MZ fun W hS=> ?_;go_upto_region 1 with fail;refine RL hS ?_;clear hS;refine MW ?_ (v:=.agg (c4 1)) (hv:=by intro W;kernel_rfl);refine MN (z:=c4 0) (t:=107) ?_;intro U;refine MR 0 ?_;refine MZ fun W hS=> ?_
 go_wp2_with fail
 go_loopw [6] (fun ii wr=> ∃(k:Nat)(R:Nat),(k≤256)∧(RowKit.Hid (R=pw A (n / 2^k)))∧(ii=.int .i64 ((k:Int)-1))∧SH [] w wr [.b U (c4 R) 107,.b S (c4 0) 107,.b T (c4 n) 106,.b K9 (c4 A) 107])
  (fun ii _=>(intOf ii+1).toNat)
 case atStart=>exact⟨256,1,AM _,BK (by rw[AR (show n<2^256 from hn),Q6u]),rfl,hS⟩
 clear hS
 case round=>
  obtain⟨k,R,hk,hR,rfl,hS⟩:=hrel;have bR:R<J8:=by rw[hR.out];exact Q8r _ _
  by_cases J:k=0
  ·
   subst J;go_upto_region 3 with fail;refine RL hS ?_;clear hS;refine MV ?_;refine Wfo ?_;refine MZ fun W hS=> ?_;go_upto_region 8 with fail;refine RL hS ?_;clear hS;refine ML 0 ?_;refine MR 1 ?_;refine MZ fun W hS=> ?_;go_wp2;exact BH (Z5 rfl rfl (hS.blk (i:=1) rfl) (by kernel_rfl) (by kernel_rfl)) rfl ⟨by rw[hR.out,Nat.pow_zero,Nat.div_one];rfl,hS.ext⟩
  obtain⟨q,r,hr,rfl⟩:∃q r,r<64∧k=64*q+r+1:=⟨(k-1) / 64,(k-1) % 64,by omega,by omega⟩
  rw[show((64*q+r+1:Nat):Int)-1=64*(q:Int)+(r:Int) by omega];have d1:(64*(q:Int)+(r:Int)) / 64=(q:Int):=by omega
  have d2:(64*(q:Int)+(r:Int)) % 64=(r:Int):=by omega
  have Y:(q:Int)<4:=by omega
  have Z:(r:Int)<64:=by omega
  have α:(0:Int)≤64*(q:Int)+(r:Int):=by omega
  go_upto_region 3 with fail;refine RL hS ?_;clear hS;refine MV ?_;refine Wto ?_;refine MZ fun W hS=> ?_;go_upto_region 5 with fail;refine RL hS ?_;clear hS;refine ML 0 ?_;refine ML 0 ?_;obtain⟨U1,G⟩:=exh (R*R % PP);have V:U1<J8:=by rw[G.out];exact J0i _
  refine MC (v:=.agg (c4 U1)) (fun W hS=>(by rw[G.out];exact J08 R R bR bR W (K7 hG hS.ext))) ?_;refine MR 0 ?_;refine MZ fun W hS=> ?_;rcases Nat.mod_two_eq_zero_or_one (n / 2^(64*q+r)) with D|D
  ·
   have c3:=(J5 (hS.blk (i:=2) rfl) q).trans (J3b n q (by omega));have HB:=BK D;have N:=Q1y n q r hr;rw[D] at N;go_wp2;go_roundw
   case rel=>exact⟨(64*q+r),U1,by omega,BK (by rw[G.out,hR.out];exact Q6v A n _ HB.out),by go_num,hS⟩
   case measure=>simp[intOf];omega
  have c3:=(J5 (hS.blk (i:=2) rfl) q).trans (J3b n q (by omega));have HB:=BK D;have N:=Q1y n q r hr;rw[D] at N;go_upto_region 7 with fail;refine RL hS ?_;clear hS;refine ML 0 ?_;refine ML 3 ?_;obtain⟨U2,M⟩:=exh (U1*A % PP);have X:U2<J8:=by rw[M.out];exact J0i _
  refine MC (v:=.agg (c4 U2)) (fun W hS=>(by rw[M.out];exact J08 U1 A V hA W (K7 hG hS.ext))) ?_;refine MR 0 ?_;refine MZ fun W hS=> ?_;go_wp2;go_roundw
  case rel=>exact⟨(64*q+r),U2,by omega,BK (by rw[M.out,G.out,hR.out];exact Q3c A n _ HB.out),by go_num,hS⟩
  case measure=>simp[intOf];omega
theorem J7p (A B:Nat)(hA:A<J8)(hB:B<J8)(w:AA)(hG:GF w):
  BI Tryz.prog 128 #[L4 A,L4 B] w fun e w' =>V4 (L4 ((A+(PP-B % PP)) % PP)) w w' e:=by
 have hS:=SH.nil [] w
 go_enter Tryz.func128,Tryz.ntmps128
 go_upto_region 0 with fail;refine RL hS ?_;clear hS;refine MN (z:=c4 A) (t:=107) ?_;intro K9;refine MN (z:=c4 B) (t:=107) ?_;intro M;refine MN (z:=c4 0) (t:=107) ?_;intro R;refine MZ fun W hS=> ?_;go_upto_region 1 with fail;refine RX 4 hS ?_;clear hS;refine ML 2 ?_;refine ML 1 ?_;obtain⟨U1,G⟩:=exh ((PP-B % PP) % PP);have J:U1<J8:=by rw[G.out];exact J0i _
 refine MC (v:=.agg (c4 U1)) (fun W hS=>(by rw[G.out];exact J97 B hB W (K7 hG hS.ext))) ?_;obtain⟨U2,D⟩:=exh ((A+U1) % PP);have N:U2<J8:=by rw[D.out];exact J0i _
 refine MC (v:=.agg (c4 U2)) (fun W hS=>(by rw[D.out];exact J4p A U1 hA J W (K7 hG hS.ext))) ?_;refine MZt ?_;refine MR 0 ?_;refine MZn fun W hS=> ?_;go_wp2;exact BH (Z5 rfl rfl (hS.blk (i:=0) rfl) (by kernel_rfl) (by kernel_rfl)) rfl ⟨by rw[D.out,G.out,Nat.add_mod_mod];rfl,hS.ext⟩
theorem Y9f (A:Nat)(hA:A<J8)(w:AA)(hG:GF w):
  BI Tryz.prog 104 #[L4 A] w fun e w' =>V4 (L4 (pw A (PP-2))) w w' e:=by
 have hS:=SH.nil [] w
 go_enter Tryz.func104,Tryz.ntmps104
 go_upto_region 0 with fail;refine RL hS ?_;clear hS;refine MN (z:=c4 A) (t:=107) ?_;intro J;refine MN (z:=c4 0) (t:=107) ?_;intro M;refine MZ fun W hS=> ?_;go_upto_region 1 with fail;refine RL hS ?_;clear hS;refine ML 1 ?_;refine MW ?_ (v:=.agg (c4 (PP-2))) (hv:=by intro W;kernel_rfl);obtain⟨U1,D⟩:=exh (pw A (PP-2));have G:U1<J8:=by rw[D.out];exact Q8r _ _
 refine MC (v:=.agg (c4 U1)) (fun W hS=>(by rw[D.out];exact Z8j A (PP-2) hA (by decide) W (K7 hG hS.ext))) ?_;refine MR 0 ?_;refine MZ fun W hS=> ?_;go_wp2;exact BH (Z5 rfl rfl (hS.blk (i:=0) rfl) (by kernel_rfl) (by kernel_rfl)) rfl ⟨by rw[D.out];rfl,hS.ext⟩
end

section
set_option maxHeartbeats 4000000

def II:Nat:=19681161376707505956807079304988542015446066515923890162744021073123829784752
theorem V3t:II<J8:=by decide+kernel
theorem Z2y (A B:Nat)(hA:A<J8)(hB:B<J8)(h:∀i,i<4→K3 A i=K3 B i):A=B:=by
 rw[←J16 A hA,←J16 B hB,h 0 (by omega),h 1 (by omega),h 2 (by omega),h 3 (by omega)]
theorem Y9g (A B:Nat)(hA:A<J8)(hB:B<J8)(w:AA):(Op.equalIn 10000 107 (.agg (c4 A)) (.agg (c4 B))).run Tryz.prog w=.ok (decide (A=B)) w:=by
 have h:=J13 (P:=Tryz.prog) w 9998 107 105 4 .u64 (c4 A) (c4 B) (K3 A) (K3 B) Tryz.underlying107 Tryz.underlying105 (by kernel_rfl) (fun i hi=>J3b A i hi) (fun i hi=>J3b B i hi);rw[h]
 congr 1
 rw[Bool.eq_iff_iff,J2w,decide_eq_true_iff];exact⟨Z2y A B hA hB,fun e i _=>by rw[e]⟩
theorem Z2z (X:Nat):bits .and .u64 (K3 X 0) 1=((X % 2:Nat):Int):=by
 have:=Q1y X 0 0 (by omega)
 simpa using this

theorem J8c (A B:Nat)(hA:A<J8)(hB:B<J8)(w:AA)(hG:GF w):
  BI Tryz.prog 131 #[L4 A,L4 B] w fun e w' =>V4 (.bool (decide (A % PP=B % PP))) w w' e:=by
 have hS:=SH.nil [] w
 go_enter Tryz.func131,Tryz.ntmps131
 go_upto_region 0 with fail;refine RL hS ?_;clear hS;refine MN (z:=c4 A) (t:=107) ?_;intro K9;refine MN (z:=c4 B) (t:=107) ?_;intro N;refine Wf ?_;refine MZ fun W hS=> ?_;go_upto_region 1 with fail;refine RS hS ?_;clear hS;refine ML 1 ?_;obtain⟨U1,G⟩:=exh (A % PP);have J:U1<J8:=by rw[G.out];exact J0i _
 refine MC (v:=.agg (c4 U1)) (fun W hS=>(by rw[G.out];exact J5t A hA W (K7 hG hS.ext))) ?_;refine ML 0 ?_;obtain⟨U2,D⟩:=exh (B % PP);have M:U2<J8:=by rw[D.out];exact J0i _
 refine MC (v:=.agg (c4 U2)) (fun W hS=>(by rw[D.out];exact J5t B hB W (K7 hG hS.ext))) ?_;refine MW ?_ (v:=.bool (decide (U1=U2))) (hv:=fun _=>J62 ((fun w=>Y9g U1 U2 J M w) _) (by kernel_rfl) rfl rfl rfl);refine MW ?_ (v:=.bool (decide (U1=U2)));refine MZx fun W hS=> ?_;go_wp2;exact BH (v:=.bool (decide (U1=U2))) (by simp only[results,Tryz.results131];go_simp) rfl ⟨by rw[G.out,D.out],hS.ext⟩
theorem Z30 {W:AA}{o:Oper}{a:Act}{x y:Operand}{X i:Nat}(hi:i<4)(ho:o.op=.index 107 x y)(hx:a.eval x=.agg (c4 X))(hy:a.eval y=.int .i64 (i:Int)):(execOp a.eval o).run Tryz.prog W=.ok (.value (.int .u64 (K3 X i))) W:=by
 have h:=J1l W 107 105 4 .u64 .i64 (c4 X) i (K3 X i) Tryz.underlying107 Tryz.underlying105 (by kernel_rfl) (by omega) (J3b X i hi);simp[execOp,ho,hx,hy,Sem.run_bind,h]
theorem Z0t (A:Nat)(hA:A<J8)(w:AA)(hG:GF w):
  BI Tryz.prog 107 #[L4 A] w fun e w' =>V4 (.bool (decide (A % PP % 2=1))) w w' e:=by
 have hS:=SH.nil [] w
 go_enter Tryz.func107,Tryz.ntmps107
 go_upto_region 0 with fail;refine RL hS ?_;clear hS;refine MN (z:=c4 A) (t:=107) ?_;intro M;refine Wf ?_;refine MZ fun W hS=> ?_
 by_cases ho:A % PP % 2=1
 ·
  go_upto_region 1 with fail;refine RL hS ?_;clear hS;refine ML 0 ?_;obtain⟨U1,D⟩:=exh (A % PP);have J:U1<J8:=by rw[D.out];exact J0i _
  refine MC (v:=.agg (c4 U1)) (fun W hS=>(by rw[D.out];exact J5t A hA W (K7 hG hS.ext))) ?_;have G:=BK (show U1 % 2=1 by rw[D.out];omega);refine MW ?_ (v:=.int .u64 (K3 U1 0)) (hv:=by intro W;exact Z30 (i:=0) (by decide) rfl rfl rfl);refine MW ?_ (v:=.int .u64 ((U1 % 2:Nat):Int)) (hv:=by intro W;rw[←Z2z];first|rfl|(go_simp;done)|(go_simp;rfl));refine MW ?_ (v:=.bool true) (hv:=by intro W;have h_:=G.out;go_simp<;>omega);refine Wt ?_;refine MZ fun W hS=> ?_;go_wp2;exact BH (v:=.bool true) (by simp only[results,Tryz.results107];go_simp) rfl ⟨by rw[decide_eq_true ho],hS.ext⟩
 go_upto_region 1 with fail;refine RL hS ?_;clear hS;refine ML 0 ?_;obtain⟨U1,D⟩:=exh (A % PP);have J:U1<J8:=by rw[D.out];exact J0i _
 refine MC (v:=.agg (c4 U1)) (fun W hS=>(by rw[D.out];exact J5t A hA W (K7 hG hS.ext))) ?_;have G:=BK (show U1 % 2=0 by rw[D.out];omega);refine MW ?_ (v:=.int .u64 (K3 U1 0)) (hv:=by intro W;exact Z30 (i:=0) (by decide) rfl rfl rfl);refine MW ?_ (v:=.int .u64 ((U1 % 2:Nat):Int)) (hv:=by intro W;rw[←Z2z];first|rfl|(go_simp;done)|(go_simp;rfl));refine MW ?_ (v:=.bool false) (hv:=by intro W;have h_:=G.out;go_simp<;>omega);refine Wf ?_;refine MZ fun W hS=> ?_;go_wp2;exact BH (v:=.bool false) (by simp only[results,Tryz.results107];go_simp) rfl ⟨by rw[decide_eq_false ho],hS.ext⟩
def v3 (v:Nat):Nat:=v*v % PP*v % PP
def v7 (v:Nat):Nat:=v3 v*v3 v % PP*v % PP
def rtX (u v:Nat):Nat:=u*v3 v % PP*pw (u*v7 v % PP) 7237005577332262213973186563042994240829374041602535252466099000494570602493 % PP
def rtW (u v:Nat):Nat:=v*(rtX u v*rtX u v % PP) % PP
def rtR (u v:Nat):Nat:=if rtW u v=u % PP then rtX u v else if rtW u v=(PP-u % PP) % PP then rtX u v*II % PP else 0
def rtB (u v:Nat):Bool:=decide (rtW u v=u % PP) ||decide (rtW u v=(PP-u % PP) % PP)
theorem Q1z (u v:Nat):rtW u v % PP=rtW u v:=by unfold rtW;exact Nat.mod_mod _ _
theorem V3u {u v:Nat}(h:rtW u v=u % PP):rtR u v=rtX u v∧rtB u v=true:=by unfold rtR rtB;rw[if_pos h,decide_eq_true h,Bool.true_or];exact⟨rfl,rfl⟩
theorem V3v {u v:Nat}(h:¬rtW u v=u % PP)(h2:rtW u v=(PP-u % PP) % PP):rtR u v=rtX u v*II % PP∧rtB u v=true:=by unfold rtR rtB;rw[if_neg h,if_pos h2,decide_eq_true h2,Bool.or_true];exact⟨rfl,rfl⟩
theorem V3w {u v:Nat}(h:¬rtW u v=u % PP)(h2:¬rtW u v=(PP-u % PP) % PP):rtR u v=0∧rtB u v=false:=by unfold rtR rtB;rw[if_neg h,if_neg h2,decide_eq_false h,decide_eq_false h2];exact⟨rfl,rfl⟩

theorem Z32 (A B:Nat)(hA:A<J8)(hB:B<J8)(w:AA)(hG:GF w)(hI:GI w):
  BI Tryz.prog 127 #[L4 A,L4 B] w fun e w' =>V4 (.tuple #[L4 (rtR A B),.bool (rtB A B)]) w w' e:=by
 have hS:=SH.nil [] w
 go_enter Tryz.func127,Tryz.ntmps127
 go_upto_region 0 with fail;refine RL hS ?_;clear hS;refine MN (z:=c4 A) (t:=107) ?_;intro K9;refine MN (z:=c4 B) (t:=107) ?_;intro φ;refine MN (z:=c4 0) (t:=107) ?_;intro τ;refine Wf ?_;refine MZ fun W hS=> ?_;go_upto_region 1 with fail;refine RXn 5 [⟨5,6,c4 0,107⟩] hS ?_ (by simp only[BR];exact⟨⟨_,rfl,rfl,rfl,fun _ _=>by kernel_rfl⟩,fun _ h=>by cases h⟩);clear hS;refine ML 1 ?_;refine ML 1 ?_;obtain⟨U1,N⟩:=exh (B*B % PP);have μ:U1<J8:=by rw[N.out];exact J0i _
 refine MC (v:=.agg (c4 U1)) (fun W hS=>(by rw[N.out];exact J08 B B hB hB W (K7 hG hS.ext))) ?_;refine ML 1 ?_;obtain⟨U2,R⟩:=exh (U1*B % PP);have γ:U2<J8:=by rw[R.out];exact J0i _
 refine MC (v:=.agg (c4 U2)) (fun W hS=>(by rw[R.out];exact J08 U1 B μ hB W (K7 hG hS.ext))) ?_;refine MZB fun χ=> ?_;refine MR 0 ?_;refine MZn fun W hS=> ?_;go_upto_region 2 with fail;refine RXn 5 [⟨5,7,c4 0,107⟩] hS ?_ (by simp only[BR];exact⟨⟨_,rfl,rfl,rfl,fun _ _=>by kernel_rfl⟩,fun _ h=>by cases h⟩);clear hS;refine ML 0 ?_;refine ML 0 ?_;obtain⟨U3,Y⟩:=exh (U2*U2 % PP);have ρ:U3<J8:=by rw[Y.out];exact J0i _
 refine MC (v:=.agg (c4 U3)) (fun W hS=>(by rw[Y.out];exact J08 U2 U2 γ γ W (K7 hG hS.ext))) ?_;refine ML 2 ?_;obtain⟨U4,V⟩:=exh (U3*B % PP);have κ:U4<J8:=by rw[V.out];exact J0i _
 refine MC (v:=.agg (c4 U4)) (fun W hS=>(by rw[V.out];exact J08 U3 B ρ hB W (K7 hG hS.ext))) ?_;refine MZB fun ω=> ?_;refine MR 0 ?_;refine MZn fun W hS=> ?_;go_upto_region 3 with fail;refine RXn 9 [⟨9,8,c4 0,107⟩] hS ?_ (by simp only[BR];exact⟨⟨_,rfl,rfl,rfl,fun _ _=>by kernel_rfl⟩,fun _ h=>by cases h⟩);clear hS;refine ML 4 ?_;refine ML 1 ?_;obtain⟨U5,U⟩:=exh (A*U2 % PP);have ξ:U5<J8:=by rw[U.out];exact J0i _
 refine MC (v:=.agg (c4 U5)) (fun W hS=>(by rw[U.out];exact J08 A U2 hA γ W (K7 hG hS.ext))) ?_;refine ML 4 ?_;refine ML 0 ?_;obtain⟨U6,X⟩:=exh (A*U4 % PP);have η:U6<J8:=by rw[X.out];exact J0i _
 refine MC (v:=.agg (c4 U6)) (fun W hS=>(by rw[X.out];exact J08 A U4 hA κ W (K7 hG hS.ext))) ?_;refine MW ?_ (v:=.agg (c4 7237005577332262213973186563042994240829374041602535252466099000494570602493)) (hv:=by intro W;kernel_rfl);obtain⟨U7,T⟩:=exh (pw U6 7237005577332262213973186563042994240829374041602535252466099000494570602493);have ν:U7<J8:=by rw[T.out];exact Q8r _ _
 refine MC (v:=.agg (c4 U7)) (fun W hS=>(by rw[T.out];exact Z8j U6 7237005577332262213973186563042994240829374041602535252466099000494570602493 η (by decide) W (K7 hG hS.ext))) ?_;obtain⟨U8,S⟩:=exh (U5*U7 % PP);have δ:U8<J8:=by rw[S.out];exact J0i _
 refine MC (v:=.agg (c4 U8)) (fun W hS=>(by rw[S.out];exact J08 U5 U7 ξ ν W (K7 hG hS.ext))) ?_;refine MZB fun ψ=> ?_;refine MR 0 ?_;refine MZn fun W hS=> ?_;go_upto_region 4 with fail;refine RXn 5 [⟨5,9,c4 0,107⟩] hS ?_ (by simp only[BR];exact⟨⟨_,rfl,rfl,rfl,fun _ _=>by kernel_rfl⟩,fun _ h=>by cases h⟩);clear hS;refine ML 4 ?_;refine ML 0 ?_;refine ML 0 ?_;obtain⟨U9,ε⟩:=exh (U8*U8 % PP);have θ:U9<J8:=by rw[ε.out];exact J0i _
 refine MC (v:=.agg (c4 U9)) (fun W hS=>(by rw[ε.out];exact J08 U8 U8 δ δ W (K7 hG hS.ext))) ?_;obtain⟨D,Z⟩:=exh (B*U9 % PP);have M:D<J8:=by rw[Z.out];exact J0i _
 refine MC (v:=.agg (c4 D)) (fun W hS=>(by rw[Z.out];exact J08 B U9 hB θ W (K7 hG hS.ext))) ?_;refine MZB fun Γ=> ?_;refine MR 0 ?_;refine MZn fun W hS=> ?_;have HW:=BK (show D=rtW A B by rw[Z.out,ε.out,S.out,T.out,X.out,U.out,V.out,Y.out,R.out,N.out];rfl)
 by_cases h1:rtW A B=A % PP
 ·
  go_upto_region 5 with fail;refine RL hS ?_;clear hS;refine ML 0 ?_;refine ML 6 ?_;refine MC (v:=.bool true) (fun W hS=>(by have h_:=J8c D A M hA W (K7 hG hS.ext);rw[show decide (D % PP=A % PP)=true from by rw[HW.out,Q1z,decide_eq_true h1]] at h_;exact h_)) ?_;refine Wt ?_;refine MZ fun W hS=> ?_;go_upto_region 6 with fail;refine RL hS ?_;clear hS;refine ML 1 ?_;refine MR 4 ?_;refine Wt ?_;refine MZ fun W hS=> ?_;go_wp2;exact BH (J23 rfl rfl rfl (hS.blk (i:=4) rfl) (by kernel_rfl) (by kernel_rfl)) rfl ⟨by rw[(V3u h1).1,(V3u h1).2,show rtX A B=U8 from by rw[S.out,T.out,X.out,U.out,V.out,Y.out,R.out,N.out];rfl];rfl,hS.ext⟩
 go_upto_region 5 with fail;refine RL hS ?_;clear hS;refine ML 0 ?_;refine ML 6 ?_;refine MC (v:=.bool false) (fun W hS=>(by have h_:=J8c D A M hA W (K7 hG hS.ext);rw[show decide (D % PP=A % PP)=false from by rw[HW.out,Q1z,decide_eq_false h1]] at h_;exact h_)) ?_;refine Wf ?_;refine MZ fun W hS=> ?_
 by_cases h2:rtW A B=(PP-A % PP) % PP
 ·
  go_upto_region 7 with fail;refine RS hS ?_;clear hS;refine ML 0 ?_;refine ML 6 ?_;obtain⟨J,G⟩:=exh ((PP-A % PP) % PP);have α:J<J8:=by rw[G.out];exact J0i _
  refine MC (v:=.agg (c4 J)) (fun W hS=>(by rw[G.out];exact J97 A hA W (K7 hG hS.ext))) ?_;refine MC (v:=.bool true) (fun W hS=>(by have h_:=J8c D J M α W (K7 hG hS.ext);rw[show decide (D % PP=J % PP)=true from by rw[HW.out,Q1z,G.out,Nat.mod_mod,decide_eq_true h2]] at h_;exact h_)) ?_;refine Wt ?_;refine MZx fun W hS=> ?_;go_upto_region 8 with fail;refine RL hS ?_;clear hS;refine ML 1 ?_;refine MF (v:=.agg (c4 II)) (fun W hS=>J0a rfl rfl ((Rd.ext hI hS.ext)) (by kernel_rfl) (by kernel_rfl)) ?_;obtain⟨ζ,β⟩:=exh (U8*II % PP);have σ:ζ<J8:=by rw[β.out];exact J0i _
  refine MC (v:=.agg (c4 ζ)) (fun W hS=>(by rw[β.out];exact J08 U8 II δ V3t W (K7 hG hS.ext))) ?_;refine MR 4 ?_;refine Wt ?_;refine MZ fun W hS=> ?_;go_wp2;exact BH (J23 rfl rfl rfl (hS.blk (i:=4) rfl) (by kernel_rfl) (by kernel_rfl)) rfl ⟨by rw[(V3v h1 h2).1,(V3v h1 h2).2,show rtX A B=U8 from by rw[S.out,T.out,X.out,U.out,V.out,Y.out,R.out,N.out];rfl,←β.out];rfl,hS.ext⟩
 go_upto_region 7 with fail;refine RS hS ?_;clear hS;refine ML 0 ?_;refine ML 6 ?_;obtain⟨J,G⟩:=exh ((PP-A % PP) % PP);have α:J<J8:=by rw[G.out];exact J0i _
 refine MC (v:=.agg (c4 J)) (fun W hS=>(by rw[G.out];exact J97 A hA W (K7 hG hS.ext))) ?_;refine MC (v:=.bool false) (fun W hS=>(by have h_:=J8c D J M α W (K7 hG hS.ext);rw[show decide (D % PP=J % PP)=false from by rw[HW.out,Q1z,G.out,Nat.mod_mod,decide_eq_false h2]] at h_;exact h_)) ?_;refine Wf ?_;refine MZx fun W hS=> ?_;go_upto_region 9 with fail;refine RL hS ?_;clear hS;refine MW ?_ (v:=.agg (c4 0)) (hv:=by intro W;kernel_rfl);refine MR 4 ?_;refine Wf ?_;refine MZ fun W hS=> ?_;go_wp2;exact BH (J23 rfl rfl rfl (hS.blk (i:=4) rfl) (by kernel_rfl) (by kernel_rfl)) rfl ⟨by rw[(V3w h1 h2).1,(V3w h1 h2).2];rfl,hS.ext⟩
end

section
set_option maxHeartbeats 4000000

theorem Q3d (V:Nat):c4 V=J0 .u64 4 (K3 V):=rfl
theorem Z5c (N k q r:Nat)(hr:r<8)(hk:k=8*q+r):(J0 .u8 32 fun j=>if j<k then J6 N j else 0).setIfInBounds k (.int .u8 (K3 N q / 2^(8*r) % 256))=J0 .u8 32 fun j=>if j<k+1 then J6 N j else 0:=by
 subst hk;rw[Y9];apply K6;intro j hj;have D:=Z27 N (8*q+r);rw[show(8*q+r) / 8=q by omega,show(8*q+r) % 8=r by omega] at D;unfold upd;rw[D];dsimp only
 by_cases h1:j=8*q+r
 ·
  subst h1;rw[if_pos (by omega),if_pos (by omega)]
 rw[if_neg h1]
 by_cases h2:j<8*q+r
 ·
  rw[if_pos h2,if_pos (by omega)]
 rw[if_neg h2,if_neg (by omega)]
theorem Q01 (bs:Nat→Int)(h:∀j,J4v (bs j))(n q r:Nat)(hr:r<8):
  (J0 .u64 n (K3 (J0t bs (8*q+r)))).setIfInBounds q (.int .u64 (bits .or .u64 (K3 (J0t bs (8*q+r)) q) (AI.wrap .u64 (bs (8*q+r)*2^(8*r)))))=J0 .u64 n (K3 (J0t bs (8*q+r+1))):=by
 rw[Z29 bs h q r hr,Y9];apply K6;intro j _
 by_cases hj:j=q
 ·
  subst hj;rw[J21]
 rw[J0h _ _ _ _ hj,J7c bs h (8*q+r) j (by omega)]
theorem Y3b (V:Nat):bits .and .u64 (K3 V 3) 9223372036854775807=K3 (V % 2^255) 3:=by
 obtain⟨l0,l1⟩:=J0l V 3;obtain⟨X,hX⟩:=Int.eq_ofNat_of_zero_le l0
 have e2:bits .and .u64 ((X:Nat):Int) ((9223372036854775807:Nat):Int)=((X % 9223372036854775808:Nat):Int):=by
  rw[bits_and_u64_nat _ _ (by omega) (by omega),show(9223372036854775807:Nat)=2^63-1 by decide,Nat.and_two_pow_sub_one_eq_mod]
 rw[hX];refine Eq.trans e2 ?_;unfold K3 at hX⊢;simp only[Nat.reduceMul,Nat.reducePow] at*;omega
theorem Z8k (V:Nat):(c4 V).setIfInBounds 3 (.int .u64 (bits .and .u64 (K3 V 3) 9223372036854775807))=c4 (V % 2^255):=by
 rw[Y3b,Q3d,Q3d,Y9];apply K6;intro j hj
 by_cases h3:j=3
 ·
  subst h3;rw[J21]
 rw[J0h _ _ _ _ h3];have:j=0∨j=1∨j=2:=by omega
 unfold K3;rcases this with rfl|rfl|rfl<;>simp only[Nat.reduceMul,Nat.reducePow]<;>omega

theorem Q3e (A:Nat)(hA:A<J8)(w:AA)(hG:GF w):
  BI Tryz.prog 105 #[L4 A] w fun e w' =>V4 (.agg (J0 .u8 32 (J6 (A % PP)))) w w' e:=by
 go_enter Tryz.func105,Tryz.ntmps105
 go_upto_region 1 with fail;refine wn2 (c1:=(c4 A)) (t1:=107) (c2:=(J0 .u8 32 (fun _=>0))) (t2:=22) fun W0 G V7 D=> ?_;have γ:=Q3 V7;have Y:=Q3 D;have gf:=K7 hG G;have gm:=gf.1;have gi:=gf.2;have S:=J5t A hA;obtain⟨X1,N⟩:=exn (A % PP);rw[←N] at S;have κ:=Z0r N;have δ:=BK N;clear N;refine Px 2 ?_;refine XL ?_;refine Xf ?_ (fun W hW=>S W (K7 gf hW));refine J0o fun W1 hE=> ?_;refine LS ?_ (J3 V7 hE) (g:=w.heap.size) (cells:=c4 X1);refine V5 ?_;have hF:Below w.heap.size w (W1.setRow w.heap.size (c4 X1))∧Blk (W1.setRow w.heap.size (c4 X1)) w.heap.size (c4 X1) 107∧Blk (W1.setRow w.heap.size (c4 X1)) (w.heap.size+1) (J0 .u8 32 (fun _=>0)) 22:=⟨(K0 (K5 G hE G.size) (by omega) _),(X6 (J3 V7 hE) (c4 X1)),(Y6 (J3 D hE) (by omega) _)⟩
 generalize (W1.setRow w.heap.size (c4 X1))=W2 at hF⊢;clear G V7 D;obtain⟨G,V7,D⟩:=hF;go_upto_region 2 with fail;have V:=Q3 V7;have Z:=Q3 D;have gf:=K7 hG G;have gm:=gf.1;have gi:=gf.2;refine J6g 0 [⟨0,3,J0 .u8 32 (fun _=>0),22⟩] ?_ (by kernel_rfl) ?_
 ·
  intro x hx;simp only[Ad,List.not_mem_nil,or_false] at hx;subst hx;exact⟨_,rfl,rfl,rfl,fun _ _=>by kernel_rfl⟩
 simp only[List.take_succ_cons,List.take_zero,List.take_nil]
 (try simp only[Act.put,mA,mB,mC])
 refine J0o ?_;intro β W3 hE hN hD;obtain⟨R,J⟩:=hN _ (BO ..);simp only[J0j,Act.put,mA,mB,mC,List.drop_succ_cons,List.drop_zero,List.drop_nil,List.length_cons,List.length_nil] at R J⊢;generalize β 0=Y36 at*;have ε:=G.size;clear hN hD β;refine V5 ?_;have hF:Below w.heap.size w W3∧Blk W3 w.heap.size (c4 X1) 107∧Blk W3 (w.heap.size+1) (J0 .u8 32 (fun _=>0)) 22∧Blk W3 Y36 (J0 .u8 32 (fun _=>0)) 22:=⟨(K5 G hE G.size),(J3 V7 hE),(J3 D hE),J⟩
 clear G V7 D J;obtain⟨G,V7,D,J⟩:=hF;have α:=Q3 J
 go_wp2_with fail
 go_loopw [7] (fun ii wr=> ∃(k:Nat),k≤32∧ii=.int .i64 k∧Below w.heap.size w wr∧Blk wr w.heap.size (c4 X1) 107∧Blk wr (w.heap.size+1) (J0 .u8 32 (fun _=>0)) 22∧Blk wr Y36 (J0 .u8 32 (fun j=>if j<k then J6 X1 j else 0)) 22)
  (fun ii _=>(32-intOf ii).toNat)
 case atStart=>
  exact⟨0,by omega,rfl,G,V7,D,J⟩
 case round=>
  obtain⟨k,hk,rfl,G,V7,D,J⟩:=hrel
  by_cases M:k=32
  ·
   have θ:=M;subst M;go_upto_region 8 with fail;have U:=Q3 V7;have T:=Q3 D;have X:=Q3 J;have gf:=K7 hG G;have gm:=gf.1;have gi:=gf.2;refine Px 1 ?_;refine XL ?_;refine J0o fun W5 hE=> ?_;refine Lp ?_ (J3 D hE) (cells:=J0 .u8 32 (fun j=>if j<32 then J6 X1 j else 0)) (h1:=(Z8 _ _ _));intro W6 hO h_;refine V5 ?_;replace V7:=ko V7 hE hO (by omega);replace D:=h_;replace J:=ko J hE hO (by omega);replace G:=bwo G hE hO G.size (by omega);clear hO h_;go_wp2;refine BH (Z5 rfl rfl D (by kernel_rfl) (by kernel_rfl)) rfl ⟨?_,G⟩;rw[K6 _ _ _ (J6 X1) (fun i hi=>if_pos hi),δ.out]
  obtain⟨q,r,hr,rfl⟩:∃q r,r<8∧k=8*q+r:=⟨k / 8,k % 8,by omega,by omega⟩
  have d1:(8*(q:Int)+(r:Int)) / 8=(q:Int):=by omega
  have d2:(8*(q:Int)+(r:Int)) % 8=(r:Int):=by omega
  have ζ:(q:Int)<4:=by omega
  have η:(r:Int)<8:=by omega
  clear M;have c0:=(J5 V7 q).trans (J3b X1 q (by omega));have c3:=J5 J (8*q+r);rw[Q6 _ _ _ _ (by omega)] at c3;have f3:=V3 J;go_wp2;have hs:=Z7 J (8*q+r) (.int .u8 (K3 X1 q / 2^(8*r) % 256));rw[Z5c X1 (8*q+r) q r hr rfl] at hs;go_roundw
  case rel=>exact⟨8*q+r+1,by omega,by go_num,Z0 G (by omega) _ _,J4 V7 (by omega) _ _,J4 D (by omega) _ _,hs⟩
  case measure=>simp[intOf];omega
theorem Y6s (bs:Nat→Int)(hbs:∀j,J4v (bs j))(w:AA)(hG:GF w):
  BI Tryz.prog 126 #[.agg (J0 .u8 32 bs)] w fun e w' =>V4 (L4 (J0t bs 32 % 2^255 % PP)) w w' e:=by
 go_enter Tryz.func126,Tryz.ntmps126
 go_upto_region 2 with fail;refine wn3 (c1:=(J0 .u8 32 bs)) (t1:=22) (c2:= #[.int .u64 0,.int .u64 0,.int .u64 0,.int .u64 0]) (t2:=107) (c3:= #[.int .u64 0,.int .u64 0,.int .u64 0,.int .u64 0]) (t3:=107) fun W0 J V7 G D=> ?_;have β:=Q3 V7;have Z:=Q3 G;have T:=Q3 D;have gf:=K7 hG J;have gm:=gf.1;have gi:=gf.2;refine Px 2 ?_;refine XL ?_;refine Xv ?_;refine J0o fun W1 hE=> ?_;refine V5 ?_;replace V7:=J3 V7 hE;replace G:=J3 G hE;replace D:=J3 D hE;replace J:=K5 J hE J.size;have Y:=Q3 V7;have X:=Q3 G;have S:=Q3 D;have HB:=BK hbs;clear hbs
 go_wp2_with fail
 go_loopw [7] (fun ii wr=> ∃(k:Nat),k≤32∧ii=.int .i64 k∧Below w.heap.size w wr∧Blk wr w.heap.size (J0 .u8 32 bs) 22∧Blk wr (w.heap.size+1) #[.int .u64 0,.int .u64 0,.int .u64 0,.int .u64 0] 107∧Blk wr (w.heap.size+2) (J0 .u64 4 (K3 (J0t bs k))) 107)
  (fun ii _=>(32-intOf ii).toNat)
 case atStart=>
  refine⟨0,by omega,rfl,?_⟩;rw[show J0 .u64 4 (K3 (J0t bs 0))= #[.int .u64 0,.int .u64 0,.int .u64 0,.int .u64 0] by kernel_rfl];exact⟨J,V7,G,D⟩
 case round=>
  obtain⟨k,hk,rfl,J,V7,G,D⟩:=hrel
  by_cases M:k=32
  ·
   have θ:=M;subst M;obtain⟨V,hV⟩:=exn (J0t bs 32);rw[←hV,←Q3d] at D;have HV:=BK hV;clear hV;have c3:=(J5 D 3).trans (J3b V 3 (by omega));have f3:=V3 D;go_upto_region 8 with fail;have hs:=Z7 D 3 (.int .u64 (bits .and .u64 (K3 V 3) 9223372036854775807));rw[Z8k] at hs;have hF:=And.intro (Z0 J (show w.heap.size≤(w.heap.size+2) by omega) 3 (.int .u64 (bits .and .u64 (K3 V 3) 9223372036854775807))) (And.intro (J4 V7 (show w.heap.size≠(w.heap.size+2) by omega) 3 (.int .u64 (bits .and .u64 (K3 V 3) 9223372036854775807))) (And.intro (J4 G (show w.heap.size+1≠(w.heap.size+2) by omega) 3 (.int .u64 (bits .and .u64 (K3 V 3) 9223372036854775807))) hs));generalize wr.setCell ⟨w.heap.size+1+1,3,none⟩ (.int .u64 (bits .and .u64 (K3 V 3) 9223372036854775807))=Wm at hF⊢;clear J V7 G D c3 f3 hs;obtain⟨J,V7,G,D⟩:=hF;have U:=Q3 V7;have α:=Q3 G;have γ:=Q3 D;have gf:=K7 hG J;have gm:=gf.1;have gi:=gf.2;have R:=J5t (V % 2^255) (Nat.lt_trans (AO _ (by decide)) (by decide));obtain⟨X1,N⟩:=exn ((V % 2^255) % PP);rw[←N] at R;have ν:=Z0r N;have δ:=BK N;clear N;refine Px 2 ?_;refine XL ?_;refine Xf ?_ (fun W hW=>R W (K7 gf hW));refine J0o fun W3 hE=> ?_;refine Lp ?_ (J3 G hE) (cells:=c4 X1);intro W4 hO h_;refine V5 ?_;replace V7:=ko V7 hE hO (by omega);replace G:=h_;replace D:=ko D hE hO (by omega);replace J:=bwo J hE hO J.size (by omega);clear hO h_;go_wp2;refine BH (Z5 rfl rfl G (by kernel_rfl) (by kernel_rfl)) rfl ⟨?_,J⟩;rw[δ.out,HV.out];rfl
  obtain⟨q,r,hr,rfl⟩:∃q r,r<8∧k=8*q+r:=⟨k / 8,k % 8,by omega,by omega⟩
  have μ:∀W,(Instr.index 22 (.agg (J0 .u8 32 bs)) (.int .i64 (8*(q:Int)+(r:Int)))).run Tryz.prog W=.ok (.int .u8 (bs (8*q+r))) W:=fun W=>J1l W 22 5 32 .u8 .i64 _ (8*q+r) _ Tryz.underlying22 Tryz.underlying5 (by kernel_rfl) (by omega) (Q6 _ _ _ _ (by omega));have d1:AI.i64.wrap ((8*(q:Int)+(r:Int)).tdiv 8)=(q:Int):=by rw[Int.tdiv_eq_ediv_of_nonneg (by omega),IntWalk.i64_in _ (by omega)];omega
  have d2:(8*(q:Int)+(r:Int)).tmod 8=(r:Int):=by rw[Int.tmod_eq_emod_of_nonneg (by omega)];omega
  have d3:AI.i64.wrap (8*(r:Int))=8*(r:Int):=IntWalk.i64_in _ (by omega);have d4:AI.u64.wrap (bs (8*q+r))=bs (8*q+r):=by have:=HB.out (8*q+r);unfold J4v at this;rw[AI.wrap_u64];omega
  have κ:(0:Int)≤(q:Int):=by omega
  have ε:(q:Int)<4:=by omega
  have ζ:(0:Int)≤(r:Int):=by omega
  have η:(r:Int)<8:=by omega
  clear M;have c3:=(J5 D q).trans (Q6 _ _ _ _ (by omega));have f3:=V3 D;have hs:=fun v=>Z7 D q v;go_wp2
  go_region
  go_wp2;go_roundw
  case rel=>
   refine⟨8*q+r+1,by omega,by go_num,(Z0 J (by omega) _ _).drew,Y3 (J4 V7 (by omega) _ _),Y3 (J4 G (by omega) _ _),?_⟩;have:=hs (.int .u64 (bits .or .u64 (K3 (J0t bs (8*q+r)) q) (AI.wrap .u64 (bs (8*q+r)*2^(8*r)))));rw[Q01 bs HB.out 4 q r hr] at this;exact Y3 this
  case measure=>simp[intOf];omega
end

section

def Prm (p:Nat):Prop:=2≤p∧∀d,d∣p→d=1∨d=p
theorem Prm.cop {q d:Nat}(hq:Prm q)(h:¬q∣d):Nat.Coprime q d:=by
  rcases hq.2 (Nat.gcd q d) (Nat.gcd_dvd_left q d) with h1|h1
  · exact h1
  have h2:=Nat.gcd_dvd_right q d;rw[h1] at h2;exact absurd h2 h
def J7r:List Nat→Nat
  |[]=>1
  |q::l=>q*J7r l
theorem Q5e:∀{fs:List Nat} {q:Nat},q∈fs→q∣J7r fs
  |r::l,q,h=>by
    rcases Ad.1 h with rfl|h
    · exact Nat.dvd_mul_right _ _
    · exact Nat.dvd_trans (Q5e h) (Nat.dvd_mul_left _ _)
theorem Q5f:∀(fs:List Nat),(∀q∈fs,Prm q)→∀d,d∣J7r fs→d=J7r fs∨∃q∈fs,d∣J7r fs / q
  |[],_,d,h=> .inl (Nat.dvd_one.1 h)
  |q::l,hp,d,h=>by
    have hq:=hp q (BO ..);have q0:0<q:=by have:=hq.1;omega
    by_cases hd:q∣d
    · obtain⟨e,rfl⟩:=hd
      have he:e∣J7r l:=Nat.dvd_of_mul_dvd_mul_left q0 h;rcases Q5f l (fun r hr=>hp r (List.mem_cons_of_mem _ hr)) e he with rfl|⟨r,hr,h2⟩
      · exact .inl rfl
      · refine .inr ⟨r,List.mem_cons_of_mem _ hr,?_⟩
        show q*e∣q*J7r l / r;rw[Nat.mul_div_assoc q (Q5e hr)];exact Nat.mul_dvd_mul_left q h2
    · refine .inr ⟨q,BO ..,?_⟩
      show d∣q*J7r l / q;rw[Nat.mul_div_cancel_left _ q0];exact(hq.cop hd).symm.dvd_of_dvd_mul_left h
theorem J5m {n g a:Nat}(h:g^a % n=1 % n)(k:Nat):g^(a*k) % n=1 % n:=by
  rw[Nat.pow_mul,Nat.pow_mod,h,←Nat.pow_mod,Nat.one_pow]
theorem Y3j {n g:Nat}(a b:Nat):g^a % n=1 % n→g^b % n=1 % n→g^(Nat.gcd a b) % n=1 % n:=by
  induction a,b using Nat.gcd.induction with
  |H0 b=>intro _ h;rw[Nat.gcd_zero_left];exact h
  |H1 a b ha ih=>
    intro h1 h2;rw[Nat.gcd_rec];refine ih ?_ h1;have e:g^b=g^(a*(b / a))*g^(b % a):=by rw[←Nat.pow_add,Nat.div_add_mod]
    rw[e,Nat.mul_mod,J5m h1,←Nat.mul_mod,Nat.one_mul] at h2;exact h2
structure Gen (n g:Nat):Prop where
  two:2≤n
  one:g^(n-1) % n=1
  low:∀k,0<k→k<n-1→g^k % n≠1
theorem V01 {n g:Nat}(fs:List Nat)(h2:2≤n)(hp:∀q∈fs,Prm q)(hf:J7r fs=n-1)(h1:g^(n-1) % n=1)
    (hq:∀q∈fs,g^((n-1) / q) % n≠1):Gen n g:=by
  have e1:1 % n=1:=AL h2;refine⟨h2,h1,fun k k0 kn hk=> ?_⟩;have hg:=Y3j (n:=n) (g:=g) k (n-1) (by rw[e1];exact hk) (by rw[e1];exact h1);have hd:Nat.gcd k (n-1)∣J7r fs:=by rw[hf];exact Nat.gcd_dvd_right _ _
  have hl:=Nat.le_of_dvd k0 (Nat.gcd_dvd_left k (n-1));rcases Q5f fs hp _ hd with h|⟨q,D,h⟩
  · omega
  obtain⟨c,hc⟩:=h;have:=J5m hg c;rw[←hc,hf,e1] at this;exact hq q D this
theorem Q19:∀(n:Nat) (f:Nat→Nat),(∀i,i<n→f i<n)→(∀i j,i<n→j<n→f i=f j→i=j)→∀y,y<n→∃i,i<n∧f i=y
  |0,_,_,_,y,hy=>absurd hy (Nat.not_lt_zero y)
  |n+1,f,hf,hi,y,hy=>by
    have hn:=hf n (Nat.lt_succ_self n)
    have ih:=Q19 n (fun i=>if f i=n then f n else f i)
      (fun i hin=>by
        have h1:=hf i (by omega);show(if f i=n then f n else f i)<n
        split
        · rename_i h
          have:f n≠n:=fun h2=>by have:=hi i n (by omega) (by omega) (h.trans h2.symm);omega
          omega
        · omega)
      (fun i j hin D h=>by
        have h:(if f i=n then f n else f i)=(if f j=n then f n else f j):=h
        split at h<;>split at h
        · rename_i a b;exact hi i j (by omega) (by omega) (a.trans b.symm)
        · have:=hi n j (by omega) (by omega) h;omega
        · have:=hi i n (by omega) (by omega) h;omega
        · exact hi i j (by omega) (by omega) h)
    by_cases h1:y=f n
    · exact⟨n,Nat.lt_succ_self n,h1.symm⟩
    · by_cases h2:y=n
      · obtain⟨i,hin,h⟩:=ih (f n) (by omega)
        have h:(if f i=n then f n else f i)=f n:=h
        split at h
        · rename_i a;exact⟨i,by omega,a.trans h2.symm⟩
        · have:=hi i n (by omega) (by omega) h;omega
      · obtain⟨i,hin,h⟩:=ih y (by omega)
        have h:(if f i=n then f n else f i)=y:=h
        split at h
        · exact absurd h.symm h1
        · exact⟨i,by omega,h⟩
theorem Gen.nz {n g:Nat}(h:Gen n g)(k:Nat):g^k % n≠0:=by
  intro h0
  have h1:g^(k*(n-1)) % n=1:=by
    have:=J5m (n:=n) (g:=g) (a:=n-1) (by rw[h.one,AL h.two]) k;rw[Nat.mul_comm,this,AL h.two]
  have hn:=h.two
  have:g^(k*(n-1)) % n=0:=by
    rw[Nat.pow_mul,Nat.pow_mod,h0,Nat.zero_pow (by omega),Nat.zero_mod]
  omega
theorem Gen.inj {n g:Nat}(h:Gen n g):∀i j,i<n-1→j<n-1→g^i % n=g^j % n→i=j:=by
  have D:∀i j,i<j→j<n-1→g^i % n≠g^j % n:=by
    intro i j G hj he;refine h.low (j-i) (by omega) (by omega) ?_;have e1:g^(n-1-i)*g^i % n=1:=by rw[←Nat.pow_add,show n-1-i+i=n-1 by omega];exact h.one
    have e2:g^(n-1-i)*g^j % n=1:=by rw[Nat.mul_mod,←he,←Nat.mul_mod];exact e1
    rw[←Nat.pow_add,show n-1-i+j=(n-1)+(j-i) by omega,Nat.pow_add,Nat.mul_mod,h.one,Nat.one_mul,Nat.mod_mod] at e2;exact e2
  intro i j hi hj he;rcases Nat.lt_trichotomy i j with h1|h1|h1
  · exact absurd he (D i j h1 hj)
  · exact h1
  exact absurd he.symm (D j i h1 hi)
theorem Gen.all {n g:Nat}(h:Gen n g){a:Nat}(h0:a % n≠0):∃k,k<n-1∧g^k % n=a % n:=by
  have hn:=h.two
  obtain⟨k,hk,he⟩:=Q19 (n-1) (fun i=>g^i % n-1)
    (fun i _=>by
      have:=AO (g^i) (show n>0 by omega);have:=h.nz i;show g^i % n-1<n-1
      omega)
    (fun i j hi hj he=>by
      have he:g^i % n-1=g^j % n-1:=he;have h1:=h.nz i;have h2:=h.nz j
      exact h.inj i j hi hj (by omega)) (a % n-1) (by have:=AO a (show n>0 by omega);omega)
  have he:g^k % n-1=a % n-1:=he;have:=h.nz k;exact⟨k,hk,by omega⟩
theorem Gen.fermat {n g:Nat}(h:Gen n g){a:Nat}(h0:a % n≠0):a^(n-1) % n=1:=by
  obtain⟨k,_,he⟩:=h.all h0;rw[Nat.pow_mod,←he,←Nat.pow_mod,←Nat.pow_mul,Nat.mul_comm,J5m (by rw[h.one,AL h.two]),AL h.two]
theorem Gen.prm {n g:Nat}(h:Gen n g):Prm n:=by
  have hn:=h.two;refine⟨hn,fun d hd=> ?_⟩
  by_cases D:d=n
  · exact .inr D
  have hl:=Nat.le_of_dvd (by omega) hd;have d0:0<d:=Nat.pos_of_dvd_of_pos hd (by omega);have hf:=h.fermat (a:=d) (by rw[AL (by omega)];omega);obtain⟨c,hc⟩:=hd;have G:n-1=(n-2)+1:=by omega
  have e:=Nat.div_add_mod (d^(n-1)) n;rw[hf] at e;rw[G,Nat.pow_succ] at e;have h1:d∣1:=(Nat.dvd_add_right (show d∣n*(d^(n-2)*d / n) from⟨c*(d^(n-2)*d / n),by rw[←Nat.mul_assoc,←hc]⟩)).1 ⟨d^(n-2),by rw[e,Nat.mul_comm]⟩;exact .inl (Nat.dvd_one.1 h1)
def tp (n A e:Nat):Nat→Nat
  |0=>1 % n
  |c+1=>if e / 2^(255-c) % 2=1 then(tp n A e c*tp n A e c % n)*A % n else tp n A e c*tp n A e c % n
theorem Y6x (n A e:Nat)(he:e<2^256):∀c,c≤256→tp n A e c=A^(e / 2^(256-c)) % n
  |0,_=>by rw[show 256-0=256 by decide,AR he,Nat.pow_zero];rfl
  |c+1,h=>by
    have ih:=Y6x n A e he c (by omega);rw[show 256-c=(255-c)+1 by omega] at ih;rw[show 256-(c+1)=255-c by omega];have e2:e / 2^(255-c+1)=e / 2^(255-c) / 2:=by rw[Nat.pow_succ,Nat.div_div_eq_div_mul]
    rw[e2] at ih;unfold tp;generalize e / 2^(255-c)=m at*;rw[ih,←Nat.mul_mod,←Nat.pow_add];have hm:=Nat.div_add_mod m 2
    split
    · rename_i h1
      rw[Nat.mod_mul_mod,←Nat.pow_succ,show(m / 2+m / 2).succ=m by omega]
    · rw[show m / 2+m / 2=m by omega]
theorem Z96 {n A e:Nat}(he:e<2^256):A^e % n=tp n A e 256:=by
  rw[Y6x n A e he 256 (AM _),Nat.sub_self,Nat.pow_zero,Nat.div_one]
def Z97 (n g:Nat)(fs:List Nat):Bool:=
  decide (2≤n) && decide (n<2^256) && decide (J7r fs=n-1) && decide (tp n g (n-1) 256=1) && fs.all (fun q=>decide (tp n g ((n-1) / q) 256≠1))
theorem Q05 {n g:Nat}(fs:List Nat)(hp:∀q∈fs,Prm q)(h:Z97 n g fs=true):Gen n g:=by
  unfold Z97 at h;simp only[Bool.and_eq_true,decide_eq_true_eq,List.all_eq_true] at h;obtain⟨⟨⟨⟨h1,h2⟩,h3⟩,h4⟩,h5⟩:=h;refine V01 fs h1 hp h3 (by rw[Z96 (by omega)];exact h4) (fun q hq=> ?_);have hl:=Nat.div_le_self (n-1) q;rw[Z96 (by omega)];exact h5 q hq
def Z0z (n k:Nat):Bool:=decide (2≤n) && decide (n<k*k) &&(List.range k).all fun d=>decide (d<2) ||decide (n % d≠0) ||decide (n≤d)
theorem Z5f {n:Nat}(k:Nat)(h:Z0z n k=true):Prm n:=by
  unfold Z0z at h;simp only[Bool.and_eq_true,decide_eq_true_eq,List.all_eq_true,Bool.or_eq_true,List.mem_range] at h;obtain⟨⟨h1,h2⟩,h3⟩:=h
  have D:∀d,d∣n→d<k→d=1∨d=n:=by
    intro d hd hk;have h4:=Nat.le_of_dvd (by omega) hd;have h5:=Nat.pos_of_dvd_of_pos hd (by omega);rcases h3 d hk with(h|h)|h
    · omega
    · exact absurd (Nat.mod_eq_zero_of_dvd hd) h
    omega
  refine⟨h1,fun d hd=> ?_⟩
  by_cases hk:d<k
  · exact D d hd hk
  obtain⟨e,he⟩:=hd
  have e0:e<k:=by
    refine Nat.lt_of_not_le fun G=> ?_;have:=Nat.mul_le_mul (show k≤d by omega) G;omega
  rcases D e ⟨d,by rw[he,Nat.mul_comm]⟩ e0 with h|h
  · exact .inr (by rw[he,h,AS])
  subst h;have:e*d=e*1:=by rw[AS,Nat.mul_comm];exact he.symm
  exact .inl (Nat.eq_of_mul_eq_mul_left (by omega) this)
theorem J4x {l:List Nat}(k:Nat)(h:(l.all fun n=>Z0z n k)=true):∀q∈l,Prm q:=
  fun q hq=>Z5f k (List.all_eq_true.1 h q hq)
theorem J4e {l m:List Nat}(h:∀q∈l,Prm q)(k:∀q∈m,Prm q):∀q∈l++m,Prm q:=
  fun q hq=>(List.mem_append.1 hq).elim (h q) (k q)
theorem J4f {n:Nat}(h:Prm n):∀q∈[n],Prm q:=fun q hq=>by rw[List.mem_singleton.1 hq];exact h
section
theorem V47:Prm 1923133:=(Q05 (n:=1923133) (g:=2) [2,2,3,43,3727] (J4x 70 (by decide+kernel)) (by decide+kernel)).prm
theorem V48:Prm 31757755568855353:=(Q05 (n:=31757755568855353) (g:=10) [2,2,2,3,31,107,223,4153,430751] (J4x 660 (by decide+kernel)) (by decide+kernel)).prm
theorem V49:Prm 8574133:=(Q05 (n:=8574133) (g:=2) [2,2,3,7,103,991] (J4x 40 (by decide+kernel)) (by decide+kernel)).prm
theorem V4a:Prm 1919519569386763:=(Q05 (n:=1919519569386763) (g:=2) ([2,3,7,19,47,47,127]++[8574133]) (J4e (J4x 40 (by decide+kernel)) (J4f V49)) (by decide+kernel)).prm
theorem V4b:Prm 2773320623:=(Q05 (n:=2773320623) (g:=5) [2,2437,569003] (J4x 760 (by decide+kernel)) (by decide+kernel)).prm
theorem V4c:Prm 72106336199:=(Q05 (n:=72106336199) (g:=7) ([2,13]++[2773320623]) (J4e (J4x 40 (by decide+kernel)) (J4f V4b)) (by decide+kernel)).prm
theorem V4d:Prm 75445702479781427272750846543864801:=(Q05 (n:=75445702479781427272750846543864801) (g:=7) ([2,2,2,2,2,3,3,5,5,75707]++([72106336199]++[1919519569386763])) (J4e (J4x 300 (by decide+kernel)) (J4e (J4f V4c) (J4f V4a))) (by decide+kernel)).prm
theorem V4e:Prm 74058212732561358302231226437062788676166966415465897661863160754340907:=(Q05 (n:=74058212732561358302231226437062788676166966415465897661863160754340907) (g:=2) ([2,3,353,57467,132049]++([1923133]++([31757755568855353]++[75445702479781427272750846543864801]))) (J4e (J4x 400 (by decide+kernel)) (J4e (J4f V47) (J4e (J4f V48) (J4f V4d)))) (by decide+kernel)).prm
theorem V02:Gen 57896044618658097711785492504343953926634992332820282019728792003956564819949 2:=Q05 ([2,2,3,65147]++[74058212732561358302231226437062788676166966415465897661863160754340907]) (J4e (J4x 300 (by decide+kernel)) (J4f V4e)) (by decide+kernel)
end
end

section

abbrev Fp:=Fin PP
instance instNeZeroPP:NeZero PP:=⟨by decide+kernel⟩
def fp (A:Nat):Fp:=Fin.ofNat PP A
theorem V03 (A:Nat):(fp A).val=A % PP:=rfl
theorem fp_eq {A B:Nat}:fp A=fp B↔A % PP=B % PP:=⟨fun h=>congrArg Fin.val h,fun h=>Fin.ext h⟩
theorem J0v (A:Nat):fp (A % PP)=fp A:=fp_eq.2 (Nat.mod_mod _ _)
theorem J1g (A B:Nat):fp (A*B)=fp A*fp B:=Fin.ext (by show A*B % PP=(A % PP)*(B % PP) % PP;rw[←Nat.mul_mod])
theorem J99 (A B:Nat):fp (A+B)=fp A+fp B:=Fin.ext (by show(A+B) % PP=(A % PP+B % PP) % PP;rw[←Nat.add_mod])
theorem Q75:fp 0=0:=rfl
theorem Q0u:fp 1=1:=rfl
theorem J4q:0<PP:=by decide+kernel
theorem Y6y:fp PP=0:=fp_eq.2 (by rw[Nat.mod_self,Nat.zero_mod])
theorem J7s (A:Nat):fp (PP-A % PP)= -fp A:=by
  have h:=J99 (PP-A % PP) (A % PP);rw[Nat.sub_add_cancel (Nat.le_of_lt (AO _ J4q)),Y6y,J0v] at h
  grind
theorem Q76 {A B:Nat}(hA:A<PP)(hB:B<PP)(h:fp A=fp B):A=B:=by
  have:=fp_eq.1 h
  rwa [AL hA,AL hB] at this
theorem J47 (x:Fp):fp x.val=x:=Fin.ext (AL x.isLt)
theorem Z98 {A:Nat}(h:fp A≠0):A % PP≠0:=fun e=>h (by rw[←Q75];exact fp_eq.2 (by rw[e,Nat.zero_mod]))
theorem genP:Gen PP 2:=V02
def J3k (x:Fp):Fp:=fp (x.val^(PP-2))
theorem J0m {x:Fp}(h:x≠0):x*J3k x=1:=by
  have h0:x.val % PP≠0:=Z98 (by rw[J47];exact h);have h1:=genP.fermat h0;rw[←J47 x,show J3k (fp x.val)=fp (x.val^(PP-2)) by rw[J47];rfl,←J1g,←Q0u];refine fp_eq.2 ?_;rw[Nat.mul_comm,←Nat.pow_succ,show(PP-2).succ=PP-1 by decide+kernel,h1];decide+kernel
theorem J3t {x y:Fp}(h:x*y=0):x=0∨y=0:=by
  by_cases hx:x=0
  · exact .inl hx
  have:=J0m hx;exact .inr (by grind)
theorem Z99 {x y:Fp}(h:x*x=y*y):x=y∨x= -y:=by
  have h1:(x-y)*(x+y)=0:=by grind
  rcases J3t h1 with h2|h2
  · exact .inl (by grind)
  exact .inr (by grind)
theorem V4f (A n:Nat):fp (pw A n)=fp (A^n):=J0v _
theorem V04 (u v:Nat):rtX u v<PP:=AO _ J4q
theorem Y6z (v:Nat):fp (v3 v)=fp v*fp v*fp v:=by unfold v3;simp only[J0v,J1g]
theorem V4g (v:Nat):fp (v7 v)=fp (v3 v)*fp (v3 v)*fp v:=by unfold v7;simp only[J0v,J1g]
theorem V05 (u v:Nat):fp (rtW u v)=fp v*(fp (rtX u v)*fp (rtX u v)):=by unfold rtW;simp only[J0v,J1g]
theorem Y70:fp II*fp II= -1:=by
  rw[←J1g]
  have h:fp (II*II)+fp 1=0:=by
    rw[←J99,←Y6y];exact fp_eq.2 (by decide+kernel)
  rw[Q0u] at h
  grind
theorem V4h {u v:Nat}(h:rtB u v=true):fp v*(fp (rtR u v)*fp (rtR u v))=fp u:=by
  unfold rtB at h;unfold rtR;have hW:=V05 u v
  by_cases h1:rtW u v=u % PP
  · rw[if_pos h1,←hW,h1,J0v]
  rw[if_neg h1];rw[decide_eq_false h1,Bool.false_or,decide_eq_true_eq] at h;rw[if_pos h,J0v,J1g];rw[h,J0v,J7s] at hW;have:=Y70
  grind
theorem Z10 {s:Fp}(h:s*s=1):s=1∨s= -1:=Z99 (by grind)
end
end Go.Proofs.YtdjacgmmidbieaaGreatDoor.S8

/- Contracts and plain laws for directHolds_holds. Conditions: the tables hold their numbers. -/
import Derived.Test.YtpljgkofbfeelaaGreatDoorS8Ea
open Go renaming World->AA,bodyPost_ret->BC,Calls->Az,IntKind->AG
open Go.Lib renaming hid->BF
open _root_.List renaming mem_cons_self->BI,forall_mem_cons->BJ,mem_cons->AY
open _root_.Nat renaming mod_eq_of_lt->AI,le_refl->AJ,lt_trans->BG,mod_lt->BH,div_eq_of_lt->AN,mul_one->AO
open Go.RowKit
set_option maxRecDepth 100000
set_option linter.unusedSimpArgs false
set_option linter.unusedVariables false
namespace Go.Proofs.YtpljgkofbfeelaaGreatDoor.S8
section
set_option maxHeartbeats 4000000
attribute [local irreducible] wpList Z9 wpX

def pw (A n:Nat):Nat:=A^n % PP
theorem Z5l (A:Nat):pw A 0=1:=by unfold pw;rw[Nat.pow_zero];rfl
theorem Y25 (A n:Nat):pw A n<Q3:=J0v _
theorem Z5m (A n K:Nat)(h:n / 2^K % 2=0):pw A (n / 2^(K+1))*pw A (n / 2^(K+1)) % PP=pw A (n / 2^K):=by
 have e:n / 2^K=n / 2^(K+1)+n / 2^(K+1):=by rw[Nat.pow_succ,←Nat.div_div_eq_div_mul];omega
 unfold pw;rw[←Nat.mul_mod,←Nat.pow_add,←e]
theorem Z0b (A n K:Nat)(h:n / 2^K % 2=1):(pw A (n / 2^(K+1))*pw A (n / 2^(K+1)) % PP)*A % PP=pw A (n / 2^K):=by
 have e:n / 2^K=n / 2^(K+1)+n / 2^(K+1)+1:=by rw[Nat.pow_succ,←Nat.div_div_eq_div_mul];omega
 unfold pw;rw[←Nat.mul_mod,←Nat.pow_add,Nat.mod_mul_mod,←Nat.pow_succ,Nat.succ_eq_add_one,←e]
theorem Q8c (n q r:Nat)(hr:r<64):bits .and .u64 (V0 n q / 2^r) 1=((n / 2^(64*q+r) % 2:Nat):Int):=by
 obtain⟨l0,l1⟩:=J11 n q;obtain⟨X,hX⟩:=Int.eq_ofNat_of_zero_le l0;have hX' :X=n / 2^(64*q) % 18446744073709551616:=by unfold V0 at hX;omega
 rw[hX] at l1⊢;have e:((X:Int) / 2^r)=((X / 2^r:Nat):Int):=by push_cast;rfl
 have hl:X / 2^r≤X:=Nat.div_le_self _ _
 have e2:bits .and .u64 (((X / 2^r:Nat):Int)) ((1:Nat):Int)=((X / 2^r % 2:Nat):Int):=by
  rw[bits_and_u64_nat _ _ (by omega) (by omega),Nat.and_one_is_mod]
 rw[e];refine Eq.trans e2 ?_
 congr 1
 rw[hX',Nat.pow_add,←Nat.div_div_eq_div_mul];generalize n / 2^(64*q)=m;obtain⟨d,hd⟩:∃d,64=r+(1+d):=⟨64-r-1,by omega⟩
 rw[show(18446744073709551616:Nat)=2^r*2^(1+d) by rw[←Nat.pow_add,←hd],Nat.mod_mul_right_div_self,Nat.pow_add,Nat.pow_one,Nat.mod_mul_right_mod]

theorem Y26 (A n:Nat)(hA:A<Q3)(hn:n<Q3)(w:AA)(hG:GF w):
  Az Tryz.prog 163 #[L4 A,L4 n] w fun e w' =>V5 (L4 (pw A n)) w w' e:=by
 have hS:=SH.nil [] w
 go_enter Tryz.func163,Tryz.ntmps163
 go_upto_region 0 with fail;refine RL hS ?_;clear hS;refine MN (z:=c4 A) (t:=138) ?_;intro K9;refine MN (z:=c4 n) (t:=137) ?_;intro V;refine MN (z:=c4 0) (t:=138) ?_;intro T;refine MZ fun W hS=> ?_;go_upto_region 1 with fail;refine RL hS ?_;clear hS;refine MW ?_ (v:=.agg (c4 1)) (hv:=by intro W;kernel_rfl);refine MN (z:=c4 0) (t:=138) ?_;intro U;refine MR 0 ?_;refine MZ fun W hS=> ?_
 go_wp2_with fail
 go_loopw [6] (fun ii wr=> ∃(k:Nat)(R:Nat),(k≤256)∧(RowKit.Hid (R=pw A (n / 2^k)))∧(ii=.int .i64 ((k:Int)-1))∧SH [] w wr [.b U (c4 R) 138,.b T (c4 0) 138,.b V (c4 n) 137,.b K9 (c4 A) 138])
  (fun ii _=>(intOf ii+1).toNat)
 case atStart=>exact⟨256,1,AJ _,BF (by rw[AN (show n<2^256 from hn),Z5l]),rfl,hS⟩
 clear hS
 case round=>
  obtain⟨k,R,hk,hR,rfl,hS⟩:=hrel;have bR:R<Q3:=by rw[hR.out];exact Y25 _ _
  by_cases M:k=0
  ·
   subst M;go_upto_region 3 with fail;refine RL hS ?_;clear hS;refine MV ?_;refine Wfo ?_;refine MZ fun W hS=> ?_;go_upto_region 8 with fail;refine RL hS ?_;clear hS;refine ML 0 ?_;refine MR 1 ?_;refine MZ fun W hS=> ?_;go_wp2;exact BC (Z6 rfl rfl (hS.blk (i:=1) rfl) (by kernel_rfl) (by kernel_rfl)) rfl ⟨by rw[hR.out,Nat.pow_zero,Nat.div_one];rfl,hS.ext⟩
  obtain⟨q,r,hr,rfl⟩:∃q r,r<64∧k=64*q+r+1:=⟨(k-1) / 64,(k-1) % 64,by omega,by omega⟩
  rw[show((64*q+r+1:Nat):Int)-1=64*(q:Int)+(r:Int) by omega];have d1:(64*(q:Int)+(r:Int)) / 64=(q:Int):=by omega
  have d2:(64*(q:Int)+(r:Int)) % 64=(r:Int):=by omega
  have Z:(q:Int)<4:=by omega
  have α:(r:Int)<64:=by omega
  have X:(0:Int)≤64*(q:Int)+(r:Int):=by omega
  go_upto_region 3 with fail;refine RL hS ?_;clear hS;refine MV ?_;refine Wto ?_;refine MZ fun W hS=> ?_;go_upto_region 5 with fail;refine RL hS ?_;clear hS;refine ML 0 ?_;refine ML 0 ?_;obtain⟨U1,G⟩:=exh (R*R % PP);have S:U1<Q3:=by rw[G.out];exact J0v _
  refine MC (v:=.agg (c4 U1)) (fun W hS=>(by rw[G.out];exact K5 R R bR bR W (V2 hG hS.ext))) ?_;refine MR 0 ?_;refine MZ fun W hS=> ?_;rcases Nat.mod_two_eq_zero_or_one (n / 2^(64*q+r)) with D|D
  ·
   have c3:=(J3 (hS.blk (i:=2) rfl) q).trans (J4z n q (by omega));have HB:=BF D;have N:=Q8c n q r hr;rw[D] at N;go_wp2;go_roundw
   case rel=>exact⟨(64*q+r),U1,by omega,BF (by rw[G.out,hR.out];exact Z5m A n _ HB.out),by go_num,hS⟩
   case measure=>simp[intOf];omega
  have c3:=(J3 (hS.blk (i:=2) rfl) q).trans (J4z n q (by omega));have HB:=BF D;have N:=Q8c n q r hr;rw[D] at N;go_upto_region 7 with fail;refine RL hS ?_;clear hS;refine ML 0 ?_;refine ML 3 ?_;obtain⟨U2,J⟩:=exh (U1*A % PP);have Y:U2<Q3:=by rw[J.out];exact J0v _
  refine MC (v:=.agg (c4 U2)) (fun W hS=>(by rw[J.out];exact K5 U1 A S hA W (V2 hG hS.ext))) ?_;refine MR 0 ?_;refine MZ fun W hS=> ?_;go_wp2;go_roundw
  case rel=>exact⟨(64*q+r),U2,by omega,BF (by rw[J.out,G.out,hR.out];exact Z0b A n _ HB.out),by go_num,hS⟩
  case measure=>simp[intOf];omega
theorem J8f (A B:Nat)(hA:A<Q3)(hB:B<Q3)(w:AA)(hG:GF w):
  Az Tryz.prog 104 #[L4 A,L4 B] w fun e w' =>V5 (L4 ((A+(PP-B % PP)) % PP)) w w' e:=by
 have hS:=SH.nil [] w
 go_enter Tryz.func104,Tryz.ntmps104
 go_upto_region 0 with fail;refine RL hS ?_;clear hS;refine MN (z:=c4 A) (t:=138) ?_;intro K9;refine MN (z:=c4 B) (t:=138) ?_;intro R;refine MN (z:=c4 0) (t:=138) ?_;intro M;refine MZ fun W hS=> ?_;go_upto_region 1 with fail;refine RX 4 hS ?_;clear hS;refine ML 2 ?_;refine ML 1 ?_;obtain⟨U1,G⟩:=exh ((PP-B % PP) % PP);have J:U1<Q3:=by rw[G.out];exact J0v _
 refine MC (v:=.agg (c4 U1)) (fun W hS=>(by rw[G.out];exact Q04 B hB W (V2 hG hS.ext))) ?_;obtain⟨U2,D⟩:=exh ((A+U1) % PP);have N:U2<Q3:=by rw[D.out];exact J0v _
 refine MC (v:=.agg (c4 U2)) (fun W hS=>(by rw[D.out];exact J4y A U1 hA J W (V2 hG hS.ext))) ?_;refine MZt ?_;refine MR 0 ?_;refine MZn fun W hS=> ?_;go_wp2;exact BC (Z6 rfl rfl (hS.blk (i:=0) rfl) (by kernel_rfl) (by kernel_rfl)) rfl ⟨by rw[D.out,G.out,Nat.add_mod_mod];rfl,hS.ext⟩
theorem V40 (A:Nat)(hA:A<Q3)(w:AA)(hG:GF w):
  Az Tryz.prog 120 #[L4 A] w fun e w' =>V5 (L4 (pw A (PP-2))) w w' e:=by
 have hS:=SH.nil [] w
 go_enter Tryz.func120,Tryz.ntmps120
 go_upto_region 0 with fail;refine RL hS ?_;clear hS;refine MN (z:=c4 A) (t:=138) ?_;intro U0;refine MN (z:=c4 0) (t:=138) ?_;intro J;refine MZ fun W hS=> ?_;go_upto_region 1 with fail;refine RL hS ?_;clear hS;refine ML 1 ?_;refine MW ?_ (v:=.agg (c4 (PP-2))) (hv:=by intro W;kernel_rfl);obtain⟨U1,D⟩:=exh (pw A (PP-2));have G:U1<Q3:=by rw[D.out];exact Y25 _ _
 refine MC (v:=.agg (c4 U1)) (fun W hS=>(by rw[D.out];exact Y26 A (PP-2) hA (by decide) W (V2 hG hS.ext))) ?_;refine MR 0 ?_;refine MZ fun W hS=> ?_;go_wp2;exact BC (Z6 rfl rfl (hS.blk (i:=0) rfl) (by kernel_rfl) (by kernel_rfl)) rfl ⟨by rw[D.out];rfl,hS.ext⟩
end

section
set_option maxHeartbeats 4000000

def II:Nat:=19681161376707505956807079304988542015446066515923890162744021073123829784752
theorem V98:II<Q3:=by decide+kernel
theorem Z5n (A B:Nat)(hA:A<Q3)(hB:B<Q3)(h:∀i,i<4→V0 A i=V0 B i):A=B:=by
 rw[←J1c A hA,←J1c B hB,h 0 (by omega),h 1 (by omega),h 2 (by omega),h 3 (by omega)]
theorem V41 (A B:Nat)(hA:A<Q3)(hB:B<Q3)(w:AA):(Op.equalIn 10000 138 (.agg (c4 A)) (.agg (c4 B))).run Tryz.prog w=.ok (decide (A=B)) w:=by
 have h:=J1q (P:=Tryz.prog) w 9998 138 121 4 .u64 (c4 A) (c4 B) (V0 A) (V0 B) Tryz.underlying138 Tryz.underlying121 (by kernel_rfl) (fun i hi=>J4z A i hi) (fun i hi=>J4z B i hi);rw[h]
 congr 1
 rw[Bool.eq_iff_iff,J46,decide_eq_true_iff];exact⟨Z5n A B hA hB,fun e i _=>by rw[e]⟩
theorem Z5o (X:Nat):bits .and .u64 (V0 X 0) 1=((X % 2:Nat):Int):=by
 have:=Q8c X 0 0 (by omega)
 simpa using this

theorem J6d (A B:Nat)(hA:A<Q3)(hB:B<Q3)(w:AA)(hG:GF w):
  Az Tryz.prog 144 #[L4 A,L4 B] w fun e w' =>V5 (.bool (decide (A % PP=B % PP))) w w' e:=by
 have hS:=SH.nil [] w
 go_enter Tryz.func144,Tryz.ntmps144
 go_upto_region 0 with fail;refine RL hS ?_;clear hS;refine MN (z:=c4 A) (t:=138) ?_;intro K9;refine MN (z:=c4 B) (t:=138) ?_;intro N;refine Wf ?_;refine MZ fun W hS=> ?_;go_upto_region 1 with fail;refine RS hS ?_;clear hS;refine ML 1 ?_;obtain⟨U1,G⟩:=exh (A % PP);have M:U1<Q3:=by rw[G.out];exact J0v _
 refine MC (v:=.agg (c4 U1)) (fun W hS=>(by rw[G.out];exact J6o A hA W (V2 hG hS.ext))) ?_;refine ML 0 ?_;obtain⟨U2,D⟩:=exh (B % PP);have J:U2<Q3:=by rw[D.out];exact J0v _
 refine MC (v:=.agg (c4 U2)) (fun W hS=>(by rw[D.out];exact J6o B hB W (V2 hG hS.ext))) ?_;refine MW ?_ (v:=.bool (decide (U1=U2))) (hv:=fun _=>J3l ((fun w=>V41 U1 U2 M J w) _) (by kernel_rfl) rfl rfl rfl);refine MW ?_ (v:=.bool (decide (U1=U2)));refine MZx fun W hS=> ?_;go_wp2;exact BC (v:=.bool (decide (U1=U2))) (by simp only[results,Tryz.results144];go_simp) rfl ⟨by rw[G.out,D.out],hS.ext⟩
theorem Z5p {W:AA}{o:Oper}{a:Act}{x y:Operand}{X i:Nat}(hi:i<4)(ho:o.op=.index 138 x y)(hx:a.eval x=.agg (c4 X))(hy:a.eval y=.int .i64 (i:Int)):(execOp a.eval o).run Tryz.prog W=.ok (.value (.int .u64 (V0 X i))) W:=by
 have h:=J1u W 138 121 4 .u64 .i64 (c4 X) i (V0 X i) Tryz.underlying138 Tryz.underlying121 (by kernel_rfl) (by omega) (J4z X i hi);simp[execOp,ho,hx,hy,Sem.run_bind,h]
theorem Z2p (A:Nat)(hA:A<Q3)(w:AA)(hG:GF w):
  Az Tryz.prog 122 #[L4 A] w fun e w' =>V5 (.bool (decide (A % PP % 2=1))) w w' e:=by
 have hS:=SH.nil [] w
 go_enter Tryz.func122,Tryz.ntmps122
 go_upto_region 0 with fail;refine RL hS ?_;clear hS;refine MN (z:=c4 A) (t:=138) ?_;intro U0;refine Wf ?_;refine MZ fun W hS=> ?_
 by_cases ho:A % PP % 2=1
 ·
  go_upto_region 1 with fail;refine RL hS ?_;clear hS;refine ML 0 ?_;obtain⟨U1,D⟩:=exh (A % PP);have J:U1<Q3:=by rw[D.out];exact J0v _
  refine MC (v:=.agg (c4 U1)) (fun W hS=>(by rw[D.out];exact J6o A hA W (V2 hG hS.ext))) ?_;have G:=BF (show U1 % 2=1 by rw[D.out];omega);refine MW ?_ (v:=.int .u64 (V0 U1 0)) (hv:=by intro W;exact Z5p (i:=0) (by decide) rfl rfl rfl);refine MW ?_ (v:=.int .u64 ((U1 % 2:Nat):Int)) (hv:=by intro W;rw[←Z5o];first|rfl|(go_simp;done)|(go_simp;rfl));refine MW ?_ (v:=.bool true) (hv:=by intro W;have h_:=G.out;go_simp<;>omega);refine Wt ?_;refine MZ fun W hS=> ?_;go_wp2;exact BC (v:=.bool true) (by simp only[results,Tryz.results122];go_simp) rfl ⟨by rw[decide_eq_true ho],hS.ext⟩
 go_upto_region 1 with fail;refine RL hS ?_;clear hS;refine ML 0 ?_;obtain⟨U1,D⟩:=exh (A % PP);have J:U1<Q3:=by rw[D.out];exact J0v _
 refine MC (v:=.agg (c4 U1)) (fun W hS=>(by rw[D.out];exact J6o A hA W (V2 hG hS.ext))) ?_;have G:=BF (show U1 % 2=0 by rw[D.out];omega);refine MW ?_ (v:=.int .u64 (V0 U1 0)) (hv:=by intro W;exact Z5p (i:=0) (by decide) rfl rfl rfl);refine MW ?_ (v:=.int .u64 ((U1 % 2:Nat):Int)) (hv:=by intro W;rw[←Z5o];first|rfl|(go_simp;done)|(go_simp;rfl));refine MW ?_ (v:=.bool false) (hv:=by intro W;have h_:=G.out;go_simp<;>omega);refine Wf ?_;refine MZ fun W hS=> ?_;go_wp2;exact BC (v:=.bool false) (by simp only[results,Tryz.results122];go_simp) rfl ⟨by rw[decide_eq_false ho],hS.ext⟩
def v3 (v:Nat):Nat:=v*v % PP*v % PP
def v7 (v:Nat):Nat:=v3 v*v3 v % PP*v % PP
def rtX (u v:Nat):Nat:=u*v3 v % PP*pw (u*v7 v % PP) 7237005577332262213973186563042994240829374041602535252466099000494570602493 % PP
def rtW (u v:Nat):Nat:=v*(rtX u v*rtX u v % PP) % PP
def rtR (u v:Nat):Nat:=if rtW u v=u % PP then rtX u v else if rtW u v=(PP-u % PP) % PP then rtX u v*II % PP else 0
def rtB (u v:Nat):Bool:=decide (rtW u v=u % PP) ||decide (rtW u v=(PP-u % PP) % PP)
theorem Q3l (u v:Nat):rtW u v % PP=rtW u v:=by unfold rtW;exact Nat.mod_mod _ _
theorem V99 {u v:Nat}(h:rtW u v=u % PP):rtR u v=rtX u v∧rtB u v=true:=by unfold rtR rtB;rw[if_pos h,decide_eq_true h,Bool.true_or];exact⟨rfl,rfl⟩
theorem V9a {u v:Nat}(h:¬rtW u v=u % PP)(h2:rtW u v=(PP-u % PP) % PP):rtR u v=rtX u v*II % PP∧rtB u v=true:=by unfold rtR rtB;rw[if_neg h,if_pos h2,decide_eq_true h2,Bool.or_true];exact⟨rfl,rfl⟩
theorem V9b {u v:Nat}(h:¬rtW u v=u % PP)(h2:¬rtW u v=(PP-u % PP) % PP):rtR u v=0∧rtB u v=false:=by unfold rtR rtB;rw[if_neg h,if_neg h2,decide_eq_false h,decide_eq_false h2];exact⟨rfl,rfl⟩

theorem Z5r (A B:Nat)(hA:A<Q3)(hB:B<Q3)(w:AA)(hG:GF w)(hI:GI w):
  Az Tryz.prog 142 #[L4 A,L4 B] w fun e w' =>V5 (.tuple #[L4 (rtR A B),.bool (rtB A B)]) w w' e:=by
 have hS:=SH.nil [] w
 go_enter Tryz.func142,Tryz.ntmps142
 go_upto_region 0 with fail;refine RL hS ?_;clear hS;refine MN (z:=c4 A) (t:=138) ?_;intro K9;refine MN (z:=c4 B) (t:=138) ?_;intro φ;refine MN (z:=c4 0) (t:=138) ?_;intro τ;refine Wf ?_;refine MZ fun W hS=> ?_;go_upto_region 1 with fail;refine RXn 5 [⟨5,6,c4 0,138⟩] hS ?_ (by simp only[BJ];exact⟨⟨_,rfl,rfl,rfl,fun _ _=>by kernel_rfl⟩,fun _ h=>by cases h⟩);clear hS;refine ML 1 ?_;refine ML 1 ?_;obtain⟨U1,Y⟩:=exh (B*B % PP);have κ:U1<Q3:=by rw[Y.out];exact J0v _
 refine MC (v:=.agg (c4 U1)) (fun W hS=>(by rw[Y.out];exact K5 B B hB hB W (V2 hG hS.ext))) ?_;refine ML 1 ?_;obtain⟨U2,N⟩:=exh (U1*B % PP);have δ:U2<Q3:=by rw[N.out];exact J0v _
 refine MC (v:=.agg (c4 U2)) (fun W hS=>(by rw[N.out];exact K5 U1 B κ hB W (V2 hG hS.ext))) ?_;refine MZB fun Γ=> ?_;refine MR 0 ?_;refine MZn fun W hS=> ?_;go_upto_region 2 with fail;refine RXn 5 [⟨5,7,c4 0,138⟩] hS ?_ (by simp only[BJ];exact⟨⟨_,rfl,rfl,rfl,fun _ _=>by kernel_rfl⟩,fun _ h=>by cases h⟩);clear hS;refine ML 0 ?_;refine ML 0 ?_;obtain⟨U3,T⟩:=exh (U2*U2 % PP);have ρ:U3<Q3:=by rw[T.out];exact J0v _
 refine MC (v:=.agg (c4 U3)) (fun W hS=>(by rw[T.out];exact K5 U2 U2 δ δ W (V2 hG hS.ext))) ?_;refine ML 2 ?_;obtain⟨U4,V⟩:=exh (U3*B % PP);have θ:U4<Q3:=by rw[V.out];exact J0v _
 refine MC (v:=.agg (c4 U4)) (fun W hS=>(by rw[V.out];exact K5 U3 B ρ hB W (V2 hG hS.ext))) ?_;refine MZB fun χ=> ?_;refine MR 0 ?_;refine MZn fun W hS=> ?_;go_upto_region 3 with fail;refine RXn 9 [⟨9,8,c4 0,138⟩] hS ?_ (by simp only[BJ];exact⟨⟨_,rfl,rfl,rfl,fun _ _=>by kernel_rfl⟩,fun _ h=>by cases h⟩);clear hS;refine ML 4 ?_;refine ML 1 ?_;obtain⟨U5,X⟩:=exh (A*U2 % PP);have η:U5<Q3:=by rw[X.out];exact J0v _
 refine MC (v:=.agg (c4 U5)) (fun W hS=>(by rw[X.out];exact K5 A U2 hA δ W (V2 hG hS.ext))) ?_;refine ML 4 ?_;refine ML 0 ?_;obtain⟨U6,S⟩:=exh (A*U4 % PP);have μ:U6<Q3:=by rw[S.out];exact J0v _
 refine MC (v:=.agg (c4 U6)) (fun W hS=>(by rw[S.out];exact K5 A U4 hA θ W (V2 hG hS.ext))) ?_;refine MW ?_ (v:=.agg (c4 7237005577332262213973186563042994240829374041602535252466099000494570602493)) (hv:=by intro W;kernel_rfl);obtain⟨U7,U⟩:=exh (pw U6 7237005577332262213973186563042994240829374041602535252466099000494570602493);have ξ:U7<Q3:=by rw[U.out];exact Y25 _ _
 refine MC (v:=.agg (c4 U7)) (fun W hS=>(by rw[U.out];exact Y26 U6 7237005577332262213973186563042994240829374041602535252466099000494570602493 μ (by decide) W (V2 hG hS.ext))) ?_;obtain⟨U8,R⟩:=exh (U5*U7 % PP);have γ:U8<Q3:=by rw[R.out];exact J0v _
 refine MC (v:=.agg (c4 U8)) (fun W hS=>(by rw[R.out];exact K5 U5 U7 η ξ W (V2 hG hS.ext))) ?_;refine MZB fun ω=> ?_;refine MR 0 ?_;refine MZn fun W hS=> ?_;go_upto_region 4 with fail;refine RXn 5 [⟨5,9,c4 0,138⟩] hS ?_ (by simp only[BJ];exact⟨⟨_,rfl,rfl,rfl,fun _ _=>by kernel_rfl⟩,fun _ h=>by cases h⟩);clear hS;refine ML 4 ?_;refine ML 0 ?_;refine ML 0 ?_;obtain⟨U9,ε⟩:=exh (U8*U8 % PP);have ν:U9<Q3:=by rw[ε.out];exact J0v _
 refine MC (v:=.agg (c4 U9)) (fun W hS=>(by rw[ε.out];exact K5 U8 U8 γ γ W (V2 hG hS.ext))) ?_;obtain⟨D,Z⟩:=exh (B*U9 % PP);have M:D<Q3:=by rw[Z.out];exact J0v _
 refine MC (v:=.agg (c4 D)) (fun W hS=>(by rw[Z.out];exact K5 B U9 hB ν W (V2 hG hS.ext))) ?_;refine MZB fun ψ=> ?_;refine MR 0 ?_;refine MZn fun W hS=> ?_;have HW:=BF (show D=rtW A B by rw[Z.out,ε.out,R.out,U.out,S.out,X.out,V.out,T.out,N.out,Y.out];rfl)
 by_cases h1:rtW A B=A % PP
 ·
  go_upto_region 5 with fail;refine RL hS ?_;clear hS;refine ML 0 ?_;refine ML 6 ?_;refine MC (v:=.bool true) (fun W hS=>(by have h_:=J6d D A M hA W (V2 hG hS.ext);rw[show decide (D % PP=A % PP)=true from by rw[HW.out,Q3l,decide_eq_true h1]] at h_;exact h_)) ?_;refine Wt ?_;refine MZ fun W hS=> ?_;go_upto_region 6 with fail;refine RL hS ?_;clear hS;refine ML 1 ?_;refine MR 4 ?_;refine Wt ?_;refine MZ fun W hS=> ?_;go_wp2;exact BC (Y7 rfl rfl rfl (hS.blk (i:=4) rfl) (by kernel_rfl) (by kernel_rfl)) rfl ⟨by rw[(V99 h1).1,(V99 h1).2,show rtX A B=U8 from by rw[R.out,U.out,S.out,X.out,V.out,T.out,N.out,Y.out];rfl];rfl,hS.ext⟩
 go_upto_region 5 with fail;refine RL hS ?_;clear hS;refine ML 0 ?_;refine ML 6 ?_;refine MC (v:=.bool false) (fun W hS=>(by have h_:=J6d D A M hA W (V2 hG hS.ext);rw[show decide (D % PP=A % PP)=false from by rw[HW.out,Q3l,decide_eq_false h1]] at h_;exact h_)) ?_;refine Wf ?_;refine MZ fun W hS=> ?_
 by_cases h2:rtW A B=(PP-A % PP) % PP
 ·
  go_upto_region 7 with fail;refine RS hS ?_;clear hS;refine ML 0 ?_;refine ML 6 ?_;obtain⟨J,G⟩:=exh ((PP-A % PP) % PP);have β:J<Q3:=by rw[G.out];exact J0v _
  refine MC (v:=.agg (c4 J)) (fun W hS=>(by rw[G.out];exact Q04 A hA W (V2 hG hS.ext))) ?_;refine MC (v:=.bool true) (fun W hS=>(by have h_:=J6d D J M β W (V2 hG hS.ext);rw[show decide (D % PP=J % PP)=true from by rw[HW.out,Q3l,G.out,Nat.mod_mod,decide_eq_true h2]] at h_;exact h_)) ?_;refine Wt ?_;refine MZx fun W hS=> ?_;go_upto_region 8 with fail;refine RL hS ?_;clear hS;refine ML 1 ?_;refine MF (v:=.agg (c4 II)) (fun W hS=>J0a rfl rfl ((Rd.ext hI hS.ext)) (by kernel_rfl) (by kernel_rfl)) ?_;obtain⟨ζ,α⟩:=exh (U8*II % PP);have σ:ζ<Q3:=by rw[α.out];exact J0v _
  refine MC (v:=.agg (c4 ζ)) (fun W hS=>(by rw[α.out];exact K5 U8 II γ V98 W (V2 hG hS.ext))) ?_;refine MR 4 ?_;refine Wt ?_;refine MZ fun W hS=> ?_;go_wp2;exact BC (Y7 rfl rfl rfl (hS.blk (i:=4) rfl) (by kernel_rfl) (by kernel_rfl)) rfl ⟨by rw[(V9a h1 h2).1,(V9a h1 h2).2,show rtX A B=U8 from by rw[R.out,U.out,S.out,X.out,V.out,T.out,N.out,Y.out];rfl,←α.out];rfl,hS.ext⟩
 go_upto_region 7 with fail;refine RS hS ?_;clear hS;refine ML 0 ?_;refine ML 6 ?_;obtain⟨J,G⟩:=exh ((PP-A % PP) % PP);have β:J<Q3:=by rw[G.out];exact J0v _
 refine MC (v:=.agg (c4 J)) (fun W hS=>(by rw[G.out];exact Q04 A hA W (V2 hG hS.ext))) ?_;refine MC (v:=.bool false) (fun W hS=>(by have h_:=J6d D J M β W (V2 hG hS.ext);rw[show decide (D % PP=J % PP)=false from by rw[HW.out,Q3l,G.out,Nat.mod_mod,decide_eq_false h2]] at h_;exact h_)) ?_;refine Wf ?_;refine MZx fun W hS=> ?_;go_upto_region 9 with fail;refine RL hS ?_;clear hS;refine MW ?_ (v:=.agg (c4 0)) (hv:=by intro W;kernel_rfl);refine MR 4 ?_;refine Wf ?_;refine MZ fun W hS=> ?_;go_wp2;exact BC (Y7 rfl rfl rfl (hS.blk (i:=4) rfl) (by kernel_rfl) (by kernel_rfl)) rfl ⟨by rw[(V9b h1 h2).1,(V9b h1 h2).2];rfl,hS.ext⟩
end

section
set_option maxHeartbeats 4000000

theorem Q51 (V:Nat):c4 V=J0 .u64 4 (V0 V):=rfl
theorem Z7r (N k q r:Nat)(hr:r<8)(hk:k=8*q+r):(J0 .u8 32 fun j=>if j<k then J2 N j else 0).setIfInBounds k (.int .u8 (V0 N q / 2^(8*r) % 256))=J0 .u8 32 fun j=>if j<k+1 then J2 N j else 0:=by
 subst hk;rw[V1];apply X7;intro j hj;have D:=Z52 N (8*q+r);rw[show(8*q+r) / 8=q by omega,show(8*q+r) % 8=r by omega] at D;unfold upd;rw[D];dsimp only
 by_cases h1:j=8*q+r
 ·
  subst h1;rw[if_pos (by omega),if_pos (by omega)]
 rw[if_neg h1]
 by_cases h2:j<8*q+r
 ·
  rw[if_pos h2,if_pos (by omega)]
 rw[if_neg h2,if_neg (by omega)]
theorem Q12 (bs:Nat→Int)(h:∀j,J7b (bs j))(n q r:Nat)(hr:r<8):
  (J0 .u64 n (V0 (J13 bs (8*q+r)))).setIfInBounds q (.int .u64 (bits .or .u64 (V0 (J13 bs (8*q+r)) q) (AG.wrap .u64 (bs (8*q+r)*2^(8*r)))))=J0 .u64 n (V0 (J13 bs (8*q+r+1))):=by
 rw[Z54 bs h q r hr,V1];apply X7;intro j _
 by_cases hj:j=q
 ·
  subst hj;rw[J35]
 rw[J12 _ _ _ _ hj,J85 bs h (8*q+r) j (by omega)]
theorem Y6n (V:Nat):bits .and .u64 (V0 V 3) 9223372036854775807=V0 (V % 2^255) 3:=by
 obtain⟨l0,l1⟩:=J11 V 3;obtain⟨X,hX⟩:=Int.eq_ofNat_of_zero_le l0
 have e2:bits .and .u64 ((X:Nat):Int) ((9223372036854775807:Nat):Int)=((X % 9223372036854775808:Nat):Int):=by
  rw[bits_and_u64_nat _ _ (by omega) (by omega),show(9223372036854775807:Nat)=2^63-1 by decide,Nat.and_two_pow_sub_one_eq_mod]
 rw[hX];refine Eq.trans e2 ?_;unfold V0 at hX⊢;simp only[Nat.reduceMul,Nat.reducePow] at*;omega
theorem Y27 (V:Nat):(c4 V).setIfInBounds 3 (.int .u64 (bits .and .u64 (V0 V 3) 9223372036854775807))=c4 (V % 2^255):=by
 rw[Y6n,Q51,Q51,V1];apply X7;intro j hj
 by_cases h3:j=3
 ·
  subst h3;rw[J35]
 rw[J12 _ _ _ _ h3];have:j=0∨j=1∨j=2:=by omega
 unfold V0;rcases this with rfl|rfl|rfl<;>simp only[Nat.reduceMul,Nat.reducePow]<;>omega

theorem Q52 (A:Nat)(hA:A<Q3)(w:AA)(hG:GF w):
  Az Tryz.prog 121 #[L4 A] w fun e w' =>V5 (.agg (J0 .u8 32 (J2 (A % PP)))) w w' e:=by
 go_enter Tryz.func121,Tryz.ntmps121
 go_upto_region 1 with fail;refine wn2 (c1:=(c4 A)) (t1:=138) (c2:=(J0 .u8 32 (fun _=>0))) (t2:=23) fun W0 G J D=> ?_;have U:=V8 J;have V:=V8 D;have gf:=V2 hG G;have gm:=gf.1;have gi:=gf.2;have S:=J6o A hA;obtain⟨X1,R⟩:=exn (A % PP);rw[←R] at S;have μ:=Z7o R;have ε:=BF R;clear R;refine Px 2 ?_;refine XL ?_;refine Xf ?_ (fun W hW=>S W (V2 gf hW));refine J3r fun W1 hE=> ?_;refine LS ?_ (J4 J hE) (g:=w.heap.size) (cells:=c4 X1);refine J0p ?_;have hF:Below w.heap.size w (W1.setRow w.heap.size (c4 X1))∧Blk (W1.setRow w.heap.size (c4 X1)) w.heap.size (c4 X1) 138∧Blk (W1.setRow w.heap.size (c4 X1)) (w.heap.size+1) (J0 .u8 32 (fun _=>0)) 23:=⟨(J3q (J27 G hE G.size) (by omega) _),(J2o (J4 J hE) (c4 X1)),(Q1z (J4 D hE) (by omega) _)⟩
 generalize (W1.setRow w.heap.size (c4 X1))=W2 at hF⊢;clear G J D;obtain⟨G,J,D⟩:=hF;go_upto_region 2 with fail;have Z:=V8 J;have γ:=V8 D;have gf:=V2 hG G;have gm:=gf.1;have gi:=gf.2;refine J7c 0 [⟨0,3,J0 .u8 32 (fun _=>0),23⟩] ?_ (by kernel_rfl) ?_
 ·
  intro x hx;simp only[AY,List.not_mem_nil,or_false] at hx;subst hx;exact⟨_,rfl,rfl,rfl,fun _ _=>by kernel_rfl⟩
 simp only[List.take_succ_cons,List.take_zero,List.take_nil]
 (try simp only[Act.put,mA,mB,mC])
 refine J3r ?_;intro β W3 hE hN hD;obtain⟨T,M⟩:=hN _ (BI ..);simp only[J0o,Act.put,mA,mB,mC,List.drop_succ_cons,List.drop_zero,List.drop_nil,List.length_cons,List.length_nil] at T M⊢;generalize β 0=Z09 at*;have ζ:=G.size;clear hN hD β;refine J0p ?_;have hF:Below w.heap.size w W3∧Blk W3 w.heap.size (c4 X1) 138∧Blk W3 (w.heap.size+1) (J0 .u8 32 (fun _=>0)) 23∧Blk W3 Z09 (J0 .u8 32 (fun _=>0)) 23:=⟨(J27 G hE G.size),(J4 J hE),(J4 D hE),M⟩
 clear G J D M;obtain⟨G,J,D,M⟩:=hF;have δ:=V8 M
 go_wp2_with fail
 go_loopw [7] (fun ii wr=> ∃(k:Nat),k≤32∧ii=.int .i64 k∧Below w.heap.size w wr∧Blk wr w.heap.size (c4 X1) 138∧Blk wr (w.heap.size+1) (J0 .u8 32 (fun _=>0)) 23∧Blk wr Z09 (J0 .u8 32 (fun j=>if j<k then J2 X1 j else 0)) 23)
  (fun ii _=>(32-intOf ii).toNat)
 case atStart=>
  exact⟨0,by omega,rfl,G,J,D,M⟩
 case round=>
  obtain⟨k,hk,rfl,G,J,D,M⟩:=hrel
  by_cases N:k=32
  ·
   have κ:=N;subst N;go_upto_region 8 with fail;have α:=V8 J;have X:=V8 D;have Y:=V8 M;have gf:=V2 hG G;have gm:=gf.1;have gi:=gf.2;refine Px 1 ?_;refine XL ?_;refine J3r fun W5 hE=> ?_;refine Lp ?_ (J4 D hE) (cells:=J0 .u8 32 (fun j=>if j<32 then J2 X1 j else 0)) (h1:=(J0b _ _ _));intro W6 hO h_;refine J0p ?_;replace J:=ko J hE hO (by omega);replace D:=h_;replace M:=ko M hE hO (by omega);replace G:=bwo G hE hO G.size (by omega);clear hO h_;go_wp2;refine BC (Z6 rfl rfl D (by kernel_rfl) (by kernel_rfl)) rfl ⟨?_,G⟩;rw[X7 _ _ _ (J2 X1) (fun i hi=>if_pos hi),ε.out]
  obtain⟨q,r,hr,rfl⟩:∃q r,r<8∧k=8*q+r:=⟨k / 8,k % 8,by omega,by omega⟩
  have d1:(8*(q:Int)+(r:Int)) / 8=(q:Int):=by omega
  have d2:(8*(q:Int)+(r:Int)) % 8=(r:Int):=by omega
  have η:(q:Int)<4:=by omega
  have θ:(r:Int)<8:=by omega
  clear N;have c0:=(J3 J q).trans (J4z X1 q (by omega));have c3:=J3 M (8*q+r);rw[Z8 _ _ _ _ (by omega)] at c3;have f3:=K7 M;go_wp2;have hs:=J1k M (8*q+r) (.int .u8 (V0 X1 q / 2^(8*r) % 256));rw[Z7r X1 (8*q+r) q r hr rfl] at hs;go_roundw
  case rel=>exact⟨8*q+r+1,by omega,by go_num,J47 G (by omega) _ _,V7 J (by omega) _ _,V7 D (by omega) _ _,hs⟩
  case measure=>simp[intOf];omega
theorem Y9o (bs:Nat→Int)(hbs:∀j,J7b (bs j))(w:AA)(hG:GF w):
  Az Tryz.prog 141 #[.agg (J0 .u8 32 bs)] w fun e w' =>V5 (L4 (J13 bs 32 % 2^255 % PP)) w w' e:=by
 go_enter Tryz.func141,Tryz.ntmps141
 go_upto_region 2 with fail;refine wn3 (c1:=(J0 .u8 32 bs)) (t1:=23) (c2:= #[.int .u64 0,.int .u64 0,.int .u64 0,.int .u64 0]) (t2:=138) (c3:= #[.int .u64 0,.int .u64 0,.int .u64 0,.int .u64 0]) (t3:=138) fun W0 J M D G=> ?_;have X:=V8 M;have U:=V8 D;have T:=V8 G;have gf:=V2 hG J;have gm:=gf.1;have gi:=gf.2;refine Px 2 ?_;refine XL ?_;refine Xv ?_;refine J3r fun W1 hE=> ?_;refine J0p ?_;replace M:=J4 M hE;replace D:=J4 D hE;replace G:=J4 G hE;replace J:=J27 J hE J.size;have γ:=V8 M;have Z:=V8 D;have α:=V8 G;have HB:=BF hbs;clear hbs
 go_wp2_with fail
 go_loopw [7] (fun ii wr=> ∃(k:Nat),k≤32∧ii=.int .i64 k∧Below w.heap.size w wr∧Blk wr w.heap.size (J0 .u8 32 bs) 23∧Blk wr (w.heap.size+1) #[.int .u64 0,.int .u64 0,.int .u64 0,.int .u64 0] 138∧Blk wr (w.heap.size+2) (J0 .u64 4 (V0 (J13 bs k))) 138)
  (fun ii _=>(32-intOf ii).toNat)
 case atStart=>
  refine⟨0,by omega,rfl,?_⟩;rw[show J0 .u64 4 (V0 (J13 bs 0))= #[.int .u64 0,.int .u64 0,.int .u64 0,.int .u64 0] by kernel_rfl];exact⟨J,M,D,G⟩
 case round=>
  obtain⟨k,hk,rfl,J,M,D,G⟩:=hrel
  by_cases N:k=32
  ·
   have μ:=N;subst N;obtain⟨V,hV⟩:=exn (J13 bs 32);rw[←hV,←Q51] at G;have HV:=BF hV;clear hV;have c3:=(J3 G 3).trans (J4z V 3 (by omega));have f3:=K7 G;go_upto_region 8 with fail;have hs:=J1k G 3 (.int .u64 (bits .and .u64 (V0 V 3) 9223372036854775807));rw[Y27] at hs;have hF:=And.intro (J47 J (show w.heap.size≤(w.heap.size+2) by omega) 3 (.int .u64 (bits .and .u64 (V0 V 3) 9223372036854775807))) (And.intro (V7 M (show w.heap.size≠(w.heap.size+2) by omega) 3 (.int .u64 (bits .and .u64 (V0 V 3) 9223372036854775807))) (And.intro (V7 D (show w.heap.size+1≠(w.heap.size+2) by omega) 3 (.int .u64 (bits .and .u64 (V0 V 3) 9223372036854775807))) hs));generalize wr.setCell ⟨w.heap.size+1+1,3,none⟩ (.int .u64 (bits .and .u64 (V0 V 3) 9223372036854775807))=Wm at hF⊢;clear J M D G c3 f3 hs;obtain⟨J,M,D,G⟩:=hF;have Y:=V8 M;have β:=V8 D;have δ:=V8 G;have gf:=V2 hG J;have gm:=gf.1;have gi:=gf.2;have S:=J6o (V % 2^255) (BG (BH _ (by decide)) (by decide));obtain⟨X1,R⟩:=exn ((V % 2^255) % PP);rw[←R] at S;have ξ:=Z7o R;have ε:=BF R;clear R;refine Px 2 ?_;refine XL ?_;refine Xf ?_ (fun W hW=>S W (V2 gf hW));refine J3r fun W3 hE=> ?_;refine Lp ?_ (J4 D hE) (cells:=c4 X1);intro W4 hO h_;refine J0p ?_;replace M:=ko M hE hO (by omega);replace D:=h_;replace G:=ko G hE hO (by omega);replace J:=bwo J hE hO J.size (by omega);clear hO h_;go_wp2;refine BC (Z6 rfl rfl D (by kernel_rfl) (by kernel_rfl)) rfl ⟨?_,J⟩;rw[ε.out,HV.out];rfl
  obtain⟨q,r,hr,rfl⟩:∃q r,r<8∧k=8*q+r:=⟨k / 8,k % 8,by omega,by omega⟩
  have ν:∀W,(Instr.index 23 (.agg (J0 .u8 32 bs)) (.int .i64 (8*(q:Int)+(r:Int)))).run Tryz.prog W=.ok (.int .u8 (bs (8*q+r))) W:=fun W=>J1u W 23 5 32 .u8 .i64 _ (8*q+r) _ Tryz.underlying23 Tryz.underlying5 (by kernel_rfl) (by omega) (Z8 _ _ _ _ (by omega));have d1:AG.i64.wrap ((8*(q:Int)+(r:Int)).tdiv 8)=(q:Int):=by rw[Int.tdiv_eq_ediv_of_nonneg (by omega),IntWalk.i64_in _ (by omega)];omega
  have d2:(8*(q:Int)+(r:Int)).tmod 8=(r:Int):=by rw[Int.tmod_eq_emod_of_nonneg (by omega)];omega
  have d3:AG.i64.wrap (8*(r:Int))=8*(r:Int):=IntWalk.i64_in _ (by omega);have d4:AG.u64.wrap (bs (8*q+r))=bs (8*q+r):=by have:=HB.out (8*q+r);unfold J7b at this;rw[AG.wrap_u64];omega
  have ζ:(0:Int)≤(q:Int):=by omega
  have η:(q:Int)<4:=by omega
  have θ:(0:Int)≤(r:Int):=by omega
  have κ:(r:Int)<8:=by omega
  clear N;have c3:=(J3 G q).trans (Z8 _ _ _ _ (by omega));have f3:=K7 G;have hs:=fun v=>J1k G q v;go_wp2
  go_region
  go_wp2;go_roundw
  case rel=>
   refine⟨8*q+r+1,by omega,by go_num,(J47 J (by omega) _ _).drew,J02 (V7 M (by omega) _ _),J02 (V7 D (by omega) _ _),?_⟩;have:=hs (.int .u64 (bits .or .u64 (V0 (J13 bs (8*q+r)) q) (AG.wrap .u64 (bs (8*q+r)*2^(8*r)))));rw[Q12 bs HB.out 4 q r hr] at this;exact J02 this
  case measure=>simp[intOf];omega
end

section

def Prm (p:Nat):Prop:=2≤p∧∀d,d∣p→d=1∨d=p
theorem Prm.cop {q d:Nat}(hq:Prm q)(h:¬q∣d):Nat.Coprime q d:=by
  rcases hq.2 (Nat.gcd q d) (Nat.gcd_dvd_left q d) with h1|h1
  · exact h1
  have h2:=Nat.gcd_dvd_right q d;rw[h1] at h2;exact absurd h2 h
def J8h:List Nat→Nat
  |[]=>1
  |q::l=>q*J8h l
theorem Q6n:∀{fs:List Nat} {q:Nat},q∈fs→q∣J8h fs
  |r::l,q,h=>by
    rcases AY.1 h with rfl|h
    · exact Nat.dvd_mul_right _ _
    · exact Nat.dvd_trans (Q6n h) (Nat.dvd_mul_left _ _)
theorem Q6o:∀(fs:List Nat),(∀q∈fs,Prm q)→∀d,d∣J8h fs→d=J8h fs∨∃q∈fs,d∣J8h fs / q
  |[],_,d,h=> .inl (Nat.dvd_one.1 h)
  |q::l,hp,d,h=>by
    have hq:=hp q (BI ..);have q0:0<q:=by have:=hq.1;omega
    by_cases hd:q∣d
    · obtain⟨e,rfl⟩:=hd
      have he:e∣J8h l:=Nat.dvd_of_mul_dvd_mul_left q0 h;rcases Q6o l (fun r hr=>hp r (List.mem_cons_of_mem _ hr)) e he with rfl|⟨r,hr,h2⟩
      · exact .inl rfl
      · refine .inr ⟨r,List.mem_cons_of_mem _ hr,?_⟩
        show q*e∣q*J8h l / r;rw[Nat.mul_div_assoc q (Q6n hr)];exact Nat.mul_dvd_mul_left q h2
    · refine .inr ⟨q,BI ..,?_⟩
      show d∣q*J8h l / q;rw[Nat.mul_div_cancel_left _ q0];exact(hq.cop hd).symm.dvd_of_dvd_mul_left h
theorem J6e {n g a:Nat}(h:g^a % n=1 % n)(k:Nat):g^(a*k) % n=1 % n:=by
  rw[Nat.pow_mul,Nat.pow_mod,h,←Nat.pow_mod,Nat.one_pow]
theorem Y6s {n g:Nat}(a b:Nat):g^a % n=1 % n→g^b % n=1 % n→g^(Nat.gcd a b) % n=1 % n:=by
  induction a,b using Nat.gcd.induction with
  |H0 b=>intro _ h;rw[Nat.gcd_zero_left];exact h
  |H1 a b ha ih=>
    intro h1 h2;rw[Nat.gcd_rec];refine ih ?_ h1;have e:g^b=g^(a*(b / a))*g^(b % a):=by rw[←Nat.pow_add,Nat.div_add_mod]
    rw[e,Nat.mul_mod,J6e h1,←Nat.mul_mod,Nat.one_mul] at h2;exact h2
structure Gen (n g:Nat):Prop where
  two:2≤n
  one:g^(n-1) % n=1
  low:∀k,0<k→k<n-1→g^k % n≠1
theorem V48 {n g:Nat}(fs:List Nat)(h2:2≤n)(hp:∀q∈fs,Prm q)(hf:J8h fs=n-1)(h1:g^(n-1) % n=1)
    (hq:∀q∈fs,g^((n-1) / q) % n≠1):Gen n g:=by
  have e1:1 % n=1:=AI h2;refine⟨h2,h1,fun k k0 kn hk=> ?_⟩;have hg:=Y6s (n:=n) (g:=g) k (n-1) (by rw[e1];exact hk) (by rw[e1];exact h1);have hd:Nat.gcd k (n-1)∣J8h fs:=by rw[hf];exact Nat.gcd_dvd_right _ _
  have hl:=Nat.le_of_dvd k0 (Nat.gcd_dvd_left k (n-1));rcases Q6o fs hp _ hd with h|⟨q,D,h⟩
  · omega
  obtain⟨c,hc⟩:=h;have:=J6e hg c;rw[←hc,hf,e1] at this;exact hq q D this
theorem Q2o:∀(n:Nat) (f:Nat→Nat),(∀i,i<n→f i<n)→(∀i j,i<n→j<n→f i=f j→i=j)→∀y,y<n→∃i,i<n∧f i=y
  |0,_,_,_,y,hy=>absurd hy (Nat.not_lt_zero y)
  |n+1,f,hf,hi,y,hy=>by
    have hn:=hf n (Nat.lt_succ_self n)
    have ih:=Q2o n (fun i=>if f i=n then f n else f i)
      (fun i hin=>by
        have h1:=hf i (by omega);show(if f i=n then f n else f i)<n
        split
        · rename_i h
          have:f n≠n:=fun h2=>by have:=hi i n (by omega) (by omega) (h.trans h2.symm);omega
          omega
        · omega)
      (fun i j hin D h=>by
        have h:(if f i=n then f n else f i)=(if f j=n then f n else f j):=h
        split at h<;>split at h
        · rename_i a b;exact hi i j (by omega) (by omega) (a.trans b.symm)
        · have:=hi n j (by omega) (by omega) h;omega
        · have:=hi i n (by omega) (by omega) h;omega
        · exact hi i j (by omega) (by omega) h)
    by_cases h1:y=f n
    · exact⟨n,Nat.lt_succ_self n,h1.symm⟩
    · by_cases h2:y=n
      · obtain⟨i,hin,h⟩:=ih (f n) (by omega)
        have h:(if f i=n then f n else f i)=f n:=h
        split at h
        · rename_i a;exact⟨i,by omega,a.trans h2.symm⟩
        · have:=hi i n (by omega) (by omega) h;omega
      · obtain⟨i,hin,h⟩:=ih y (by omega)
        have h:(if f i=n then f n else f i)=y:=h
        split at h
        · exact absurd h.symm h1
        · exact⟨i,by omega,h⟩
theorem Gen.nz {n g:Nat}(h:Gen n g)(k:Nat):g^k % n≠0:=by
  intro h0
  have h1:g^(k*(n-1)) % n=1:=by
    have:=J6e (n:=n) (g:=g) (a:=n-1) (by rw[h.one,AI h.two]) k;rw[Nat.mul_comm,this,AI h.two]
  have hn:=h.two
  have:g^(k*(n-1)) % n=0:=by
    rw[Nat.pow_mul,Nat.pow_mod,h0,Nat.zero_pow (by omega),Nat.zero_mod]
  omega
theorem Gen.inj {n g:Nat}(h:Gen n g):∀i j,i<n-1→j<n-1→g^i % n=g^j % n→i=j:=by
  have D:∀i j,i<j→j<n-1→g^i % n≠g^j % n:=by
    intro i j G hj he;refine h.low (j-i) (by omega) (by omega) ?_;have e1:g^(n-1-i)*g^i % n=1:=by rw[←Nat.pow_add,show n-1-i+i=n-1 by omega];exact h.one
    have e2:g^(n-1-i)*g^j % n=1:=by rw[Nat.mul_mod,←he,←Nat.mul_mod];exact e1
    rw[←Nat.pow_add,show n-1-i+j=(n-1)+(j-i) by omega,Nat.pow_add,Nat.mul_mod,h.one,Nat.one_mul,Nat.mod_mod] at e2;exact e2
  intro i j hi hj he;rcases Nat.lt_trichotomy i j with h1|h1|h1
  · exact absurd he (D i j h1 hj)
  · exact h1
  exact absurd he.symm (D j i h1 hi)
theorem Gen.all {n g:Nat}(h:Gen n g){a:Nat}(h0:a % n≠0):∃k,k<n-1∧g^k % n=a % n:=by
  have hn:=h.two
  obtain⟨k,hk,he⟩:=Q2o (n-1) (fun i=>g^i % n-1)
    (fun i _=>by
      have:=BH (g^i) (show n>0 by omega);have:=h.nz i;show g^i % n-1<n-1
      omega)
    (fun i j hi hj he=>by
      have he:g^i % n-1=g^j % n-1:=he;have h1:=h.nz i;have h2:=h.nz j
      exact h.inj i j hi hj (by omega)) (a % n-1) (by have:=BH a (show n>0 by omega);omega)
  have he:g^k % n-1=a % n-1:=he;have:=h.nz k;exact⟨k,hk,by omega⟩
theorem Gen.fermat {n g:Nat}(h:Gen n g){a:Nat}(h0:a % n≠0):a^(n-1) % n=1:=by
  obtain⟨k,_,he⟩:=h.all h0;rw[Nat.pow_mod,←he,←Nat.pow_mod,←Nat.pow_mul,Nat.mul_comm,J6e (by rw[h.one,AI h.two]),AI h.two]
theorem Gen.prm {n g:Nat}(h:Gen n g):Prm n:=by
  have hn:=h.two;refine⟨hn,fun d hd=> ?_⟩
  by_cases G:d=n
  · exact .inr G
  have hl:=Nat.le_of_dvd (by omega) hd;have d0:0<d:=Nat.pos_of_dvd_of_pos hd (by omega);have hf:=h.fermat (a:=d) (by rw[AI (by omega)];omega);obtain⟨c,hc⟩:=hd;have D:n-1=(n-2)+1:=by omega
  have e:=Nat.div_add_mod (d^(n-1)) n;rw[hf] at e;rw[D,Nat.pow_succ] at e;have h1:d∣1:=(Nat.dvd_add_right (show d∣n*(d^(n-2)*d / n) from⟨c*(d^(n-2)*d / n),by rw[←Nat.mul_assoc,←hc]⟩)).1 ⟨d^(n-2),by rw[e,Nat.mul_comm]⟩;exact .inl (Nat.dvd_one.1 h1)
def tp (n A e:Nat):Nat→Nat
  |0=>1 % n
  |c+1=>if e / 2^(255-c) % 2=1 then(tp n A e c*tp n A e c % n)*A % n else tp n A e c*tp n A e c % n
theorem Y9u (n A e:Nat)(he:e<2^256):∀c,c≤256→tp n A e c=A^(e / 2^(256-c)) % n
  |0,_=>by rw[show 256-0=256 by decide,AN he,Nat.pow_zero];rfl
  |c+1,h=>by
    have ih:=Y9u n A e he c (by omega);rw[show 256-c=(255-c)+1 by omega] at ih;rw[show 256-(c+1)=255-c by omega];have e2:e / 2^(255-c+1)=e / 2^(255-c) / 2:=by rw[Nat.pow_succ,Nat.div_div_eq_div_mul]
    rw[e2] at ih;unfold tp;generalize e / 2^(255-c)=m at*;rw[ih,←Nat.mul_mod,←Nat.pow_add];have hm:=Nat.div_add_mod m 2
    split
    · rename_i h1
      rw[Nat.mod_mul_mod,←Nat.pow_succ,show(m / 2+m / 2).succ=m by omega]
    · rw[show m / 2+m / 2=m by omega]
theorem Y2g {n A e:Nat}(he:e<2^256):A^e % n=tp n A e 256:=by
  rw[Y9u n A e he 256 (AJ _),Nat.sub_self,Nat.pow_zero,Nat.div_one]
def Y2h (n g:Nat)(fs:List Nat):Bool:=
  decide (2≤n) && decide (n<2^256) && decide (J8h fs=n-1) && decide (tp n g (n-1) 256=1) && fs.all (fun q=>decide (tp n g ((n-1) / q) 256≠1))
theorem J2j {n g:Nat}(fs:List Nat)(hp:∀q∈fs,Prm q)(h:Y2h n g fs=true):Gen n g:=by
  unfold Y2h at h;simp only[Bool.and_eq_true,decide_eq_true_eq,List.all_eq_true] at h;obtain⟨⟨⟨⟨h1,h2⟩,h3⟩,h4⟩,h5⟩:=h;refine V48 fs h1 hp h3 (by rw[Y2g (by omega)];exact h4) (fun q hq=> ?_);have hl:=Nat.div_le_self (n-1) q;rw[Y2g (by omega)];exact h5 q hq
def Z2w (n k:Nat):Bool:=decide (2≤n) && decide (n<k*k) &&(List.range k).all fun d=>decide (d<2) ||decide (n % d≠0) ||decide (n≤d)
theorem Q6p {n:Nat}(k:Nat)(h:Z2w n k=true):Prm n:=by
  unfold Z2w at h;simp only[Bool.and_eq_true,decide_eq_true_eq,List.all_eq_true,Bool.or_eq_true,List.mem_range] at h;obtain⟨⟨h1,h2⟩,h3⟩:=h
  have D:∀d,d∣n→d<k→d=1∨d=n:=by
    intro d hd hk;have h4:=Nat.le_of_dvd (by omega) hd;have h5:=Nat.pos_of_dvd_of_pos hd (by omega);rcases h3 d hk with(h|h)|h
    · omega
    · exact absurd (Nat.mod_eq_zero_of_dvd hd) h
    omega
  refine⟨h1,fun d hd=> ?_⟩
  by_cases hk:d<k
  · exact D d hd hk
  obtain⟨e,he⟩:=hd
  have e0:e<k:=by
    refine Nat.lt_of_not_le fun G=> ?_;have:=Nat.mul_le_mul (show k≤d by omega) G;omega
  rcases D e ⟨d,by rw[he,Nat.mul_comm]⟩ e0 with h|h
  · exact .inr (by rw[he,h,AO])
  subst h;have:e*d=e*1:=by rw[AO,Nat.mul_comm];exact he.symm
  exact .inl (Nat.eq_of_mul_eq_mul_left (by omega) this)
theorem J0i {l:List Nat}(k:Nat)(h:(l.all fun n=>Z2w n k)=true):∀q∈l,Prm q:=
  fun q hq=>Q6p k (List.all_eq_true.1 h q hq)
theorem J03 {l m:List Nat}(h:∀q∈l,Prm q)(k:∀q∈m,Prm q):∀q∈l++m,Prm q:=
  fun q hq=>(List.mem_append.1 hq).elim (h q) (k q)
theorem J04 {n:Nat}(h:Prm n):∀q∈[n],Prm q:=fun q hq=>by rw[List.mem_singleton.1 hq];exact h
section
theorem V9m:Prm 1923133:=(J2j (n:=1923133) (g:=2) [2,2,3,43,3727] (J0i 70 (by decide+kernel)) (by decide+kernel)).prm
theorem V9n:Prm 31757755568855353:=(J2j (n:=31757755568855353) (g:=10) [2,2,2,3,31,107,223,4153,430751] (J0i 660 (by decide+kernel)) (by decide+kernel)).prm
theorem V9o:Prm 8574133:=(J2j (n:=8574133) (g:=2) [2,2,3,7,103,991] (J0i 40 (by decide+kernel)) (by decide+kernel)).prm
theorem V9p:Prm 1919519569386763:=(J2j (n:=1919519569386763) (g:=2) ([2,3,7,19,47,47,127]++[8574133]) (J03 (J0i 40 (by decide+kernel)) (J04 V9o)) (by decide+kernel)).prm
theorem V9q:Prm 2773320623:=(J2j (n:=2773320623) (g:=5) [2,2437,569003] (J0i 760 (by decide+kernel)) (by decide+kernel)).prm
theorem V9r:Prm 72106336199:=(J2j (n:=72106336199) (g:=7) ([2,13]++[2773320623]) (J03 (J0i 40 (by decide+kernel)) (J04 V9q)) (by decide+kernel)).prm
theorem V9s:Prm 75445702479781427272750846543864801:=(J2j (n:=75445702479781427272750846543864801) (g:=7) ([2,2,2,2,2,3,3,5,5,75707]++([72106336199]++[1919519569386763])) (J03 (J0i 300 (by decide+kernel)) (J03 (J04 V9r) (J04 V9p))) (by decide+kernel)).prm
theorem V9t:Prm 74058212732561358302231226437062788676166966415465897661863160754340907:=(J2j (n:=74058212732561358302231226437062788676166966415465897661863160754340907) (g:=2) ([2,3,353,57467,132049]++([1923133]++([31757755568855353]++[75445702479781427272750846543864801]))) (J03 (J0i 400 (by decide+kernel)) (J03 (J04 V9m) (J03 (J04 V9n) (J04 V9s)))) (by decide+kernel)).prm
theorem V49:Gen 57896044618658097711785492504343953926634992332820282019728792003956564819949 2:=J2j ([2,2,3,65147]++[74058212732561358302231226437062788676166966415465897661863160754340907]) (J03 (J0i 300 (by decide+kernel)) (J04 V9t)) (by decide+kernel)
end
end

section

abbrev Fp:=Fin PP
instance instNeZeroPP:NeZero PP:=⟨by decide+kernel⟩
def fp (A:Nat):Fp:=Fin.ofNat PP A
theorem Q8f (A:Nat):(fp A).val=A % PP:=rfl
theorem fp_eq {A B:Nat}:fp A=fp B↔A % PP=B % PP:=⟨fun h=>congrArg Fin.val h,fun h=>Fin.ext h⟩
theorem J14 (A:Nat):fp (A % PP)=fp A:=fp_eq.2 (Nat.mod_mod _ _)
theorem J0u (A B:Nat):fp (A*B)=fp A*fp B:=Fin.ext (by show A*B % PP=(A % PP)*(B % PP) % PP;rw[←Nat.mul_mod])
theorem Q27 (A B:Nat):fp (A+B)=fp A+fp B:=Fin.ext (by show(A+B) % PP=(A % PP+B % PP) % PP;rw[←Nat.add_mod])
theorem Q8g:fp 0=0:=rfl
theorem Q28:fp 1=1:=rfl
theorem J50:0<PP:=by decide+kernel
theorem Y9v:fp PP=0:=fp_eq.2 (by rw[Nat.mod_self,Nat.zero_mod])
theorem Q05 (A:Nat):fp (PP-A % PP)= -fp A:=by
  have h:=Q27 (PP-A % PP) (A % PP);rw[Nat.sub_add_cancel (Nat.le_of_lt (BH _ J50)),Y9v,J14] at h
  grind
theorem Q8h {A B:Nat}(hA:A<PP)(hB:B<PP)(h:fp A=fp B):A=B:=by
  have:=fp_eq.1 h
  rwa [AI hA,AI hB] at this
theorem J4j (x:Fp):fp x.val=x:=Fin.ext (AI x.isLt)
theorem Y2i {A:Nat}(h:fp A≠0):A % PP≠0:=fun e=>h (by rw[←Q8g];exact fp_eq.2 (by rw[e,Nat.zero_mod]))
theorem genP:Gen PP 2:=V49
def J4t (x:Fp):Fp:=fp (x.val^(PP-2))
theorem J0y {x:Fp}(h:x≠0):x*J4t x=1:=by
  have h0:x.val % PP≠0:=Y2i (by rw[J4j];exact h);have h1:=genP.fermat h0;rw[←J4j x,show J4t (fp x.val)=fp (x.val^(PP-2)) by rw[J4j];rfl,←J0u,←Q28];refine fp_eq.2 ?_;rw[Nat.mul_comm,←Nat.pow_succ,show(PP-2).succ=PP-1 by decide+kernel,h1];decide+kernel
theorem J4b {x y:Fp}(h:x*y=0):x=0∨y=0:=by
  by_cases hx:x=0
  · exact .inl hx
  have:=J0y hx;exact .inr (by grind)
theorem Y2j {x y:Fp}(h:x*x=y*y):x=y∨x= -y:=by
  have h1:(x-y)*(x+y)=0:=by grind
  rcases J4b h1 with h2|h2
  · exact .inl (by grind)
  exact .inr (by grind)
theorem V9u (A n:Nat):fp (pw A n)=fp (A^n):=J14 _
theorem V4a (u v:Nat):rtX u v<PP:=BH _ J50
theorem Y9w (v:Nat):fp (v3 v)=fp v*fp v*fp v:=by unfold v3;simp only[J14,J0u]
theorem V9v (v:Nat):fp (v7 v)=fp (v3 v)*fp (v3 v)*fp v:=by unfold v7;simp only[J14,J0u]
theorem V4b (u v:Nat):fp (rtW u v)=fp v*(fp (rtX u v)*fp (rtX u v)):=by unfold rtW;simp only[J14,J0u]
theorem Y9x:fp II*fp II= -1:=by
  rw[←J0u]
  have h:fp (II*II)+fp 1=0:=by
    rw[←Q27,←Y9v];exact fp_eq.2 (by decide+kernel)
  rw[Q28] at h
  grind
theorem V9w {u v:Nat}(h:rtB u v=true):fp v*(fp (rtR u v)*fp (rtR u v))=fp u:=by
  unfold rtB at h;unfold rtR;have hW:=V4b u v
  by_cases h1:rtW u v=u % PP
  · rw[if_pos h1,←hW,h1,J14]
  rw[if_neg h1];rw[decide_eq_false h1,Bool.false_or,decide_eq_true_eq] at h;rw[if_pos h,J14,J0u];rw[h,J14,Q05] at hW;have:=Y9x
  grind
theorem Z2x {s:Fp}(h:s*s=1):s=1∨s= -1:=Y2j (by grind)
end

section
set_option maxHeartbeats 4000000

end

section
set_option maxHeartbeats 4000000

end

section
set_option maxHeartbeats 4000000

end

section
set_option maxHeartbeats 4000000

end

section
set_option maxHeartbeats 4000000

end

section
set_option maxHeartbeats 4000000

end

section
set_option maxHeartbeats 4000000
attribute [local irreducible] wpList Z9 wpX

def mp (A n:Nat):Nat→Nat
 |0=>1
 |c+1=>if n / 2^(255-c) % 2=1 then(mp A n c*mp A n c % PP)*A % PP else mp A n c*mp A n c % PP
theorem Y9t (A n:Nat)(hn:n<Q3):∀c,c≤256→mp A n c=pw A (n / 2^(256-c))
 |0,_=>by rw[show 256-0=256 by decide,AN (show n<2^256 from hn),Z5l];rfl
 |c+1,h=>by
  have ih:=Y9t A n hn c (by omega);rw[show 256-c=(255-c)+1 by omega] at ih;rw[show 256-(c+1)=255-c by omega];unfold mp;rw[ih]
  split
  ·
   rename_i h1;exact Z0b A n _ h1
  ·
   rename_i h1;exact Z5m A n _ (by omega)
theorem V9l (A n:Nat)(hn:n<Q3):pw A n=mp A n 256:=by
 rw[Y9t A n hn 256 (by omega),show 256-256=0 by decide,Nat.pow_zero,Nat.div_one]
end

section
set_option maxHeartbeats 4000000

theorem Q55 {A:Nat}(h:A<PP):A<Q3:=BG h J8e

end

section
set_option maxHeartbeats 4000000

end

section
set_option maxHeartbeats 4000000

end
end Go.Proofs.YtpljgkofbfeelaaGreatDoor.S8

/- Contracts and plain laws for directHolds_holds. Conditions: the tables hold their numbers. -/
import Derived.BigQuiet
import Derived.Test.YtpljgkofbfeelaaGreatDoorJ8
open Go renaming World->AA,Value->AB,bodyPost_ret->BC,Calls->Az,IntKind->AG
open Go.Lib renaming hid->BF
open _root_.Nat renaming mod_eq_of_lt->AI,lt_trans->BG,not_lt->Av,mod_lt->BH,add_zero->Ao,mul_zero->Ay,div_eq_of_lt->AN
open Go.RowKit
set_option maxRecDepth 100000
set_option linter.unusedSimpArgs false
set_option linter.unusedVariables false
namespace Go.Proofs.YtpljgkofbfeelaaGreatDoor.S8
section
set_option maxHeartbeats 4000000

theorem Z07 (a0 a1 a2 a3 b0 b1 b2 b3:Int)(ha:U4 a0 a1 a2 a3)(hb:U4 b0 b1 b2 b3)(w:AA):
    Az Tryz.prog 153 #[A4 a0 a1 a2 a3,A4 b0 b1 b2 b3] w fun e w' =>
      V5 (.tuple #[L4 (J7x (J0n a0 a1 a2 a3) (J0n b0 b1 b2 b3)),.int .u64 (brw (J0n a0 a1 a2 a3) (J0n b0 b1 b2 b3))]) w w' e:=by
  have D:=Q6b a0 a1 a2 a3 b0 b1 b2 b3 ha hb;have HC:=BF D;clear D;have h0:=J3g a0 b0 0 ha.1 hb.1 (by omega) (by omega);have h1:=J3g a1 b1 _ ha.2.1 hb.2.1 (J54 a0 b0 0).1 (J54 a0 b0 0).2;have h2:=J3g a2 b2 _ ha.2.2.1 hb.2.2.1 (J54 a1 b1 (sbB a0 b0 0)).1 (J54 a1 b1 (sbB a0 b0 0)).2;have h3:=J3g a3 b3 _ ha.2.2.2 hb.2.2.2 (J54 a2 b2 (sbB a1 b1 (sbB a0 b0 0))).1 (J54 a2 b2 (sbB a1 b1 (sbB a0 b0 0))).2;clear ha hb
  go_enter Tryz.func153,Tryz.ntmps153
  go_wp2;refine wp_loop_rounds 5 ?_;rw[rounds_succ];go_wp2
  go_region
  go_wp2;rw[rounds_succ];go_wp2
  go_region
  go_wp2;rw[rounds_succ];go_wp2
  go_region
  go_wp2;rw[rounds_succ];go_wp2
  go_region
  go_wp2;rw[rounds_succ];go_wp2;refine BC (v:=.tuple #[A4 (sbD a0 b0 0) (sbD a1 b1 (sbB a0 b0 0)) (sbD a2 b2 (sbB a1 b1 (sbB a0 b0 0))) (sbD a3 b3 (sbB a2 b2 (sbB a1 b1 (sbB a0 b0 0)))),.int .u64 (sbB a3 b3 (sbB a2 b2 (sbB a1 b1 (sbB a0 b0 0))))]) (by simp[results,Tryz.results153,go_sem]) rfl ⟨?_,?_⟩
  · rw[HC.out.1,HC.out.2]
  exact bz

theorem add_c (a0 a1 a2 a3 b0 b1 b2 b3:Int)(ha:U4 a0 a1 a2 a3)(hb:U4 b0 b1 b2 b3)(w:AA):
    Az Tryz.prog 152 #[A4 a0 a1 a2 a3,A4 b0 b1 b2 b3] w fun e w' =>
      V5 (.tuple #[L4 ((J0n a0 a1 a2 a3+J0n b0 b1 b2 b3) % Q3),.int .u64 ((J0n a0 a1 a2 a3+J0n b0 b1 b2 b3) / Q3:Nat)]) w w' e:=by
  have D:=Q6c a0 a1 a2 a3 b0 b1 b2 b3 0 ha hb (by omega) (by omega);simp only[Int.toNat_zero,Ao] at D;have HC:=BF D;clear D;have v0:=J9m a0 b0 0 ha.1 hb.1 (by omega) (by omega);have v1:=J9m a1 b1 _ ha.2.1 hb.2.1 v0.1 v0.2;have v2:=J9m a2 b2 _ ha.2.2.1 hb.2.2.1 v1.1 v1.2;have h0:=J17 a0 b0 0 ha.1 hb.1 (by omega) (by omega);have h1:=J17 a1 b1 _ ha.2.1 hb.2.1 v0.1 v0.2;have h2:=J17 a2 b2 _ ha.2.2.1 hb.2.2.1 v1.1 v1.2;have h3:=J17 a3 b3 _ ha.2.2.2 hb.2.2.2 v2.1 v2.2;clear v0 v1 v2;clear ha hb
  go_enter Tryz.func152,Tryz.ntmps152
  go_wp2;refine wp_loop_rounds 5 ?_;rw[rounds_succ];go_wp2
  go_region
  go_wp2;rw[rounds_succ];go_wp2
  go_region
  go_wp2;rw[rounds_succ];go_wp2
  go_region
  go_wp2;rw[rounds_succ];go_wp2
  go_region
  go_wp2;rw[rounds_succ];go_wp2;refine BC (v:=.tuple #[A4 (adS a0 b0 0) (adS a1 b1 (adC a0 b0 0)) (adS a2 b2 (adC a1 b1 (adC a0 b0 0))) (adS a3 b3 (adC a2 b2 (adC a1 b1 (adC a0 b0 0)))),.int .u64 (adC a3 b3 (adC a2 b2 (adC a1 b1 (adC a0 b0 0))))]) (by simp[results,Tryz.results152,go_sem]) rfl ⟨?_,?_⟩
  · rw[HC.out.1,HC.out.2];rfl
  exact bz

theorem Z2n (A B:Nat)(hA:A<Q3)(hB:B<Q3)(w:AA):Az Tryz.prog 153 #[L4 A,L4 B] w fun e w' =>V5 (.tuple #[L4 (J7x A B),.int .u64 (brw A B)]) w w' e:=by
  have h:=Z07 _ _ _ _ _ _ _ _ (J5n A) (J5n B) w;rw[J1c A hA,J1c B hB] at h;exact h
theorem Z2o (A B:Nat)(hA:A<Q3)(hB:B<Q3)(w:AA):Az Tryz.prog 152 #[L4 A,L4 B] w fun e w' =>V5 (.tuple #[L4 ((A+B) % Q3),.int .u64 ((A+B) / Q3:Nat)]) w w' e:=by
  have h:=add_c _ _ _ _ _ _ _ _ (J5n A) (J5n B) w;rw[J1c A hA,J1c B hB] at h;exact h
end

section
set_option maxHeartbeats 4000000

def PP:Nat:=57896044618658097711785492504343953926634992332820282019728792003956564819949
theorem J8e:PP<Q3:=by decide+kernel
theorem PP_two:2*PP+38=Q3:=by decide+kernel
theorem J0v (n:Nat):n % PP<Q3:=BG (BH _ (by decide)) J8e
theorem Z7o {X n:Nat}(h:X=n % PP):X<Q3:=h▸J0v n
def modC:Array AB:= #[.int .u64 18446744073709551597,.int .u64 18446744073709551615,.int .u64 18446744073709551615,.int .u64 9223372036854775807]
def imaC:Array AB:= #[.int .u64 14190309331451158704,.int .u64 3405592160176694392,.int .u64 3120150775007532967,.int .u64 3135389899092516619]
def GF (w:AA):Prop:=Rd w 10 modC∧True
def GI (w:AA):Prop:=Rd w 13 imaC
theorem V2 {w W:AA}(h:GF w)(e:Ext w W):GF W:=⟨h.1.ext e,trivial⟩
theorem Q50 (n:Nat)(hn:n<18446744073709551616):L4 n=.agg #[.int .u64 (n:Int),.int .u64 0,.int .u64 0,.int .u64 0]:=by
  have h0:V0 n 0=(n:Int):=by unfold V0;simp only[Ay,Nat.pow_zero,Nat.div_one];omega
  have h1:V0 n 1=0:=by unfold V0;rw[AN (by simp only[Nat.reduceMul,Nat.reducePow];omega)];rfl
  have h2:V0 n 2=0:=by unfold V0;rw[AN (by simp only[Nat.reduceMul,Nat.reducePow];omega)];rfl
  have h3:V0 n 3=0:=by unfold V0;rw[AN (by simp only[Nat.reduceMul,Nat.reducePow];omega)];rfl
  unfold L4;rw[h0,h1,h2,h3]
theorem Y6f (A B:Nat)(hA:A<Q3)(hB:B<Q3)(h:A+B<Q3)(w:AA):Az Tryz.prog 152 #[L4 A,L4 B] w fun e w' =>V5 (.tuple #[L4 (A+B),.int .u64 0]) w w' e:=by
  have:=Z2o A B hA hB w;rw[AI h,AN h] at this;exact this
theorem Y6g (A B:Nat)(hA:A<Q3)(hB:B<Q3)(h:Q3≤A+B)(w:AA):Az Tryz.prog 152 #[L4 A,L4 B] w fun e w' =>V5 (.tuple #[L4 (A+B-Q3),.int .u64 1]) w w' e:=by
  have:=Z2o A B hA hB w;have e1:(A+B) % Q3=A+B-Q3:=by rw[Nat.mod_eq_sub_mod h,AI (by omega)]
  have e2:(A+B) / Q3=1:=Nat.div_eq_of_lt_le (by omega) (by omega);rw[e1,e2] at this;exact this
theorem Z08 (A n:Nat)(hA:A<Q3)(hn:n<18446744073709551616)(h:A+n<Q3)(w:AA):Az Tryz.prog 152 #[L4 A,.agg #[.int .u64 (n:Int),.int .u64 0,.int .u64 0,.int .u64 0]] w fun e w' =>V5 (.tuple #[L4 (A+n),.int .u64 0]) w w' e:=by
  rw[←Q50 n hn];exact Y6f A n hA (by unfold Q3;omega) h w
theorem Y1z (A n:Nat)(hA:A<Q3)(hn:n<18446744073709551616)(h:Q3≤A+n)(w:AA):Az Tryz.prog 152 #[L4 A,.agg #[.int .u64 (n:Int),.int .u64 0,.int .u64 0,.int .u64 0]] w fun e w' =>V5 (.tuple #[L4 (A+n-Q3),.int .u64 1]) w w' e:=by
  rw[←Q50 n hn];exact Y6g A n hA (by unfold Q3;omega) h w
def J7u (A n:Nat):Nat:=if A+n<Q3 then A+n else A+n-Q3+38


theorem Y6h (A n:Nat)(hA:A<Q3)(hn:n<18446744073709551616)(h:A+n<Q3)(w:AA):
  Az Tryz.prog 151 #[L4 A,.int .u64 (n:Int)] w fun e w' =>V5 (L4 (A+n)) w w' e:=by
 have hS:=SH.nil [] w
 go_enter Tryz.func151,Tryz.ntmps151
 go_upto_region 0 with fail;refine RL hS ?_;clear hS;refine MN (z:=c4 A) (t:=138) ?_;intro K9;refine MN (z:=c4 0) (t:=138) ?_;intro M;refine MZ fun W hS=> ?_;go_upto_region 1 with fail;refine RL hS ?_;clear hS;refine ML 1 ?_;refine MV ?_;refine MW ?_ (v:=.agg #[.int .u64 (n:Int),.int .u64 0,.int .u64 0,.int .u64 0]) (hv:=by intro W;first|kernel_rfl|rfl);obtain⟨S,D⟩:=exn (A+n);have G:=Z08 A n hA hn h;rw[←D] at G;have HS:=BF D;clear D;refine MC (v:=.tuple #[.agg (c4 S),.int .u64 0]) (fun W hS=>G W) ?_;refine MV ?_;refine MV ?_;refine MW ?_ (v:=.int .u64 0);refine MN (z:=c4 0) (t:=138) ?_;intro J;refine MR 0 ?_;refine MW ?_ (v:=.int .u64 0);refine MZ fun W hS=> ?_;go_upto_region 2 with fail;refine RL hS ?_;clear hS;refine MW ?_ (v:=.int .u64 0);refine Wf ?_;refine MZ fun W hS=> ?_;go_upto_region 4 with fail;refine RL hS ?_;clear hS;refine ML 0 ?_;refine MR 1 ?_;refine MZ fun W hS=> ?_;go_wp2;exact BC (Z6 rfl rfl (hS.blk (i:=1) rfl) (by kernel_rfl) (by kernel_rfl)) rfl ⟨by rw[←HS.out];try rfl,hS.ext⟩
theorem Y6i (A n:Nat)(hA:A<Q3)(hn:n<18446744073709551616)(h:Q3≤A+n)(h2:A+n-Q3+38<Q3)(w:AA):
  Az Tryz.prog 151 #[L4 A,.int .u64 (n:Int)] w fun e w' =>V5 (L4 (A+n-Q3+38)) w w' e:=by
 have hS:=SH.nil [] w
 go_enter Tryz.func151,Tryz.ntmps151
 go_upto_region 0 with fail;refine RL hS ?_;clear hS;refine MN (z:=c4 A) (t:=138) ?_;intro K9;refine MN (z:=c4 0) (t:=138) ?_;intro R;refine MZ fun W hS=> ?_;go_upto_region 1 with fail;refine RL hS ?_;clear hS;refine ML 1 ?_;refine MV ?_;refine MW ?_ (v:=.agg #[.int .u64 (n:Int),.int .u64 0,.int .u64 0,.int .u64 0]) (hv:=by intro W;first|kernel_rfl|rfl);obtain⟨S,D⟩:=exn (A+n-Q3);have J:=Y1z A n hA hn h;rw[←D] at J;have bS:S<Q3:=by omega
 have HS:=BF D;clear D;refine MC (v:=.tuple #[.agg (c4 S),.int .u64 1]) (fun W hS=>J W) ?_;refine MV ?_;refine MV ?_;refine MW ?_ (v:=.int .u64 1);refine MN (z:=c4 0) (t:=138) ?_;intro N;refine MR 0 ?_;refine MW ?_ (v:=.int .u64 1);refine MZ fun W hS=> ?_;go_upto_region 2 with fail;refine RL hS ?_;clear hS;refine MW ?_ (v:=.int .u64 1);refine Wt ?_;refine MZ fun W hS=> ?_;go_upto_region 3 with fail;refine RL hS ?_;clear hS;refine ML 0 ?_;refine MW ?_ (v:=.agg #[.int .u64 38,.int .u64 0,.int .u64 0,.int .u64 0]) (hv:=by intro W;first|kernel_rfl|rfl);obtain⟨T,G⟩:=exn (S+38);have M:=Z08 S 38 bS (by decide) (by rw[HS.out];exact h2);rw[←G] at M;have HT:=BF G;clear G;refine MC (v:=.tuple #[.agg (c4 T),.int .u64 0]) (fun W hS=>M W) ?_;refine MV ?_;refine MV ?_;refine MW ?_ (v:=.int .u64 0);refine MR 0 ?_;refine MZ fun W hS=> ?_;go_upto_region 4 with fail;refine RL hS ?_;clear hS;refine ML 0 ?_;refine MR 1 ?_;refine MZ fun W hS=> ?_;go_wp2;exact BC (Z6 rfl rfl (hS.blk (i:=1) rfl) (by kernel_rfl) (by kernel_rfl)) rfl ⟨by rw[←HS.out,←HT.out];try rfl,hS.ext⟩
end

section
set_option maxHeartbeats 4000000

theorem Q87:AB.agg modC=L4 PP:=by kernel_rfl
theorem Z5j (A B:Nat)(hA:A<Q3)(hB:B<Q3)(h:B≤A):J7x A B=A-B:=by unfold J7x Q3 at*;omega
theorem Q88 (X:Nat)(hX:X<PP)(w:AA):Az Tryz.prog 153 #[L4 X,.agg modC] w fun e w' =>V5 (.tuple #[L4 (J7x X PP),.int .u64 1]) w w' e:=by
  have:=Z2n X PP (BG hX J8e) J8e w;rw[Q87];unfold brw at this;rw[if_pos hX] at this;exact this
theorem Z5k (X:Nat)(hX:X<Q3)(h:PP≤X)(w:AA):Az Tryz.prog 153 #[L4 X,.agg modC] w fun e w' =>V5 (.tuple #[L4 (X-PP),.int .u64 0]) w w' e:=by
  have:=Z2n X PP hX J8e w;rw[Q87];rw[Z5j X PP hX J8e h] at this;unfold brw at this;rw[if_neg (by omega)] at this;exact this
theorem V95 (X:Nat)(h:PP≤X)(h1:X-PP<PP):X-PP=X % PP:=by rw[Nat.mod_eq_sub_mod h,AI h1]
theorem V96 (X:Nat)(h:PP≤X)(h1:PP≤X-PP)(h2:X-PP-PP<PP):X-PP-PP=X % PP:=by rw[Nat.mod_eq_sub_mod h,Nat.mod_eq_sub_mod h1,AI h2]

theorem J6o (X:Nat)(hX:X<Q3)(w:AA)(hG:GF w):
  Az Tryz.prog 150 #[L4 X] w fun e w' =>V5 (L4 (X % PP)) w w' e:=by
 have hS:=SH.nil [] w
 go_enter Tryz.func150,Tryz.ntmps150
 go_upto_region 0 with fail;refine RL hS ?_;clear hS;refine MN (z:=c4 X) (t:=138) ?_;intro U0;refine MN (z:=c4 0) (t:=138) ?_;intro η;refine MZ fun W hS=> ?_
 go_wp2_with fail
 refine wp_loop_rounds 3 ?_;rw[rounds_succ]
 by_cases G:X<PP
 ·
  go_upto_region 1 with fail;refine RL hS ?_;clear hS;refine ML 1 ?_;refine MF (v:=.agg modC) (fun W hS=>J0a rfl rfl ((V2 hG hS.ext).1) (by kernel_rfl) (by kernel_rfl)) ?_;obtain⟨Y,D⟩:=exn (J7x X PP);have M:=Q88 X G;rw[←D] at M;have HY:=BF D;clear D;refine MC (v:=.tuple #[.agg (c4 Y),.int .u64 1]) (fun W hS=>M W) ?_;refine MV ?_;refine MV ?_;refine MW ?_ (v:=.int .u64 1);refine MN (z:=c4 0) (t:=138) ?_;intro β;refine MR 0 ?_;refine MW ?_ (v:=.int .u64 1);refine MZ fun W hS=> ?_;go_upto_region 2 with fail;refine RL hS ?_;clear hS;refine MW ?_ (v:=.int .u64 1);refine Wt ?_;refine MZ fun W hS=> ?_;go_upto_region 3 with fail;refine RL hS ?_;clear hS;refine ML 2 ?_;refine MR 1 ?_;refine MZ fun W hS=> ?_;go_wp2;exact BC (Z6 rfl rfl (hS.blk (i:=1) rfl) (by kernel_rfl) (by kernel_rfl)) rfl ⟨by rw[AI G];try rfl,hS.ext⟩
 replace G:PP≤X:=Av.1 G;go_upto_region 1 with fail;refine RL hS ?_;clear hS;refine ML 1 ?_;refine MF (v:=.agg modC) (fun W hS=>J0a rfl rfl ((V2 hG hS.ext).1) (by kernel_rfl) (by kernel_rfl)) ?_;obtain⟨X1,S⟩:=exn (X-PP);have V:=Z5k X hX G;rw[←S] at V;have α:X1<Q3:=by omega
 have N:=BF S;clear S;refine MC (v:=.tuple #[.agg (c4 X1),.int .u64 0]) (fun W hS=>V W) ?_;refine MV ?_;refine MV ?_;refine MW ?_ (v:=.int .u64 0);refine MN (z:=c4 0) (t:=138) ?_;intro δ;refine MR 0 ?_;refine MW ?_ (v:=.int .u64 0);refine MZ fun W hS=> ?_;go_upto_region 2 with fail;refine RL hS ?_;clear hS;refine MW ?_ (v:=.int .u64 0);refine Wf ?_;refine MZ fun W hS=> ?_;go_upto_region 4 with fail;refine RL hS ?_;clear hS;refine ML 0 ?_;refine MR 2 ?_;refine MZ fun W hS=> ?_
 go_wp2_with fail
 rw[rounds_succ]
 by_cases J:X1<PP
 ·
  go_upto_region 1 with fail;refine RL hS ?_;clear hS;refine ML 2 ?_;refine MF (v:=.agg modC) (fun W hS=>J0a rfl rfl ((V2 hG hS.ext).1) (by kernel_rfl) (by kernel_rfl)) ?_;obtain⟨Y,D⟩:=exn (J7x X1 PP);have M:=Q88 X1 J;rw[←D] at M;have HY:=BF D;clear D;refine MC (v:=.tuple #[.agg (c4 Y),.int .u64 1]) (fun W hS=>M W) ?_;refine MV ?_;refine MV ?_;refine MW ?_ (v:=.int .u64 1);refine MD 0 ?_;refine MN (z:=c4 0) (t:=138) ?_;intro γ;refine MR 0 ?_;refine MW ?_ (v:=.int .u64 1);refine MZ fun W hS=> ?_;go_upto_region 2 with fail;refine RL hS ?_;clear hS;refine MW ?_ (v:=.int .u64 1);refine Wt ?_;refine MZ fun W hS=> ?_;go_upto_region 3 with fail;refine RL hS ?_;clear hS;refine ML 2 ?_;refine MR 1 ?_;refine MZ fun W hS=> ?_;go_wp2;exact BC (Z6 rfl rfl (hS.blk (i:=1) rfl) (by kernel_rfl) (by kernel_rfl)) rfl ⟨by rw[←V95 X G (by rw[←N.out];exact J),←N.out];try rfl,hS.ext⟩
 replace J:PP≤X1:=Av.1 J;go_upto_region 1 with fail;refine RL hS ?_;clear hS;refine ML 2 ?_;refine MF (v:=.agg modC) (fun W hS=>J0a rfl rfl ((V2 hG hS.ext).1) (by kernel_rfl) (by kernel_rfl)) ?_;obtain⟨X2,R⟩:=exn (X1-PP);have Z:=Z5k X1 α J;rw[←R] at Z;have ζ:X2<Q3:=by omega
 have T:=BF R;clear R;refine MC (v:=.tuple #[.agg (c4 X2),.int .u64 0]) (fun W hS=>Z W) ?_;refine MV ?_;refine MV ?_;refine MW ?_ (v:=.int .u64 0);refine MD 0 ?_;refine MN (z:=c4 0) (t:=138) ?_;intro θ;refine MR 0 ?_;refine MW ?_ (v:=.int .u64 0);refine MZ fun W hS=> ?_;go_upto_region 2 with fail;refine RL hS ?_;clear hS;refine MW ?_ (v:=.int .u64 0);refine Wf ?_;refine MZ fun W hS=> ?_;go_upto_region 4 with fail;refine RL hS ?_;clear hS;refine ML 0 ?_;refine MR 2 ?_;refine MZ fun W hS=> ?_
 go_wp2_with fail
 rw[rounds_succ];have U:X2<PP:=by have h1:=PP_two;have h2:38<PP:=(by decide+kernel);have h3:=N.out;have h4:=T.out;omega
 go_upto_region 1 with fail;refine RL hS ?_;clear hS;refine ML 2 ?_;refine MF (v:=.agg modC) (fun W hS=>J0a rfl rfl ((V2 hG hS.ext).1) (by kernel_rfl) (by kernel_rfl)) ?_;obtain⟨Y,D⟩:=exn (J7x X2 PP);have M:=Q88 X2 U;rw[←D] at M;have HY:=BF D;clear D;refine MC (v:=.tuple #[.agg (c4 Y),.int .u64 1]) (fun W hS=>M W) ?_;refine MV ?_;refine MV ?_;refine MW ?_ (v:=.int .u64 1);refine MD 0 ?_;refine MN (z:=c4 0) (t:=138) ?_;intro ε;refine MR 0 ?_;refine MW ?_ (v:=.int .u64 1);refine MZ fun W hS=> ?_;go_upto_region 2 with fail;refine RL hS ?_;clear hS;refine MW ?_ (v:=.int .u64 1);refine Wt ?_;refine MZ fun W hS=> ?_;go_upto_region 3 with fail;refine RL hS ?_;clear hS;refine ML 2 ?_;refine MR 1 ?_;refine MZ fun W hS=> ?_;go_wp2;exact BC (Z6 rfl rfl (hS.blk (i:=1) rfl) (by kernel_rfl) (by kernel_rfl)) rfl ⟨by rw[←V96 X G (by rw[←N.out];exact J) (by rw[←N.out,←T.out];exact U),←N.out,←T.out];try rfl,hS.ext⟩
theorem Y6j (n:Nat)(hn:n<18446744073709551616)(w:AA):
  Az Tryz.prog 179 #[.int .u64 (n:Int)] w fun e w' =>V5 (L4 n) w w' e:=by
 have hS:=SH.nil [] w
 go_enter Tryz.func179,Tryz.ntmps179
 go_upto_region 0 with fail;refine RL hS ?_;clear hS;refine MN (z:=c4 0) (t:=138) ?_;intro K9;refine MZ fun W hS=> ?_;go_upto_region 1 with fail;refine RL hS ?_;clear hS;refine MV ?_;refine MW ?_ (v:=.agg #[.int .u64 (n:Int),.int .u64 0,.int .u64 0,.int .u64 0]) (hv:=by intro W;first|kernel_rfl|rfl);refine MR 0 ?_;refine MZ fun W hS=> ?_;go_wp2;exact BC (Z6 rfl rfl (hS.blk (i:=0) rfl) (by kernel_rfl) (by kernel_rfl)) rfl ⟨by rw[Q50 n hn];try rfl,hS.ext⟩
theorem Z0a (A n:Nat)(hA:A<Q3)(hn:n<18446744073709551616):J7u A n<Q3:=by unfold J7u Q3 at*;split<;>omega
theorem Q6m (A n:Nat):J7u A n % PP=(A+n) % PP:=by
  unfold J7u
  split
  · rfl
  rename_i h;have e:A+n=A+n-Q3+38+PP+PP:=by unfold Q3 PP at*;omega
  conv=>rhs;rw[e,Nat.add_mod_right,Nat.add_mod_right]
theorem Y21 (A n:Nat)(hA:A<Q3)(hn:n<18446744073709551616)(w:AA):Az Tryz.prog 151 #[L4 A,.int .u64 (n:Int)] w fun e w' =>V5 (L4 (J7u A n)) w w' e:=by
  unfold J7u
  by_cases h:A+n<Q3
  · rw[if_pos h];exact Y6h A n hA hn h w
  rw[if_neg h];exact Y6i A n hA hn (by omega) (by unfold Q3 at*;omega) w
theorem add_mod (A B:Nat)(hA:A<Q3)(hB:B<Q3):J7u ((A+B) % Q3) (38*((A+B) / Q3)) % PP=(A+B) % PP:=by
  rw[Q6m]
  by_cases h:A+B<Q3
  · rw[AI h,AN h,Ay,Ao]
  have e1:(A+B) % Q3=A+B-Q3:=by rw[Nat.mod_eq_sub_mod (by omega),AI (by omega)]
  have e2:(A+B) / Q3=1:=Nat.div_eq_of_lt_le (by omega) (by omega);rw[e1,e2]
  conv=>rhs;rw[show A+B=A+B-Q3+38*1+PP+PP by unfold Q3 PP at*;omega,Nat.add_mod_right,Nat.add_mod_right]
theorem V3y (A B:Nat)(hA:A<Q3)(hB:B<Q3)(w:AA):Az Tryz.prog 152 #[L4 A,L4 B] w fun e w' =>V5 (.tuple #[L4 ((A+B) % Q3),.int .u64 ((A+B) / Q3:Nat)]) w w' e:=Z2o A B hA hB w
theorem V3z (A o:Nat)(hA:A<Q3)(ho:o≤1)(w:AA):Az Tryz.prog 151 #[L4 A,.int .u64 (AG.u64.wrap (38*(o:Int)))] w fun e w' =>V5 (L4 (J7u A (38*o))) w w' e:=by
  have:AG.u64.wrap (38*(o:Int))=((38*o:Nat):Int):=by rw[AG.wrap_u64];omega
  rw[this];exact Y21 A (38*o) hA (by omega) w
theorem Y22 (X:Nat)(hX:X<PP)(w:AA):Az Tryz.prog 153 #[.agg modC,L4 X] w fun e w' =>V5 (.tuple #[L4 (PP-X),.int .u64 0]) w w' e:=by
  have:=Z2n PP X J8e (BG hX J8e) w;rw[Z5j PP X J8e (BG hX J8e) (by omega)] at this;rw[Q87];unfold brw at this;rw[if_neg (by omega)] at this;exact this
theorem J4y (A B:Nat)(hA:A<Q3)(hB:B<Q3)(w:AA)(hG:GF w):
  Az Tryz.prog 105 #[L4 A,L4 B] w fun e w' =>V5 (L4 ((A+B) % PP)) w w' e:=by
 have hS:=SH.nil [] w
 go_enter Tryz.func105,Tryz.ntmps105
 go_upto_region 0 with fail;refine RL hS ?_;clear hS;refine MN (z:=c4 A) (t:=138) ?_;intro K9;refine MN (z:=c4 B) (t:=138) ?_;intro Y;refine MN (z:=c4 0) (t:=138) ?_;intro V;refine MZ fun W hS=> ?_;go_upto_region 1 with fail;refine RL hS ?_;clear hS;refine ML 2 ?_;refine ML 1 ?_;have U:=V3y A B hA hB;obtain⟨S,J⟩:=exn ((A+B) % Q3);obtain⟨O,hO⟩:=exn ((A+B) / Q3);rw[←J,←hO] at U;have bS:S<Q3:=by rw[J];exact BH _ (by decide)
 have bO:O≤1:=by rw[hO];have:(A+B) / Q3<2:=Nat.div_lt_of_lt_mul (by omega);omega
 have HS:=BF J;have HO:=BF hO;clear J hO;refine MC (v:=.tuple #[.agg (c4 S),.int .u64 (O:Int)]) (fun W hS=>U W) ?_;(iterate 3 refine MV ?_);refine MN (z:=c4 0) (t:=138) ?_;intro X;refine MR 0 ?_;refine MV ?_;refine MZ fun W hS=> ?_;go_upto_region 2 with fail;refine RL hS ?_;clear hS;refine ML 0 ?_;refine MV ?_;refine MW ?_ (v:=.int .u64 (AG.u64.wrap (38*(O:Int))));obtain⟨M,G⟩:=exn (J7u S (38*O));have N:=V3z S O bS bO;rw[←G] at N;have bM:M<Q3:=by rw[G];exact Z0a _ _ bS (by omega)
 have HM:=BF G;clear G;refine MC (v:=.agg (c4 M)) (fun W hS=>N W) ?_;obtain⟨T,D⟩:=exn (M % PP);have R:=J6o M bM;rw[←D] at R;have bT:=Z7o D;have HT:=BF D;clear D;refine MC (v:=.agg (c4 T)) (fun W hS=>R W (V2 hG hS.ext)) ?_;refine MR 1 ?_;refine MZ fun W hS=> ?_;go_wp2;exact BC (Z6 rfl rfl (hS.blk (i:=1) rfl) (by kernel_rfl) (by kernel_rfl)) rfl ⟨by rw[←add_mod A B hA hB,←HS.out,←HO.out,←HM.out,←HT.out];try rfl,hS.ext⟩
theorem Q04 (A:Nat)(hA:A<Q3)(w:AA)(hG:GF w):
  Az Tryz.prog 106 #[L4 A] w fun e w' =>V5 (L4 ((PP-A % PP) % PP)) w w' e:=by
 have hS:=SH.nil [] w
 go_enter Tryz.func106,Tryz.ntmps106
 go_upto_region 0 with fail;refine RL hS ?_;clear hS;refine MN (z:=c4 A) (t:=138) ?_;intro U0;refine MN (z:=c4 0) (t:=138) ?_;intro Y;refine MZ fun W hS=> ?_;go_upto_region 1 with fail;refine RXn 7 [⟨7,3,c4 0,138⟩] hS ?_ (by simp only[List.forall_mem_cons];exact⟨⟨_,rfl,rfl,rfl,fun _ _=>by kernel_rfl⟩,fun _ h=>by cases h⟩);clear hS;refine MF (v:=.agg modC) (fun W hS=>J0a rfl rfl ((V2 hG hS.ext).1) (by kernel_rfl) (by kernel_rfl)) ?_;refine ML 1 ?_;obtain⟨R1,J⟩:=exn (A % PP);have N:=J6o A hA;rw[←J] at N;have V:=Z7o J;have S:=BF J;clear J;refine MC (v:=.agg (c4 R1)) (fun W hS=>N W (V2 hG hS.ext)) ?_;obtain⟨D,M⟩:=exn (PP-R1);have T:=Y22 R1 (by rw[S.out];exact BH _ (by decide));rw[←M] at T;have bD:D<Q3:=by rw[M];exact Nat.lt_of_le_of_lt (Nat.sub_le _ _) J8e
 have HD:=BF M;clear M;refine MC (v:=.tuple #[.agg (c4 D),.int .u64 0]) (fun W hS=>T W) ?_;refine MV ?_;refine MV ?_;refine MW ?_ (v:=.int .u64 0);refine MZB fun Z=> ?_;refine MR 0 ?_;refine MW ?_ (v:=.int .u64 0);refine MZn fun W hS=> ?_;go_upto_region 2 with fail;refine RL hS ?_;clear hS;refine ML 0 ?_;obtain⟨R2,G⟩:=exn (D % PP);have R:=J6o D bD;rw[←G] at R;have X:=Z7o G;have U:=BF G;clear G;refine MC (v:=.agg (c4 R2)) (fun W hS=>R W (V2 hG hS.ext)) ?_;refine MR 1 ?_;refine MZ fun W hS=> ?_;go_wp2;exact BC (Z6 rfl rfl (hS.blk (i:=1) rfl) (by kernel_rfl) (by kernel_rfl)) rfl ⟨by rw[←S.out,←HD.out,←U.out];try rfl,hS.ext⟩
end

section
set_option maxHeartbeats 4000000

theorem J4z (V i:Nat)(h:i<4):(c4 V)[i]?=some (.int .u64 (V0 V i)):=by
  have:i=0∨i=1∨i=2∨i=3:=by omega
  rcases this with rfl|rfl|rfl|rfl<;>rfl

theorem Q8a (i k:Nat)(x y g c s cv:Int)(V V' Y Y' X B0:Nat)(hx:Z7 x)(hy:Z7 y)(hg:Z7 g)(hc:Z7 c)(hs:Z7 s)(hcv:Z7 cv)
    (h5:s+18446744073709551616*cv=x*y+g+c) (h1:V' +g.toNat*2^(64*(i+k))=V+s.toNat*2^(64*(i+k)))
    (h2:V+c.toNat*2^(64*(i+k))=X+x.toNat*2^(64*i)*Y) (hY:Y' =Y+y.toNat*2^(64*k)):
    V' +cv.toNat*2^(64*(i+(k+1)))=X+x.toNat*2^(64*i)*Y' :=by
  obtain⟨x,rfl⟩:=Int.eq_ofNat_of_zero_le hx.1;obtain⟨y,rfl⟩:=Int.eq_ofNat_of_zero_le hy.1;obtain⟨g,rfl⟩:=Int.eq_ofNat_of_zero_le hg.1;obtain⟨c,rfl⟩:=Int.eq_ofNat_of_zero_le hc.1;obtain⟨s,rfl⟩:=Int.eq_ofNat_of_zero_le hs.1;obtain⟨d,rfl⟩:=Int.eq_ofNat_of_zero_le hcv.1;simp only[Int.toNat_natCast] at*
  have h6:s+18446744073709551616*d=x*y+g+c:=by
    rw[←Int.natCast_mul] at h5;generalize x*y=p at*;omega
  have e1:(2:Nat)^(64*(i+(k+1)))=18446744073709551616*2^(64*(i+k)):=by
    rw[show 64*(i+(k+1))=64+64*(i+k) by omega,Nat.pow_add]
  have e2:(2:Nat)^(64*(i+k))=2^(64*i)*2^(64*k):=by rw[Nat.mul_add,Nat.pow_add]
  rw[hY,e1,Nat.mul_add (x*2^(64*i))];have e3:x*2^(64*i)*(y*2^(64*k))=x*y*2^(64*(i+k)):=by rw[e2,Nat.mul_mul_mul_comm]
  rw[e3];generalize 2^(64*(i+k))=W at*;have e4:d*(18446744073709551616*W)=18446744073709551616*d*W:=by rw[Nat.mul_left_comm,Nat.mul_assoc]
  rw[e4]
  have h7:s*W+18446744073709551616*d*W=x*y*W+g*W+c*W:=by
    rw[←Nat.add_mul,h6,Nat.add_mul,Nat.add_mul]
  omega

theorem Q8b (B V' V C X Y W:Nat){g:Int}(hB:B<Q3)(hg:g=0)(h1:V' +g.toNat*W=V+C)(h2:V+C=X+Y*(B % 2^(64*4))):V' =X+Y*B:=by
  rw[AI (show B<2^(64*4) from hB)] at h2;rw[hg,Int.toNat_zero,Nat.zero_mul,Ao] at h1;rw[h1,h2]

theorem Z7p (A B:Nat)(hA:A<Q3)(hB:B<Q3)(w:AA):
    Az Tryz.prog 147 #[L4 A,L4 B] w fun e w' =>V5 (.agg (J0 .u64 8 (V0 (A*B)))) w w' e:=by
  go_enter Tryz.func147,Tryz.ntmps147
  go_wp2
  go_loopw [16] (fun ii wr=> ∃i:Nat,i≤4∧ii=.int .i64 i∧Below w.heap.size w wr∧
      Blk wr (w.heap.size+1) (c4 B) 138∧Blk wr (w.heap.size+2) (J0 .u64 8 (fun _=>0)) 217∧
      ∃f:Nat→Int,Blk wr (w.heap.size+3) (J0 .u64 8 f) 217∧(∀j,Z7 (f j))∧(∀j,i+4≤j→f j=0)∧J1v f 8=A % 2^(64*i)*B)
    (fun ii _=>(4-intOf ii).toNat)
  case atStart=>
    refine⟨0,by omega,rfl,?_,K2 (K2 (X6 _ _ (by simp)) _) _,K2 (X6 _ _ (by simp)) _,fun _=>0,X6 _ _ (by simp),fun _=>⟨by simp,by simp⟩,fun _ _=>rfl,?_⟩
    · exact bz
    rw[J92,Ay,Nat.pow_zero,Nat.mod_one,Nat.zero_mul]
  case round=>
    obtain⟨i,hi,rfl,D,b1,b2,f,b3,hf,J,hv⟩:=hrel
    by_cases U:i=4
    · subst U
      have HV:=BF hv;clear hv J
      go_wp2_with (first
        |(refine wpList_load_row rfl 217 (.tmp 5) rfl (w.heap.size+3) rfl _ _ _ _ b3 Tryz.underlying217 rfl (by kernel_rfl) ?_)
        |(refine wpList_store_row rfl 217 (.tmp 4) (.tmp 65) rfl (w.heap.size+2) _ rfl rfl 217 _ b2 (by kernel_rfl) (by kernel_rfl) (J0b _ _ _) ?_))
      refine BC (results_cell_row rfl _ _ (w.heap.size+2) _ _ _ _ rfl (J2o b2 _) Tryz.underlying217 rfl (by kernel_rfl)) rfl ⟨?_,J3q D (by omega) _⟩
      have e:J0 .u64 8 f=J0 .u64 8 (V0 (A*B)):=X7 _ _ _ _ fun j hj=>by
        have:=J6v f 8 j hj (fun i _=>hf i);rw[←this,HV.out,AI (show A<2^(64*4) from hA)]
      rw[e]
    have X:i<4:=by omega
    have hi3' :(i:Int)<4:=by omega
    have M:∀W,(Instr.index 138 (.agg #[.int .u64 (V0 A 0),.int .u64 (V0 A 1),.int .u64 (V0 A 2),.int .u64 (V0 A 3)]) (.int .i64 (i:Int))).run Tryz.prog W=.ok (.int .u64 (V0 A i)) W:=
      fun W=>J1u W 138 121 4 .u64 .i64 (c4 A) i (V0 A i) Tryz.underlying138 Tryz.underlying121 (by kernel_rfl) X (J4z A i X)
    have c1:=J3 b1;clear U;go_wp2;clear c1;have S:=BF J;have HV:=BF hv;clear J hv M hi3';obtain⟨wo,rfl⟩:∃wo:AA,wo=wr:=⟨_,rfl⟩
    go_loopw [8,21] (fun cc kk wq=> ∃(k:Nat)(c:Int),k≤4∧kk=.int .i64 k∧cc=.int .u64 c∧Z7 c∧Below w.heap.size w wq∧
        Blk wq (w.heap.size+1) (c4 B) 138∧Blk wq (w.heap.size+2) (J0 .u64 8 (fun _=>0)) 217∧
        ∃g:Nat→Int,Blk wq (w.heap.size+3) (J0 .u64 8 g) 217∧(∀j,Z7 (g j))∧(∀j,i+4≤j→g j=0)∧
          J1v g 8+c.toNat*2^(64*(i+k))=A % 2^(64*i)*B+(V0 A i).toNat*2^(64*i)*(B % 2^(64*k)))
      (fun _ kk _=>(4-intOf kk).toNat)
    case atStart=>
      refine⟨0,0,by omega,rfl,rfl,⟨by omega,by omega⟩,D,b1,b2,f,b3,hf,S.out,?_⟩;rw[HV.out,Ay,Nat.pow_zero,Nat.mod_one];simp
    case round=>
      obtain⟨k,c,hk,rfl,rfl,hc,D,b1,b2,g,b3,hg,V,hv⟩:=hrel;have G:=BF V;have HV:=BF hv;clear V hv S
      by_cases T:k=4
      · subst T
        have c3:=(J3 b3 (i+4)).trans (Z8 _ _ _ _ (by omega));have f3:=K7 b3;have Y:(i:Int)+4<8:=by omega
        go_wp2;have hs:=J1k b3 (i+4) (.int .u64 c);rw[V1] at hs;go_roundw
        case rel=>
          refine⟨i+1,by omega,by go_num,?_,V7 b1 (by omega) _ _,V7 b2 (by omega) _ _,upd g (i+4) c,hs,?_,?_,?_⟩
          · exact bz
          · intro j
            by_cases hj:j=i+4
            · subst hj;rw[J35];exact hc
            rw[J12 _ _ _ _ hj];exact hg j
          · intro j hj
            rw[J12 _ _ _ _ (by omega)];exact G.out j (by omega)
          rw[J6u,Nat.add_mul];exact Q8b B _ _ _ _ _ _ hB (G.out (i+4) (by omega)) (J6t g (i+4) c 8 (by omega)) HV.out
        case measure=>simp[intOf];omega
      have N:k<4:=by omega
      have hk3' :(k:Int)<4:=by omega
      clear T
      have M:∀W,(Instr.index 138 (.agg #[.int .u64 (V0 B 0),.int .u64 (V0 B 1),.int .u64 (V0 B 2),.int .u64 (V0 B 3)]) (.int .i64 (k:Int))).run Tryz.prog W=.ok (.int .u64 (V0 B k)) W:=
        fun W=>J1u W 138 121 4 .u64 .i64 (c4 B) k (V0 B k) Tryz.underlying138 Tryz.underlying121 (by kernel_rfl) N (J4z B k N)
      obtain⟨m1,m2,m3,m4,m5⟩:=Q4f (V0 A i) (V0 B k) (g (i+k)) c (J11 A i) (J11 B k) (hg _) hc;have a1:=J17 (J6i (V0 A i) (V0 B k)) (g (i+k)) 0 m1 (hg _) (by omega) (by omega);have a2:=J17 (adS (J6i (V0 A i) (V0 B k)) (g (i+k)) 0) c 0 m2 hc (by omega) (by omega);obtain⟨sv,R⟩:∃sv,sv=adS (adS (J6i (V0 A i) (V0 B k)) (g (i+k)) 0) c 0:=⟨_,rfl⟩
      rw[←R] at m4 m5 a2;have M5:=BF m5;clear m5 R;have c3:=(J3 b3 (i+k)).trans (Z8 _ _ _ _ (by omega));have f3:=K7 b3;have Y:(i:Int)+(k:Int)<8:=by omega
      go_wp2_with (go_at_call 148;refine(Q7n _ _ (J11 A i) (J11 B k) _).mono ?_;rintro e w' ⟨rfl,rfl⟩)
      have hs:=J1k b3 (i+k) (.int .u64 sv);rw[V1] at hs;have h1:=J6t g (i+k) sv 8 (by omega);have h2:=HV.out;have h5:=M5.out;clear HV M5 a1 a2 c3 f3 M;go_roundw
      case rel=>
        (repeat apply Exists.intro)
        refine⟨?_,rfl⟩;refine⟨k+1,_,by omega,by go_num,rfl,m3,?_,V7 b1 (by omega) _ _,V7 b2 (by omega) _ _,upd g (i+k) sv,hs,?_,?_,?_⟩
        · exact bz
        · intro j
          by_cases hj:j=i+k
          · subst hj;rw[J35];exact m4
          rw[J12 _ _ _ _ hj];exact hg j
        · intro j hj
          rw[J12 _ _ _ _ (by omega)];exact G.out j hj
        exact Q8a i k (V0 A i) (V0 B k) (g (i+k)) c sv _ _ _ _ _ _ 0 (J11 A i) (J11 B k) (hg _) hc m4 m3 h5 h1 h2 (J6u B k)
      case measure=>simp[intOf];omega
end

section
set_option maxHeartbeats 4000000

theorem Y23 (i:Nat)(N V V' :Nat)(g s c cv:Int)(hg:Z7 g)(hs:Z7 s)(hc:Z7 c)(hcv:Z7 cv)
    (h5:s+18446744073709551616*cv=V0 N (4+i)*38+V0 N i+c) (h1:V' +g.toNat*2^(64*i)=V+s.toNat*2^(64*i)) (hg0:g=0)
    (h2:V+c.toNat*2^(64*i)=N % 2^(64*i)+38*(N / 2^256 % 2^(64*i))):
    V' +cv.toNat*2^(64*(i+1))=N % 2^(64*(i+1))+38*(N / 2^256 % 2^(64*(i+1))):=by
  have e4:V0 N (4+i)=V0 (N / 2^256) i:=by
    unfold V0;rw[Nat.div_div_eq_div_mul,←Nat.pow_add,show 64*(4+i)=256+64*i by omega]
  rw[e4] at h5;rw[J6u N,J6u (N / 2^256)];have l1:=J11 N i;have l2:=J11 (N / 2^256) i;obtain⟨x,hx⟩:=Int.eq_ofNat_of_zero_le l1.1;obtain⟨y,hy⟩:=Int.eq_ofNat_of_zero_le l2.1;obtain⟨s,rfl⟩:=Int.eq_ofNat_of_zero_le hs.1;obtain⟨c,rfl⟩:=Int.eq_ofNat_of_zero_le hc.1;obtain⟨d,rfl⟩:=Int.eq_ofNat_of_zero_le hcv.1;subst hg0;rw[hx,hy] at*;simp only[Int.toNat_natCast,Int.toNat_zero,Nat.zero_mul,Ao] at*;have h6:s+18446744073709551616*d=y*38+x+c:=by omega
  have e1:(2:Nat)^(64*(i+1))=18446744073709551616*2^(64*i):=by rw[show 64*(i+1)=64+64*i by omega,Nat.pow_add]
  rw[e1];generalize N % 2^(64*i)=n0 at*;generalize N / 2^256 % 2^(64*i)=n1 at*;generalize 2^(64*i)=W at*;have e5:d*(18446744073709551616*W)=18446744073709551616*d*W:=by rw[Nat.mul_left_comm,Nat.mul_assoc]
  have h7:s*W+18446744073709551616*d*W=y*38*W+x*W+c*W:=by
    rw[←Nat.add_mul,h6,Nat.add_mul,Nat.add_mul]
  have e6:y*38*W=38*(y*W):=by rw[Nat.mul_comm y 38,Nat.mul_assoc]
  rw[e5,Nat.mul_add];generalize y*W=yw at*;omega
theorem Y6k (A B S c:Nat)(hA:A<Q3)(hB:B<Q3)(h:S+c*2^(64*4)=A*B % 2^(64*4)+38*(A*B / 2^256 % 2^(64*4))):J7u S (38*c) % PP=A*B % PP:=by
  have hN:A*B / 2^256<Q3:=Nat.div_lt_of_lt_mul (Nat.mul_lt_mul'' hA hB);have e:(2:Nat)^(64*4)=Q3:=by decide
  have e' :(2:Nat)^256=Q3:=by decide
  rw[show(2:Nat)^(64*4)=2^256 by decide] at h;rw[e'] at h hN;rw[AI hN] at h;rw[Q6m];have hd:=Nat.div_add_mod (A*B) Q3;generalize A*B / Q3=q at*;generalize A*B % Q3=r at*;generalize A*B=N at*;have h2:Q3=2*PP+38:=PP_two.symm
  have G:S+38*c+PP*(2*c)=r+38*q:=by
    have:PP*(2*c)=c*(2*PP):=by rw[Nat.mul_left_comm,Nat.mul_comm PP c,Nat.mul_left_comm]
    rw[h2,Nat.mul_add] at h;omega
  have D:N=r+38*q+PP*(2*q):=by
    have:PP*(2*q)=2*PP*q:=by rw[Nat.mul_left_comm,Nat.mul_assoc]
    rw[←hd,h2,Nat.add_mul];omega
  rw[D,←G,Nat.add_mul_mod_self_left,Nat.add_mul_mod_self_left]

theorem Y6l (S O N:Nat)(h:S+O*2^(64*4)=N % 2^(64*4)+38*(N / 2^256 % 2^(64*4))):O≤38:=by
  have h1:N % 2^(64*4)<Q3:=BH _ (by decide);have h2:N / 2^256 % 2^(64*4)<Q3:=BH _ (by decide);rw[show(2:Nat)^(64*4)=Q3 by decide] at*;unfold Q3 at*;omega
theorem V97 (f:Nat→Int):J0 .u64 4 f= #[.int .u64 (f 0),.int .u64 (f 1),.int .u64 (f 2),.int .u64 (f 3)]:=rfl
theorem Y6m (f:Nat→Int)(hf:∀j,Z7 (f j)):AB.agg (J0 .u64 4 f)=L4 (J1v f 4):=by
  rw[V97];unfold L4;rw[J6v f 4 0 (by omega) (fun i _=>hf i),J6v f 4 1 (by omega) (fun i _=>hf i),J6v f 4 2 (by omega) (fun i _=>hf i),J6v f 4 3 (by omega) (fun i _=>hf i)]
theorem Y24 (f:Nat→Int)(S o:Nat)(hS:S=J1v f 4)(hf:∀j,Z7 (f j))(hA:S<Q3)(ho:o≤38)(w:AA):Az Tryz.prog 151 #[.agg (J0 .u64 4 f),.int .u64 (AG.u64.wrap (38*(o:Int)))] w fun e w' =>V5 (L4 (J7u S (38*o))) w w' e:=by
  have:AG.u64.wrap (38*(o:Int))=((38*o:Nat):Int):=by rw[AG.wrap_u64];omega
  rw[this,Y6m f hf,←hS];exact Y21 S (38*o) hA (by omega) w
theorem K5 (A B:Nat)(hA:A<Q3)(hB:B<Q3)(w:AA)(hG:GF w):
  Az Tryz.prog 103 #[L4 A,L4 B] w fun e w' =>V5 (L4 (A*B % PP)) w w' e:=by
 go_enter Tryz.func103,Tryz.ntmps103
 go_upto_region 1 with fail;refine wn3 (c1:=(c4 A)) (t1:=138) (c2:=(c4 B)) (t2:=138) (c3:= #[.int .u64 0,.int .u64 0,.int .u64 0,.int .u64 0]) (t3:=138) fun W0 D G R M=> ?_;have ρ:=V8 G;have θ:=V8 R;have ξ:=V8 M;have gf:=V2 hG D;have gm:=gf.1;have gi:=gf.2;have ε:=Z7p A B hA hB;obtain⟨N,hN⟩:=exn (A*B);rw[←hN] at ε;have HN:=BF hN;clear hN;refine Px1 3 5 (z:=J0 .u64 8 (fun _=>0)) (t:=217) ?_;refine XL ?_;refine XL ?_;refine Xf ?_ (fun W hW=>ε W);refine XN ?_;intro α W1 ω hE J;have Ξ:=D.size;refine Lp ?_ J (cells:=J0 .u64 8 (V0 N)) (h1:=(J0b _ _ _));intro W2 hO h_;refine J0p ?_;replace G:=ko G hE hO (by omega);replace R:=ko R hE hO (by omega);replace M:=ko M hE hO (by omega);replace J:=h_;replace D:=bwo D hE hO D.size (by omega);clear hO h_;go_upto_region 2 with fail;have σ:=V8 J;have gf:=V2 hG D;have gm:=gf.1;have gi:=gf.2;refine Px1 0 6 (z:= #[.int .u64 0,.int .u64 0,.int .u64 0,.int .u64 0]) (t:=138) ?_;refine XN ?_;intro η W3 ψ hE T;have Ψ:=D.size;refine J0p ?_;have hF:Below w.heap.size w W3∧Blk W3 w.heap.size (c4 A) 138∧Blk W3 (w.heap.size+1) (c4 B) 138∧Blk W3 (w.heap.size+2) #[.int .u64 0,.int .u64 0,.int .u64 0,.int .u64 0] 138∧Blk W3 α (J0 .u64 8 (V0 N)) 217∧Blk W3 η #[.int .u64 0,.int .u64 0,.int .u64 0,.int .u64 0] 138:=⟨(J27 D hE D.size),(J4 G hE),(J4 R hE),(J4 M hE),(J4 J hE),T⟩
 clear D G R M J T;obtain⟨D,G,R,M,J,T⟩:=hF;have ν:=V8 T
 go_wp2_with fail
 go_loopw [7,16] (fun cc ii wr=> ∃(i:Nat)(c:Int)(f:Nat→Int),i≤4∧ii=.int .i64 i∧cc=.int .u64 c∧Z7 c∧(∀j,Z7 (f j))∧(∀j,i≤j→f j=0)∧J1v f 4+c.toNat*2^(64*i)=N % 2^(64*i)+38*(N / 2^256 % 2^(64*i))∧Below w.heap.size w wr∧Blk wr w.heap.size (c4 A) 138∧Blk wr (w.heap.size+1) (c4 B) 138∧Blk wr (w.heap.size+2) #[.int .u64 0,.int .u64 0,.int .u64 0,.int .u64 0] 138∧Blk wr α (J0 .u64 8 (V0 N)) 217∧Blk wr η (J0 .u64 4 f) 138)
  (fun cc ii _=>(4-intOf ii).toNat)
 case atStart=>
  refine⟨0,0,fun _=>0,by omega,rfl,rfl,⟨by omega,by omega⟩,fun _=>⟨by simp,by simp⟩,fun _ _=>rfl,?_,D,G,R,M,J,T⟩;rw[J92,Ay,Nat.pow_zero,Nat.mod_one,Nat.mod_one];rfl
 case round=>
  obtain⟨i,c,f,hi,rfl,rfl,hc,hf,γ,hv,D,G,R,M,J,T⟩:=hrel;have HV:=BF hv;have β:=BF γ;clear hv γ
  by_cases U:i=4
  ·
   have D0:=U;subst U;go_upto_region 14 with fail;have τ:=V8 G;have φ:=V8 R;have χ:=V8 M;have κ:=V8 J;have μ:=V8 T;have gf:=V2 hG D;have gm:=gf.1;have gi:=gf.2;obtain⟨S,hS⟩:=exn (J1v f 4);have bS:S<Q3:=by rw[hS];exact Q0s f 4 (fun j _=>hf j)
   obtain⟨O,rfl⟩:=Int.eq_ofNat_of_zero_le hc.1;have hw:=HV.out;rw[←hS,Int.toNat_natCast] at hw;have bO:O≤38:=Y6l _ _ _ hw;have Y:=Y24 f S O hS (fun j=>hf j) bS bO;obtain⟨X1,V⟩:=exn (J7u S (38*O));rw[←V] at Y;have Θ:X1<Q3:=by rw[V];exact Z0a _ _ bS (by omega)
   have Δ:=BF V;clear V;have Z:=J6o X1 Θ;obtain⟨X2,X⟩:=exn (X1 % PP);rw[←X] at Z;have D1:=Z7o X;have Γ:=BF X;clear X;refine Px 5 ?_;refine XL ?_;refine Xv ?_;refine Xv ?_;refine Xf ?_ (fun W hW=>Y W);refine Xf ?_ (fun W hW=>Z W (V2 gf hW));refine J3r fun W5 hE=> ?_;refine Lp ?_ (J4 M hE) (cells:=c4 X2);intro W6 hO h_;refine J0p ?_;replace G:=ko G hE hO (by omega);replace R:=ko R hE hO (by omega);replace M:=h_;replace J:=ko J hE hO (by omega);replace T:=ko T hE hO (by omega);replace D:=bwo D hE hO D.size (by omega);clear hO h_;go_wp2;refine BC (Z6 rfl rfl M (by kernel_rfl) (by kernel_rfl)) rfl ⟨?_,D⟩;rw[Γ.out,Δ.out,Y6k A B S O hA hB (by rw[←HN.out];exact hw)];rfl
  have δ:i<4:=by omega
  have hi3' :(i:Int)<4:=by omega
  have Ω:4+(i:Int)<8:=by omega
  have hi8' :(i:Int)<8:=by omega
  clear U;obtain⟨m1,m2,m3,m4,m5⟩:=Q4f (V0 N (4+i)) 38 (V0 N i) c (J11 N _) (by unfold Z7;omega) (J11 N i) hc;have a1:=J17 (J6i (V0 N (4+i)) 38) (V0 N i) 0 m1 (J11 N i) (by omega) (by omega);have a2:=J17 (adS (J6i (V0 N (4+i)) 38) (V0 N i) 0) c 0 m2 hc (by omega) (by omega);obtain⟨sv,ζ⟩:∃sv,sv=adS (adS (J6i (V0 N (4+i)) 38) (V0 N i) 0) c 0:=⟨_,rfl⟩
  rw[←ζ] at m4 m5 a2;have M5:=BF m5;clear m5 ζ;have c5:=(J3 J (4+i)).trans (Z8 _ _ _ _ (by omega));have c5' :=(J3 J i).trans (Z8 _ _ _ _ (by omega));have c6:=(J3 T i).trans (Z8 _ _ _ _ δ);have f6:=K7 T
  go_wp2_with (go_at_call 148;refine(Q7n _ _ (J11 N (4+i)) (by unfold Z7;omega) _).mono ?_;rintro e w' ⟨rfl,rfl⟩)
  have hs:=J1k T i (.int .u64 sv);rw[V1] at hs;have h1:=J6t f i sv 4 δ;have h2:=HV.out;have h5:=M5.out;clear HV M5 a1 a2 c5 c5' c6 f6;go_roundw
  case rel=>
   (repeat apply Exists.intro)
   refine⟨?_,rfl⟩;refine⟨i+1,_,upd f i sv,by omega,by go_num,rfl,m3,?_,?_,Y23 i N _ _ (f i) sv c _ (hf i) m4 hc m3 h5 h1 (β.out i (Nat.le_refl i)) h2,?_,?_,?_,?_,?_,hs⟩
   ·
    intro j
    by_cases hj:j=i
    ·
     subst hj;rw[J35];exact m4
    rw[J12 _ _ _ _ hj];exact hf j
   ·
    intro j hj;rw[J12 _ _ _ _ (by omega)];exact β.out j (by omega)
   ·
    exact J47 D (by omega) _ _
   ·
    exact V7 G (by omega) _ _
   ·
    exact V7 R (by omega) _ _
   ·
    exact V7 M (by omega) _ _
   exact V7 J (by omega) _ _
  case measure=>simp[intOf];omega
end
end Go.Proofs.YtpljgkofbfeelaaGreatDoor.S8

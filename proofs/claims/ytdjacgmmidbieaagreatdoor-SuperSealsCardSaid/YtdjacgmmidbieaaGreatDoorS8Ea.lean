/- Contracts and plain laws for superSeals_holds. Conditions: the tables hold their numbers. -/
import Derived.Test.YtdjacgmmidbieaaGreatDoorJ7
import Derived.BigQuiet
open Go renaming World->AA,Value->AB,bodyPost_ret->BH,Calls->BI,IntKind->AI
open Go.Lib renaming hid->BK
open _root_.Nat renaming mod_eq_of_lt->AL,lt_trans->BL,not_lt->BB,mod_lt->AO,add_zero->Ax,mul_zero->BF,div_eq_of_lt->AR
open Go.RowKit
set_option maxRecDepth 100000
set_option linter.unusedSimpArgs false
set_option linter.unusedVariables false
namespace Go.Proofs.YtdjacgmmidbieaaGreatDoor.S8
section
set_option maxHeartbeats 4000000

theorem Q00 (a0 a1 a2 a3 b0 b1 b2 b3:Int)(ha:U4 a0 a1 a2 a3)(hb:U4 b0 b1 b2 b3)(w:AA):
    BI Tryz.prog 152 #[A4 a0 a1 a2 a3,A4 b0 b1 b2 b3] w fun e w' =>
      V4 (.tuple #[L4 (J75 (J0k a0 a1 a2 a3) (J0k b0 b1 b2 b3)),.int .u64 (brw (J0k a0 a1 a2 a3) (J0k b0 b1 b2 b3))]) w w' e:=by
  have D:=Q4u a0 a1 a2 a3 b0 b1 b2 b3 ha hb;have HC:=BK D;clear D;have h0:=J31 a0 b0 0 ha.1 hb.1 (by omega) (by omega);have h1:=J31 a1 b1 _ ha.2.1 hb.2.1 (J4s a0 b0 0).1 (J4s a0 b0 0).2;have h2:=J31 a2 b2 _ ha.2.2.1 hb.2.2.1 (J4s a1 b1 (sbB a0 b0 0)).1 (J4s a1 b1 (sbB a0 b0 0)).2;have h3:=J31 a3 b3 _ ha.2.2.2 hb.2.2.2 (J4s a2 b2 (sbB a1 b1 (sbB a0 b0 0))).1 (J4s a2 b2 (sbB a1 b1 (sbB a0 b0 0))).2;clear ha hb
  go_enter Tryz.func152,Tryz.ntmps152
  go_wp2;refine wp_loop_rounds 5 ?_;rw[rounds_succ];go_wp2
  go_region
  go_wp2;rw[rounds_succ];go_wp2
  go_region
  go_wp2;rw[rounds_succ];go_wp2
  go_region
  go_wp2;rw[rounds_succ];go_wp2
  go_region
  go_wp2;rw[rounds_succ];go_wp2;refine BH (v:=.tuple #[A4 (sbD a0 b0 0) (sbD a1 b1 (sbB a0 b0 0)) (sbD a2 b2 (sbB a1 b1 (sbB a0 b0 0))) (sbD a3 b3 (sbB a2 b2 (sbB a1 b1 (sbB a0 b0 0)))),.int .u64 (sbB a3 b3 (sbB a2 b2 (sbB a1 b1 (sbB a0 b0 0))))]) (by simp[results,Tryz.results152,go_sem]) rfl ⟨?_,?_⟩
  · rw[HC.out.1,HC.out.2]
  exact bz

theorem add_c (a0 a1 a2 a3 b0 b1 b2 b3:Int)(ha:U4 a0 a1 a2 a3)(hb:U4 b0 b1 b2 b3)(w:AA):
    BI Tryz.prog 151 #[A4 a0 a1 a2 a3,A4 b0 b1 b2 b3] w fun e w' =>
      V4 (.tuple #[L4 ((J0k a0 a1 a2 a3+J0k b0 b1 b2 b3) % J8),.int .u64 ((J0k a0 a1 a2 a3+J0k b0 b1 b2 b3) / J8:Nat)]) w w' e:=by
  have D:=Q4v a0 a1 a2 a3 b0 b1 b2 b3 0 ha hb (by omega) (by omega);simp only[Int.toNat_zero,Ax] at D;have HC:=BK D;clear D;have v0:=J8s a0 b0 0 ha.1 hb.1 (by omega) (by omega);have v1:=J8s a1 b1 _ ha.2.1 hb.2.1 v0.1 v0.2;have v2:=J8s a2 b2 _ ha.2.2.1 hb.2.2.1 v1.1 v1.2;have h0:=J0z a0 b0 0 ha.1 hb.1 (by omega) (by omega);have h1:=J0z a1 b1 _ ha.2.1 hb.2.1 v0.1 v0.2;have h2:=J0z a2 b2 _ ha.2.2.1 hb.2.2.1 v1.1 v1.2;have h3:=J0z a3 b3 _ ha.2.2.2 hb.2.2.2 v2.1 v2.2;clear v0 v1 v2;clear ha hb
  go_enter Tryz.func151,Tryz.ntmps151
  go_wp2;refine wp_loop_rounds 5 ?_;rw[rounds_succ];go_wp2
  go_region
  go_wp2;rw[rounds_succ];go_wp2
  go_region
  go_wp2;rw[rounds_succ];go_wp2
  go_region
  go_wp2;rw[rounds_succ];go_wp2
  go_region
  go_wp2;rw[rounds_succ];go_wp2;refine BH (v:=.tuple #[A4 (adS a0 b0 0) (adS a1 b1 (adC a0 b0 0)) (adS a2 b2 (adC a1 b1 (adC a0 b0 0))) (adS a3 b3 (adC a2 b2 (adC a1 b1 (adC a0 b0 0)))),.int .u64 (adC a3 b3 (adC a2 b2 (adC a1 b1 (adC a0 b0 0))))]) (by simp[results,Tryz.results151,go_sem]) rfl ⟨?_,?_⟩
  · rw[HC.out.1,HC.out.2];rfl
  exact bz

theorem Z0p (A B:Nat)(hA:A<J8)(hB:B<J8)(w:AA):BI Tryz.prog 152 #[L4 A,L4 B] w fun e w' =>V4 (.tuple #[L4 (J75 A B),.int .u64 (brw A B)]) w w' e:=by
  have h:=Q00 _ _ _ _ _ _ _ _ (J52 A) (J52 B) w;rw[J16 A hA,J16 B hB] at h;exact h
theorem Z0q (A B:Nat)(hA:A<J8)(hB:B<J8)(w:AA):BI Tryz.prog 151 #[L4 A,L4 B] w fun e w' =>V4 (.tuple #[L4 ((A+B) % J8),.int .u64 ((A+B) / J8:Nat)]) w w' e:=by
  have h:=add_c _ _ _ _ _ _ _ _ (J52 A) (J52 B) w;rw[J16 A hA,J16 B hB] at h;exact h
end

section
set_option maxHeartbeats 4000000

def PP:Nat:=57896044618658097711785492504343953926634992332820282019728792003956564819949
theorem J67:PP<J8:=by decide+kernel
theorem PP_two:2*PP+38=J8:=by decide+kernel
theorem J0i (n:Nat):n % PP<J8:=BL (AO _ (by decide)) J67
theorem Z0r {X n:Nat}(h:X=n % PP):X<J8:=h▸J0i n
def modC:Array AB:= #[.int .u64 18446744073709551597,.int .u64 18446744073709551615,.int .u64 18446744073709551615,.int .u64 9223372036854775807]
def imaC:Array AB:= #[.int .u64 14190309331451158704,.int .u64 3405592160176694392,.int .u64 3120150775007532967,.int .u64 3135389899092516619]
def GF (w:AA):Prop:=Rd w 13 modC∧True
def GI (w:AA):Prop:=Rd w 12 imaC
theorem K7 {w W:AA}(h:GF w)(e:Ext w W):GF W:=⟨h.1.ext e,trivial⟩
theorem Q3b (n:Nat)(hn:n<18446744073709551616):L4 n=.agg #[.int .u64 (n:Int),.int .u64 0,.int .u64 0,.int .u64 0]:=by
  have h0:K3 n 0=(n:Int):=by unfold K3;simp only[BF,Nat.pow_zero,Nat.div_one];omega
  have h1:K3 n 1=0:=by unfold K3;rw[AR (by simp only[Nat.reduceMul,Nat.reducePow];omega)];rfl
  have h2:K3 n 2=0:=by unfold K3;rw[AR (by simp only[Nat.reduceMul,Nat.reducePow];omega)];rfl
  have h3:K3 n 3=0:=by unfold K3;rw[AR (by simp only[Nat.reduceMul,Nat.reducePow];omega)];rfl
  unfold L4;rw[h0,h1,h2,h3]
theorem Y32 (A B:Nat)(hA:A<J8)(hB:B<J8)(h:A+B<J8)(w:AA):BI Tryz.prog 151 #[L4 A,L4 B] w fun e w' =>V4 (.tuple #[L4 (A+B),.int .u64 0]) w w' e:=by
  have:=Z0q A B hA hB w;rw[AL h,AR h] at this;exact this
theorem Y33 (A B:Nat)(hA:A<J8)(hB:B<J8)(h:J8≤A+B)(w:AA):BI Tryz.prog 151 #[L4 A,L4 B] w fun e w' =>V4 (.tuple #[L4 (A+B-J8),.int .u64 1]) w w' e:=by
  have:=Z0q A B hA hB w;have e1:(A+B) % J8=A+B-J8:=by rw[Nat.mod_eq_sub_mod h,AL (by omega)]
  have e2:(A+B) / J8=1:=Nat.div_eq_of_lt_le (by omega) (by omega);rw[e1,e2] at this;exact this
theorem Q8p (A n:Nat)(hA:A<J8)(hn:n<18446744073709551616)(h:A+n<J8)(w:AA):BI Tryz.prog 151 #[L4 A,.agg #[.int .u64 (n:Int),.int .u64 0,.int .u64 0,.int .u64 0]] w fun e w' =>V4 (.tuple #[L4 (A+n),.int .u64 0]) w w' e:=by
  rw[←Q3b n hn];exact Y32 A n hA (by unfold J8;omega) h w
theorem Z8c (A n:Nat)(hA:A<J8)(hn:n<18446744073709551616)(h:J8≤A+n)(w:AA):BI Tryz.prog 151 #[L4 A,.agg #[.int .u64 (n:Int),.int .u64 0,.int .u64 0,.int .u64 0]] w fun e w' =>V4 (.tuple #[L4 (A+n-J8),.int .u64 1]) w w' e:=by
  rw[←Q3b n hn];exact Y33 A n hA (by unfold J8;omega) h w
def J71 (A n:Nat):Nat:=if A+n<J8 then A+n else A+n-J8+38


theorem Y34 (A n:Nat)(hA:A<J8)(hn:n<18446744073709551616)(h:A+n<J8)(w:AA):
  BI Tryz.prog 140 #[L4 A,.int .u64 (n:Int)] w fun e w' =>V4 (L4 (A+n)) w w' e:=by
 have hS:=SH.nil [] w
 go_enter Tryz.func140,Tryz.ntmps140
 go_upto_region 0 with fail;refine RL hS ?_;clear hS;refine MN (z:=c4 A) (t:=107) ?_;intro K9;refine MN (z:=c4 0) (t:=107) ?_;intro M;refine MZ fun W hS=> ?_;go_upto_region 1 with fail;refine RL hS ?_;clear hS;refine ML 1 ?_;refine MV ?_;refine MW ?_ (v:=.agg #[.int .u64 (n:Int),.int .u64 0,.int .u64 0,.int .u64 0]) (hv:=by intro W;first|kernel_rfl|rfl);obtain⟨S,D⟩:=exn (A+n);have G:=Q8p A n hA hn h;rw[←D] at G;have HS:=BK D;clear D;refine MC (v:=.tuple #[.agg (c4 S),.int .u64 0]) (fun W hS=>G W) ?_;refine MV ?_;refine MV ?_;refine MW ?_ (v:=.int .u64 0);refine MN (z:=c4 0) (t:=107) ?_;intro J;refine MR 0 ?_;refine MW ?_ (v:=.int .u64 0);refine MZ fun W hS=> ?_;go_upto_region 2 with fail;refine RL hS ?_;clear hS;refine MW ?_ (v:=.int .u64 0);refine Wf ?_;refine MZ fun W hS=> ?_;go_upto_region 4 with fail;refine RL hS ?_;clear hS;refine ML 0 ?_;refine MR 1 ?_;refine MZ fun W hS=> ?_;go_wp2;exact BH (Z5 rfl rfl (hS.blk (i:=1) rfl) (by kernel_rfl) (by kernel_rfl)) rfl ⟨by rw[←HS.out];try rfl,hS.ext⟩
theorem Y35 (A n:Nat)(hA:A<J8)(hn:n<18446744073709551616)(h:J8≤A+n)(h2:A+n-J8+38<J8)(w:AA):
  BI Tryz.prog 140 #[L4 A,.int .u64 (n:Int)] w fun e w' =>V4 (L4 (A+n-J8+38)) w w' e:=by
 have hS:=SH.nil [] w
 go_enter Tryz.func140,Tryz.ntmps140
 go_upto_region 0 with fail;refine RL hS ?_;clear hS;refine MN (z:=c4 A) (t:=107) ?_;intro K9;refine MN (z:=c4 0) (t:=107) ?_;intro R;refine MZ fun W hS=> ?_;go_upto_region 1 with fail;refine RL hS ?_;clear hS;refine ML 1 ?_;refine MV ?_;refine MW ?_ (v:=.agg #[.int .u64 (n:Int),.int .u64 0,.int .u64 0,.int .u64 0]) (hv:=by intro W;first|kernel_rfl|rfl);obtain⟨S,D⟩:=exn (A+n-J8);have J:=Z8c A n hA hn h;rw[←D] at J;have bS:S<J8:=by omega
 have HS:=BK D;clear D;refine MC (v:=.tuple #[.agg (c4 S),.int .u64 1]) (fun W hS=>J W) ?_;refine MV ?_;refine MV ?_;refine MW ?_ (v:=.int .u64 1);refine MN (z:=c4 0) (t:=107) ?_;intro N;refine MR 0 ?_;refine MW ?_ (v:=.int .u64 1);refine MZ fun W hS=> ?_;go_upto_region 2 with fail;refine RL hS ?_;clear hS;refine MW ?_ (v:=.int .u64 1);refine Wt ?_;refine MZ fun W hS=> ?_;go_upto_region 3 with fail;refine RL hS ?_;clear hS;refine ML 0 ?_;refine MW ?_ (v:=.agg #[.int .u64 38,.int .u64 0,.int .u64 0,.int .u64 0]) (hv:=by intro W;first|kernel_rfl|rfl);obtain⟨T,G⟩:=exn (S+38);have M:=Q8p S 38 bS (by decide) (by rw[HS.out];exact h2);rw[←G] at M;have HT:=BK G;clear G;refine MC (v:=.tuple #[.agg (c4 T),.int .u64 0]) (fun W hS=>M W) ?_;refine MV ?_;refine MV ?_;refine MW ?_ (v:=.int .u64 0);refine MR 0 ?_;refine MZ fun W hS=> ?_;go_upto_region 4 with fail;refine RL hS ?_;clear hS;refine ML 0 ?_;refine MR 1 ?_;refine MZ fun W hS=> ?_;go_wp2;exact BH (Z5 rfl rfl (hS.blk (i:=1) rfl) (by kernel_rfl) (by kernel_rfl)) rfl ⟨by rw[←HS.out,←HT.out];try rfl,hS.ext⟩
end

section
set_option maxHeartbeats 4000000

theorem Q6q:AB.agg modC=L4 PP:=by kernel_rfl
theorem Z2w (A B:Nat)(hA:A<J8)(hB:B<J8)(h:B≤A):J75 A B=A-B:=by unfold J75 J8 at*;omega
theorem Q6r (X:Nat)(hX:X<PP)(w:AA):BI Tryz.prog 152 #[L4 X,.agg modC] w fun e w' =>V4 (.tuple #[L4 (J75 X PP),.int .u64 1]) w w' e:=by
  have:=Z0p X PP (BL hX J67) J67 w;rw[Q6q];unfold brw at this;rw[if_pos hX] at this;exact this
theorem Z2x (X:Nat)(hX:X<J8)(h:PP≤X)(w:AA):BI Tryz.prog 152 #[L4 X,.agg modC] w fun e w' =>V4 (.tuple #[L4 (X-PP),.int .u64 0]) w w' e:=by
  have:=Z0p X PP hX J67 w;rw[Q6q];rw[Z2w X PP hX J67 h] at this;unfold brw at this;rw[if_neg (by omega)] at this;exact this
theorem V3q (X:Nat)(h:PP≤X)(h1:X-PP<PP):X-PP=X % PP:=by rw[Nat.mod_eq_sub_mod h,AL h1]
theorem V3r (X:Nat)(h:PP≤X)(h1:PP≤X-PP)(h2:X-PP-PP<PP):X-PP-PP=X % PP:=by rw[Nat.mod_eq_sub_mod h,Nat.mod_eq_sub_mod h1,AL h2]

theorem J5t (X:Nat)(hX:X<J8)(w:AA)(hG:GF w):
  BI Tryz.prog 138 #[L4 X] w fun e w' =>V4 (L4 (X % PP)) w w' e:=by
 have hS:=SH.nil [] w
 go_enter Tryz.func138,Tryz.ntmps138
 go_upto_region 0 with fail;refine RL hS ?_;clear hS;refine MN (z:=c4 X) (t:=107) ?_;intro ζ;refine MN (z:=c4 0) (t:=107) ?_;intro ε;refine MZ fun W hS=> ?_
 go_wp2_with fail
 refine wp_loop_rounds 3 ?_;rw[rounds_succ]
 by_cases G:X<PP
 ·
  go_upto_region 1 with fail;refine RL hS ?_;clear hS;refine ML 1 ?_;refine MF (v:=.agg modC) (fun W hS=>J0a rfl rfl ((K7 hG hS.ext).1) (by kernel_rfl) (by kernel_rfl)) ?_;obtain⟨Y,D⟩:=exn (J75 X PP);have M:=Q6r X G;rw[←D] at M;have HY:=BK D;clear D;refine MC (v:=.tuple #[.agg (c4 Y),.int .u64 1]) (fun W hS=>M W) ?_;refine MV ?_;refine MV ?_;refine MW ?_ (v:=.int .u64 1);refine MN (z:=c4 0) (t:=107) ?_;intro κ;refine MR 0 ?_;refine MW ?_ (v:=.int .u64 1);refine MZ fun W hS=> ?_;go_upto_region 2 with fail;refine RL hS ?_;clear hS;refine MW ?_ (v:=.int .u64 1);refine Wt ?_;refine MZ fun W hS=> ?_;go_upto_region 3 with fail;refine RL hS ?_;clear hS;refine ML 2 ?_;refine MR 1 ?_;refine MZ fun W hS=> ?_;go_wp2;exact BH (Z5 rfl rfl (hS.blk (i:=1) rfl) (by kernel_rfl) (by kernel_rfl)) rfl ⟨by rw[AL G];try rfl,hS.ext⟩
 replace G:PP≤X:=BB.1 G;go_upto_region 1 with fail;refine RL hS ?_;clear hS;refine ML 1 ?_;refine MF (v:=.agg modC) (fun W hS=>J0a rfl rfl ((K7 hG hS.ext).1) (by kernel_rfl) (by kernel_rfl)) ?_;obtain⟨X1,S⟩:=exn (X-PP);have Z:=Z2x X hX G;rw[←S] at Z;have α:X1<J8:=by omega
 have N:=BK S;clear S;refine MC (v:=.tuple #[.agg (c4 X1),.int .u64 0]) (fun W hS=>Z W) ?_;refine MV ?_;refine MV ?_;refine MW ?_ (v:=.int .u64 0);refine MN (z:=c4 0) (t:=107) ?_;intro γ;refine MR 0 ?_;refine MW ?_ (v:=.int .u64 0);refine MZ fun W hS=> ?_;go_upto_region 2 with fail;refine RL hS ?_;clear hS;refine MW ?_ (v:=.int .u64 0);refine Wf ?_;refine MZ fun W hS=> ?_;go_upto_region 4 with fail;refine RL hS ?_;clear hS;refine ML 0 ?_;refine MR 2 ?_;refine MZ fun W hS=> ?_
 go_wp2_with fail
 rw[rounds_succ]
 by_cases J:X1<PP
 ·
  go_upto_region 1 with fail;refine RL hS ?_;clear hS;refine ML 2 ?_;refine MF (v:=.agg modC) (fun W hS=>J0a rfl rfl ((K7 hG hS.ext).1) (by kernel_rfl) (by kernel_rfl)) ?_;obtain⟨Y,D⟩:=exn (J75 X1 PP);have M:=Q6r X1 J;rw[←D] at M;have HY:=BK D;clear D;refine MC (v:=.tuple #[.agg (c4 Y),.int .u64 1]) (fun W hS=>M W) ?_;refine MV ?_;refine MV ?_;refine MW ?_ (v:=.int .u64 1);refine MD 0 ?_;refine MN (z:=c4 0) (t:=107) ?_;intro θ;refine MR 0 ?_;refine MW ?_ (v:=.int .u64 1);refine MZ fun W hS=> ?_;go_upto_region 2 with fail;refine RL hS ?_;clear hS;refine MW ?_ (v:=.int .u64 1);refine Wt ?_;refine MZ fun W hS=> ?_;go_upto_region 3 with fail;refine RL hS ?_;clear hS;refine ML 2 ?_;refine MR 1 ?_;refine MZ fun W hS=> ?_;go_wp2;exact BH (Z5 rfl rfl (hS.blk (i:=1) rfl) (by kernel_rfl) (by kernel_rfl)) rfl ⟨by rw[←V3q X G (by rw[←N.out];exact J),←N.out];try rfl,hS.ext⟩
 replace J:PP≤X1:=BB.1 J;go_upto_region 1 with fail;refine RL hS ?_;clear hS;refine ML 2 ?_;refine MF (v:=.agg modC) (fun W hS=>J0a rfl rfl ((K7 hG hS.ext).1) (by kernel_rfl) (by kernel_rfl)) ?_;obtain⟨X2,R⟩:=exn (X1-PP);have U:=Z2x X1 α J;rw[←R] at U;have η:X2<J8:=by omega
 have T:=BK R;clear R;refine MC (v:=.tuple #[.agg (c4 X2),.int .u64 0]) (fun W hS=>U W) ?_;refine MV ?_;refine MV ?_;refine MW ?_ (v:=.int .u64 0);refine MD 0 ?_;refine MN (z:=c4 0) (t:=107) ?_;intro δ;refine MR 0 ?_;refine MW ?_ (v:=.int .u64 0);refine MZ fun W hS=> ?_;go_upto_region 2 with fail;refine RL hS ?_;clear hS;refine MW ?_ (v:=.int .u64 0);refine Wf ?_;refine MZ fun W hS=> ?_;go_upto_region 4 with fail;refine RL hS ?_;clear hS;refine ML 0 ?_;refine MR 2 ?_;refine MZ fun W hS=> ?_
 go_wp2_with fail
 rw[rounds_succ];have V:X2<PP:=by have h1:=PP_two;have h2:38<PP:=(by decide+kernel);have h3:=N.out;have h4:=T.out;omega
 go_upto_region 1 with fail;refine RL hS ?_;clear hS;refine ML 2 ?_;refine MF (v:=.agg modC) (fun W hS=>J0a rfl rfl ((K7 hG hS.ext).1) (by kernel_rfl) (by kernel_rfl)) ?_;obtain⟨Y,D⟩:=exn (J75 X2 PP);have M:=Q6r X2 V;rw[←D] at M;have HY:=BK D;clear D;refine MC (v:=.tuple #[.agg (c4 Y),.int .u64 1]) (fun W hS=>M W) ?_;refine MV ?_;refine MV ?_;refine MW ?_ (v:=.int .u64 1);refine MD 0 ?_;refine MN (z:=c4 0) (t:=107) ?_;intro β;refine MR 0 ?_;refine MW ?_ (v:=.int .u64 1);refine MZ fun W hS=> ?_;go_upto_region 2 with fail;refine RL hS ?_;clear hS;refine MW ?_ (v:=.int .u64 1);refine Wt ?_;refine MZ fun W hS=> ?_;go_upto_region 3 with fail;refine RL hS ?_;clear hS;refine ML 2 ?_;refine MR 1 ?_;refine MZ fun W hS=> ?_;go_wp2;exact BH (Z5 rfl rfl (hS.blk (i:=1) rfl) (by kernel_rfl) (by kernel_rfl)) rfl ⟨by rw[←V3r X G (by rw[←N.out];exact J) (by rw[←N.out,←T.out];exact V),←N.out,←T.out];try rfl,hS.ext⟩
theorem Y37 (n:Nat)(hn:n<18446744073709551616)(w:AA):
  BI Tryz.prog 150 #[.int .u64 (n:Int)] w fun e w' =>V4 (L4 n) w w' e:=by
 have hS:=SH.nil [] w
 go_enter Tryz.func150,Tryz.ntmps150
 go_upto_region 0 with fail;refine RL hS ?_;clear hS;refine MN (z:=c4 0) (t:=107) ?_;intro K9;refine MZ fun W hS=> ?_;go_upto_region 1 with fail;refine RL hS ?_;clear hS;refine MV ?_;refine MW ?_ (v:=.agg #[.int .u64 (n:Int),.int .u64 0,.int .u64 0,.int .u64 0]) (hv:=by intro W;first|kernel_rfl|rfl);refine MR 0 ?_;refine MZ fun W hS=> ?_;go_wp2;exact BH (Z5 rfl rfl (hS.blk (i:=0) rfl) (by kernel_rfl) (by kernel_rfl)) rfl ⟨by rw[Q3b n hn];try rfl,hS.ext⟩
theorem Q8q (A n:Nat)(hA:A<J8)(hn:n<18446744073709551616):J71 A n<J8:=by unfold J71 J8 at*;split<;>omega
theorem Q5c (A n:Nat):J71 A n % PP=(A+n) % PP:=by
  unfold J71
  split
  · rfl
  rename_i h;have e:A+n=A+n-J8+38+PP+PP:=by unfold J8 PP at*;omega
  conv=>rhs;rw[e,Nat.add_mod_right,Nat.add_mod_right]
theorem Z8e (A n:Nat)(hA:A<J8)(hn:n<18446744073709551616)(w:AA):BI Tryz.prog 140 #[L4 A,.int .u64 (n:Int)] w fun e w' =>V4 (L4 (J71 A n)) w w' e:=by
  unfold J71
  by_cases h:A+n<J8
  · rw[if_pos h];exact Y34 A n hA hn h w
  rw[if_neg h];exact Y35 A n hA hn (by omega) (by unfold J8 at*;omega) w
theorem add_mod (A B:Nat)(hA:A<J8)(hB:B<J8):J71 ((A+B) % J8) (38*((A+B) / J8)) % PP=(A+B) % PP:=by
  rw[Q5c]
  by_cases h:A+B<J8
  · rw[AL h,AR h,BF,Ax]
  have e1:(A+B) % J8=A+B-J8:=by rw[Nat.mod_eq_sub_mod (by omega),AL (by omega)]
  have e2:(A+B) / J8=1:=Nat.div_eq_of_lt_le (by omega) (by omega);rw[e1,e2]
  conv=>rhs;rw[show A+B=A+B-J8+38*1+PP+PP by unfold J8 PP at*;omega,Nat.add_mod_right,Nat.add_mod_right]
theorem Y9d (A B:Nat)(hA:A<J8)(hB:B<J8)(w:AA):BI Tryz.prog 151 #[L4 A,L4 B] w fun e w' =>V4 (.tuple #[L4 ((A+B) % J8),.int .u64 ((A+B) / J8:Nat)]) w w' e:=Z0q A B hA hB w
theorem Y9e (A o:Nat)(hA:A<J8)(ho:o≤1)(w:AA):BI Tryz.prog 140 #[L4 A,.int .u64 (AI.u64.wrap (38*(o:Int)))] w fun e w' =>V4 (L4 (J71 A (38*o))) w w' e:=by
  have:AI.u64.wrap (38*(o:Int))=((38*o:Nat):Int):=by rw[AI.wrap_u64];omega
  rw[this];exact Z8e A (38*o) hA (by omega) w
theorem Z8f (X:Nat)(hX:X<PP)(w:AA):BI Tryz.prog 152 #[.agg modC,L4 X] w fun e w' =>V4 (.tuple #[L4 (PP-X),.int .u64 0]) w w' e:=by
  have:=Z0p PP X J67 (BL hX J67) w;rw[Z2w PP X J67 (BL hX J67) (by omega)] at this;rw[Q6q];unfold brw at this;rw[if_neg (by omega)] at this;exact this
theorem J4p (A B:Nat)(hA:A<J8)(hB:B<J8)(w:AA)(hG:GF w):
  BI Tryz.prog 130 #[L4 A,L4 B] w fun e w' =>V4 (L4 ((A+B) % PP)) w w' e:=by
 have hS:=SH.nil [] w
 go_enter Tryz.func130,Tryz.ntmps130
 go_upto_region 0 with fail;refine RL hS ?_;clear hS;refine MN (z:=c4 A) (t:=107) ?_;intro K9;refine MN (z:=c4 B) (t:=107) ?_;intro X;refine MN (z:=c4 0) (t:=107) ?_;intro V;refine MZ fun W hS=> ?_;go_upto_region 1 with fail;refine RL hS ?_;clear hS;refine ML 2 ?_;refine ML 1 ?_;have N:=Y9d A B hA hB;obtain⟨S,D⟩:=exn ((A+B) % J8);obtain⟨O,hO⟩:=exn ((A+B) / J8);rw[←D,←hO] at N;have bS:S<J8:=by rw[D];exact AO _ (by decide)
 have bO:O≤1:=by rw[hO];have:(A+B) / J8<2:=Nat.div_lt_of_lt_mul (by omega);omega
 have HS:=BK D;have HO:=BK hO;clear D hO;refine MC (v:=.tuple #[.agg (c4 S),.int .u64 (O:Int)]) (fun W hS=>N W) ?_;(iterate 3 refine MV ?_);refine MN (z:=c4 0) (t:=107) ?_;intro Y;refine MR 0 ?_;refine MV ?_;refine MZ fun W hS=> ?_;go_upto_region 2 with fail;refine RL hS ?_;clear hS;refine ML 0 ?_;refine MV ?_;refine MW ?_ (v:=.int .u64 (AI.u64.wrap (38*(O:Int))));obtain⟨M,G⟩:=exn (J71 S (38*O));have R:=Y9e S O bS bO;rw[←G] at R;have bM:M<J8:=by rw[G];exact Q8q _ _ bS (by omega)
 have HM:=BK G;clear G;refine MC (v:=.agg (c4 M)) (fun W hS=>R W) ?_;obtain⟨T,J⟩:=exn (M % PP);have U:=J5t M bM;rw[←J] at U;have bT:=Z0r J;have HT:=BK J;clear J;refine MC (v:=.agg (c4 T)) (fun W hS=>U W (K7 hG hS.ext)) ?_;refine MR 1 ?_;refine MZ fun W hS=> ?_;go_wp2;exact BH (Z5 rfl rfl (hS.blk (i:=1) rfl) (by kernel_rfl) (by kernel_rfl)) rfl ⟨by rw[←add_mod A B hA hB,←HS.out,←HO.out,←HM.out,←HT.out];try rfl,hS.ext⟩
theorem J97 (A:Nat)(hA:A<J8)(w:AA)(hG:GF w):
  BI Tryz.prog 132 #[L4 A] w fun e w' =>V4 (L4 ((PP-A % PP) % PP)) w w' e:=by
 have hS:=SH.nil [] w
 go_enter Tryz.func132,Tryz.ntmps132
 go_upto_region 0 with fail;refine RL hS ?_;clear hS;refine MN (z:=c4 A) (t:=107) ?_;intro Z;refine MN (z:=c4 0) (t:=107) ?_;intro Y;refine MZ fun W hS=> ?_;go_upto_region 1 with fail;refine RXn 7 [⟨7,3,c4 0,107⟩] hS ?_ (by simp only[List.forall_mem_cons];exact⟨⟨_,rfl,rfl,rfl,fun _ _=>by kernel_rfl⟩,fun _ h=>by cases h⟩);clear hS;refine MF (v:=.agg modC) (fun W hS=>J0a rfl rfl ((K7 hG hS.ext).1) (by kernel_rfl) (by kernel_rfl)) ?_;refine ML 1 ?_;obtain⟨R1,J⟩:=exn (A % PP);have N:=J5t A hA;rw[←J] at N;have V:=Z0r J;have S:=BK J;clear J;refine MC (v:=.agg (c4 R1)) (fun W hS=>N W (K7 hG hS.ext)) ?_;obtain⟨D,M⟩:=exn (PP-R1);have T:=Z8f R1 (by rw[S.out];exact AO _ (by decide));rw[←M] at T;have bD:D<J8:=by rw[M];exact Nat.lt_of_le_of_lt (Nat.sub_le _ _) J67
 have HD:=BK M;clear M;refine MC (v:=.tuple #[.agg (c4 D),.int .u64 0]) (fun W hS=>T W) ?_;refine MV ?_;refine MV ?_;refine MW ?_ (v:=.int .u64 0);refine MZB fun α=> ?_;refine MR 0 ?_;refine MW ?_ (v:=.int .u64 0);refine MZn fun W hS=> ?_;go_upto_region 2 with fail;refine RL hS ?_;clear hS;refine ML 0 ?_;obtain⟨R2,G⟩:=exn (D % PP);have R:=J5t D bD;rw[←G] at R;have X:=Z0r G;have U:=BK G;clear G;refine MC (v:=.agg (c4 R2)) (fun W hS=>R W (K7 hG hS.ext)) ?_;refine MR 1 ?_;refine MZ fun W hS=> ?_;go_wp2;exact BH (Z5 rfl rfl (hS.blk (i:=1) rfl) (by kernel_rfl) (by kernel_rfl)) rfl ⟨by rw[←S.out,←HD.out,←U.out];try rfl,hS.ext⟩
end

section
set_option maxHeartbeats 4000000

theorem J3b (V i:Nat)(h:i<4):(c4 V)[i]?=some (.int .u64 (K3 V i)):=by
  have:i=0∨i=1∨i=2∨i=3:=by omega
  rcases this with rfl|rfl|rfl|rfl<;>rfl

theorem Q6s (i k:Nat)(x y g c s cv:Int)(V V' Y Y' X B0:Nat)(hx:Y8 x)(hy:Y8 y)(hg:Y8 g)(hc:Y8 c)(hs:Y8 s)(hcv:Y8 cv)
    (h5:s+18446744073709551616*cv=x*y+g+c) (h1:V' +g.toNat*2^(64*(i+k))=V+s.toNat*2^(64*(i+k)))
    (h2:V+c.toNat*2^(64*(i+k))=X+x.toNat*2^(64*i)*Y) (hY:Y' =Y+y.toNat*2^(64*k)):
    V' +cv.toNat*2^(64*(i+(k+1)))=X+x.toNat*2^(64*i)*Y' :=by
  obtain⟨x,rfl⟩:=Int.eq_ofNat_of_zero_le hx.1;obtain⟨y,rfl⟩:=Int.eq_ofNat_of_zero_le hy.1;obtain⟨g,rfl⟩:=Int.eq_ofNat_of_zero_le hg.1;obtain⟨c,rfl⟩:=Int.eq_ofNat_of_zero_le hc.1;obtain⟨s,rfl⟩:=Int.eq_ofNat_of_zero_le hs.1;obtain⟨d,rfl⟩:=Int.eq_ofNat_of_zero_le hcv.1;simp only[Int.toNat_natCast] at*
  have h6:s+18446744073709551616*d=x*y+g+c:=by
    rw[←Int.natCast_mul] at h5;generalize x*y=p at*;omega
  have e1:(2:Nat)^(64*(i+(k+1)))=18446744073709551616*2^(64*(i+k)):=by
    rw[show 64*(i+(k+1))=64+64*(i+k) by omega,Nat.pow_add]
  have e2:(2:Nat)^(64*(i+k))=2^(64*i)*2^(64*k):=by rw[Nat.mul_add,Nat.pow_add]
  rw[hY,e1,Nat.mul_add (x*2^(64*i))];have e3:x*2^(64*i)*(y*2^(64*k))=x*y*2^(64*(i+k)):=by rw[e2,Nat.mul_mul_mul_comm]
  rw[e3];generalize 2^(64*(i+k))=W at*;have e4:d*(18446744073709551616*W)=18446744073709551616*d*W:=by rw[Nat.mul_left_comm,Nat.mul_assoc]
  rw[e4]
  have h7:s*W+18446744073709551616*d*W=x*y*W+g*W+c*W:=by
    rw[←Nat.add_mul,h6,Nat.add_mul,Nat.add_mul]
  omega

theorem Q6t (B V' V C X Y W:Nat){g:Int}(hB:B<J8)(hg:g=0)(h1:V' +g.toNat*W=V+C)(h2:V+C=X+Y*(B % 2^(64*4))):V' =X+Y*B:=by
  rw[AL (show B<2^(64*4) from hB)] at h2;rw[hg,Int.toNat_zero,Nat.zero_mul,Ax] at h1;rw[h1,h2]

theorem Z5a (A B:Nat)(hA:A<J8)(hB:B<J8)(w:AA):
    BI Tryz.prog 139 #[L4 A,L4 B] w fun e w' =>V4 (.agg (J0 .u64 8 (K3 (A*B)))) w w' e:=by
  go_enter Tryz.func139,Tryz.ntmps139
  go_wp2
  go_loopw [16] (fun ii wr=> ∃i:Nat,i≤4∧ii=.int .i64 i∧Below w.heap.size w wr∧
      Blk wr (w.heap.size+1) (c4 B) 107∧Blk wr (w.heap.size+2) (J0 .u64 8 (fun _=>0)) 128∧
      ∃f:Nat→Int,Blk wr (w.heap.size+3) (J0 .u64 8 f) 128∧(∀j,Y8 (f j))∧(∀j,i+4≤j→f j=0)∧J1m f 8=A % 2^(64*i)*B)
    (fun ii _=>(4-intOf ii).toNat)
  case atStart=>
    refine⟨0,by omega,rfl,?_,Z6 (Z6 (Y4 _ _ (by simp)) _) _,Z6 (Y4 _ _ (by simp)) _,fun _=>0,Y4 _ _ (by simp),fun _=>⟨by simp,by simp⟩,fun _ _=>rfl,?_⟩
    · exact bz
    rw[J88,BF,Nat.pow_zero,Nat.mod_one,Nat.zero_mul]
  case round=>
    obtain⟨i,hi,rfl,D,b1,b2,f,b3,hf,J,hv⟩:=hrel
    by_cases V:i=4
    · subst V
      have HV:=BK hv;clear hv J
      go_wp2_with (first
        |(refine wpList_load_row rfl 128 (.tmp 5) rfl (w.heap.size+3) rfl _ _ _ _ b3 Tryz.underlying128 rfl (by kernel_rfl) ?_)
        |(refine wpList_store_row rfl 128 (.tmp 4) (.tmp 65) rfl (w.heap.size+2) _ rfl rfl 128 _ b2 (by kernel_rfl) (by kernel_rfl) (Z8 _ _ _) ?_))
      refine BH (results_cell_row rfl _ _ (w.heap.size+2) _ _ _ _ rfl (X6 b2 _) Tryz.underlying128 rfl (by kernel_rfl)) rfl ⟨?_,K0 D (by omega) _⟩
      have e:J0 .u64 8 f=J0 .u64 8 (K3 (A*B)):=K6 _ _ _ _ fun j hj=>by
        have:=J61 f 8 j hj (fun i _=>hf i);rw[←this,HV.out,AL (show A<2^(64*4) from hA)]
      rw[e]
    have N:i<4:=by omega
    have hi3' :(i:Int)<4:=by omega
    have M:∀W,(Instr.index 107 (.agg #[.int .u64 (K3 A 0),.int .u64 (K3 A 1),.int .u64 (K3 A 2),.int .u64 (K3 A 3)]) (.int .i64 (i:Int))).run Tryz.prog W=.ok (.int .u64 (K3 A i)) W:=
      fun W=>J1l W 107 105 4 .u64 .i64 (c4 A) i (K3 A i) Tryz.underlying107 Tryz.underlying105 (by kernel_rfl) N (J3b A i N)
    have c1:=J5 b1;clear V;go_wp2;clear c1;have T:=BK J;have HV:=BK hv;clear J hv M hi3';obtain⟨wo,rfl⟩:∃wo:AA,wo=wr:=⟨_,rfl⟩
    go_loopw [8,21] (fun cc kk wq=> ∃(k:Nat)(c:Int),k≤4∧kk=.int .i64 k∧cc=.int .u64 c∧Y8 c∧Below w.heap.size w wq∧
        Blk wq (w.heap.size+1) (c4 B) 107∧Blk wq (w.heap.size+2) (J0 .u64 8 (fun _=>0)) 128∧
        ∃g:Nat→Int,Blk wq (w.heap.size+3) (J0 .u64 8 g) 128∧(∀j,Y8 (g j))∧(∀j,i+4≤j→g j=0)∧
          J1m g 8+c.toNat*2^(64*(i+k))=A % 2^(64*i)*B+(K3 A i).toNat*2^(64*i)*(B % 2^(64*k)))
      (fun _ kk _=>(4-intOf kk).toNat)
    case atStart=>
      refine⟨0,0,by omega,rfl,rfl,⟨by omega,by omega⟩,D,b1,b2,f,b3,hf,T.out,?_⟩;rw[HV.out,BF,Nat.pow_zero,Nat.mod_one];simp
    case round=>
      obtain⟨k,c,hk,rfl,rfl,hc,D,b1,b2,g,b3,hg,R,hv⟩:=hrel;have G:=BK R;have HV:=BK hv;clear R hv T
      by_cases S:k=4
      · subst S
        have c3:=(J5 b3 (i+4)).trans (Q6 _ _ _ _ (by omega));have f3:=V3 b3;have Y:(i:Int)+4<8:=by omega
        go_wp2;have hs:=Z7 b3 (i+4) (.int .u64 c);rw[Y9] at hs;go_roundw
        case rel=>
          refine⟨i+1,by omega,by go_num,?_,J4 b1 (by omega) _ _,J4 b2 (by omega) _ _,upd g (i+4) c,hs,?_,?_,?_⟩
          · exact bz
          · intro j
            by_cases hj:j=i+4
            · subst hj;rw[J21];exact hc
            rw[J0h _ _ _ _ hj];exact hg j
          · intro j hj
            rw[J0h _ _ _ _ (by omega)];exact G.out j (by omega)
          rw[J60,Nat.add_mul];exact Q6t B _ _ _ _ _ _ hB (G.out (i+4) (by omega)) (J5z g (i+4) c 8 (by omega)) HV.out
        case measure=>simp[intOf];omega
      have U:k<4:=by omega
      have hk3' :(k:Int)<4:=by omega
      clear S
      have M:∀W,(Instr.index 107 (.agg #[.int .u64 (K3 B 0),.int .u64 (K3 B 1),.int .u64 (K3 B 2),.int .u64 (K3 B 3)]) (.int .i64 (k:Int))).run Tryz.prog W=.ok (.int .u64 (K3 B k)) W:=
        fun W=>J1l W 107 105 4 .u64 .i64 (c4 B) k (K3 B k) Tryz.underlying107 Tryz.underlying105 (by kernel_rfl) U (J3b B k U)
      obtain⟨m1,m2,m3,m4,m5⟩:=Q2g (K3 A i) (K3 B k) (g (i+k)) c (J0l A i) (J0l B k) (hg _) hc;have a1:=J0z (J5q (K3 A i) (K3 B k)) (g (i+k)) 0 m1 (hg _) (by omega) (by omega);have a2:=J0z (adS (J5q (K3 A i) (K3 B k)) (g (i+k)) 0) c 0 m2 hc (by omega) (by omega);obtain⟨sv,X⟩:∃sv,sv=adS (adS (J5q (K3 A i) (K3 B k)) (g (i+k)) 0) c 0:=⟨_,rfl⟩
      rw[←X] at m4 m5 a2;have M5:=BK m5;clear m5 X;have c3:=(J5 b3 (i+k)).trans (Q6 _ _ _ _ (by omega));have f3:=V3 b3;have Y:(i:Int)+(k:Int)<8:=by omega
      go_wp2_with (go_at_call 114;refine(Q64 _ _ (J0l A i) (J0l B k) _).mono ?_;rintro e w' ⟨rfl,rfl⟩)
      have hs:=Z7 b3 (i+k) (.int .u64 sv);rw[Y9] at hs;have h1:=J5z g (i+k) sv 8 (by omega);have h2:=HV.out;have h5:=M5.out;clear HV M5 a1 a2 c3 f3 M;go_roundw
      case rel=>
        (repeat apply Exists.intro)
        refine⟨?_,rfl⟩;refine⟨k+1,_,by omega,by go_num,rfl,m3,?_,J4 b1 (by omega) _ _,J4 b2 (by omega) _ _,upd g (i+k) sv,hs,?_,?_,?_⟩
        · exact bz
        · intro j
          by_cases hj:j=i+k
          · subst hj;rw[J21];exact m4
          rw[J0h _ _ _ _ hj];exact hg j
        · intro j hj
          rw[J0h _ _ _ _ (by omega)];exact G.out j hj
        exact Q6s i k (K3 A i) (K3 B k) (g (i+k)) c sv _ _ _ _ _ _ 0 (J0l A i) (J0l B k) (hg _) hc m4 m3 h5 h1 h2 (J60 B k)
      case measure=>simp[intOf];omega
end

section
set_option maxHeartbeats 4000000

theorem Z8g (i:Nat)(N V V' :Nat)(g s c cv:Int)(hg:Y8 g)(hs:Y8 s)(hc:Y8 c)(hcv:Y8 cv)
    (h5:s+18446744073709551616*cv=K3 N (4+i)*38+K3 N i+c) (h1:V' +g.toNat*2^(64*i)=V+s.toNat*2^(64*i)) (hg0:g=0)
    (h2:V+c.toNat*2^(64*i)=N % 2^(64*i)+38*(N / 2^256 % 2^(64*i))):
    V' +cv.toNat*2^(64*(i+1))=N % 2^(64*(i+1))+38*(N / 2^256 % 2^(64*(i+1))):=by
  have e4:K3 N (4+i)=K3 (N / 2^256) i:=by
    unfold K3;rw[Nat.div_div_eq_div_mul,←Nat.pow_add,show 64*(4+i)=256+64*i by omega]
  rw[e4] at h5;rw[J60 N,J60 (N / 2^256)];have l1:=J0l N i;have l2:=J0l (N / 2^256) i;obtain⟨x,hx⟩:=Int.eq_ofNat_of_zero_le l1.1;obtain⟨y,hy⟩:=Int.eq_ofNat_of_zero_le l2.1;obtain⟨s,rfl⟩:=Int.eq_ofNat_of_zero_le hs.1;obtain⟨c,rfl⟩:=Int.eq_ofNat_of_zero_le hc.1;obtain⟨d,rfl⟩:=Int.eq_ofNat_of_zero_le hcv.1;subst hg0;rw[hx,hy] at*;simp only[Int.toNat_natCast,Int.toNat_zero,Nat.zero_mul,Ax] at*;have h6:s+18446744073709551616*d=y*38+x+c:=by omega
  have e1:(2:Nat)^(64*(i+1))=18446744073709551616*2^(64*i):=by rw[show 64*(i+1)=64+64*i by omega,Nat.pow_add]
  rw[e1];generalize N % 2^(64*i)=n0 at*;generalize N / 2^256 % 2^(64*i)=n1 at*;generalize 2^(64*i)=W at*;have e5:d*(18446744073709551616*W)=18446744073709551616*d*W:=by rw[Nat.mul_left_comm,Nat.mul_assoc]
  have h7:s*W+18446744073709551616*d*W=y*38*W+x*W+c*W:=by
    rw[←Nat.add_mul,h6,Nat.add_mul,Nat.add_mul]
  have e6:y*38*W=38*(y*W):=by rw[Nat.mul_comm y 38,Nat.mul_assoc]
  rw[e5,Nat.mul_add];generalize y*W=yw at*;omega
theorem Y38 (A B S c:Nat)(hA:A<J8)(hB:B<J8)(h:S+c*2^(64*4)=A*B % 2^(64*4)+38*(A*B / 2^256 % 2^(64*4))):J71 S (38*c) % PP=A*B % PP:=by
  have hN:A*B / 2^256<J8:=Nat.div_lt_of_lt_mul (Nat.mul_lt_mul'' hA hB);have e:(2:Nat)^(64*4)=J8:=by decide
  have e' :(2:Nat)^256=J8:=by decide
  rw[show(2:Nat)^(64*4)=2^256 by decide] at h;rw[e'] at h hN;rw[AL hN] at h;rw[Q5c];have hd:=Nat.div_add_mod (A*B) J8;generalize A*B / J8=q at*;generalize A*B % J8=r at*;generalize A*B=N at*;have h2:J8=2*PP+38:=PP_two.symm
  have G:S+38*c+PP*(2*c)=r+38*q:=by
    have:PP*(2*c)=c*(2*PP):=by rw[Nat.mul_left_comm,Nat.mul_comm PP c,Nat.mul_left_comm]
    rw[h2,Nat.mul_add] at h;omega
  have D:N=r+38*q+PP*(2*q):=by
    have:PP*(2*q)=2*PP*q:=by rw[Nat.mul_left_comm,Nat.mul_assoc]
    rw[←hd,h2,Nat.add_mul];omega
  rw[D,←G,Nat.add_mul_mod_self_left,Nat.add_mul_mod_self_left]

theorem Y39 (S O N:Nat)(h:S+O*2^(64*4)=N % 2^(64*4)+38*(N / 2^256 % 2^(64*4))):O≤38:=by
  have h1:N % 2^(64*4)<J8:=AO _ (by decide);have h2:N / 2^256 % 2^(64*4)<J8:=AO _ (by decide);rw[show(2:Nat)^(64*4)=J8 by decide] at*;unfold J8 at*;omega
theorem V3s (f:Nat→Int):J0 .u64 4 f= #[.int .u64 (f 0),.int .u64 (f 1),.int .u64 (f 2),.int .u64 (f 3)]:=rfl
theorem Y3a (f:Nat→Int)(hf:∀j,Y8 (f j)):AB.agg (J0 .u64 4 f)=L4 (J1m f 4):=by
  rw[V3s];unfold L4;rw[J61 f 4 0 (by omega) (fun i _=>hf i),J61 f 4 1 (by omega) (fun i _=>hf i),J61 f 4 2 (by omega) (fun i _=>hf i),J61 f 4 3 (by omega) (fun i _=>hf i)]
theorem Z8h (f:Nat→Int)(S o:Nat)(hS:S=J1m f 4)(hf:∀j,Y8 (f j))(hA:S<J8)(ho:o≤38)(w:AA):BI Tryz.prog 140 #[.agg (J0 .u64 4 f),.int .u64 (AI.u64.wrap (38*(o:Int)))] w fun e w' =>V4 (L4 (J71 S (38*o))) w w' e:=by
  have:AI.u64.wrap (38*(o:Int))=((38*o:Nat):Int):=by rw[AI.wrap_u64];omega
  rw[this,Y3a f hf,←hS];exact Z8e S (38*o) hA (by omega) w
theorem J08 (A B:Nat)(hA:A<J8)(hB:B<J8)(w:AA)(hG:GF w):
  BI Tryz.prog 106 #[L4 A,L4 B] w fun e w' =>V4 (L4 (A*B % PP)) w w' e:=by
 go_enter Tryz.func106,Tryz.ntmps106
 go_upto_region 1 with fail;refine wn3 (c1:=(c4 A)) (t1:=107) (c2:=(c4 B)) (t2:=107) (c3:= #[.int .u64 0,.int .u64 0,.int .u64 0,.int .u64 0]) (t3:=107) fun W0 D J G K8=> ?_;have σ:=Q3 J;have φ:=Q3 G;have ξ:=Q3 K8;have gf:=K7 hG D;have gm:=gf.1;have gi:=gf.2;have β:=Z5a A B hA hB;obtain⟨N,hN⟩:=exn (A*B);rw[←hN] at β;have HN:=BK hN;clear hN;refine Px1 3 5 (z:=J0 .u64 8 (fun _=>0)) (t:=128) ?_;refine XL ?_;refine XL ?_;refine Xf ?_ (fun W hW=>β W);refine XN ?_;intro Z W1 ψ hE M;have Ξ:=D.size;refine Lp ?_ M (cells:=J0 .u64 8 (K3 N)) (h1:=(Z8 _ _ _));intro W2 hO h_;refine V5 ?_;replace J:=ko J hE hO (by omega);replace G:=ko G hE hO (by omega);replace K8:=ko K8 hE hO (by omega);replace M:=h_;replace D:=bwo D hE hO D.size (by omega);clear hO h_;go_upto_region 2 with fail;have ρ:=Q3 M;have gf:=K7 hG D;have gm:=gf.1;have gi:=gf.2;refine Px1 0 6 (z:= #[.int .u64 0,.int .u64 0,.int .u64 0,.int .u64 0]) (t:=107) ?_;refine XN ?_;intro ε W3 χ hE R;have Θ:=D.size;refine V5 ?_;have hF:Below w.heap.size w W3∧Blk W3 w.heap.size (c4 A) 107∧Blk W3 (w.heap.size+1) (c4 B) 107∧Blk W3 (w.heap.size+2) #[.int .u64 0,.int .u64 0,.int .u64 0,.int .u64 0] 107∧Blk W3 Z (J0 .u64 8 (K3 N)) 128∧Blk W3 ε #[.int .u64 0,.int .u64 0,.int .u64 0,.int .u64 0] 107:=⟨(K5 D hE D.size),(J3 J hE),(J3 G hE),(J3 K8 hE),(J3 M hE),R⟩
 clear D J G K8 M R;obtain⟨D,J,G,K8,M,R⟩:=hF;have ν:=Q3 R
 go_wp2_with fail
 go_loopw [7,16] (fun cc ii wr=> ∃(i:Nat)(c:Int)(f:Nat→Int),i≤4∧ii=.int .i64 i∧cc=.int .u64 c∧Y8 c∧(∀j,Y8 (f j))∧(∀j,i≤j→f j=0)∧J1m f 4+c.toNat*2^(64*i)=N % 2^(64*i)+38*(N / 2^256 % 2^(64*i))∧Below w.heap.size w wr∧Blk wr w.heap.size (c4 A) 107∧Blk wr (w.heap.size+1) (c4 B) 107∧Blk wr (w.heap.size+2) #[.int .u64 0,.int .u64 0,.int .u64 0,.int .u64 0] 107∧Blk wr Z (J0 .u64 8 (K3 N)) 128∧Blk wr ε (J0 .u64 4 f) 107)
  (fun cc ii _=>(4-intOf ii).toNat)
 case atStart=>
  refine⟨0,0,fun _=>0,by omega,rfl,rfl,⟨by omega,by omega⟩,fun _=>⟨by simp,by simp⟩,fun _ _=>rfl,?_,D,J,G,K8,M,R⟩;rw[J88,BF,Nat.pow_zero,Nat.mod_one,Nat.mod_one];rfl
 case round=>
  obtain⟨i,c,f,hi,rfl,rfl,hc,hf,α,hv,D,J,G,K8,M,R⟩:=hrel;have HV:=BK hv;have ζ:=BK α;clear hv α
  by_cases T:i=4
  ·
   have Ω:=T;subst T;go_upto_region 14 with fail;have η:=Q3 J;have τ:=Q3 G;have θ:=Q3 K8;have κ:=Q3 M;have μ:=Q3 R;have gf:=K7 hG D;have gm:=gf.1;have gi:=gf.2;obtain⟨S,hS⟩:=exn (J1m f 4);have bS:S<J8:=by rw[hS];exact J9i f 4 (fun j _=>hf j)
   obtain⟨O,rfl⟩:=Int.eq_ofNat_of_zero_le hc.1;have hw:=HV.out;rw[←hS,Int.toNat_natCast] at hw;have bO:O≤38:=Y39 _ _ _ hw;have X:=Z8h f S O hS (fun j=>hf j) bS bO;obtain⟨X1,V⟩:=exn (J71 S (38*O));rw[←V] at X;have Δ:X1<J8:=by rw[V];exact Q8q _ _ bS (by omega)
   have Γ:=BK V;clear V;have Y:=J5t X1 Δ;obtain⟨X2,U⟩:=exn (X1 % PP);rw[←U] at Y;have D0:=Z0r U;have ω:=BK U;clear U;refine Px 5 ?_;refine XL ?_;refine Xv ?_;refine Xv ?_;refine Xf ?_ (fun W hW=>X W);refine Xf ?_ (fun W hW=>Y W (K7 gf hW));refine J0o fun W5 hE=> ?_;refine Lp ?_ (J3 K8 hE) (cells:=c4 X2);intro W6 hO h_;refine V5 ?_;replace J:=ko J hE hO (by omega);replace G:=ko G hE hO (by omega);replace K8:=h_;replace M:=ko M hE hO (by omega);replace R:=ko R hE hO (by omega);replace D:=bwo D hE hO D.size (by omega);clear hO h_;go_wp2;refine BH (Z5 rfl rfl K8 (by kernel_rfl) (by kernel_rfl)) rfl ⟨?_,D⟩;rw[ω.out,Γ.out,Y38 A B S O hA hB (by rw[←HN.out];exact hw)];rfl
  have δ:i<4:=by omega
  have hi3' :(i:Int)<4:=by omega
  have Ψ:4+(i:Int)<8:=by omega
  have hi8' :(i:Int)<8:=by omega
  clear T;obtain⟨m1,m2,m3,m4,m5⟩:=Q2g (K3 N (4+i)) 38 (K3 N i) c (J0l N _) (by unfold Y8;omega) (J0l N i) hc;have a1:=J0z (J5q (K3 N (4+i)) 38) (K3 N i) 0 m1 (J0l N i) (by omega) (by omega);have a2:=J0z (adS (J5q (K3 N (4+i)) 38) (K3 N i) 0) c 0 m2 hc (by omega) (by omega);obtain⟨sv,γ⟩:∃sv,sv=adS (adS (J5q (K3 N (4+i)) 38) (K3 N i) 0) c 0:=⟨_,rfl⟩
  rw[←γ] at m4 m5 a2;have M5:=BK m5;clear m5 γ;have c5:=(J5 M (4+i)).trans (Q6 _ _ _ _ (by omega));have c5' :=(J5 M i).trans (Q6 _ _ _ _ (by omega));have c6:=(J5 R i).trans (Q6 _ _ _ _ δ);have f6:=V3 R
  go_wp2_with (go_at_call 114;refine(Q64 _ _ (J0l N (4+i)) (by unfold Y8;omega) _).mono ?_;rintro e w' ⟨rfl,rfl⟩)
  have hs:=Z7 R i (.int .u64 sv);rw[Y9] at hs;have h1:=J5z f i sv 4 δ;have h2:=HV.out;have h5:=M5.out;clear HV M5 a1 a2 c5 c5' c6 f6;go_roundw
  case rel=>
   (repeat apply Exists.intro)
   refine⟨?_,rfl⟩;refine⟨i+1,_,upd f i sv,by omega,by go_num,rfl,m3,?_,?_,Z8g i N _ _ (f i) sv c _ (hf i) m4 hc m3 h5 h1 (ζ.out i (Nat.le_refl i)) h2,?_,?_,?_,?_,?_,hs⟩
   ·
    intro j
    by_cases hj:j=i
    ·
     subst hj;rw[J21];exact m4
    rw[J0h _ _ _ _ hj];exact hf j
   ·
    intro j hj;rw[J0h _ _ _ _ (by omega)];exact ζ.out j (by omega)
   ·
    exact Z0 D (by omega) _ _
   ·
    exact J4 J (by omega) _ _
   ·
    exact J4 G (by omega) _ _
   ·
    exact J4 K8 (by omega) _ _
   exact J4 M (by omega) _ _
  case measure=>simp[intOf];omega
end
end Go.Proofs.YtdjacgmmidbieaaGreatDoor.S8

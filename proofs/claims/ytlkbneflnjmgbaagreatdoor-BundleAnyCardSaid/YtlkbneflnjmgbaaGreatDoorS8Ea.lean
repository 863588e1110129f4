/- Contracts and plain laws for bundleAny_holds. Conditions: the tables hold their numbers. -/
import Derived.Test.YtlkbneflnjmgbaaGreatDoorJ6
import Derived.BigQuiet
open Go.RowKit
set_option maxRecDepth 100000
set_option linter.unusedSimpArgs false
set_option linter.unusedVariables false
namespace Go.Proofs.YtlkbneflnjmgbaaGreatDoor.S8
section
set_option maxHeartbeats 4000000

theorem Z0h (a0 a1 a2 a3 b0 b1 b2 b3:Int)(ha:U4 a0 a1 a2 a3)(hb:U4 b0 b1 b2 b3)(w:World):
    Calls Tryz.prog 193 #[A4 a0 a1 a2 a3,A4 b0 b1 b2 b3] w fun e w' =>
      Ret (.tuple #[L4 (J8d (J0t a0 a1 a2 a3) (J0t b0 b1 b2 b3)),.int .u64 (brw (J0t a0 a1 a2 a3) (J0t b0 b1 b2 b3))]) w w' e:=by
  have D:=Q6c a0 a1 a2 a3 b0 b1 b2 b3 ha hb;have HC:=Lib.hid D;clear D;have h0:=J3n a0 b0 0 ha.1 hb.1 (by omega) (by omega);have h1:=J3n a1 b1 _ ha.2.1 hb.2.1 (J5e a0 b0 0).1 (J5e a0 b0 0).2;have h2:=J3n a2 b2 _ ha.2.2.1 hb.2.2.1 (J5e a1 b1 (sbB a0 b0 0)).1 (J5e a1 b1 (sbB a0 b0 0)).2;have h3:=J3n a3 b3 _ ha.2.2.2 hb.2.2.2 (J5e a2 b2 (sbB a1 b1 (sbB a0 b0 0))).1 (J5e a2 b2 (sbB a1 b1 (sbB a0 b0 0))).2;clear ha hb
  go_enter Tryz.func193,Tryz.ntmps193
  go_wp2;refine wp_loop_rounds 5 ?_;rw[rounds_succ];go_wp2
  go_region
  go_wp2;rw[rounds_succ];go_wp2
  go_region
  go_wp2;rw[rounds_succ];go_wp2
  go_region
  go_wp2;rw[rounds_succ];go_wp2
  go_region
  go_wp2;rw[rounds_succ];go_wp2;refine bodyPost_ret (v:=.tuple #[A4 (sbD a0 b0 0) (sbD a1 b1 (sbB a0 b0 0)) (sbD a2 b2 (sbB a1 b1 (sbB a0 b0 0))) (sbD a3 b3 (sbB a2 b2 (sbB a1 b1 (sbB a0 b0 0)))),.int .u64 (sbB a3 b3 (sbB a2 b2 (sbB a1 b1 (sbB a0 b0 0))))]) (by simp[results,Tryz.results193,go_sem]) rfl ⟨?_,?_⟩
  · rw[HC.out.1,HC.out.2]
  exact bz

theorem add_c (a0 a1 a2 a3 b0 b1 b2 b3:Int)(ha:U4 a0 a1 a2 a3)(hb:U4 b0 b1 b2 b3)(w:World):
    Calls Tryz.prog 192 #[A4 a0 a1 a2 a3,A4 b0 b1 b2 b3] w fun e w' =>
      Ret (.tuple #[L4 ((J0t a0 a1 a2 a3+J0t b0 b1 b2 b3) % Q5),.int .u64 ((J0t a0 a1 a2 a3+J0t b0 b1 b2 b3) / Q5:Nat)]) w w' e:=by
  have D:=Q6d a0 a1 a2 a3 b0 b1 b2 b3 0 ha hb (by omega) (by omega);simp only[Int.toNat_zero,Nat.add_zero] at D;have HC:=Lib.hid D;clear D;have v0:=J9z a0 b0 0 ha.1 hb.1 (by omega) (by omega);have v1:=J9z a1 b1 _ ha.2.1 hb.2.1 v0.1 v0.2;have v2:=J9z a2 b2 _ ha.2.2.1 hb.2.2.1 v1.1 v1.2;have h0:=J19 a0 b0 0 ha.1 hb.1 (by omega) (by omega);have h1:=J19 a1 b1 _ ha.2.1 hb.2.1 v0.1 v0.2;have h2:=J19 a2 b2 _ ha.2.2.1 hb.2.2.1 v1.1 v1.2;have h3:=J19 a3 b3 _ ha.2.2.2 hb.2.2.2 v2.1 v2.2;clear v0 v1 v2;clear ha hb
  go_enter Tryz.func192,Tryz.ntmps192
  go_wp2;refine wp_loop_rounds 5 ?_;rw[rounds_succ];go_wp2
  go_region
  go_wp2;rw[rounds_succ];go_wp2
  go_region
  go_wp2;rw[rounds_succ];go_wp2
  go_region
  go_wp2;rw[rounds_succ];go_wp2
  go_region
  go_wp2;rw[rounds_succ];go_wp2;refine bodyPost_ret (v:=.tuple #[A4 (adS a0 b0 0) (adS a1 b1 (adC a0 b0 0)) (adS a2 b2 (adC a1 b1 (adC a0 b0 0))) (adS a3 b3 (adC a2 b2 (adC a1 b1 (adC a0 b0 0)))),.int .u64 (adC a3 b3 (adC a2 b2 (adC a1 b1 (adC a0 b0 0))))]) (by simp[results,Tryz.results192,go_sem]) rfl ⟨?_,?_⟩
  · rw[HC.out.1,HC.out.2];rfl
  exact bz

theorem Z2i (A B:Nat)(hA:A<Q5)(hB:B<Q5)(w:World):Calls Tryz.prog 193 #[L4 A,L4 B] w fun e w' =>Ret (.tuple #[L4 (J8d A B),.int .u64 (brw A B)]) w w' e:=by
  have h:=Z0h _ _ _ _ _ _ _ _ (J5t A) (J5t B) w;rw[J1f A hA,J1f B hB] at h;exact h
theorem Z2j (A B:Nat)(hA:A<Q5)(hB:B<Q5)(w:World):Calls Tryz.prog 192 #[L4 A,L4 B] w fun e w' =>Ret (.tuple #[L4 ((A+B) % Q5),.int .u64 ((A+B) / Q5:Nat)]) w w' e:=by
  have h:=add_c _ _ _ _ _ _ _ _ (J5t A) (J5t B) w;rw[J1f A hA,J1f B hB] at h;exact h
end

section
set_option maxHeartbeats 4000000

def PP:Nat:=57896044618658097711785492504343953926634992332820282019728792003956564819949
theorem J93:PP<Q5:=by decide+kernel
theorem PP_two:2*PP+38=Q5:=by decide+kernel
theorem J0x (n:Nat):n % PP<Q5:=Nat.lt_trans (Nat.mod_lt _ (by decide)) J93
theorem Z7j {X n:Nat}(h:X=n % PP):X<Q5:=h▸J0x n
def modC:Array Value:= #[.int .u64 18446744073709551597,.int .u64 18446744073709551615,.int .u64 18446744073709551615,.int .u64 9223372036854775807]
def imaC:Array Value:= #[.int .u64 14190309331451158704,.int .u64 3405592160176694392,.int .u64 3120150775007532967,.int .u64 3135389899092516619]
def GF (w:World):Prop:=Rd w 14 modC∧True
def GI (w:World):Prop:=Rd w 13 imaC
theorem Y0 {w W:World}(h:GF w)(e:Ext w W):GF W:=⟨h.1.ext e,trivial⟩
theorem Q4s (n:Nat)(hn:n<18446744073709551616):L4 n=.agg #[.int .u64 (n:Int),.int .u64 0,.int .u64 0,.int .u64 0]:=by
  have h0:K6 n 0=(n:Int):=by unfold K6;simp only[Nat.mul_zero,Nat.pow_zero,Nat.div_one];omega
  have h1:K6 n 1=0:=by unfold K6;rw[Nat.div_eq_of_lt (by simp only[Nat.reduceMul,Nat.reducePow];omega)];rfl
  have h2:K6 n 2=0:=by unfold K6;rw[Nat.div_eq_of_lt (by simp only[Nat.reduceMul,Nat.reducePow];omega)];rfl
  have h3:K6 n 3=0:=by unfold K6;rw[Nat.div_eq_of_lt (by simp only[Nat.reduceMul,Nat.reducePow];omega)];rfl
  unfold L4;rw[h0,h1,h2,h3]
theorem Y84 (A B:Nat)(hA:A<Q5)(hB:B<Q5)(h:A+B<Q5)(w:World):Calls Tryz.prog 192 #[L4 A,L4 B] w fun e w' =>Ret (.tuple #[L4 (A+B),.int .u64 0]) w w' e:=by
  have:=Z2j A B hA hB w;rw[Nat.mod_eq_of_lt h,Nat.div_eq_of_lt h] at this;exact this
theorem Y85 (A B:Nat)(hA:A<Q5)(hB:B<Q5)(h:Q5≤A+B)(w:World):Calls Tryz.prog 192 #[L4 A,L4 B] w fun e w' =>Ret (.tuple #[L4 (A+B-Q5),.int .u64 1]) w w' e:=by
  have:=Z2j A B hA hB w;have e1:(A+B) % Q5=A+B-Q5:=by rw[Nat.mod_eq_sub_mod h,Nat.mod_eq_of_lt (by omega)]
  have e2:(A+B) / Q5=1:=Nat.div_eq_of_lt_le (by omega) (by omega);rw[e1,e2] at this;exact this
theorem Z0i (A n:Nat)(hA:A<Q5)(hn:n<18446744073709551616)(h:A+n<Q5)(w:World):Calls Tryz.prog 192 #[L4 A,.agg #[.int .u64 (n:Int),.int .u64 0,.int .u64 0,.int .u64 0]] w fun e w' =>Ret (.tuple #[L4 (A+n),.int .u64 0]) w w' e:=by
  rw[←Q4s n hn];exact Y84 A n hA (by unfold Q5;omega) h w
theorem Y2o (A n:Nat)(hA:A<Q5)(hn:n<18446744073709551616)(h:Q5≤A+n)(w:World):Calls Tryz.prog 192 #[L4 A,.agg #[.int .u64 (n:Int),.int .u64 0,.int .u64 0,.int .u64 0]] w fun e w' =>Ret (.tuple #[L4 (A+n-Q5),.int .u64 1]) w w' e:=by
  rw[←Q4s n hn];exact Y85 A n hA (by unfold Q5;omega) h w
def J89 (A n:Nat):Nat:=if A+n<Q5 then A+n else A+n-Q5+38

theorem Y86 (A n:Nat)(hA:A<Q5)(hn:n<18446744073709551616)(h:A+n<Q5)(w:World):
  Calls Tryz.prog 186 #[L4 A,.int .u64 (n:Int)] w fun e w' =>Ret (L4 (A+n)) w w' e:=by
 go_enter Tryz.func186,Tryz.ntmps186
 go_upto_region 1 with fail;refine wn2 (c1:=(c4 (A))) (t1:=194) (c2:= #[.int .u64 0,.int .u64 0,.int .u64 0,.int .u64 0]) (t2:=194) fun W0 J M D=> ?_;have c1:=Z0i A n hA hn h;refine Px1 7 5 (z:= #[.int .u64 0,.int .u64 0,.int .u64 0,.int .u64 0]) (t:=194) ?_;refine XL ?_;refine Xv ?_;refine Xv ?_;refine Xf ?_ (fun W hW=>c1 W);(iterate 3 refine Xv ?_);refine XN ?_;intro N W1 U hE G;have T:=Q2 M;have R:=Q2 D;have V:=J.size;refine LS ?_ G (g:=N) (cells:=c4 (A+n));refine Lv ?_;refine J2 ?_;refine J72 (fun W=>Below w.heap.size w W∧Blk W w.heap.size (c4 (A)) 194∧Blk W (w.heap.size+1) #[.int .u64 0,.int .u64 0,.int .u64 0,.int .u64 0] 194∧Blk W N (c4 (A+n)) 194) ⟨(Y9 (V4 J hE J.size) (by omega) _),(Q0 (J3 M hE) (by omega) _),(Q0 (J3 D hE) (by omega) _),(V9 G (c4 (A+n)))⟩ ?_;clear J M D G;rintro W2 ⟨J,M,D,G⟩;go_upto_region 4 with fail;refine Px 1 ?_;refine XL ?_;refine K3 fun W3 hE=> ?_;have S:=Q2 G;refine LS ?_ (J3 D hE) (g:=(w.heap.size+1)) (cells:=c4 (A+n));refine J2 ?_;refine J72 (fun W=>Below w.heap.size w W∧Blk W w.heap.size (c4 (A)) 194∧Blk W (w.heap.size+1) (c4 (A+n)) 194∧Blk W N (c4 (A+n)) 194) ⟨(Y9 (V4 J hE J.size) (by omega) _),(Q0 (J3 M hE) (by omega) _),(V9 (J3 D hE) (c4 (A+n))),(Q0 (J3 G hE) (by omega) _)⟩ ?_;clear J M D G;rintro W4 ⟨J,M,D,G⟩;go_wp2;refine bodyPost_ret (Z0 rfl rfl D (by kernel_rfl) (by kernel_rfl)) rfl ⟨?_,J⟩;rfl
theorem Y87 (A n:Nat)(hA:A<Q5)(hn:n<18446744073709551616)(h:Q5≤A+n)(h2:A+n-Q5+38<Q5)(w:World):
  Calls Tryz.prog 186 #[L4 A,.int .u64 (n:Int)] w fun e w' =>Ret (L4 (A+n-Q5+38)) w w' e:=by
 go_enter Tryz.func186,Tryz.ntmps186
 go_upto_region 1 with fail;refine wn2 (c1:=(c4 (A))) (t1:=194) (c2:= #[.int .u64 0,.int .u64 0,.int .u64 0,.int .u64 0]) (t2:=194) fun W0 J M G=> ?_;have R:=Y2o A n hA hn h;obtain⟨X1,S⟩:∃X,X=A+n-Q5:=⟨_,rfl⟩
 rw[←S] at R;have T:=Lib.hid S;clear S;refine Px1 7 5 (z:= #[.int .u64 0,.int .u64 0,.int .u64 0,.int .u64 0]) (t:=194) ?_;refine XL ?_;refine Xv ?_;refine Xv ?_;refine Xf ?_ (fun W hW=>R W);(iterate 3 refine Xv ?_);refine XN ?_;intro N W1 γ hE D;have β:=Q2 M;have Z:=Q2 G;have ε:=J.size;refine LS ?_ D (g:=N) (cells:=c4 (X1));refine Lv ?_;refine J2 ?_;refine J72 (fun W=>Below w.heap.size w W∧Blk W w.heap.size (c4 (A)) 194∧Blk W (w.heap.size+1) #[.int .u64 0,.int .u64 0,.int .u64 0,.int .u64 0] 194∧Blk W N (c4 (X1)) 194) ⟨(Y9 (V4 J hE J.size) (by omega) _),(Q0 (J3 M hE) (by omega) _),(Q0 (J3 G hE) (by omega) _),(V9 D (c4 (X1)))⟩ ?_;clear J M G D;rintro W2 ⟨J,M,G,D⟩;go_upto_region 3 with fail;have U:=Z0i X1 38 (by rw[T.out];omega) (by decide) (by rw[T.out];omega);obtain⟨X2,V⟩:∃X,X=X1+38:=⟨_,rfl⟩
 rw[←V] at U;have δ:=Lib.hid V;clear V;refine Px 6 ?_;refine XL ?_;refine Xv ?_;refine Xf ?_ (fun W hW=>U W);(iterate 3 refine Xv ?_);refine K3 fun W3 hE=> ?_;have α:=Q2 D;refine LS ?_ (J3 D hE) (g:=N) (cells:=c4 (X2));refine J2 ?_;refine J72 (fun W=>Below w.heap.size w W∧Blk W w.heap.size (c4 (A)) 194∧Blk W (w.heap.size+1) #[.int .u64 0,.int .u64 0,.int .u64 0,.int .u64 0] 194∧Blk W N (c4 (X2)) 194) ⟨(Y9 (V4 J hE J.size) (by omega) _),(Q0 (J3 M hE) (by omega) _),(Q0 (J3 G hE) (by omega) _),(V9 (J3 D hE) (c4 (X2)))⟩ ?_;clear J M G D;rintro W4 ⟨J,M,G,D⟩;go_upto_region 4 with fail;refine Px 1 ?_;refine XL ?_;refine K3 fun W5 hE=> ?_;have Y:=Q2 D;refine LS ?_ (J3 G hE) (g:=(w.heap.size+1)) (cells:=c4 (X2));refine J2 ?_;refine J72 (fun W=>Below w.heap.size w W∧Blk W w.heap.size (c4 (A)) 194∧Blk W (w.heap.size+1) (c4 (X2)) 194∧Blk W N (c4 (X2)) 194) ⟨(Y9 (V4 J hE J.size) (by omega) _),(Q0 (J3 M hE) (by omega) _),(V9 (J3 G hE) (c4 (X2))),(Q0 (J3 D hE) (by omega) _)⟩ ?_;clear J M G D;rintro W6 ⟨J,M,G,D⟩;go_wp2;refine bodyPost_ret (Z0 rfl rfl G (by kernel_rfl) (by kernel_rfl)) rfl ⟨?_,J⟩;rw[δ.out,T.out];rfl
end

section
set_option maxHeartbeats 4000000

theorem Q88:Value.agg modC=L4 PP:=by kernel_rfl
theorem Z5c (A B:Nat)(hA:A<Q5)(hB:B<Q5)(h:B≤A):J8d A B=A-B:=by unfold J8d Q5 at*;omega
theorem Q89 (X:Nat)(hX:X<PP)(w:World):Calls Tryz.prog 193 #[L4 X,.agg modC] w fun e w' =>Ret (.tuple #[L4 (J8d X PP),.int .u64 1]) w w' e:=by
  have:=Z2i X PP (Nat.lt_trans hX J93) J93 w;rw[Q88];unfold brw at this;rw[if_pos hX] at this;exact this
theorem Q8a (X:Nat)(hX:X<Q5)(h:PP≤X)(w:World):Calls Tryz.prog 193 #[L4 X,.agg modC] w fun e w' =>Ret (.tuple #[L4 (X-PP),.int .u64 0]) w w' e:=by
  have:=Z2i X PP hX J93 w;rw[Q88];rw[Z5c X PP hX J93 h] at this;unfold brw at this;rw[if_neg (by omega)] at this;exact this
theorem V9e (X:Nat)(h:PP≤X)(h1:X-PP<PP):X-PP=X % PP:=by rw[Nat.mod_eq_sub_mod h,Nat.mod_eq_of_lt h1]
theorem V9f (X:Nat)(h:PP≤X)(h1:PP≤X-PP)(h2:X-PP-PP<PP):X-PP-PP=X % PP:=by rw[Nat.mod_eq_sub_mod h,Nat.mod_eq_sub_mod h1,Nat.mod_eq_of_lt h2]

theorem V4p (X:Nat)(hX:X<Q5)(hq:X<PP)(w:World)(hG:GF w):
  Calls Tryz.prog 184 #[L4 X] w fun e w' =>Ret (L4 X) w w' e:=by
 go_enter Tryz.func184,Tryz.ntmps184
 go_wp2_with fail
 refine wp_loop_rounds 4 ?_;rw[rounds_succ];go_upto_region 1 with fail;refine wn2 (c1:=(c4 X)) (t1:=194) (c2:= #[.int .u64 0,.int .u64 0,.int .u64 0,.int .u64 0]) (t2:=194) fun W0 D M G=> ?_;have T:=Q2 M;have V:=Q2 G;have gf:=Y0 hG D;have gm:=gf.1;clear gf;have R:=Q89 X hq;obtain⟨X1,S⟩:=exn (J8d X PP);rw[←S] at R;have α:=Lib.hid S;clear S;refine Px1 6 3 (z:= #[.int .u64 0,.int .u64 0,.int .u64 0,.int .u64 0]) (t:=194) ?_;refine XL ?_;refine XL ?_;refine Xf ?_ (fun W hW=>R W);(iterate 3 refine Xv ?_);refine XN ?_;intro N W1 Y hE J;have Z:=D.size;refine LS ?_ J (g:=N) (cells:=c4 X1);refine Lv ?_;refine J2 ?_;have hF:Below w.heap.size w (W1.setRow N (c4 X1))∧Blk (W1.setRow N (c4 X1)) w.heap.size (c4 X) 194∧Blk (W1.setRow N (c4 X1)) (w.heap.size+1) #[.int .u64 0,.int .u64 0,.int .u64 0,.int .u64 0] 194∧Blk (W1.setRow N (c4 X1)) N (c4 X1) 194:=⟨(Y9 (V4 D hE D.size) (by omega) _),(Q0 (J3 M hE) (by omega) _),(Q0 (J3 G hE) (by omega) _),(V9 J (c4 X1))⟩
 generalize (W1.setRow N (c4 X1))=W2 at hF⊢;clear D M G J;obtain⟨D,M,G,J⟩:=hF;go_upto_region 3 with fail;have U:=Q2 J;have gf:=Y0 hG D;have gm:=gf.1;clear gf;refine Px 1 ?_;refine XL ?_;refine K3 fun W3 hE=> ?_;refine Lp ?_ (J3 G hE) (cells:=c4 X);intro W4 hO h_;refine J2 ?_;replace M:=ko M hE hO (by omega);replace G:=h_;replace J:=ko J hE hO (by omega);replace D:=bwo D hE hO D.size (by omega);clear hO h_;go_wp2;refine bodyPost_ret (Z0 rfl rfl G (by kernel_rfl) (by kernel_rfl)) rfl ⟨?_,D⟩;rfl
theorem V4q (X:Nat)(hX:X<Q5)(h0:PP≤X)(hq:X-PP<PP)(w:World)(hG:GF w):
  Calls Tryz.prog 184 #[L4 X] w fun e w' =>Ret (L4 (X-PP)) w w' e:=by
 go_enter Tryz.func184,Tryz.ntmps184
 go_wp2_with fail
 refine wp_loop_rounds 4 ?_;rw[rounds_succ];go_upto_region 1 with fail;refine wn2 (c1:=(c4 X)) (t1:=194) (c2:= #[.int .u64 0,.int .u64 0,.int .u64 0,.int .u64 0]) (t2:=194) fun W0 G M J=> ?_;have β:=Q2 M;have δ:=Q2 J;have gf:=Y0 hG G;have gm:=gf.1;clear gf;have S:=Q8a X hX h0;obtain⟨X1,T⟩:=exn (X-PP);rw[←T] at S;have Y:=Lib.hid T;clear T;refine Px1 6 3 (z:= #[.int .u64 0,.int .u64 0,.int .u64 0,.int .u64 0]) (t:=194) ?_;refine XL ?_;refine XL ?_;refine Xf ?_ (fun W hW=>S W);(iterate 3 refine Xv ?_);refine XN ?_;intro N W1 ζ hE D;have η:=G.size;refine LS ?_ D (g:=N) (cells:=c4 X1);refine Lv ?_;refine J2 ?_;have hF:Below w.heap.size w (W1.setRow N (c4 X1))∧Blk (W1.setRow N (c4 X1)) w.heap.size (c4 X) 194∧Blk (W1.setRow N (c4 X1)) (w.heap.size+1) #[.int .u64 0,.int .u64 0,.int .u64 0,.int .u64 0] 194∧Blk (W1.setRow N (c4 X1)) N (c4 X1) 194:=⟨(Y9 (V4 G hE G.size) (by omega) _),(Q0 (J3 M hE) (by omega) _),(Q0 (J3 J hE) (by omega) _),(V9 D (c4 X1))⟩
 generalize (W1.setRow N (c4 X1))=W2 at hF⊢;clear G M J D;obtain⟨G,M,J,D⟩:=hF;go_upto_region 4 with fail;have γ:=Q2 D;have gf:=Y0 hG G;have gm:=gf.1;clear gf;refine Px 1 ?_;refine XL ?_;refine K3 fun W3 hE=> ?_;refine LS ?_ (J3 M hE) (g:=w.heap.size) (cells:=c4 X1);refine J2 ?_;have hF:Below w.heap.size w (W3.setRow w.heap.size (c4 X1))∧Blk (W3.setRow w.heap.size (c4 X1)) w.heap.size (c4 X1) 194∧Blk (W3.setRow w.heap.size (c4 X1)) (w.heap.size+1) #[.int .u64 0,.int .u64 0,.int .u64 0,.int .u64 0] 194∧Blk (W3.setRow w.heap.size (c4 X1)) N (c4 X1) 194:=⟨(Y9 (V4 G hE G.size) (by omega) _),(V9 (J3 M hE) (c4 X1)),(Q0 (J3 J hE) (by omega) _),(Q0 (J3 D hE) (by omega) _)⟩
 generalize (W3.setRow w.heap.size (c4 X1))=W4 at hF⊢;clear G M J D;obtain⟨G,M,J,D⟩:=hF
 go_wp2_with fail
 rw[rounds_succ];go_upto_region 1 with fail;have α:=Q2 D;have gf:=Y0 hG G;have gm:=gf.1;clear gf;have U:=Q89 X1 (by rw[Y.out];exact hq);obtain⟨X2,V⟩:=exn (J8d X1 PP);rw[←V] at U;have κ:=Lib.hid V;clear V;refine Px1 6 3 (z:= #[.int .u64 0,.int .u64 0,.int .u64 0,.int .u64 0]) (t:=194) ?_;refine XL ?_;refine XL ?_;refine Xf ?_ (fun W hW=>U W);(iterate 3 refine Xv ?_);refine XN ?_;intro R W5 ε hE D;have θ:=G.size;refine LS ?_ D (g:=R) (cells:=c4 X2);refine Lv ?_;refine J2 ?_;have hF:Below w.heap.size w (W5.setRow R (c4 X2))∧Blk (W5.setRow R (c4 X2)) w.heap.size (c4 X1) 194∧Blk (W5.setRow R (c4 X2)) (w.heap.size+1) #[.int .u64 0,.int .u64 0,.int .u64 0,.int .u64 0] 194∧Blk (W5.setRow R (c4 X2)) R (c4 X2) 194:=⟨(Y9 (V4 G hE G.size) (by omega) _),(Q0 (J3 M hE) (by omega) _),(Q0 (J3 J hE) (by omega) _),(V9 D (c4 X2))⟩
 generalize (W5.setRow R (c4 X2))=W6 at hF⊢;clear G M J D;obtain⟨G,M,J,D⟩:=hF;go_upto_region 3 with fail;have Z:=Q2 D;have gf:=Y0 hG G;have gm:=gf.1;clear gf;refine Px 1 ?_;refine XL ?_;refine K3 fun W7 hE=> ?_;refine Lp ?_ (J3 J hE) (cells:=c4 X1);intro W8 hO h_;refine J2 ?_;replace M:=ko M hE hO (by omega);replace J:=h_;replace D:=ko D hE hO (by omega);replace G:=bwo G hE hO G.size (by omega);clear hO h_;go_wp2;refine bodyPost_ret (Z0 rfl rfl J (by kernel_rfl) (by kernel_rfl)) rfl ⟨?_,G⟩;rw[Y.out];rfl
theorem V4r (X:Nat)(hX:X<Q5)(h0:PP≤X)(h1' :PP≤X-PP)(hq:X-PP-PP<PP)(w:World)(hG:GF w):
  Calls Tryz.prog 184 #[L4 X] w fun e w' =>Ret (L4 (X-PP-PP)) w w' e:=by
 go_enter Tryz.func184,Tryz.ntmps184
 go_wp2_with fail
 refine wp_loop_rounds 4 ?_;rw[rounds_succ];go_upto_region 1 with fail;refine wn2 (c1:=(c4 X)) (t1:=194) (c2:= #[.int .u64 0,.int .u64 0,.int .u64 0,.int .u64 0]) (t2:=194) fun W0 G J M=> ?_;have η:=Q2 J;have μ:=Q2 M;have gf:=Y0 hG G;have gm:=gf.1;clear gf;have U:=Q8a X hX h0;obtain⟨X1,V⟩:=exn (X-PP);rw[←V] at U;have T:=Lib.hid V;clear V;have h1:PP≤X1:=by rw[T.out];exact h1'
 refine Px1 6 3 (z:= #[.int .u64 0,.int .u64 0,.int .u64 0,.int .u64 0]) (t:=194) ?_;refine XL ?_;refine XL ?_;refine Xf ?_ (fun W hW=>U W);(iterate 3 refine Xv ?_);refine XN ?_;intro R W1 ξ hE D;have τ:=G.size;refine LS ?_ D (g:=R) (cells:=c4 X1);refine Lv ?_;refine J2 ?_;have hF:Below w.heap.size w (W1.setRow R (c4 X1))∧Blk (W1.setRow R (c4 X1)) w.heap.size (c4 X) 194∧Blk (W1.setRow R (c4 X1)) (w.heap.size+1) #[.int .u64 0,.int .u64 0,.int .u64 0,.int .u64 0] 194∧Blk (W1.setRow R (c4 X1)) R (c4 X1) 194:=⟨(Y9 (V4 G hE G.size) (by omega) _),(Q0 (J3 J hE) (by omega) _),(Q0 (J3 M hE) (by omega) _),(V9 D (c4 X1))⟩
 generalize (W1.setRow R (c4 X1))=W2 at hF⊢;clear G J M D;obtain⟨G,J,M,D⟩:=hF;go_upto_region 4 with fail;have θ:=Q2 D;have gf:=Y0 hG G;have gm:=gf.1;clear gf;refine Px 1 ?_;refine XL ?_;refine K3 fun W3 hE=> ?_;refine LS ?_ (J3 J hE) (g:=w.heap.size) (cells:=c4 X1);refine J2 ?_;have hF:Below w.heap.size w (W3.setRow w.heap.size (c4 X1))∧Blk (W3.setRow w.heap.size (c4 X1)) w.heap.size (c4 X1) 194∧Blk (W3.setRow w.heap.size (c4 X1)) (w.heap.size+1) #[.int .u64 0,.int .u64 0,.int .u64 0,.int .u64 0] 194∧Blk (W3.setRow w.heap.size (c4 X1)) R (c4 X1) 194:=⟨(Y9 (V4 G hE G.size) (by omega) _),(V9 (J3 J hE) (c4 X1)),(Q0 (J3 M hE) (by omega) _),(Q0 (J3 D hE) (by omega) _)⟩
 generalize (W3.setRow w.heap.size (c4 X1))=W4 at hF⊢;clear G J M D;obtain⟨G,J,M,D⟩:=hF
 go_wp2_with fail
 rw[rounds_succ];go_upto_region 1 with fail;have ζ:=Q2 D;have gf:=Y0 hG G;have gm:=gf.1;clear gf;have Z:=Q8a X1 (by rw[T.out];omega) h1;obtain⟨X2,α⟩:=exn (X1-PP);rw[←α] at Z;have γ:=Lib.hid α;clear α;refine Px1 6 3 (z:= #[.int .u64 0,.int .u64 0,.int .u64 0,.int .u64 0]) (t:=194) ?_;refine XL ?_;refine XL ?_;refine Xf ?_ (fun W hW=>Z W);(iterate 3 refine Xv ?_);refine XN ?_;intro N W5 ν hE D;have φ:=G.size;refine LS ?_ D (g:=N) (cells:=c4 X2);refine Lv ?_;refine J2 ?_;have hF:Below w.heap.size w (W5.setRow N (c4 X2))∧Blk (W5.setRow N (c4 X2)) w.heap.size (c4 X1) 194∧Blk (W5.setRow N (c4 X2)) (w.heap.size+1) #[.int .u64 0,.int .u64 0,.int .u64 0,.int .u64 0] 194∧Blk (W5.setRow N (c4 X2)) N (c4 X2) 194:=⟨(Y9 (V4 G hE G.size) (by omega) _),(Q0 (J3 J hE) (by omega) _),(Q0 (J3 M hE) (by omega) _),(V9 D (c4 X2))⟩
 generalize (W5.setRow N (c4 X2))=W6 at hF⊢;clear G J M D;obtain⟨G,J,M,D⟩:=hF;go_upto_region 4 with fail;have ε:=Q2 D;have gf:=Y0 hG G;have gm:=gf.1;clear gf;refine Px 1 ?_;refine XL ?_;refine K3 fun W7 hE=> ?_;refine LS ?_ (J3 J hE) (g:=w.heap.size) (cells:=c4 X2);refine J2 ?_;have hF:Below w.heap.size w (W7.setRow w.heap.size (c4 X2))∧Blk (W7.setRow w.heap.size (c4 X2)) w.heap.size (c4 X2) 194∧Blk (W7.setRow w.heap.size (c4 X2)) (w.heap.size+1) #[.int .u64 0,.int .u64 0,.int .u64 0,.int .u64 0] 194∧Blk (W7.setRow w.heap.size (c4 X2)) N (c4 X2) 194:=⟨(Y9 (V4 G hE G.size) (by omega) _),(V9 (J3 J hE) (c4 X2)),(Q0 (J3 M hE) (by omega) _),(Q0 (J3 D hE) (by omega) _)⟩
 generalize (W7.setRow w.heap.size (c4 X2))=W8 at hF⊢;clear G J M D;obtain⟨G,J,M,D⟩:=hF
 go_wp2_with fail
 rw[rounds_succ];go_upto_region 1 with fail;have κ:=Q2 D;have gf:=Y0 hG G;have gm:=gf.1;clear gf;have β:=Q89 X2 (by rw[γ.out,T.out];exact hq);obtain⟨X3,Y⟩:=exn (J8d X2 PP);rw[←Y] at β;have ψ:=Lib.hid Y;clear Y;refine Px1 6 3 (z:= #[.int .u64 0,.int .u64 0,.int .u64 0,.int .u64 0]) (t:=194) ?_;refine XL ?_;refine XL ?_;refine Xf ?_ (fun W hW=>β W);(iterate 3 refine Xv ?_);refine XN ?_;intro S W9 ρ hE D;have σ:=G.size;refine LS ?_ D (g:=S) (cells:=c4 X3);refine Lv ?_;refine J2 ?_;have hF:Below w.heap.size w (W9.setRow S (c4 X3))∧Blk (W9.setRow S (c4 X3)) w.heap.size (c4 X2) 194∧Blk (W9.setRow S (c4 X3)) (w.heap.size+1) #[.int .u64 0,.int .u64 0,.int .u64 0,.int .u64 0] 194∧Blk (W9.setRow S (c4 X3)) S (c4 X3) 194:=⟨(Y9 (V4 G hE G.size) (by omega) _),(Q0 (J3 J hE) (by omega) _),(Q0 (J3 M hE) (by omega) _),(V9 D (c4 X3))⟩
 generalize (W9.setRow S (c4 X3))=W10 at hF⊢;clear G J M D;obtain⟨G,J,M,D⟩:=hF;go_upto_region 3 with fail;have δ:=Q2 D;have gf:=Y0 hG G;have gm:=gf.1;clear gf;refine Px 1 ?_;refine XL ?_;refine K3 fun χ hE=> ?_;refine Lp ?_ (J3 M hE) (cells:=c4 X2);intro ω hO h_;refine J2 ?_;replace J:=ko J hE hO (by omega);replace M:=h_;replace D:=ko D hE hO (by omega);replace G:=bwo G hE hO G.size (by omega);clear hO h_;go_wp2;refine bodyPost_ret (Z0 rfl rfl M (by kernel_rfl) (by kernel_rfl)) rfl ⟨?_,G⟩;rw[γ.out,T.out];rfl
theorem J6v (X:Nat)(hX:X<Q5)(w:World)(hG:GF w):Calls Tryz.prog 184 #[L4 X] w fun e w' =>Ret (L4 (X % PP)) w w' e:=by
  by_cases h0:X<PP
  · rw[Nat.mod_eq_of_lt h0];exact V4p X hX h0 w hG
  by_cases h1:X-PP<PP
  · rw[←V9e X (by omega) h1];exact V4q X hX (by omega) h1 w hG
  have h2:X-PP-PP<PP:=by have:=PP_two;have:PP=57896044618658097711785492504343953926634992332820282019728792003956564819949:=rfl;omega
  rw[←V9f X (by omega) (by omega) h2];exact V4r X hX (by omega) (by omega) h2 w hG
theorem Y88 (n:Nat)(hn:n<18446744073709551616)(w:World):
  Calls Tryz.prog 191 #[.int .u64 (n:Int)] w fun e w' =>Ret (L4 n) w w' e:=by
 go_enter Tryz.func191,Tryz.ntmps191
 go_upto_region 1 with fail;refine wn1 (c1:= #[.int .u64 0,.int .u64 0,.int .u64 0,.int .u64 0]) (t1:=194) fun W0 G D=> ?_;have J:=Q2 D;refine Px 2 ?_;refine Xv ?_;refine Xv ?_;refine K3 fun W1 hE=> ?_;refine LS ?_ (J3 D hE) (g:=w.heap.size) (cells:= #[.int .u64 (n:Int),.int .u64 0,.int .u64 0,.int .u64 0]);refine J2 ?_;have hF:Below w.heap.size w (W1.setRow w.heap.size #[.int .u64 (n:Int),.int .u64 0,.int .u64 0,.int .u64 0])∧Blk (W1.setRow w.heap.size #[.int .u64 (n:Int),.int .u64 0,.int .u64 0,.int .u64 0]) w.heap.size #[.int .u64 (n:Int),.int .u64 0,.int .u64 0,.int .u64 0] 194:=⟨(Y9 (V4 G hE G.size) (by omega) _),(V9 (J3 D hE) #[.int .u64 (n:Int),.int .u64 0,.int .u64 0,.int .u64 0])⟩
 generalize (W1.setRow w.heap.size #[.int .u64 (n:Int),.int .u64 0,.int .u64 0,.int .u64 0])=W2 at hF⊢;clear G D;obtain⟨G,D⟩:=hF;go_wp2;refine bodyPost_ret (Z0 rfl rfl D (by kernel_rfl) (by kernel_rfl)) rfl ⟨?_,G⟩;rw[Q4s n hn]
theorem Z0j (A n:Nat)(hA:A<Q5)(hn:n<18446744073709551616):J89 A n<Q5:=by unfold J89 Q5 at*;split<;>omega
theorem Q6l (A n:Nat):J89 A n % PP=(A+n) % PP:=by
  unfold J89
  split
  · rfl
  rename_i h;have e:A+n=A+n-Q5+38+PP+PP:=by unfold Q5 PP at*;omega
  conv=>rhs;rw[e,Nat.add_mod_right,Nat.add_mod_right]
theorem Y2p (A n:Nat)(hA:A<Q5)(hn:n<18446744073709551616)(w:World):Calls Tryz.prog 186 #[L4 A,.int .u64 (n:Int)] w fun e w' =>Ret (L4 (J89 A n)) w w' e:=by
  unfold J89
  by_cases h:A+n<Q5
  · rw[if_pos h];exact Y86 A n hA hn h w
  rw[if_neg h];exact Y87 A n hA hn (by omega) (by unfold Q5 at*;omega) w
theorem add_mod (A B:Nat)(hA:A<Q5)(hB:B<Q5):J89 ((A+B) % Q5) (38*((A+B) / Q5)) % PP=(A+B) % PP:=by
  rw[Q6l]
  by_cases h:A+B<Q5
  · rw[Nat.mod_eq_of_lt h,Nat.div_eq_of_lt h,Nat.mul_zero,Nat.add_zero]
  have e1:(A+B) % Q5=A+B-Q5:=by rw[Nat.mod_eq_sub_mod (by omega),Nat.mod_eq_of_lt (by omega)]
  have e2:(A+B) / Q5=1:=Nat.div_eq_of_lt_le (by omega) (by omega);rw[e1,e2]
  conv=>rhs;rw[show A+B=A+B-Q5+38*1+PP+PP by unfold Q5 PP at*;omega,Nat.add_mod_right,Nat.add_mod_right]
theorem V4s (A B:Nat)(hA:A<Q5)(hB:B<Q5)(w:World):Calls Tryz.prog 192 #[L4 A,L4 B] w fun e w' =>Ret (.tuple #[L4 ((A+B) % Q5),.int .u64 ((A+B) / Q5:Nat)]) w w' e:=Z2j A B hA hB w
theorem V4t (A o:Nat)(hA:A<Q5)(ho:o≤1)(w:World):Calls Tryz.prog 186 #[L4 A,.int .u64 (IntKind.u64.wrap (38*(o:Int)))] w fun e w' =>Ret (L4 (J89 A (38*o))) w w' e:=by
  have:IntKind.u64.wrap (38*(o:Int))=((38*o:Nat):Int):=by rw[IntKind.wrap_u64];omega
  rw[this];exact Y2p A (38*o) hA (by omega) w
theorem Y2q (X:Nat)(hX:X<PP)(w:World):Calls Tryz.prog 193 #[.agg modC,L4 X] w fun e w' =>Ret (.tuple #[L4 (PP-X),.int .u64 0]) w w' e:=by
  have:=Z2i PP X J93 (Nat.lt_trans hX J93) w;rw[Z5c PP X J93 (Nat.lt_trans hX J93) (by omega)] at this;rw[Q88];unfold brw at this;rw[if_neg (by omega)] at this;exact this
theorem J56 (A B:Nat)(hA:A<Q5)(hB:B<Q5)(w:World)(hG:GF w):
  Calls Tryz.prog 154 #[L4 A,L4 B] w fun e w' =>Ret (L4 ((A+B) % PP)) w w' e:=by
 go_enter Tryz.func154,Tryz.ntmps154
 go_upto_region 1 with fail;refine wn3 (c1:=(c4 A)) (t1:=194) (c2:=(c4 B)) (t2:=194) (c3:= #[.int .u64 0,.int .u64 0,.int .u64 0,.int .u64 0]) (t3:=194) fun W0 D M N J=> ?_;have γ:=Q2 M;have Z:=Q2 N;have β:=Q2 J;have gf:=Y0 hG D;have gm:=gf.1;have gi:=gf.2;have Y:=V4s A B hA hB;obtain⟨S,hS⟩:=exn ((A+B) % Q5);obtain⟨O,hO⟩:=exn ((A+B) / Q5);rw[←hS,←hO] at Y;have bS:S<Q5:=by rw[hS];exact Nat.mod_lt _ (by decide)
 have bO:O≤1:=by rw[hO];have:(A+B) / Q5<2:=Nat.div_lt_of_lt_mul (by omega);omega
 have HS:=Lib.hid hS;have HO:=Lib.hid hO;clear hS hO;refine Px1 6 5 (z:= #[.int .u64 0,.int .u64 0,.int .u64 0,.int .u64 0]) (t:=194) ?_;refine XL ?_;refine XL ?_;refine Xf ?_ (fun W hW=>Y W);(iterate 3 refine Xv ?_);refine XN ?_;intro R W1 ε hE G;have θ:=D.size;refine LS ?_ G (g:=R) (cells:=c4 S);refine Lv ?_;refine J2 ?_;have hF:Below w.heap.size w (W1.setRow R (c4 S))∧Blk (W1.setRow R (c4 S)) w.heap.size (c4 A) 194∧Blk (W1.setRow R (c4 S)) (w.heap.size+1) (c4 B) 194∧Blk (W1.setRow R (c4 S)) (w.heap.size+2) #[.int .u64 0,.int .u64 0,.int .u64 0,.int .u64 0] 194∧Blk (W1.setRow R (c4 S)) R (c4 S) 194:=⟨(Y9 (V4 D hE D.size) (by omega) _),(Q0 (J3 M hE) (by omega) _),(Q0 (J3 N hE) (by omega) _),(Q0 (J3 J hE) (by omega) _),(V9 G (c4 S))⟩
 generalize (W1.setRow R (c4 S))=W2 at hF⊢;clear D M N J G;obtain⟨D,M,N,J,G⟩:=hF;go_upto_region 2 with fail;have α:=Q2 G;have gf:=Y0 hG D;have gm:=gf.1;have gi:=gf.2;have V:=V4t S O bS bO;obtain⟨X1,T⟩:=exn (J89 S (38*O));rw[←T] at V;have δ:X1<Q5:=by rw[T];exact Z0j _ _ bS (by omega)
 have η:=Lib.hid T;clear T;have X:=J6v X1 δ;obtain⟨X2,U⟩:=exn (X1 % PP);rw[←U] at X;have κ:=Z7j U;have ζ:=Lib.hid U;clear U;refine Px 5 ?_;refine XL ?_;refine Xv ?_;refine Xv ?_;refine Xf ?_ (fun W hW=>V W);refine Xf ?_ (fun W hW=>X W (Y0 gf hW));refine K3 fun W3 hE=> ?_;refine Lp ?_ (J3 J hE) (cells:=c4 X2);intro W4 hO h_;refine J2 ?_;replace M:=ko M hE hO (by omega);replace N:=ko N hE hO (by omega);replace J:=h_;replace G:=ko G hE hO (by omega);replace D:=bwo D hE hO D.size (by omega);clear hO h_;go_wp2;refine bodyPost_ret (Z0 rfl rfl J (by kernel_rfl) (by kernel_rfl)) rfl ⟨?_,D⟩;rw[←add_mod A B hA hB,←HS.out,←HO.out,←η.out,←ζ.out];rfl
theorem Q4t (A:Nat)(hA:A<Q5)(w:World)(hG:GF w):
  Calls Tryz.prog 156 #[L4 A] w fun e w' =>Ret (L4 ((PP-A % PP) % PP)) w w' e:=by
 go_enter Tryz.func156,Tryz.ntmps156
 go_upto_region 1 with fail;refine wn2 (c1:=(c4 A)) (t1:=194) (c2:= #[.int .u64 0,.int .u64 0,.int .u64 0,.int .u64 0]) (t2:=194) fun W0 D M G=> ?_;have Z:=Q2 M;have β:=Q2 G;have gf:=Y0 hG D;have gm:=gf.1;have gi:=gf.2;have U:=J6v A hA;obtain⟨X1,R⟩:=exn (A % PP);rw[←R] at U;have κ:=Z7j R;have Y:=Lib.hid R;clear R;have V:=Y2q X1 (by rw[Y.out];exact Nat.mod_lt _ (by decide));obtain⟨X2,T⟩:=exn (PP-X1);rw[←T] at V;have ζ:X2<Q5:=by rw[T];exact Nat.lt_of_le_of_lt (Nat.sub_le _ _) J93
 have ε:=Lib.hid T;clear T;refine Rx1 7 3 (z:= #[.int .u64 0,.int .u64 0,.int .u64 0,.int .u64 0]) (t:=194) ?_;refine XL ?_;refine XL ?_;refine Xf ?_ (fun W hW=>U W (Y0 gf hW));refine Xf ?_ (fun W hW=>V W);(iterate 3 refine Xv ?_);refine XN ?_;intro N W1 γ hE J;have η:=D.size;refine LS ?_ J (g:=N) (cells:=c4 X2);refine Lv ?_;refine LN ?_;have hF:Below w.heap.size w (W1.setRow N (c4 X2))∧Blk (W1.setRow N (c4 X2)) w.heap.size (c4 A) 194∧Blk (W1.setRow N (c4 X2)) (w.heap.size+1) #[.int .u64 0,.int .u64 0,.int .u64 0,.int .u64 0] 194∧Blk (W1.setRow N (c4 X2)) N (c4 X2) 194:=⟨(Y9 (V4 D hE D.size) (by omega) _),(Q0 (J3 M hE) (by omega) _),(Q0 (J3 G hE) (by omega) _),(V9 J (c4 X2))⟩
 generalize (W1.setRow N (c4 X2))=W2 at hF⊢;clear D M G J;obtain⟨D,M,G,J⟩:=hF;go_upto_region 2 with fail;have α:=Q2 J;have gf:=Y0 hG D;have gm:=gf.1;have gi:=gf.2;have X:=J6v X2 ζ;obtain⟨X3,S⟩:=exn (X2 % PP);rw[←S] at X;have θ:=Z7j S;have δ:=Lib.hid S;clear S;refine Px 2 ?_;refine XL ?_;refine Xf ?_ (fun W hW=>X W (Y0 gf hW));refine K3 fun W3 hE=> ?_;refine Lp ?_ (J3 G hE) (cells:=c4 X3);intro W4 hO h_;refine J2 ?_;replace M:=ko M hE hO (by omega);replace G:=h_;replace J:=ko J hE hO (by omega);replace D:=bwo D hE hO D.size (by omega);clear hO h_;go_wp2;refine bodyPost_ret (Z0 rfl rfl G (by kernel_rfl) (by kernel_rfl)) rfl ⟨?_,D⟩;rw[δ.out,ε.out,Y.out];rfl
end

section
set_option maxHeartbeats 4000000

theorem J57 (V i:Nat)(h:i<4):(c4 V)[i]?=some (.int .u64 (K6 V i)):=by
  have:i=0∨i=1∨i=2∨i=3:=by omega
  rcases this with rfl|rfl|rfl|rfl<;>rfl

theorem Q8b (i k:Nat)(x y g c s cv:Int)(V V' Y Y' X B0:Nat)(hx:Z5 x)(hy:Z5 y)(hg:Z5 g)(hc:Z5 c)(hs:Z5 s)(hcv:Z5 cv)
    (h5:s+18446744073709551616*cv=x*y+g+c) (h1:V' +g.toNat*2^(64*(i+k))=V+s.toNat*2^(64*(i+k)))
    (h2:V+c.toNat*2^(64*(i+k))=X+x.toNat*2^(64*i)*Y) (hY:Y' =Y+y.toNat*2^(64*k)):
    V' +cv.toNat*2^(64*(i+(k+1)))=X+x.toNat*2^(64*i)*Y' :=by
  obtain⟨x,rfl⟩:=Int.eq_ofNat_of_zero_le hx.1;obtain⟨y,rfl⟩:=Int.eq_ofNat_of_zero_le hy.1;obtain⟨g,rfl⟩:=Int.eq_ofNat_of_zero_le hg.1;obtain⟨c,rfl⟩:=Int.eq_ofNat_of_zero_le hc.1;obtain⟨s,rfl⟩:=Int.eq_ofNat_of_zero_le hs.1;obtain⟨d,rfl⟩:=Int.eq_ofNat_of_zero_le hcv.1;simp only[Int.toNat_natCast] at*
  have h6:s+18446744073709551616*d=x*y+g+c:=by
    rw[←Int.natCast_mul] at h5;generalize x*y=p at*;omega
  have e1:(2:Nat)^(64*(i+(k+1)))=18446744073709551616*2^(64*(i+k)):=by
    rw[show 64*(i+(k+1))=64+64*(i+k) by omega,Nat.pow_add]
  have e2:(2:Nat)^(64*(i+k))=2^(64*i)*2^(64*k):=by rw[Nat.mul_add,Nat.pow_add]
  rw[hY,e1,Nat.mul_add (x*2^(64*i))];have e3:x*2^(64*i)*(y*2^(64*k))=x*y*2^(64*(i+k)):=by rw[e2,Nat.mul_mul_mul_comm]
  rw[e3];generalize 2^(64*(i+k))=W at*;have e4:d*(18446744073709551616*W)=18446744073709551616*d*W:=by rw[Nat.mul_left_comm,Nat.mul_assoc]
  rw[e4]
  have h7:s*W+18446744073709551616*d*W=x*y*W+g*W+c*W:=by
    rw[←Nat.add_mul,h6,Nat.add_mul,Nat.add_mul]
  omega

theorem Q8c (B V' V C X Y W:Nat){g:Int}(hB:B<Q5)(hg:g=0)(h1:V' +g.toNat*W=V+C)(h2:V+C=X+Y*(B % 2^(64*4))):V' =X+Y*B:=by
  rw[Nat.mod_eq_of_lt (show B<2^(64*4) from hB)] at h2;rw[hg,Int.toNat_zero,Nat.zero_mul,Nat.add_zero] at h1;rw[h1,h2]

theorem Z7k (A B:Nat)(hA:A<Q5)(hB:B<Q5)(w:World):
    Calls Tryz.prog 185 #[L4 A,L4 B] w fun e w' =>Ret (.agg (J0 .u64 8 (K6 (A*B)))) w w' e:=by
  go_enter Tryz.func185,Tryz.ntmps185
  go_wp2
  go_loopw [16] (fun ii wr=> ∃i:Nat,i≤4∧ii=.int .i64 i∧Below w.heap.size w wr∧
      Blk wr (w.heap.size+1) (c4 B) 194∧Blk wr (w.heap.size+2) (J0 .u64 8 (fun _=>0)) 248∧
      ∃f:Nat→Int,Blk wr (w.heap.size+3) (J0 .u64 8 f) 248∧(∀j,Z5 (f j))∧(∀j,i+4≤j→f j=0)∧J26 f 8=A % 2^(64*i)*B)
    (fun ii _=>(4-intOf ii).toNat)
  case atStart=>
    refine⟨0,by omega,rfl,?_,J08 (J08 (J0c _ _ (by simp)) _) _,J08 (J0c _ _ (by simp)) _,fun _=>0,J0c _ _ (by simp),fun _=>⟨by simp,by simp⟩,fun _ _=>rfl,?_⟩
    · exact bz
    rw[J9p,Nat.mul_zero,Nat.pow_zero,Nat.mod_one,Nat.zero_mul]
  case round=>
    obtain⟨i,hi,rfl,D,b1,b2,f,b3,hf,M,hv⟩:=hrel
    by_cases N:i=4
    · subst N
      have HV:=Lib.hid hv;clear hv M
      go_wp2_with (first
        |(refine wpList_load_row rfl 248 (.tmp 5) rfl (w.heap.size+3) rfl _ _ _ _ b3 Tryz.underlying248 rfl (by kernel_rfl) ?_)
        |(refine wpList_store_row rfl 248 (.tmp 4) (.tmp 65) rfl (w.heap.size+2) _ rfl rfl 248 _ b2 (by kernel_rfl) (by kernel_rfl) (J04 _ _ _) ?_))
      refine bodyPost_ret (results_cell_row rfl _ _ (w.heap.size+2) _ _ _ _ rfl (V9 b2 _) Tryz.underlying248 rfl (by kernel_rfl)) rfl ⟨?_,Y9 D (by omega) _⟩
      have e:J0 .u64 8 f=J0 .u64 8 (K6 (A*B)):=J0f _ _ _ _ fun j hj=>by
        have:=J75 f 8 j hj (fun i _=>hf i);rw[←this,HV.out,Nat.mod_eq_of_lt (show A<2^(64*4) from hA)]
      rw[e]
    have V:i<4:=by omega
    have hi3' :(i:Int)<4:=by omega
    have J:∀W,(Instr.index 194 (.agg #[.int .u64 (K6 A 0),.int .u64 (K6 A 1),.int .u64 (K6 A 2),.int .u64 (K6 A 3)]) (.int .i64 (i:Int))).run Tryz.prog W=.ok (.int .u64 (K6 A i)) W:=
      fun W=>J2n W 194 43 4 .u64 .i64 (c4 A) i (K6 A i) Tryz.underlying194 Tryz.underlying43 (by kernel_rfl) V (J57 A i V)
    have c1:=J4 b1;clear N;go_wp2;clear c1;have U:=Lib.hid M;have HV:=Lib.hid hv;clear M hv J hi3';obtain⟨wo,rfl⟩:∃wo:World,wo=wr:=⟨_,rfl⟩
    go_loopw [8,21] (fun cc kk wq=> ∃(k:Nat)(c:Int),k≤4∧kk=.int .i64 k∧cc=.int .u64 c∧Z5 c∧Below w.heap.size w wq∧
        Blk wq (w.heap.size+1) (c4 B) 194∧Blk wq (w.heap.size+2) (J0 .u64 8 (fun _=>0)) 248∧
        ∃g:Nat→Int,Blk wq (w.heap.size+3) (J0 .u64 8 g) 248∧(∀j,Z5 (g j))∧(∀j,i+4≤j→g j=0)∧
          J26 g 8+c.toNat*2^(64*(i+k))=A % 2^(64*i)*B+(K6 A i).toNat*2^(64*i)*(B % 2^(64*k)))
      (fun _ kk _=>(4-intOf kk).toNat)
    case atStart=>
      refine⟨0,0,by omega,rfl,rfl,⟨by omega,by omega⟩,D,b1,b2,f,b3,hf,U.out,?_⟩;rw[HV.out,Nat.mul_zero,Nat.pow_zero,Nat.mod_one];simp
    case round=>
      obtain⟨k,c,hk,rfl,rfl,hc,D,b1,b2,g,b3,hg,S,hv⟩:=hrel;have G:=Lib.hid S;have HV:=Lib.hid hv;clear S hv U
      by_cases X:k=4
      · subst X
        have c3:=(J4 b3 (i+4)).trans (K7 _ _ _ _ (by omega));have f3:=J06 b3;have Y:(i:Int)+4<8:=by omega
        go_wp2;have hs:=J25 b3 (i+4) (.int .u64 c);rw[X6] at hs;go_roundw
        case rel=>
          refine⟨i+1,by omega,by go_num,?_,X9 b1 (by omega) _ _,X9 b2 (by omega) _ _,upd g (i+4) c,hs,?_,?_,?_⟩
          · exact bz
          · intro j
            by_cases hj:j=i+4
            · subst hj;rw[J3g];exact hc
            rw[J12 _ _ _ _ hj];exact hg j
          · intro j hj
            rw[J12 _ _ _ _ (by omega)];exact G.out j (by omega)
          rw[J74,Nat.add_mul];exact Q8c B _ _ _ _ _ _ hB (G.out (i+4) (by omega)) (J73 g (i+4) c 8 (by omega)) HV.out
        case measure=>simp[intOf];omega
      have R:k<4:=by omega
      have hk3' :(k:Int)<4:=by omega
      clear X
      have J:∀W,(Instr.index 194 (.agg #[.int .u64 (K6 B 0),.int .u64 (K6 B 1),.int .u64 (K6 B 2),.int .u64 (K6 B 3)]) (.int .i64 (k:Int))).run Tryz.prog W=.ok (.int .u64 (K6 B k)) W:=
        fun W=>J2n W 194 43 4 .u64 .i64 (c4 B) k (K6 B k) Tryz.underlying194 Tryz.underlying43 (by kernel_rfl) R (J57 B k R)
      obtain⟨m1,m2,m3,m4,m5⟩:=Q4a (K6 A i) (K6 B k) (g (i+k)) c (J11 A i) (J11 B k) (hg _) hc;have a1:=J19 (J6q (K6 A i) (K6 B k)) (g (i+k)) 0 m1 (hg _) (by omega) (by omega);have a2:=J19 (adS (J6q (K6 A i) (K6 B k)) (g (i+k)) 0) c 0 m2 hc (by omega) (by omega);obtain⟨sv,T⟩:∃sv,sv=adS (adS (J6q (K6 A i) (K6 B k)) (g (i+k)) 0) c 0:=⟨_,rfl⟩
      rw[←T] at m4 m5 a2;have M5:=Lib.hid m5;clear m5 T;have c3:=(J4 b3 (i+k)).trans (K7 _ _ _ _ (by omega));have f3:=J06 b3;have Y:(i:Int)+(k:Int)<8:=by omega
      go_wp2_with (go_at_call 149;refine(Q7m _ _ (J11 A i) (J11 B k) _).mono ?_;rintro e w' ⟨rfl,rfl⟩)
      have hs:=J25 b3 (i+k) (.int .u64 sv);rw[X6] at hs;have h1:=J73 g (i+k) sv 8 (by omega);have h2:=HV.out;have h5:=M5.out;clear HV M5 a1 a2 c3 f3 J;go_roundw
      case rel=>
        (repeat apply Exists.intro)
        refine⟨?_,rfl⟩;refine⟨k+1,_,by omega,by go_num,rfl,m3,?_,X9 b1 (by omega) _ _,X9 b2 (by omega) _ _,upd g (i+k) sv,hs,?_,?_,?_⟩
        · exact bz
        · intro j
          by_cases hj:j=i+k
          · subst hj;rw[J3g];exact m4
          rw[J12 _ _ _ _ hj];exact hg j
        · intro j hj
          rw[J12 _ _ _ _ (by omega)];exact G.out j hj
        exact Q8b i k (K6 A i) (K6 B k) (g (i+k)) c sv _ _ _ _ _ _ 0 (J11 A i) (J11 B k) (hg _) hc m4 m3 h5 h1 h2 (J74 B k)
      case measure=>simp[intOf];omega
end

section
set_option maxHeartbeats 4000000

theorem Y2r (i:Nat)(N V V' :Nat)(g s c cv:Int)(hg:Z5 g)(hs:Z5 s)(hc:Z5 c)(hcv:Z5 cv)
    (h5:s+18446744073709551616*cv=K6 N (4+i)*38+K6 N i+c) (h1:V' +g.toNat*2^(64*i)=V+s.toNat*2^(64*i)) (hg0:g=0)
    (h2:V+c.toNat*2^(64*i)=N % 2^(64*i)+38*(N / 2^256 % 2^(64*i))):
    V' +cv.toNat*2^(64*(i+1))=N % 2^(64*(i+1))+38*(N / 2^256 % 2^(64*(i+1))):=by
  have e4:K6 N (4+i)=K6 (N / 2^256) i:=by
    unfold K6;rw[Nat.div_div_eq_div_mul,←Nat.pow_add,show 64*(4+i)=256+64*i by omega]
  rw[e4] at h5;rw[J74 N,J74 (N / 2^256)];have l1:=J11 N i;have l2:=J11 (N / 2^256) i;obtain⟨x,hx⟩:=Int.eq_ofNat_of_zero_le l1.1;obtain⟨y,hy⟩:=Int.eq_ofNat_of_zero_le l2.1;obtain⟨s,rfl⟩:=Int.eq_ofNat_of_zero_le hs.1;obtain⟨c,rfl⟩:=Int.eq_ofNat_of_zero_le hc.1;obtain⟨d,rfl⟩:=Int.eq_ofNat_of_zero_le hcv.1;subst hg0;rw[hx,hy] at*;simp only[Int.toNat_natCast,Int.toNat_zero,Nat.zero_mul,Nat.add_zero] at*;have h6:s+18446744073709551616*d=y*38+x+c:=by omega
  have e1:(2:Nat)^(64*(i+1))=18446744073709551616*2^(64*i):=by rw[show 64*(i+1)=64+64*i by omega,Nat.pow_add]
  rw[e1];generalize N % 2^(64*i)=n0 at*;generalize N / 2^256 % 2^(64*i)=n1 at*;generalize 2^(64*i)=W at*;have e5:d*(18446744073709551616*W)=18446744073709551616*d*W:=by rw[Nat.mul_left_comm,Nat.mul_assoc]
  have h7:s*W+18446744073709551616*d*W=y*38*W+x*W+c*W:=by
    rw[←Nat.add_mul,h6,Nat.add_mul,Nat.add_mul]
  have e6:y*38*W=38*(y*W):=by rw[Nat.mul_comm y 38,Nat.mul_assoc]
  rw[e5,Nat.mul_add];generalize y*W=yw at*;omega
theorem Y89 (A B S c:Nat)(hA:A<Q5)(hB:B<Q5)(h:S+c*2^(64*4)=A*B % 2^(64*4)+38*(A*B / 2^256 % 2^(64*4))):J89 S (38*c) % PP=A*B % PP:=by
  have hN:A*B / 2^256<Q5:=Nat.div_lt_of_lt_mul (Nat.mul_lt_mul'' hA hB);have e:(2:Nat)^(64*4)=Q5:=by decide
  have e' :(2:Nat)^256=Q5:=by decide
  rw[show(2:Nat)^(64*4)=2^256 by decide] at h;rw[e'] at h hN;rw[Nat.mod_eq_of_lt hN] at h;rw[Q6l];have hd:=Nat.div_add_mod (A*B) Q5;generalize A*B / Q5=q at*;generalize A*B % Q5=r at*;generalize A*B=N at*;have h2:Q5=2*PP+38:=PP_two.symm
  have G:S+38*c+PP*(2*c)=r+38*q:=by
    have:PP*(2*c)=c*(2*PP):=by rw[Nat.mul_left_comm,Nat.mul_comm PP c,Nat.mul_left_comm]
    rw[h2,Nat.mul_add] at h;omega
  have D:N=r+38*q+PP*(2*q):=by
    have:PP*(2*q)=2*PP*q:=by rw[Nat.mul_left_comm,Nat.mul_assoc]
    rw[←hd,h2,Nat.add_mul];omega
  rw[D,←G,Nat.add_mul_mod_self_left,Nat.add_mul_mod_self_left]

theorem Y8a (S O N:Nat)(h:S+O*2^(64*4)=N % 2^(64*4)+38*(N / 2^256 % 2^(64*4))):O≤38:=by
  have h1:N % 2^(64*4)<Q5:=Nat.mod_lt _ (by decide);have h2:N / 2^256 % 2^(64*4)<Q5:=Nat.mod_lt _ (by decide);rw[show(2:Nat)^(64*4)=Q5 by decide] at*;unfold Q5 at*;omega
theorem V9g (f:Nat→Int):J0 .u64 4 f= #[.int .u64 (f 0),.int .u64 (f 1),.int .u64 (f 2),.int .u64 (f 3)]:=rfl
theorem Y8b (f:Nat→Int)(hf:∀j,Z5 (f j)):Value.agg (J0 .u64 4 f)=L4 (J26 f 4):=by
  rw[V9g];unfold L4;rw[J75 f 4 0 (by omega) (fun i _=>hf i),J75 f 4 1 (by omega) (fun i _=>hf i),J75 f 4 2 (by omega) (fun i _=>hf i),J75 f 4 3 (by omega) (fun i _=>hf i)]
theorem Y2s (f:Nat→Int)(S o:Nat)(hS:S=J26 f 4)(hf:∀j,Z5 (f j))(hA:S<Q5)(ho:o≤38)(w:World):Calls Tryz.prog 186 #[.agg (J0 .u64 4 f),.int .u64 (IntKind.u64.wrap (38*(o:Int)))] w fun e w' =>Ret (L4 (J89 S (38*o))) w w' e:=by
  have:IntKind.u64.wrap (38*(o:Int))=((38*o:Nat):Int):=by rw[IntKind.wrap_u64];omega
  rw[this,Y8b f hf,←hS];exact Y2p S (38*o) hA (by omega) w
theorem J02 (A B:Nat)(hA:A<Q5)(hB:B<Q5)(w:World)(hG:GF w):
  Calls Tryz.prog 141 #[L4 A,L4 B] w fun e w' =>Ret (L4 (A*B % PP)) w w' e:=by
 go_enter Tryz.func141,Tryz.ntmps141
 go_upto_region 1 with fail;refine wn3 (c1:=(c4 A)) (t1:=194) (c2:=(c4 B)) (t2:=194) (c3:= #[.int .u64 0,.int .u64 0,.int .u64 0,.int .u64 0]) (t3:=194) fun W0 D R M J=> ?_;have θ:=Q2 R;have κ:=Q2 M;have τ:=Q2 J;have gf:=Y0 hG D;have gm:=gf.1;have gi:=gf.2;have ε:=Z7k A B hA hB;obtain⟨N,hN⟩:=exn (A*B);rw[←hN] at ε;have HN:=Lib.hid hN;clear hN;refine Px1 3 5 (z:=J0 .u64 8 (fun _=>0)) (t:=248) ?_;refine XL ?_;refine XL ?_;refine Xf ?_ (fun W hW=>ε W);refine XN ?_;intro α W1 Γ hE G;have Ψ:=D.size;refine Lp ?_ G (cells:=J0 .u64 8 (K6 N)) (h1:=(J04 _ _ _));intro W2 hO h_;refine J2 ?_;replace R:=ko R hE hO (by omega);replace M:=ko M hE hO (by omega);replace J:=ko J hE hO (by omega);replace G:=h_;replace D:=bwo D hE hO D.size (by omega);clear hO h_;go_upto_region 2 with fail;have χ:=Q2 G;have gf:=Y0 hG D;have gm:=gf.1;have gi:=gf.2;refine Px1 0 6 (z:= #[.int .u64 0,.int .u64 0,.int .u64 0,.int .u64 0]) (t:=194) ?_;refine XN ?_;intro δ W3 Θ hE T;have Ξ:=D.size;refine J2 ?_;have hF:Below w.heap.size w W3∧Blk W3 w.heap.size (c4 A) 194∧Blk W3 (w.heap.size+1) (c4 B) 194∧Blk W3 (w.heap.size+2) #[.int .u64 0,.int .u64 0,.int .u64 0,.int .u64 0] 194∧Blk W3 α (J0 .u64 8 (K6 N)) 248∧Blk W3 δ #[.int .u64 0,.int .u64 0,.int .u64 0,.int .u64 0] 194:=⟨(V4 D hE D.size),(J3 R hE),(J3 M hE),(J3 J hE),(J3 G hE),T⟩
 clear D R M J G T;obtain⟨D,R,M,J,G,T⟩:=hF;have σ:=Q2 T
 go_wp2_with fail
 go_loopw [7,16] (fun cc ii wr=> ∃(i:Nat)(c:Int)(f:Nat→Int),i≤4∧ii=.int .i64 i∧cc=.int .u64 c∧Z5 c∧(∀j,Z5 (f j))∧(∀j,i≤j→f j=0)∧J26 f 4+c.toNat*2^(64*i)=N % 2^(64*i)+38*(N / 2^256 % 2^(64*i))∧Below w.heap.size w wr∧Blk wr w.heap.size (c4 A) 194∧Blk wr (w.heap.size+1) (c4 B) 194∧Blk wr (w.heap.size+2) #[.int .u64 0,.int .u64 0,.int .u64 0,.int .u64 0] 194∧Blk wr α (J0 .u64 8 (K6 N)) 248∧Blk wr δ (J0 .u64 4 f) 194)
  (fun cc ii _=>(4-intOf ii).toNat)
 case atStart=>
  refine⟨0,0,fun _=>0,by omega,rfl,rfl,⟨by omega,by omega⟩,fun _=>⟨by simp,by simp⟩,fun _ _=>rfl,?_,D,R,M,J,G,T⟩;rw[J9p,Nat.mul_zero,Nat.pow_zero,Nat.mod_one,Nat.mod_one];rfl
 case round=>
  obtain⟨i,c,f,hi,rfl,rfl,hc,hf,ζ,hv,D,R,M,J,G,T⟩:=hrel;have HV:=Lib.hid hv;have β:=Lib.hid ζ;clear hv ζ
  by_cases U:i=4
  ·
   have D0:=U;subst U;go_upto_region 14 with fail;have φ:=Q2 R;have μ:=Q2 M;have ν:=Q2 J;have ρ:=Q2 G;have ξ:=Q2 T;have gf:=Y0 hG D;have gm:=gf.1;have gi:=gf.2;obtain⟨S,hS⟩:=exn (J26 f 4);have bS:S<Q5:=by rw[hS];exact Q16 f 4 (fun j _=>hf j)
   obtain⟨O,rfl⟩:=Int.eq_ofNat_of_zero_le hc.1;have hw:=HV.out;rw[←hS,Int.toNat_natCast] at hw;have bO:O≤38:=Y8a _ _ _ hw;have Z:=Y2s f S O hS (fun j=>hf j) bS bO;obtain⟨X1,V⟩:=exn (J89 S (38*O));rw[←V] at Z;have ψ:X1<Q5:=by rw[V];exact Z0j _ _ bS (by omega)
   have Δ:=Lib.hid V;clear V;have Y:=J6v X1 ψ;obtain⟨X2,X⟩:=exn (X1 % PP);rw[←X] at Y;have D1:=Z7j X;have ω:=Lib.hid X;clear X;refine Px 5 ?_;refine XL ?_;refine Xv ?_;refine Xv ?_;refine Xf ?_ (fun W hW=>Z W);refine Xf ?_ (fun W hW=>Y W (Y0 gf hW));refine K3 fun W5 hE=> ?_;refine Lp ?_ (J3 J hE) (cells:=c4 X2);intro W6 hO h_;refine J2 ?_;replace R:=ko R hE hO (by omega);replace M:=ko M hE hO (by omega);replace J:=h_;replace G:=ko G hE hO (by omega);replace T:=ko T hE hO (by omega);replace D:=bwo D hE hO D.size (by omega);clear hO h_;go_wp2;refine bodyPost_ret (Z0 rfl rfl J (by kernel_rfl) (by kernel_rfl)) rfl ⟨?_,D⟩;rw[ω.out,Δ.out,Y89 A B S O hA hB (by rw[←HN.out];exact hw)];rfl
  have γ:i<4:=by omega
  have hi3' :(i:Int)<4:=by omega
  have Ω:4+(i:Int)<8:=by omega
  have hi8' :(i:Int)<8:=by omega
  clear U;obtain⟨m1,m2,m3,m4,m5⟩:=Q4a (K6 N (4+i)) 38 (K6 N i) c (J11 N _) (by unfold Z5;omega) (J11 N i) hc;have a1:=J19 (J6q (K6 N (4+i)) 38) (K6 N i) 0 m1 (J11 N i) (by omega) (by omega);have a2:=J19 (adS (J6q (K6 N (4+i)) 38) (K6 N i) 0) c 0 m2 hc (by omega) (by omega);obtain⟨sv,η⟩:∃sv,sv=adS (adS (J6q (K6 N (4+i)) 38) (K6 N i) 0) c 0:=⟨_,rfl⟩
  rw[←η] at m4 m5 a2;have M5:=Lib.hid m5;clear m5 η;have c5:=(J4 G (4+i)).trans (K7 _ _ _ _ (by omega));have c5' :=(J4 G i).trans (K7 _ _ _ _ (by omega));have c6:=(J4 T i).trans (K7 _ _ _ _ γ);have f6:=J06 T
  go_wp2_with (go_at_call 149;refine(Q7m _ _ (J11 N (4+i)) (by unfold Z5;omega) _).mono ?_;rintro e w' ⟨rfl,rfl⟩)
  have hs:=J25 T i (.int .u64 sv);rw[X6] at hs;have h1:=J73 f i sv 4 γ;have h2:=HV.out;have h5:=M5.out;clear HV M5 a1 a2 c5 c5' c6 f6;go_roundw
  case rel=>
   (repeat apply Exists.intro)
   refine⟨?_,rfl⟩;refine⟨i+1,_,upd f i sv,by omega,by go_num,rfl,m3,?_,?_,Y2r i N _ _ (f i) sv c _ (hf i) m4 hc m3 h5 h1 (β.out i (Nat.le_refl i)) h2,?_,?_,?_,?_,?_,hs⟩
   ·
    intro j
    by_cases hj:j=i
    ·
     subst hj;rw[J3g];exact m4
    rw[J12 _ _ _ _ hj];exact hf j
   ·
    intro j hj;rw[J12 _ _ _ _ (by omega)];exact β.out j (by omega)
   ·
    exact J4d D (by omega) _ _
   ·
    exact X9 R (by omega) _ _
   ·
    exact X9 M (by omega) _ _
   ·
    exact X9 J (by omega) _ _
   exact X9 G (by omega) _ _
  case measure=>simp[intOf];omega
end
end Go.Proofs.YtlkbneflnjmgbaaGreatDoor.S8

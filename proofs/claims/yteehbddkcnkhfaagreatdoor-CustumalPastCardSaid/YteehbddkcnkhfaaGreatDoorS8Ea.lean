/- Contracts and plain laws for custumalPast_holds. Conditions: the tables hold their numbers. -/
import Derived.Test.YteehbddkcnkhfaaGreatDoorJ7
import Derived.BigQuiet
open Go.RowKit
set_option maxRecDepth 100000
set_option linter.unusedSimpArgs false
set_option linter.unusedVariables false
namespace Go.Proofs.YteehbddkcnkhfaaGreatDoor.S8
section
set_option maxHeartbeats 4000000

theorem Q8d (a0 a1 a2 a3 b0 b1 b2 b3:Int)(ha:U4 a0 a1 a2 a3)(hb:U4 b0 b1 b2 b3)(w:World):
    Calls Tryz.prog 165 #[A4 a0 a1 a2 a3,A4 b0 b1 b2 b3] w fun e w' =>
      X5 (.tuple #[L4 (J7f (J0l a0 a1 a2 a3) (J0l b0 b1 b2 b3)),.int .u64 (brw (J0l a0 a1 a2 a3) (J0l b0 b1 b2 b3))]) w w' e:=by
  have D:=Q4u a0 a1 a2 a3 b0 b1 b2 b3 ha hb;have HC:=Lib.hid D;clear D;have h0:=J3a a0 b0 0 ha.1 hb.1 (by omega) (by omega);have h1:=J3a a1 b1 _ ha.2.1 hb.2.1 (J4s a0 b0 0).1 (J4s a0 b0 0).2;have h2:=J3a a2 b2 _ ha.2.2.1 hb.2.2.1 (J4s a1 b1 (sbB a0 b0 0)).1 (J4s a1 b1 (sbB a0 b0 0)).2;have h3:=J3a a3 b3 _ ha.2.2.2 hb.2.2.2 (J4s a2 b2 (sbB a1 b1 (sbB a0 b0 0))).1 (J4s a2 b2 (sbB a1 b1 (sbB a0 b0 0))).2;clear ha hb
  go_enter Tryz.func165,Tryz.ntmps165
  go_wp2;refine wp_loop_rounds 5 ?_;rw[rounds_succ];go_wp2
  go_region
  go_wp2;rw[rounds_succ];go_wp2
  go_region
  go_wp2;rw[rounds_succ];go_wp2
  go_region
  go_wp2;rw[rounds_succ];go_wp2
  go_region
  go_wp2;rw[rounds_succ];go_wp2;refine bodyPost_ret (v:=.tuple #[A4 (sbD a0 b0 0) (sbD a1 b1 (sbB a0 b0 0)) (sbD a2 b2 (sbB a1 b1 (sbB a0 b0 0))) (sbD a3 b3 (sbB a2 b2 (sbB a1 b1 (sbB a0 b0 0)))),.int .u64 (sbB a3 b3 (sbB a2 b2 (sbB a1 b1 (sbB a0 b0 0))))]) (by simp[results,Tryz.results165,go_sem]) rfl ⟨?_,?_⟩
  · rw[HC.out.1,HC.out.2]
  exact bz

theorem add_c (a0 a1 a2 a3 b0 b1 b2 b3:Int)(ha:U4 a0 a1 a2 a3)(hb:U4 b0 b1 b2 b3)(w:World):
    Calls Tryz.prog 164 #[A4 a0 a1 a2 a3,A4 b0 b1 b2 b3] w fun e w' =>
      X5 (.tuple #[L4 ((J0l a0 a1 a2 a3+J0l b0 b1 b2 b3) % Q3),.int .u64 ((J0l a0 a1 a2 a3+J0l b0 b1 b2 b3) / Q3:Nat)]) w w' e:=by
  have D:=Q4v a0 a1 a2 a3 b0 b1 b2 b3 0 ha hb (by omega) (by omega);simp only[Int.toNat_zero,Nat.add_zero] at D;have HC:=Lib.hid D;clear D;have v0:=J8v a0 b0 0 ha.1 hb.1 (by omega) (by omega);have v1:=J8v a1 b1 _ ha.2.1 hb.2.1 v0.1 v0.2;have v2:=J8v a2 b2 _ ha.2.2.1 hb.2.2.1 v1.1 v1.2;have h0:=J10 a0 b0 0 ha.1 hb.1 (by omega) (by omega);have h1:=J10 a1 b1 _ ha.2.1 hb.2.1 v0.1 v0.2;have h2:=J10 a2 b2 _ ha.2.2.1 hb.2.2.1 v1.1 v1.2;have h3:=J10 a3 b3 _ ha.2.2.2 hb.2.2.2 v2.1 v2.2;clear v0 v1 v2;clear ha hb
  go_enter Tryz.func164,Tryz.ntmps164
  go_wp2;refine wp_loop_rounds 5 ?_;rw[rounds_succ];go_wp2
  go_region
  go_wp2;rw[rounds_succ];go_wp2
  go_region
  go_wp2;rw[rounds_succ];go_wp2
  go_region
  go_wp2;rw[rounds_succ];go_wp2
  go_region
  go_wp2;rw[rounds_succ];go_wp2;refine bodyPost_ret (v:=.tuple #[A4 (adS a0 b0 0) (adS a1 b1 (adC a0 b0 0)) (adS a2 b2 (adC a1 b1 (adC a0 b0 0))) (adS a3 b3 (adC a2 b2 (adC a1 b1 (adC a0 b0 0)))),.int .u64 (adC a3 b3 (adC a2 b2 (adC a1 b1 (adC a0 b0 0))))]) (by simp[results,Tryz.results164,go_sem]) rfl ⟨?_,?_⟩
  · rw[HC.out.1,HC.out.2];rfl
  exact bz

theorem Z0c (A B:Nat)(hA:A<Q3)(hB:B<Q3)(w:World):Calls Tryz.prog 165 #[L4 A,L4 B] w fun e w' =>X5 (.tuple #[L4 (J7f A B),.int .u64 (brw A B)]) w w' e:=by
  have h:=Q8d _ _ _ _ _ _ _ _ (J54 A) (J54 B) w;rw[J13 A hA,J13 B hB] at h;exact h
theorem Z0d (A B:Nat)(hA:A<Q3)(hB:B<Q3)(w:World):Calls Tryz.prog 164 #[L4 A,L4 B] w fun e w' =>X5 (.tuple #[L4 ((A+B) % Q3),.int .u64 ((A+B) / Q3:Nat)]) w w' e:=by
  have h:=add_c _ _ _ _ _ _ _ _ (J54 A) (J54 B) w;rw[J13 A hA,J13 B hB] at h;exact h
end

section
set_option maxHeartbeats 4000000

def PP:Nat:=57896044618658097711785492504343953926634992332820282019728792003956564819949
theorem J7x:PP<Q3:=by decide+kernel
theorem PP_two:2*PP+38=Q3:=by decide+kernel
theorem J0o (n:Nat):n % PP<Q3:=Nat.lt_trans (Nat.mod_lt _ (by decide)) J7x
theorem Z50 {X n:Nat}(h:X=n % PP):X<Q3:=h▸J0o n
def modC:Array Value:= #[.int .u64 18446744073709551597,.int .u64 18446744073709551615,.int .u64 18446744073709551615,.int .u64 9223372036854775807]
def imaC:Array Value:= #[.int .u64 14190309331451158704,.int .u64 3405592160176694392,.int .u64 3120150775007532967,.int .u64 3135389899092516619]
def GF (w:World):Prop:=Rd w 10 modC∧True
def GI (w:World):Prop:=Rd w 13 imaC
theorem Z9 {w W:World}(h:GF w)(e:Ext w W):GF W:=⟨h.1.ext e,trivial⟩
theorem Q3f (n:Nat)(hn:n<18446744073709551616):L4 n=.agg #[.int .u64 (n:Int),.int .u64 0,.int .u64 0,.int .u64 0]:=by
  have h0:V9 n 0=(n:Int):=by unfold V9;simp only[Nat.mul_zero,Nat.pow_zero,Nat.div_one];omega
  have h1:V9 n 1=0:=by unfold V9;rw[Nat.div_eq_of_lt (by simp only[Nat.reduceMul,Nat.reducePow];omega)];rfl
  have h2:V9 n 2=0:=by unfold V9;rw[Nat.div_eq_of_lt (by simp only[Nat.reduceMul,Nat.reducePow];omega)];rfl
  have h3:V9 n 3=0:=by unfold V9;rw[Nat.div_eq_of_lt (by simp only[Nat.reduceMul,Nat.reducePow];omega)];rfl
  unfold L4;rw[h0,h1,h2,h3]
theorem Y4l (A B:Nat)(hA:A<Q3)(hB:B<Q3)(h:A+B<Q3)(w:World):Calls Tryz.prog 164 #[L4 A,L4 B] w fun e w' =>X5 (.tuple #[L4 (A+B),.int .u64 0]) w w' e:=by
  have:=Z0d A B hA hB w;rw[Nat.mod_eq_of_lt h,Nat.div_eq_of_lt h] at this;exact this
theorem Y4m (A B:Nat)(hA:A<Q3)(hB:B<Q3)(h:Q3≤A+B)(w:World):Calls Tryz.prog 164 #[L4 A,L4 B] w fun e w' =>X5 (.tuple #[L4 (A+B-Q3),.int .u64 1]) w w' e:=by
  have:=Z0d A B hA hB w;have e1:(A+B) % Q3=A+B-Q3:=by rw[Nat.mod_eq_sub_mod h,Nat.mod_eq_of_lt (by omega)]
  have e2:(A+B) / Q3=1:=Nat.div_eq_of_lt_le (by omega) (by omega);rw[e1,e2] at this;exact this
theorem Q8e (A n:Nat)(hA:A<Q3)(hn:n<18446744073709551616)(h:A+n<Q3)(w:World):Calls Tryz.prog 164 #[L4 A,.agg #[.int .u64 (n:Int),.int .u64 0,.int .u64 0,.int .u64 0]] w fun e w' =>X5 (.tuple #[L4 (A+n),.int .u64 0]) w w' e:=by
  rw[←Q3f n hn];exact Y4l A n hA (by unfold Q3;omega) h w
theorem Z9h (A n:Nat)(hA:A<Q3)(hn:n<18446744073709551616)(h:Q3≤A+n)(w:World):Calls Tryz.prog 164 #[L4 A,.agg #[.int .u64 (n:Int),.int .u64 0,.int .u64 0,.int .u64 0]] w fun e w' =>X5 (.tuple #[L4 (A+n-Q3),.int .u64 1]) w w' e:=by
  rw[←Q3f n hn];exact Y4m A n hA (by unfold Q3;omega) h w
def J78 (A n:Nat):Nat:=if A+n<Q3 then A+n else A+n-Q3+38

theorem Y4n (A n:Nat)(hA:A<Q3)(hn:n<18446744073709551616)(h:A+n<Q3)(w:World):
  Calls Tryz.prog 163 #[L4 A,.int .u64 (n:Int)] w fun e w' =>X5 (L4 (A+n)) w w' e:=by
 go_enter Tryz.func163,Tryz.ntmps163
 go_upto_region 1 with fail;refine wn2 (c1:=(c4 (A))) (t1:=152) (c2:= #[.int .u64 0,.int .u64 0,.int .u64 0,.int .u64 0]) (t2:=152) fun W0 J M D=> ?_;have c1:=Q8e A n hA hn h;refine Px1 7 5 (z:= #[.int .u64 0,.int .u64 0,.int .u64 0,.int .u64 0]) (t:=152) ?_;refine XL ?_;refine Xv ?_;refine Xv ?_;refine Xf ?_ (fun W hW=>c1 W);(iterate 3 refine Xv ?_);refine XN ?_;intro N W1 U hE G;have T:=Q2 M;have S:=Q2 D;have V:=J.size;refine LS ?_ G (g:=N) (cells:=c4 (A+n));refine Lv ?_;refine J5 ?_;refine J63 (fun W=>Below w.heap.size w W∧Blk W w.heap.size (c4 (A)) 152∧Blk W (w.heap.size+1) #[.int .u64 0,.int .u64 0,.int .u64 0,.int .u64 0] 152∧Blk W N (c4 (A+n)) 152) ⟨(Y0 (V0 J hE J.size) (by omega) _),(Q0 (J2 M hE) (by omega) _),(Q0 (J2 D hE) (by omega) _),(V6 G (c4 (A+n)))⟩ ?_;clear J M D G;rintro W2 ⟨J,M,D,G⟩;go_upto_region 4 with fail;refine Px 1 ?_;refine XL ?_;refine K5 fun W3 hE=> ?_;have R:=Q2 G;refine LS ?_ (J2 D hE) (g:=(w.heap.size+1)) (cells:=c4 (A+n));refine J5 ?_;refine J63 (fun W=>Below w.heap.size w W∧Blk W w.heap.size (c4 (A)) 152∧Blk W (w.heap.size+1) (c4 (A+n)) 152∧Blk W N (c4 (A+n)) 152) ⟨(Y0 (V0 J hE J.size) (by omega) _),(Q0 (J2 M hE) (by omega) _),(V6 (J2 D hE) (c4 (A+n))),(Q0 (J2 G hE) (by omega) _)⟩ ?_;clear J M D G;rintro W4 ⟨J,M,D,G⟩;go_wp2;refine bodyPost_ret (Z8 rfl rfl D (by kernel_rfl) (by kernel_rfl)) rfl ⟨?_,J⟩;rfl
theorem Y4o (A n:Nat)(hA:A<Q3)(hn:n<18446744073709551616)(h:Q3≤A+n)(h2:A+n-Q3+38<Q3)(w:World):
  Calls Tryz.prog 163 #[L4 A,.int .u64 (n:Int)] w fun e w' =>X5 (L4 (A+n-Q3+38)) w w' e:=by
 go_enter Tryz.func163,Tryz.ntmps163
 go_upto_region 1 with fail;refine wn2 (c1:=(c4 (A))) (t1:=152) (c2:= #[.int .u64 0,.int .u64 0,.int .u64 0,.int .u64 0]) (t2:=152) fun W0 J M G=> ?_;have R:=Z9h A n hA hn h;obtain⟨X1,S⟩:∃X,X=A+n-Q3:=⟨_,rfl⟩
 rw[←S] at R;have V:=Lib.hid S;clear S;refine Px1 7 5 (z:= #[.int .u64 0,.int .u64 0,.int .u64 0,.int .u64 0]) (t:=152) ?_;refine XL ?_;refine Xv ?_;refine Xv ?_;refine Xf ?_ (fun W hW=>R W);(iterate 3 refine Xv ?_);refine XN ?_;intro N W1 γ hE D;have β:=Q2 M;have α:=Q2 G;have ε:=J.size;refine LS ?_ D (g:=N) (cells:=c4 (X1));refine Lv ?_;refine J5 ?_;refine J63 (fun W=>Below w.heap.size w W∧Blk W w.heap.size (c4 (A)) 152∧Blk W (w.heap.size+1) #[.int .u64 0,.int .u64 0,.int .u64 0,.int .u64 0] 152∧Blk W N (c4 (X1)) 152) ⟨(Y0 (V0 J hE J.size) (by omega) _),(Q0 (J2 M hE) (by omega) _),(Q0 (J2 G hE) (by omega) _),(V6 D (c4 (X1)))⟩ ?_;clear J M G D;rintro W2 ⟨J,M,G,D⟩;go_upto_region 3 with fail;have U:=Q8e X1 38 (by rw[V.out];omega) (by decide) (by rw[V.out];omega);obtain⟨X2,T⟩:∃X,X=X1+38:=⟨_,rfl⟩
 rw[←T] at U;have δ:=Lib.hid T;clear T;refine Px 6 ?_;refine XL ?_;refine Xv ?_;refine Xf ?_ (fun W hW=>U W);(iterate 3 refine Xv ?_);refine K5 fun W3 hE=> ?_;have Z:=Q2 D;refine LS ?_ (J2 D hE) (g:=N) (cells:=c4 (X2));refine J5 ?_;refine J63 (fun W=>Below w.heap.size w W∧Blk W w.heap.size (c4 (A)) 152∧Blk W (w.heap.size+1) #[.int .u64 0,.int .u64 0,.int .u64 0,.int .u64 0] 152∧Blk W N (c4 (X2)) 152) ⟨(Y0 (V0 J hE J.size) (by omega) _),(Q0 (J2 M hE) (by omega) _),(Q0 (J2 G hE) (by omega) _),(V6 (J2 D hE) (c4 (X2)))⟩ ?_;clear J M G D;rintro W4 ⟨J,M,G,D⟩;go_upto_region 4 with fail;refine Px 1 ?_;refine XL ?_;refine K5 fun W5 hE=> ?_;have Y:=Q2 D;refine LS ?_ (J2 G hE) (g:=(w.heap.size+1)) (cells:=c4 (X2));refine J5 ?_;refine J63 (fun W=>Below w.heap.size w W∧Blk W w.heap.size (c4 (A)) 152∧Blk W (w.heap.size+1) (c4 (X2)) 152∧Blk W N (c4 (X2)) 152) ⟨(Y0 (V0 J hE J.size) (by omega) _),(Q0 (J2 M hE) (by omega) _),(V6 (J2 G hE) (c4 (X2))),(Q0 (J2 D hE) (by omega) _)⟩ ?_;clear J M G D;rintro W6 ⟨J,M,G,D⟩;go_wp2;refine bodyPost_ret (Z8 rfl rfl G (by kernel_rfl) (by kernel_rfl)) rfl ⟨?_,J⟩;rw[δ.out,V.out];rfl
end

section
set_option maxHeartbeats 4000000

theorem Q6h:Value.agg modC=L4 PP:=by kernel_rfl
theorem Z2y (A B:Nat)(hA:A<Q3)(hB:B<Q3)(h:B≤A):J7f A B=A-B:=by unfold J7f Q3 at*;omega
theorem Q6i (X:Nat)(hX:X<PP)(w:World):Calls Tryz.prog 165 #[L4 X,.agg modC] w fun e w' =>X5 (.tuple #[L4 (J7f X PP),.int .u64 1]) w w' e:=by
  have:=Z0c X PP (Nat.lt_trans hX J7x) J7x w;rw[Q6h];unfold brw at this;rw[if_pos hX] at this;exact this
theorem Q6j (X:Nat)(hX:X<Q3)(h:PP≤X)(w:World):Calls Tryz.prog 165 #[L4 X,.agg modC] w fun e w' =>X5 (.tuple #[L4 (X-PP),.int .u64 0]) w w' e:=by
  have:=Z0c X PP hX J7x w;rw[Q6h];rw[Z2y X PP hX J7x h] at this;unfold brw at this;rw[if_neg (by omega)] at this;exact this
theorem V5k (X:Nat)(h:PP≤X)(h1:X-PP<PP):X-PP=X % PP:=by rw[Nat.mod_eq_sub_mod h,Nat.mod_eq_of_lt h1]
theorem V5l (X:Nat)(h:PP≤X)(h1:PP≤X-PP)(h2:X-PP-PP<PP):X-PP-PP=X % PP:=by rw[Nat.mod_eq_sub_mod h,Nat.mod_eq_sub_mod h1,Nat.mod_eq_of_lt h2]

theorem V0z (X:Nat)(hX:X<Q3)(hq:X<PP)(w:World)(hG:GF w):
  Calls Tryz.prog 162 #[L4 X] w fun e w' =>X5 (L4 X) w w' e:=by
 go_enter Tryz.func162,Tryz.ntmps162
 go_wp2_with fail
 refine wp_loop_rounds 4 ?_;rw[rounds_succ];go_upto_region 1 with fail;refine wn2 (c1:=(c4 X)) (t1:=152) (c2:= #[.int .u64 0,.int .u64 0,.int .u64 0,.int .u64 0]) (t2:=152) fun W0 D M J=> ?_;have V:=Q2 M;have U:=Q2 J;have gf:=Z9 hG D;have gm:=gf.1;clear gf;have R:=Q6i X hq;obtain⟨X1,S⟩:=exn (J7f X PP);rw[←S] at R;have α:=Lib.hid S;clear S;refine Px1 6 3 (z:= #[.int .u64 0,.int .u64 0,.int .u64 0,.int .u64 0]) (t:=152) ?_;refine XL ?_;refine XL ?_;refine Xf ?_ (fun W hW=>R W);(iterate 3 refine Xv ?_);refine XN ?_;intro N W1 Y hE G;have Z:=D.size;refine LS ?_ G (g:=N) (cells:=c4 X1);refine Lv ?_;refine J5 ?_;have hF:Below w.heap.size w (W1.setRow N (c4 X1))∧Blk (W1.setRow N (c4 X1)) w.heap.size (c4 X) 152∧Blk (W1.setRow N (c4 X1)) (w.heap.size+1) #[.int .u64 0,.int .u64 0,.int .u64 0,.int .u64 0] 152∧Blk (W1.setRow N (c4 X1)) N (c4 X1) 152:=⟨(Y0 (V0 D hE D.size) (by omega) _),(Q0 (J2 M hE) (by omega) _),(Q0 (J2 J hE) (by omega) _),(V6 G (c4 X1))⟩
 generalize (W1.setRow N (c4 X1))=W2 at hF⊢;clear D M J G;obtain⟨D,M,J,G⟩:=hF;go_upto_region 3 with fail;have T:=Q2 G;have gf:=Z9 hG D;have gm:=gf.1;clear gf;refine Px 1 ?_;refine XL ?_;refine K5 fun W3 hE=> ?_;refine Lp ?_ (J2 J hE) (cells:=c4 X);intro W4 hO h_;refine J5 ?_;replace M:=ko M hE hO (by omega);replace J:=h_;replace G:=ko G hE hO (by omega);replace D:=bwo D hE hO D.size (by omega);clear hO h_;go_wp2;refine bodyPost_ret (Z8 rfl rfl J (by kernel_rfl) (by kernel_rfl)) rfl ⟨?_,D⟩;rfl
theorem V10 (X:Nat)(hX:X<Q3)(h0:PP≤X)(hq:X-PP<PP)(w:World)(hG:GF w):
  Calls Tryz.prog 162 #[L4 X] w fun e w' =>X5 (L4 (X-PP)) w w' e:=by
 go_enter Tryz.func162,Tryz.ntmps162
 go_wp2_with fail
 refine wp_loop_rounds 4 ?_;rw[rounds_succ];go_upto_region 1 with fail;refine wn2 (c1:=(c4 X)) (t1:=152) (c2:= #[.int .u64 0,.int .u64 0,.int .u64 0,.int .u64 0]) (t2:=152) fun W0 G J M=> ?_;have δ:=Q2 J;have α:=Q2 M;have gf:=Z9 hG G;have gm:=gf.1;clear gf;have S:=Q6j X hX h0;obtain⟨X1,T⟩:=exn (X-PP);rw[←T] at S;have Y:=Lib.hid T;clear T;refine Px1 6 3 (z:= #[.int .u64 0,.int .u64 0,.int .u64 0,.int .u64 0]) (t:=152) ?_;refine XL ?_;refine XL ?_;refine Xf ?_ (fun W hW=>S W);(iterate 3 refine Xv ?_);refine XN ?_;intro N W1 ε hE D;have θ:=G.size;refine LS ?_ D (g:=N) (cells:=c4 X1);refine Lv ?_;refine J5 ?_;have hF:Below w.heap.size w (W1.setRow N (c4 X1))∧Blk (W1.setRow N (c4 X1)) w.heap.size (c4 X) 152∧Blk (W1.setRow N (c4 X1)) (w.heap.size+1) #[.int .u64 0,.int .u64 0,.int .u64 0,.int .u64 0] 152∧Blk (W1.setRow N (c4 X1)) N (c4 X1) 152:=⟨(Y0 (V0 G hE G.size) (by omega) _),(Q0 (J2 J hE) (by omega) _),(Q0 (J2 M hE) (by omega) _),(V6 D (c4 X1))⟩
 generalize (W1.setRow N (c4 X1))=W2 at hF⊢;clear G J M D;obtain⟨G,J,M,D⟩:=hF;go_upto_region 4 with fail;have Z:=Q2 D;have gf:=Z9 hG G;have gm:=gf.1;clear gf;refine Px 1 ?_;refine XL ?_;refine K5 fun W3 hE=> ?_;refine LS ?_ (J2 J hE) (g:=w.heap.size) (cells:=c4 X1);refine J5 ?_;have hF:Below w.heap.size w (W3.setRow w.heap.size (c4 X1))∧Blk (W3.setRow w.heap.size (c4 X1)) w.heap.size (c4 X1) 152∧Blk (W3.setRow w.heap.size (c4 X1)) (w.heap.size+1) #[.int .u64 0,.int .u64 0,.int .u64 0,.int .u64 0] 152∧Blk (W3.setRow w.heap.size (c4 X1)) N (c4 X1) 152:=⟨(Y0 (V0 G hE G.size) (by omega) _),(V6 (J2 J hE) (c4 X1)),(Q0 (J2 M hE) (by omega) _),(Q0 (J2 D hE) (by omega) _)⟩
 generalize (W3.setRow w.heap.size (c4 X1))=W4 at hF⊢;clear G J M D;obtain⟨G,J,M,D⟩:=hF
 go_wp2_with fail
 rw[rounds_succ];go_upto_region 1 with fail;have β:=Q2 D;have gf:=Z9 hG G;have gm:=gf.1;clear gf;have V:=Q6i X1 (by rw[Y.out];exact hq);obtain⟨X2,U⟩:=exn (J7f X1 PP);rw[←U] at V;have κ:=Lib.hid U;clear U;refine Px1 6 3 (z:= #[.int .u64 0,.int .u64 0,.int .u64 0,.int .u64 0]) (t:=152) ?_;refine XL ?_;refine XL ?_;refine Xf ?_ (fun W hW=>V W);(iterate 3 refine Xv ?_);refine XN ?_;intro R W5 ζ hE D;have η:=G.size;refine LS ?_ D (g:=R) (cells:=c4 X2);refine Lv ?_;refine J5 ?_;have hF:Below w.heap.size w (W5.setRow R (c4 X2))∧Blk (W5.setRow R (c4 X2)) w.heap.size (c4 X1) 152∧Blk (W5.setRow R (c4 X2)) (w.heap.size+1) #[.int .u64 0,.int .u64 0,.int .u64 0,.int .u64 0] 152∧Blk (W5.setRow R (c4 X2)) R (c4 X2) 152:=⟨(Y0 (V0 G hE G.size) (by omega) _),(Q0 (J2 J hE) (by omega) _),(Q0 (J2 M hE) (by omega) _),(V6 D (c4 X2))⟩
 generalize (W5.setRow R (c4 X2))=W6 at hF⊢;clear G J M D;obtain⟨G,J,M,D⟩:=hF;go_upto_region 3 with fail;have γ:=Q2 D;have gf:=Z9 hG G;have gm:=gf.1;clear gf;refine Px 1 ?_;refine XL ?_;refine K5 fun W7 hE=> ?_;refine Lp ?_ (J2 M hE) (cells:=c4 X1);intro W8 hO h_;refine J5 ?_;replace J:=ko J hE hO (by omega);replace M:=h_;replace D:=ko D hE hO (by omega);replace G:=bwo G hE hO G.size (by omega);clear hO h_;go_wp2;refine bodyPost_ret (Z8 rfl rfl M (by kernel_rfl) (by kernel_rfl)) rfl ⟨?_,G⟩;rw[Y.out];rfl
theorem V11 (X:Nat)(hX:X<Q3)(h0:PP≤X)(h1' :PP≤X-PP)(hq:X-PP-PP<PP)(w:World)(hG:GF w):
  Calls Tryz.prog 162 #[L4 X] w fun e w' =>X5 (L4 (X-PP-PP)) w w' e:=by
 go_enter Tryz.func162,Tryz.ntmps162
 go_wp2_with fail
 refine wp_loop_rounds 4 ?_;rw[rounds_succ];go_upto_region 1 with fail;refine wn2 (c1:=(c4 X)) (t1:=152) (c2:= #[.int .u64 0,.int .u64 0,.int .u64 0,.int .u64 0]) (t2:=152) fun W0 G J M=> ?_;have μ:=Q2 J;have ζ:=Q2 M;have gf:=Z9 hG G;have gm:=gf.1;clear gf;have U:=Q6j X hX h0;obtain⟨X1,V⟩:=exn (X-PP);rw[←V] at U;have T:=Lib.hid V;clear V;have h1:PP≤X1:=by rw[T.out];exact h1'
 refine Px1 6 3 (z:= #[.int .u64 0,.int .u64 0,.int .u64 0,.int .u64 0]) (t:=152) ?_;refine XL ?_;refine XL ?_;refine Xf ?_ (fun W hW=>U W);(iterate 3 refine Xv ?_);refine XN ?_;intro R W1 ξ hE D;have φ:=G.size;refine LS ?_ D (g:=R) (cells:=c4 X1);refine Lv ?_;refine J5 ?_;have hF:Below w.heap.size w (W1.setRow R (c4 X1))∧Blk (W1.setRow R (c4 X1)) w.heap.size (c4 X) 152∧Blk (W1.setRow R (c4 X1)) (w.heap.size+1) #[.int .u64 0,.int .u64 0,.int .u64 0,.int .u64 0] 152∧Blk (W1.setRow R (c4 X1)) R (c4 X1) 152:=⟨(Y0 (V0 G hE G.size) (by omega) _),(Q0 (J2 J hE) (by omega) _),(Q0 (J2 M hE) (by omega) _),(V6 D (c4 X1))⟩
 generalize (W1.setRow R (c4 X1))=W2 at hF⊢;clear G J M D;obtain⟨G,J,M,D⟩:=hF;go_upto_region 4 with fail;have ε:=Q2 D;have gf:=Z9 hG G;have gm:=gf.1;clear gf;refine Px 1 ?_;refine XL ?_;refine K5 fun W3 hE=> ?_;refine LS ?_ (J2 J hE) (g:=w.heap.size) (cells:=c4 X1);refine J5 ?_;have hF:Below w.heap.size w (W3.setRow w.heap.size (c4 X1))∧Blk (W3.setRow w.heap.size (c4 X1)) w.heap.size (c4 X1) 152∧Blk (W3.setRow w.heap.size (c4 X1)) (w.heap.size+1) #[.int .u64 0,.int .u64 0,.int .u64 0,.int .u64 0] 152∧Blk (W3.setRow w.heap.size (c4 X1)) R (c4 X1) 152:=⟨(Y0 (V0 G hE G.size) (by omega) _),(V6 (J2 J hE) (c4 X1)),(Q0 (J2 M hE) (by omega) _),(Q0 (J2 D hE) (by omega) _)⟩
 generalize (W3.setRow w.heap.size (c4 X1))=W4 at hF⊢;clear G J M D;obtain⟨G,J,M,D⟩:=hF
 go_wp2_with fail
 rw[rounds_succ];go_upto_region 1 with fail;have θ:=Q2 D;have gf:=Z9 hG G;have gm:=gf.1;clear gf;have α:=Q6j X1 (by rw[T.out];omega) h1;obtain⟨X2,Z⟩:=exn (X1-PP);rw[←Z] at α;have γ:=Lib.hid Z;clear Z;refine Px1 6 3 (z:= #[.int .u64 0,.int .u64 0,.int .u64 0,.int .u64 0]) (t:=152) ?_;refine XL ?_;refine XL ?_;refine Xf ?_ (fun W hW=>α W);(iterate 3 refine Xv ?_);refine XN ?_;intro N W5 ρ hE D;have τ:=G.size;refine LS ?_ D (g:=N) (cells:=c4 X2);refine Lv ?_;refine J5 ?_;have hF:Below w.heap.size w (W5.setRow N (c4 X2))∧Blk (W5.setRow N (c4 X2)) w.heap.size (c4 X1) 152∧Blk (W5.setRow N (c4 X2)) (w.heap.size+1) #[.int .u64 0,.int .u64 0,.int .u64 0,.int .u64 0] 152∧Blk (W5.setRow N (c4 X2)) N (c4 X2) 152:=⟨(Y0 (V0 G hE G.size) (by omega) _),(Q0 (J2 J hE) (by omega) _),(Q0 (J2 M hE) (by omega) _),(V6 D (c4 X2))⟩
 generalize (W5.setRow N (c4 X2))=W6 at hF⊢;clear G J M D;obtain⟨G,J,M,D⟩:=hF;go_upto_region 4 with fail;have κ:=Q2 D;have gf:=Z9 hG G;have gm:=gf.1;clear gf;refine Px 1 ?_;refine XL ?_;refine K5 fun W7 hE=> ?_;refine LS ?_ (J2 J hE) (g:=w.heap.size) (cells:=c4 X2);refine J5 ?_;have hF:Below w.heap.size w (W7.setRow w.heap.size (c4 X2))∧Blk (W7.setRow w.heap.size (c4 X2)) w.heap.size (c4 X2) 152∧Blk (W7.setRow w.heap.size (c4 X2)) (w.heap.size+1) #[.int .u64 0,.int .u64 0,.int .u64 0,.int .u64 0] 152∧Blk (W7.setRow w.heap.size (c4 X2)) N (c4 X2) 152:=⟨(Y0 (V0 G hE G.size) (by omega) _),(V6 (J2 J hE) (c4 X2)),(Q0 (J2 M hE) (by omega) _),(Q0 (J2 D hE) (by omega) _)⟩
 generalize (W7.setRow w.heap.size (c4 X2))=W8 at hF⊢;clear G J M D;obtain⟨G,J,M,D⟩:=hF
 go_wp2_with fail
 rw[rounds_succ];go_upto_region 1 with fail;have η:=Q2 D;have gf:=Z9 hG G;have gm:=gf.1;clear gf;have β:=Q6i X2 (by rw[γ.out,T.out];exact hq);obtain⟨X3,Y⟩:=exn (J7f X2 PP);rw[←Y] at β;have ψ:=Lib.hid Y;clear Y;refine Px1 6 3 (z:= #[.int .u64 0,.int .u64 0,.int .u64 0,.int .u64 0]) (t:=152) ?_;refine XL ?_;refine XL ?_;refine Xf ?_ (fun W hW=>β W);(iterate 3 refine Xv ?_);refine XN ?_;intro S W9 ν hE D;have σ:=G.size;refine LS ?_ D (g:=S) (cells:=c4 X3);refine Lv ?_;refine J5 ?_;have hF:Below w.heap.size w (W9.setRow S (c4 X3))∧Blk (W9.setRow S (c4 X3)) w.heap.size (c4 X2) 152∧Blk (W9.setRow S (c4 X3)) (w.heap.size+1) #[.int .u64 0,.int .u64 0,.int .u64 0,.int .u64 0] 152∧Blk (W9.setRow S (c4 X3)) S (c4 X3) 152:=⟨(Y0 (V0 G hE G.size) (by omega) _),(Q0 (J2 J hE) (by omega) _),(Q0 (J2 M hE) (by omega) _),(V6 D (c4 X3))⟩
 generalize (W9.setRow S (c4 X3))=W10 at hF⊢;clear G J M D;obtain⟨G,J,M,D⟩:=hF;go_upto_region 3 with fail;have δ:=Q2 D;have gf:=Z9 hG G;have gm:=gf.1;clear gf;refine Px 1 ?_;refine XL ?_;refine K5 fun ω hE=> ?_;refine Lp ?_ (J2 M hE) (cells:=c4 X2);intro χ hO h_;refine J5 ?_;replace J:=ko J hE hO (by omega);replace M:=h_;replace D:=ko D hE hO (by omega);replace G:=bwo G hE hO G.size (by omega);clear hO h_;go_wp2;refine bodyPost_ret (Z8 rfl rfl M (by kernel_rfl) (by kernel_rfl)) rfl ⟨?_,G⟩;rw[γ.out,T.out];rfl
theorem J5u (X:Nat)(hX:X<Q3)(w:World)(hG:GF w):Calls Tryz.prog 162 #[L4 X] w fun e w' =>X5 (L4 (X % PP)) w w' e:=by
  by_cases h0:X<PP
  · rw[Nat.mod_eq_of_lt h0];exact V0z X hX h0 w hG
  by_cases h1:X-PP<PP
  · rw[←V5k X (by omega) h1];exact V10 X hX (by omega) h1 w hG
  have h2:X-PP-PP<PP:=by have:=PP_two;have:PP=57896044618658097711785492504343953926634992332820282019728792003956564819949:=rfl;omega
  rw[←V5l X (by omega) (by omega) h2];exact V11 X hX (by omega) (by omega) h2 w hG
theorem Y4p (n:Nat)(hn:n<18446744073709551616)(w:World):
  Calls Tryz.prog 191 #[.int .u64 (n:Int)] w fun e w' =>X5 (L4 n) w w' e:=by
 go_enter Tryz.func191,Tryz.ntmps191
 go_upto_region 1 with fail;refine wn1 (c1:= #[.int .u64 0,.int .u64 0,.int .u64 0,.int .u64 0]) (t1:=152) fun W0 G D=> ?_;have J:=Q2 D;refine Px 2 ?_;refine Xv ?_;refine Xv ?_;refine K5 fun W1 hE=> ?_;refine LS ?_ (J2 D hE) (g:=w.heap.size) (cells:= #[.int .u64 (n:Int),.int .u64 0,.int .u64 0,.int .u64 0]);refine J5 ?_;have hF:Below w.heap.size w (W1.setRow w.heap.size #[.int .u64 (n:Int),.int .u64 0,.int .u64 0,.int .u64 0])∧Blk (W1.setRow w.heap.size #[.int .u64 (n:Int),.int .u64 0,.int .u64 0,.int .u64 0]) w.heap.size #[.int .u64 (n:Int),.int .u64 0,.int .u64 0,.int .u64 0] 152:=⟨(Y0 (V0 G hE G.size) (by omega) _),(V6 (J2 D hE) #[.int .u64 (n:Int),.int .u64 0,.int .u64 0,.int .u64 0])⟩
 generalize (W1.setRow w.heap.size #[.int .u64 (n:Int),.int .u64 0,.int .u64 0,.int .u64 0])=W2 at hF⊢;clear G D;obtain⟨G,D⟩:=hF;go_wp2;refine bodyPost_ret (Z8 rfl rfl D (by kernel_rfl) (by kernel_rfl)) rfl ⟨?_,G⟩;rw[Q3f n hn]
theorem Q8f (A n:Nat)(hA:A<Q3)(hn:n<18446744073709551616):J78 A n<Q3:=by unfold J78 Q3 at*;split<;>omega
theorem Q52 (A n:Nat):J78 A n % PP=(A+n) % PP:=by
  unfold J78
  split
  · rfl
  rename_i h;have e:A+n=A+n-Q3+38+PP+PP:=by unfold Q3 PP at*;omega
  conv=>rhs;rw[e,Nat.add_mod_right,Nat.add_mod_right]
theorem Z9i (A n:Nat)(hA:A<Q3)(hn:n<18446744073709551616)(w:World):Calls Tryz.prog 163 #[L4 A,.int .u64 (n:Int)] w fun e w' =>X5 (L4 (J78 A n)) w w' e:=by
  unfold J78
  by_cases h:A+n<Q3
  · rw[if_pos h];exact Y4n A n hA hn h w
  rw[if_neg h];exact Y4o A n hA hn (by omega) (by unfold Q3 at*;omega) w
theorem add_mod (A B:Nat)(hA:A<Q3)(hB:B<Q3):J78 ((A+B) % Q3) (38*((A+B) / Q3)) % PP=(A+B) % PP:=by
  rw[Q52]
  by_cases h:A+B<Q3
  · rw[Nat.mod_eq_of_lt h,Nat.div_eq_of_lt h,Nat.mul_zero,Nat.add_zero]
  have e1:(A+B) % Q3=A+B-Q3:=by rw[Nat.mod_eq_sub_mod (by omega),Nat.mod_eq_of_lt (by omega)]
  have e2:(A+B) / Q3=1:=Nat.div_eq_of_lt_le (by omega) (by omega);rw[e1,e2]
  conv=>rhs;rw[show A+B=A+B-Q3+38*1+PP+PP by unfold Q3 PP at*;omega,Nat.add_mod_right,Nat.add_mod_right]
theorem V12 (A B:Nat)(hA:A<Q3)(hB:B<Q3)(w:World):Calls Tryz.prog 164 #[L4 A,L4 B] w fun e w' =>X5 (.tuple #[L4 ((A+B) % Q3),.int .u64 ((A+B) / Q3:Nat)]) w w' e:=Z0d A B hA hB w
theorem V13 (A o:Nat)(hA:A<Q3)(ho:o≤1)(w:World):Calls Tryz.prog 163 #[L4 A,.int .u64 (IntKind.u64.wrap (38*(o:Int)))] w fun e w' =>X5 (L4 (J78 A (38*o))) w w' e:=by
  have:IntKind.u64.wrap (38*(o:Int))=((38*o:Nat):Int):=by rw[IntKind.wrap_u64];omega
  rw[this];exact Z9i A (38*o) hA (by omega) w
theorem Z9j (X:Nat)(hX:X<PP)(w:World):Calls Tryz.prog 165 #[.agg modC,L4 X] w fun e w' =>X5 (.tuple #[L4 (PP-X),.int .u64 0]) w w' e:=by
  have:=Z0c PP X J7x (Nat.lt_trans hX J7x) w;rw[Z2y PP X J7x (Nat.lt_trans hX J7x) (by omega)] at this;rw[Q6h];unfold brw at this;rw[if_neg (by omega)] at this;exact this
theorem J4l (A B:Nat)(hA:A<Q3)(hB:B<Q3)(w:World)(hG:GF w):
  Calls Tryz.prog 117 #[L4 A,L4 B] w fun e w' =>X5 (L4 ((A+B) % PP)) w w' e:=by
 go_enter Tryz.func117,Tryz.ntmps117
 go_upto_region 1 with fail;refine wn3 (c1:=(c4 A)) (t1:=152) (c2:=(c4 B)) (t2:=152) (c3:= #[.int .u64 0,.int .u64 0,.int .u64 0,.int .u64 0]) (t3:=152) fun W0 D N M J=> ?_;have Z:=Q2 N;have β:=Q2 M;have α:=Q2 J;have gf:=Z9 hG D;have gm:=gf.1;have gi:=gf.2;have Y:=V12 A B hA hB;obtain⟨S,hS⟩:=exn ((A+B) % Q3);obtain⟨O,hO⟩:=exn ((A+B) / Q3);rw[←hS,←hO] at Y;have bS:S<Q3:=by rw[hS];exact Nat.mod_lt _ (by decide)
 have bO:O≤1:=by rw[hO];have:(A+B) / Q3<2:=Nat.div_lt_of_lt_mul (by omega);omega
 have HS:=Lib.hid hS;have HO:=Lib.hid hO;clear hS hO;refine Px1 6 5 (z:= #[.int .u64 0,.int .u64 0,.int .u64 0,.int .u64 0]) (t:=152) ?_;refine XL ?_;refine XL ?_;refine Xf ?_ (fun W hW=>Y W);(iterate 3 refine Xv ?_);refine XN ?_;intro R W1 ε hE G;have θ:=D.size;refine LS ?_ G (g:=R) (cells:=c4 S);refine Lv ?_;refine J5 ?_;have hF:Below w.heap.size w (W1.setRow R (c4 S))∧Blk (W1.setRow R (c4 S)) w.heap.size (c4 A) 152∧Blk (W1.setRow R (c4 S)) (w.heap.size+1) (c4 B) 152∧Blk (W1.setRow R (c4 S)) (w.heap.size+2) #[.int .u64 0,.int .u64 0,.int .u64 0,.int .u64 0] 152∧Blk (W1.setRow R (c4 S)) R (c4 S) 152:=⟨(Y0 (V0 D hE D.size) (by omega) _),(Q0 (J2 N hE) (by omega) _),(Q0 (J2 M hE) (by omega) _),(Q0 (J2 J hE) (by omega) _),(V6 G (c4 S))⟩
 generalize (W1.setRow R (c4 S))=W2 at hF⊢;clear D N M J G;obtain⟨D,N,M,J,G⟩:=hF;go_upto_region 2 with fail;have γ:=Q2 G;have gf:=Z9 hG D;have gm:=gf.1;have gi:=gf.2;have V:=V13 S O bS bO;obtain⟨X1,T⟩:=exn (J78 S (38*O));rw[←T] at V;have δ:X1<Q3:=by rw[T];exact Q8f _ _ bS (by omega)
 have η:=Lib.hid T;clear T;have X:=J5u X1 δ;obtain⟨X2,U⟩:=exn (X1 % PP);rw[←U] at X;have κ:=Z50 U;have ζ:=Lib.hid U;clear U;refine Px 5 ?_;refine XL ?_;refine Xv ?_;refine Xv ?_;refine Xf ?_ (fun W hW=>V W);refine Xf ?_ (fun W hW=>X W (Z9 gf hW));refine K5 fun W3 hE=> ?_;refine Lp ?_ (J2 J hE) (cells:=c4 X2);intro W4 hO h_;refine J5 ?_;replace N:=ko N hE hO (by omega);replace M:=ko M hE hO (by omega);replace J:=h_;replace G:=ko G hE hO (by omega);replace D:=bwo D hE hO D.size (by omega);clear hO h_;go_wp2;refine bodyPost_ret (Z8 rfl rfl J (by kernel_rfl) (by kernel_rfl)) rfl ⟨?_,D⟩;rw[←add_mod A B hA hB,←HS.out,←HO.out,←η.out,←ζ.out];rfl
theorem Q3g (A:Nat)(hA:A<Q3)(w:World)(hG:GF w):
  Calls Tryz.prog 118 #[L4 A] w fun e w' =>X5 (L4 ((PP-A % PP) % PP)) w w' e:=by
 go_enter Tryz.func118,Tryz.ntmps118
 go_upto_region 1 with fail;refine wn2 (c1:=(c4 A)) (t1:=152) (c2:= #[.int .u64 0,.int .u64 0,.int .u64 0,.int .u64 0]) (t2:=152) fun W0 D M J=> ?_;have β:=Q2 M;have α:=Q2 J;have gf:=Z9 hG D;have gm:=gf.1;have gi:=gf.2;have U:=J5u A hA;obtain⟨X1,R⟩:=exn (A % PP);rw[←R] at U;have θ:=Z50 R;have Y:=Lib.hid R;clear R;have V:=Z9j X1 (by rw[Y.out];exact Nat.mod_lt _ (by decide));obtain⟨X2,T⟩:=exn (PP-X1);rw[←T] at V;have ζ:X2<Q3:=by rw[T];exact Nat.lt_of_le_of_lt (Nat.sub_le _ _) J7x
 have ε:=Lib.hid T;clear T;refine Rx1 7 3 (z:= #[.int .u64 0,.int .u64 0,.int .u64 0,.int .u64 0]) (t:=152) ?_;refine XL ?_;refine XL ?_;refine Xf ?_ (fun W hW=>U W (Z9 gf hW));refine Xf ?_ (fun W hW=>V W);(iterate 3 refine Xv ?_);refine XN ?_;intro N W1 δ hE G;have η:=D.size;refine LS ?_ G (g:=N) (cells:=c4 X2);refine Lv ?_;refine LN ?_;have hF:Below w.heap.size w (W1.setRow N (c4 X2))∧Blk (W1.setRow N (c4 X2)) w.heap.size (c4 A) 152∧Blk (W1.setRow N (c4 X2)) (w.heap.size+1) #[.int .u64 0,.int .u64 0,.int .u64 0,.int .u64 0] 152∧Blk (W1.setRow N (c4 X2)) N (c4 X2) 152:=⟨(Y0 (V0 D hE D.size) (by omega) _),(Q0 (J2 M hE) (by omega) _),(Q0 (J2 J hE) (by omega) _),(V6 G (c4 X2))⟩
 generalize (W1.setRow N (c4 X2))=W2 at hF⊢;clear D M J G;obtain⟨D,M,J,G⟩:=hF;go_upto_region 2 with fail;have Z:=Q2 G;have gf:=Z9 hG D;have gm:=gf.1;have gi:=gf.2;have X:=J5u X2 ζ;obtain⟨X3,S⟩:=exn (X2 % PP);rw[←S] at X;have κ:=Z50 S;have γ:=Lib.hid S;clear S;refine Px 2 ?_;refine XL ?_;refine Xf ?_ (fun W hW=>X W (Z9 gf hW));refine K5 fun W3 hE=> ?_;refine Lp ?_ (J2 J hE) (cells:=c4 X3);intro W4 hO h_;refine J5 ?_;replace M:=ko M hE hO (by omega);replace J:=h_;replace G:=ko G hE hO (by omega);replace D:=bwo D hE hO D.size (by omega);clear hO h_;go_wp2;refine bodyPost_ret (Z8 rfl rfl J (by kernel_rfl) (by kernel_rfl)) rfl ⟨?_,D⟩;rw[γ.out,ε.out,Y.out];rfl
end

section
set_option maxHeartbeats 4000000

theorem J4m (V i:Nat)(h:i<4):(c4 V)[i]?=some (.int .u64 (V9 V i)):=by
  have:i=0∨i=1∨i=2∨i=3:=by omega
  rcases this with rfl|rfl|rfl|rfl<;>rfl

theorem Q6k (i k:Nat)(x y g c s cv:Int)(V V' Y Y' X B0:Nat)(hx:Z7 x)(hy:Z7 y)(hg:Z7 g)(hc:Z7 c)(hs:Z7 s)(hcv:Z7 cv)
    (h5:s+18446744073709551616*cv=x*y+g+c) (h1:V' +g.toNat*2^(64*(i+k))=V+s.toNat*2^(64*(i+k)))
    (h2:V+c.toNat*2^(64*(i+k))=X+x.toNat*2^(64*i)*Y) (hY:Y' =Y+y.toNat*2^(64*k)):
    V' +cv.toNat*2^(64*(i+(k+1)))=X+x.toNat*2^(64*i)*Y' :=by
  obtain⟨x,rfl⟩:=Int.eq_ofNat_of_zero_le hx.1;obtain⟨y,rfl⟩:=Int.eq_ofNat_of_zero_le hy.1;obtain⟨g,rfl⟩:=Int.eq_ofNat_of_zero_le hg.1;obtain⟨c,rfl⟩:=Int.eq_ofNat_of_zero_le hc.1;obtain⟨s,rfl⟩:=Int.eq_ofNat_of_zero_le hs.1;obtain⟨d,rfl⟩:=Int.eq_ofNat_of_zero_le hcv.1;simp only[Int.toNat_natCast] at*
  have h6:s+18446744073709551616*d=x*y+g+c:=by
    rw[←Int.natCast_mul] at h5;generalize x*y=p at*;omega
  have e1:(2:Nat)^(64*(i+(k+1)))=18446744073709551616*2^(64*(i+k)):=by
    rw[show 64*(i+(k+1))=64+64*(i+k) by omega,Nat.pow_add]
  have e2:(2:Nat)^(64*(i+k))=2^(64*i)*2^(64*k):=by rw[Nat.mul_add,Nat.pow_add]
  rw[hY,e1,Nat.mul_add (x*2^(64*i))];have e3:x*2^(64*i)*(y*2^(64*k))=x*y*2^(64*(i+k)):=by rw[e2,Nat.mul_mul_mul_comm]
  rw[e3];generalize 2^(64*(i+k))=W at*;have e4:d*(18446744073709551616*W)=18446744073709551616*d*W:=by rw[Nat.mul_left_comm,Nat.mul_assoc]
  rw[e4]
  have h7:s*W+18446744073709551616*d*W=x*y*W+g*W+c*W:=by
    rw[←Nat.add_mul,h6,Nat.add_mul,Nat.add_mul]
  omega

theorem Q6l (B V' V C X Y W:Nat){g:Int}(hB:B<Q3)(hg:g=0)(h1:V' +g.toNat*W=V+C)(h2:V+C=X+Y*(B % 2^(64*4))):V' =X+Y*B:=by
  rw[Nat.mod_eq_of_lt (show B<2^(64*4) from hB)] at h2;rw[hg,Int.toNat_zero,Nat.zero_mul,Nat.add_zero] at h1;rw[h1,h2]

theorem Z51 (A B:Nat)(hA:A<Q3)(hB:B<Q3)(w:World):
    Calls Tryz.prog 159 #[L4 A,L4 B] w fun e w' =>X5 (.agg (J1 .u64 8 (V9 (A*B)))) w w' e:=by
  go_enter Tryz.func159,Tryz.ntmps159
  go_wp2
  go_loopw [16] (fun ii wr=> ∃i:Nat,i≤4∧ii=.int .i64 i∧Below w.heap.size w wr∧
      Blk wr (w.heap.size+1) (c4 B) 152∧Blk wr (w.heap.size+2) (J1 .u64 8 (fun _=>0)) 230∧
      ∃f:Nat→Int,Blk wr (w.heap.size+3) (J1 .u64 8 f) 230∧(∀j,Z7 (f j))∧(∀j,i+4≤j→f j=0)∧J1p f 8=A % 2^(64*i)*B)
    (fun ii _=>(4-intOf ii).toNat)
  case atStart=>
    refine⟨0,by omega,rfl,?_,J02 (J02 (J04 _ _ (by simp)) _) _,J02 (J04 _ _ (by simp)) _,fun _=>0,J04 _ _ (by simp),fun _=>⟨by simp,by simp⟩,fun _ _=>rfl,?_⟩
    · exact bz
    rw[J8h,Nat.mul_zero,Nat.pow_zero,Nat.mod_one,Nat.zero_mul]
  case round=>
    obtain⟨i,hi,rfl,D,b1,b2,f,b3,hf,J,hv⟩:=hrel
    by_cases S:i=4
    · subst S
      have HV:=Lib.hid hv;clear hv J
      go_wp2_with (first
        |(refine wpList_load_row rfl 230 (.tmp 5) rfl (w.heap.size+3) rfl _ _ _ _ b3 Tryz.underlying230 rfl (by kernel_rfl) ?_)
        |(refine wpList_store_row rfl 230 (.tmp 4) (.tmp 65) rfl (w.heap.size+2) _ rfl rfl 230 _ b2 (by kernel_rfl) (by kernel_rfl) (Y6 _ _ _) ?_))
      refine bodyPost_ret (results_cell_row rfl _ _ (w.heap.size+2) _ _ _ _ rfl (V6 b2 _) Tryz.underlying230 rfl (by kernel_rfl)) rfl ⟨?_,Y0 D (by omega) _⟩
      have e:J1 .u64 8 f=J1 .u64 8 (V9 (A*B)):=J07 _ _ _ _ fun j hj=>by
        have:=J66 f 8 j hj (fun i _=>hf i);rw[←this,HV.out,Nat.mod_eq_of_lt (show A<2^(64*4) from hA)]
      rw[e]
    have T:i<4:=by omega
    have hi3' :(i:Int)<4:=by omega
    have M:∀W,(Instr.index 152 (.agg #[.int .u64 (V9 A 0),.int .u64 (V9 A 1),.int .u64 (V9 A 2),.int .u64 (V9 A 3)]) (.int .i64 (i:Int))).run Tryz.prog W=.ok (.int .u64 (V9 A i)) W:=
      fun W=>J27 W 152 99 4 .u64 .i64 (c4 A) i (V9 A i) Tryz.underlying152 Tryz.underlying99 (by kernel_rfl) T (J4m A i T)
    have c1:=J3 b1;clear S;go_wp2;clear c1;have X:=Lib.hid J;have HV:=Lib.hid hv;clear J hv M hi3';obtain⟨wo,rfl⟩:∃wo:World,wo=wr:=⟨_,rfl⟩
    go_loopw [8,21] (fun cc kk wq=> ∃(k:Nat)(c:Int),k≤4∧kk=.int .i64 k∧cc=.int .u64 c∧Z7 c∧Below w.heap.size w wq∧
        Blk wq (w.heap.size+1) (c4 B) 152∧Blk wq (w.heap.size+2) (J1 .u64 8 (fun _=>0)) 230∧
        ∃g:Nat→Int,Blk wq (w.heap.size+3) (J1 .u64 8 g) 230∧(∀j,Z7 (g j))∧(∀j,i+4≤j→g j=0)∧
          J1p g 8+c.toNat*2^(64*(i+k))=A % 2^(64*i)*B+(V9 A i).toNat*2^(64*i)*(B % 2^(64*k)))
      (fun _ kk _=>(4-intOf kk).toNat)
    case atStart=>
      refine⟨0,0,by omega,rfl,rfl,⟨by omega,by omega⟩,D,b1,b2,f,b3,hf,X.out,?_⟩;rw[HV.out,Nat.mul_zero,Nat.pow_zero,Nat.mod_one];simp
    case round=>
      obtain⟨k,c,hk,rfl,rfl,hc,D,b1,b2,g,b3,hg,U,hv⟩:=hrel;have G:=Lib.hid U;have HV:=Lib.hid hv;clear U hv X
      by_cases N:k=4
      · subst N
        have c3:=(J3 b3 (i+4)).trans (V3 _ _ _ _ (by omega));have f3:=X9 b3;have Y:(i:Int)+4<8:=by omega
        go_wp2;have hs:=J1n b3 (i+4) (.int .u64 c);rw[K3] at hs;go_roundw
        case rel=>
          refine⟨i+1,by omega,by go_num,?_,K6 b1 (by omega) _ _,K6 b2 (by omega) _ _,upd g (i+4) c,hs,?_,?_,?_⟩
          · exact bz
          · intro j
            by_cases hj:j=i+4
            · subst hj;rw[J2z];exact hc
            rw[J0t _ _ _ _ hj];exact hg j
          · intro j hj
            rw[J0t _ _ _ _ (by omega)];exact G.out j (by omega)
          rw[J65,Nat.add_mul];exact Q6l B _ _ _ _ _ _ hB (G.out (i+4) (by omega)) (J64 g (i+4) c 8 (by omega)) HV.out
        case measure=>simp[intOf];omega
      have R:k<4:=by omega
      have hk3' :(k:Int)<4:=by omega
      clear N
      have M:∀W,(Instr.index 152 (.agg #[.int .u64 (V9 B 0),.int .u64 (V9 B 1),.int .u64 (V9 B 2),.int .u64 (V9 B 3)]) (.int .i64 (k:Int))).run Tryz.prog W=.ok (.int .u64 (V9 B k)) W:=
        fun W=>J27 W 152 99 4 .u64 .i64 (c4 B) k (V9 B k) Tryz.underlying152 Tryz.underlying99 (by kernel_rfl) R (J4m B k R)
      obtain⟨m1,m2,m3,m4,m5⟩:=Q2y (V9 A i) (V9 B k) (g (i+k)) c (J0s A i) (J0s B k) (hg _) hc;have a1:=J10 (J5q (V9 A i) (V9 B k)) (g (i+k)) 0 m1 (hg _) (by omega) (by omega);have a2:=J10 (adS (J5q (V9 A i) (V9 B k)) (g (i+k)) 0) c 0 m2 hc (by omega) (by omega);obtain⟨sv,V⟩:∃sv,sv=adS (adS (J5q (V9 A i) (V9 B k)) (g (i+k)) 0) c 0:=⟨_,rfl⟩
      rw[←V] at m4 m5 a2;have M5:=Lib.hid m5;clear m5 V;have c3:=(J3 b3 (i+k)).trans (V3 _ _ _ _ (by omega));have f3:=X9 b3;have Y:(i:Int)+(k:Int)<8:=by omega
      go_wp2_with (go_at_call 160;refine(Q5y _ _ (J0s A i) (J0s B k) _).mono ?_;rintro e w' ⟨rfl,rfl⟩)
      have hs:=J1n b3 (i+k) (.int .u64 sv);rw[K3] at hs;have h1:=J64 g (i+k) sv 8 (by omega);have h2:=HV.out;have h5:=M5.out;clear HV M5 a1 a2 c3 f3 M;go_roundw
      case rel=>
        (repeat apply Exists.intro)
        refine⟨?_,rfl⟩;refine⟨k+1,_,by omega,by go_num,rfl,m3,?_,K6 b1 (by omega) _ _,K6 b2 (by omega) _ _,upd g (i+k) sv,hs,?_,?_,?_⟩
        · exact bz
        · intro j
          by_cases hj:j=i+k
          · subst hj;rw[J2z];exact m4
          rw[J0t _ _ _ _ hj];exact hg j
        · intro j hj
          rw[J0t _ _ _ _ (by omega)];exact G.out j hj
        exact Q6k i k (V9 A i) (V9 B k) (g (i+k)) c sv _ _ _ _ _ _ 0 (J0s A i) (J0s B k) (hg _) hc m4 m3 h5 h1 h2 (J65 B k)
      case measure=>simp[intOf];omega
end

section
set_option maxHeartbeats 4000000

theorem Z9k (i:Nat)(N V V' :Nat)(g s c cv:Int)(hg:Z7 g)(hs:Z7 s)(hc:Z7 c)(hcv:Z7 cv)
    (h5:s+18446744073709551616*cv=V9 N (4+i)*38+V9 N i+c) (h1:V' +g.toNat*2^(64*i)=V+s.toNat*2^(64*i)) (hg0:g=0)
    (h2:V+c.toNat*2^(64*i)=N % 2^(64*i)+38*(N / 2^256 % 2^(64*i))):
    V' +cv.toNat*2^(64*(i+1))=N % 2^(64*(i+1))+38*(N / 2^256 % 2^(64*(i+1))):=by
  have e4:V9 N (4+i)=V9 (N / 2^256) i:=by
    unfold V9;rw[Nat.div_div_eq_div_mul,←Nat.pow_add,show 64*(4+i)=256+64*i by omega]
  rw[e4] at h5;rw[J65 N,J65 (N / 2^256)];have l1:=J0s N i;have l2:=J0s (N / 2^256) i;obtain⟨x,hx⟩:=Int.eq_ofNat_of_zero_le l1.1;obtain⟨y,hy⟩:=Int.eq_ofNat_of_zero_le l2.1;obtain⟨s,rfl⟩:=Int.eq_ofNat_of_zero_le hs.1;obtain⟨c,rfl⟩:=Int.eq_ofNat_of_zero_le hc.1;obtain⟨d,rfl⟩:=Int.eq_ofNat_of_zero_le hcv.1;subst hg0;rw[hx,hy] at*;simp only[Int.toNat_natCast,Int.toNat_zero,Nat.zero_mul,Nat.add_zero] at*;have h6:s+18446744073709551616*d=y*38+x+c:=by omega
  have e1:(2:Nat)^(64*(i+1))=18446744073709551616*2^(64*i):=by rw[show 64*(i+1)=64+64*i by omega,Nat.pow_add]
  rw[e1];generalize N % 2^(64*i)=n0 at*;generalize N / 2^256 % 2^(64*i)=n1 at*;generalize 2^(64*i)=W at*;have e5:d*(18446744073709551616*W)=18446744073709551616*d*W:=by rw[Nat.mul_left_comm,Nat.mul_assoc]
  have h7:s*W+18446744073709551616*d*W=y*38*W+x*W+c*W:=by
    rw[←Nat.add_mul,h6,Nat.add_mul,Nat.add_mul]
  have e6:y*38*W=38*(y*W):=by rw[Nat.mul_comm y 38,Nat.mul_assoc]
  rw[e5,Nat.mul_add];generalize y*W=yw at*;omega
theorem Y4q (A B S c:Nat)(hA:A<Q3)(hB:B<Q3)(h:S+c*2^(64*4)=A*B % 2^(64*4)+38*(A*B / 2^256 % 2^(64*4))):J78 S (38*c) % PP=A*B % PP:=by
  have hN:A*B / 2^256<Q3:=Nat.div_lt_of_lt_mul (Nat.mul_lt_mul'' hA hB);have e:(2:Nat)^(64*4)=Q3:=by decide
  have e' :(2:Nat)^256=Q3:=by decide
  rw[show(2:Nat)^(64*4)=2^256 by decide] at h;rw[e'] at h hN;rw[Nat.mod_eq_of_lt hN] at h;rw[Q52];have hd:=Nat.div_add_mod (A*B) Q3;generalize A*B / Q3=q at*;generalize A*B % Q3=r at*;generalize A*B=N at*;have h2:Q3=2*PP+38:=PP_two.symm
  have G:S+38*c+PP*(2*c)=r+38*q:=by
    have:PP*(2*c)=c*(2*PP):=by rw[Nat.mul_left_comm,Nat.mul_comm PP c,Nat.mul_left_comm]
    rw[h2,Nat.mul_add] at h;omega
  have D:N=r+38*q+PP*(2*q):=by
    have:PP*(2*q)=2*PP*q:=by rw[Nat.mul_left_comm,Nat.mul_assoc]
    rw[←hd,h2,Nat.add_mul];omega
  rw[D,←G,Nat.add_mul_mod_self_left,Nat.add_mul_mod_self_left]

theorem Y4r (S O N:Nat)(h:S+O*2^(64*4)=N % 2^(64*4)+38*(N / 2^256 % 2^(64*4))):O≤38:=by
  have h1:N % 2^(64*4)<Q3:=Nat.mod_lt _ (by decide);have h2:N / 2^256 % 2^(64*4)<Q3:=Nat.mod_lt _ (by decide);rw[show(2:Nat)^(64*4)=Q3 by decide] at*;unfold Q3 at*;omega
theorem V5m (f:Nat→Int):J1 .u64 4 f= #[.int .u64 (f 0),.int .u64 (f 1),.int .u64 (f 2),.int .u64 (f 3)]:=rfl
theorem Y4s (f:Nat→Int)(hf:∀j,Z7 (f j)):Value.agg (J1 .u64 4 f)=L4 (J1p f 4):=by
  rw[V5m];unfold L4;rw[J66 f 4 0 (by omega) (fun i _=>hf i),J66 f 4 1 (by omega) (fun i _=>hf i),J66 f 4 2 (by omega) (fun i _=>hf i),J66 f 4 3 (by omega) (fun i _=>hf i)]
theorem Z9l (f:Nat→Int)(S o:Nat)(hS:S=J1p f 4)(hf:∀j,Z7 (f j))(hA:S<Q3)(ho:o≤38)(w:World):Calls Tryz.prog 163 #[.agg (J1 .u64 4 f),.int .u64 (IntKind.u64.wrap (38*(o:Int)))] w fun e w' =>X5 (L4 (J78 S (38*o))) w w' e:=by
  have:IntKind.u64.wrap (38*(o:Int))=((38*o:Nat):Int):=by rw[IntKind.wrap_u64];omega
  rw[this,Y4s f hf,←hS];exact Z9i S (38*o) hA (by omega) w
theorem K7 (A B:Nat)(hA:A<Q3)(hB:B<Q3)(w:World)(hG:GF w):
  Calls Tryz.prog 115 #[L4 A,L4 B] w fun e w' =>X5 (L4 (A*B % PP)) w w' e:=by
 go_enter Tryz.func115,Tryz.ntmps115
 go_upto_region 1 with fail;refine wn3 (c1:=(c4 A)) (t1:=152) (c2:=(c4 B)) (t2:=152) (c3:= #[.int .u64 0,.int .u64 0,.int .u64 0,.int .u64 0]) (t3:=152) fun W0 G R T J=> ?_;have θ:=Q2 R;have χ:=Q2 T;have ν:=Q2 J;have gf:=Z9 hG G;have gm:=gf.1;have gi:=gf.2;have η:=Z51 A B hA hB;obtain⟨N,hN⟩:=exn (A*B);rw[←hN] at η;have HN:=Lib.hid hN;clear hN;refine Px1 3 5 (z:=J1 .u64 8 (fun _=>0)) (t:=230) ?_;refine XL ?_;refine XL ?_;refine Xf ?_ (fun W hW=>η W);refine XN ?_;intro α W1 ω hE D;have Ψ:=G.size;refine Lp ?_ D (cells:=J1 .u64 8 (V9 N)) (h1:=(Y6 _ _ _));intro W2 hO h_;refine J5 ?_;replace R:=ko R hE hO (by omega);replace T:=ko T hE hO (by omega);replace J:=ko J hE hO (by omega);replace D:=h_;replace G:=bwo G hE hO G.size (by omega);clear hO h_;go_upto_region 2 with fail;have κ:=Q2 D;have gf:=Z9 hG G;have gm:=gf.1;have gi:=gf.2;refine Px1 0 6 (z:= #[.int .u64 0,.int .u64 0,.int .u64 0,.int .u64 0]) (t:=152) ?_;refine XN ?_;intro ζ W3 Δ hE M;have Ξ:=G.size;refine J5 ?_;have hF:Below w.heap.size w W3∧Blk W3 w.heap.size (c4 A) 152∧Blk W3 (w.heap.size+1) (c4 B) 152∧Blk W3 (w.heap.size+2) #[.int .u64 0,.int .u64 0,.int .u64 0,.int .u64 0] 152∧Blk W3 α (J1 .u64 8 (V9 N)) 230∧Blk W3 ζ #[.int .u64 0,.int .u64 0,.int .u64 0,.int .u64 0] 152:=⟨(V0 G hE G.size),(J2 R hE),(J2 T hE),(J2 J hE),(J2 D hE),M⟩
 clear G R T J D M;obtain⟨G,R,T,J,D,M⟩:=hF;have φ:=Q2 M
 go_wp2_with fail
 go_loopw [7,16] (fun cc ii wr=> ∃(i:Nat)(c:Int)(f:Nat→Int),i≤4∧ii=.int .i64 i∧cc=.int .u64 c∧Z7 c∧(∀j,Z7 (f j))∧(∀j,i≤j→f j=0)∧J1p f 4+c.toNat*2^(64*i)=N % 2^(64*i)+38*(N / 2^256 % 2^(64*i))∧Below w.heap.size w wr∧Blk wr w.heap.size (c4 A) 152∧Blk wr (w.heap.size+1) (c4 B) 152∧Blk wr (w.heap.size+2) #[.int .u64 0,.int .u64 0,.int .u64 0,.int .u64 0] 152∧Blk wr α (J1 .u64 8 (V9 N)) 230∧Blk wr ζ (J1 .u64 4 f) 152)
  (fun cc ii _=>(4-intOf ii).toNat)
 case atStart=>
  refine⟨0,0,fun _=>0,by omega,rfl,rfl,⟨by omega,by omega⟩,fun _=>⟨by simp,by simp⟩,fun _ _=>rfl,?_,G,R,T,J,D,M⟩;rw[J8h,Nat.mul_zero,Nat.pow_zero,Nat.mod_one,Nat.mod_one];rfl
 case round=>
  obtain⟨i,c,f,hi,rfl,rfl,hc,hf,γ,hv,G,R,T,J,D,M⟩:=hrel;have HV:=Lib.hid hv;have δ:=Lib.hid γ;clear hv γ
  by_cases U:i=4
  ·
   have D0:=U;subst U;go_upto_region 14 with fail;have τ:=Q2 R;have σ:=Q2 T;have μ:=Q2 J;have ρ:=Q2 D;have ξ:=Q2 M;have gf:=Z9 hG G;have gm:=gf.1;have gi:=gf.2;obtain⟨S,hS⟩:=exn (J1p f 4);have bS:S<Q3:=by rw[hS];exact J9r f 4 (fun j _=>hf j)
   obtain⟨O,rfl⟩:=Int.eq_ofNat_of_zero_le hc.1;have hw:=HV.out;rw[←hS,Int.toNat_natCast] at hw;have bO:O≤38:=Y4r _ _ _ hw;have Y:=Z9l f S O hS (fun j=>hf j) bS bO;obtain⟨X1,V⟩:=exn (J78 S (38*O));rw[←V] at Y;have ψ:X1<Q3:=by rw[V];exact Q8f _ _ bS (by omega)
   have Θ:=Lib.hid V;clear V;have Z:=J5u X1 ψ;obtain⟨X2,X⟩:=exn (X1 % PP);rw[←X] at Z;have D1:=Z50 X;have Γ:=Lib.hid X;clear X;refine Px 5 ?_;refine XL ?_;refine Xv ?_;refine Xv ?_;refine Xf ?_ (fun W hW=>Y W);refine Xf ?_ (fun W hW=>Z W (Z9 gf hW));refine K5 fun W5 hE=> ?_;refine Lp ?_ (J2 J hE) (cells:=c4 X2);intro W6 hO h_;refine J5 ?_;replace R:=ko R hE hO (by omega);replace T:=ko T hE hO (by omega);replace J:=h_;replace D:=ko D hE hO (by omega);replace M:=ko M hE hO (by omega);replace G:=bwo G hE hO G.size (by omega);clear hO h_;go_wp2;refine bodyPost_ret (Z8 rfl rfl J (by kernel_rfl) (by kernel_rfl)) rfl ⟨?_,G⟩;rw[Γ.out,Θ.out,Y4q A B S O hA hB (by rw[←HN.out];exact hw)];rfl
  have β:i<4:=by omega
  have hi3' :(i:Int)<4:=by omega
  have Ω:4+(i:Int)<8:=by omega
  have hi8' :(i:Int)<8:=by omega
  clear U;obtain⟨m1,m2,m3,m4,m5⟩:=Q2y (V9 N (4+i)) 38 (V9 N i) c (J0s N _) (by unfold Z7;omega) (J0s N i) hc;have a1:=J10 (J5q (V9 N (4+i)) 38) (V9 N i) 0 m1 (J0s N i) (by omega) (by omega);have a2:=J10 (adS (J5q (V9 N (4+i)) 38) (V9 N i) 0) c 0 m2 hc (by omega) (by omega);obtain⟨sv,ε⟩:∃sv,sv=adS (adS (J5q (V9 N (4+i)) 38) (V9 N i) 0) c 0:=⟨_,rfl⟩
  rw[←ε] at m4 m5 a2;have M5:=Lib.hid m5;clear m5 ε;have c5:=(J3 D (4+i)).trans (V3 _ _ _ _ (by omega));have c5' :=(J3 D i).trans (V3 _ _ _ _ (by omega));have c6:=(J3 M i).trans (V3 _ _ _ _ β);have f6:=X9 M
  go_wp2_with (go_at_call 160;refine(Q5y _ _ (J0s N (4+i)) (by unfold Z7;omega) _).mono ?_;rintro e w' ⟨rfl,rfl⟩)
  have hs:=J1n M i (.int .u64 sv);rw[K3] at hs;have h1:=J64 f i sv 4 β;have h2:=HV.out;have h5:=M5.out;clear HV M5 a1 a2 c5 c5' c6 f6;go_roundw
  case rel=>
   (repeat apply Exists.intro)
   refine⟨?_,rfl⟩;refine⟨i+1,_,upd f i sv,by omega,by go_num,rfl,m3,?_,?_,Z9k i N _ _ (f i) sv c _ (hf i) m4 hc m3 h5 h1 (δ.out i (Nat.le_refl i)) h2,?_,?_,?_,?_,?_,hs⟩
   ·
    intro j
    by_cases hj:j=i
    ·
     subst hj;rw[J2z];exact m4
    rw[J0t _ _ _ _ hj];exact hf j
   ·
    intro j hj;rw[J0t _ _ _ _ (by omega)];exact δ.out j (by omega)
   ·
    exact J3s G (by omega) _ _
   ·
    exact K6 R (by omega) _ _
   ·
    exact K6 T (by omega) _ _
   ·
    exact K6 J (by omega) _ _
   exact K6 D (by omega) _ _
  case measure=>simp[intOf];omega
end
end Go.Proofs.YteehbddkcnkhfaaGreatDoor.S8

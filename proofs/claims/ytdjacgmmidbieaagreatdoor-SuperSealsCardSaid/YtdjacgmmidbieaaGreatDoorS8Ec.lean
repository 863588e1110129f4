/- Contracts and plain laws for superSeals_holds. Conditions: the tables hold their numbers. -/
import Derived.Test.YtdjacgmmidbieaaGreatDoorS8Ea
open Go renaming World->AA,bodyPost_ret->BH,Calls->BI,IntKind->AI
open Go.Lib renaming hid->BK
open _root_.Nat renaming mod_eq_of_lt->AL,mul_zero->BF
open Go.RowKit
set_option maxRecDepth 100000
set_option linter.unusedSimpArgs false
set_option linter.unusedVariables false
namespace Go.Proofs.YtdjacgmmidbieaaGreatDoor.S8
section
set_option maxHeartbeats 4000000

theorem Z8l (f:Nat→Int)(hf:okF f)(w:AA):
  BI Tryz.prog 147 #[.agg (J0 .i64 16 f)] w fun e w' =>V4 (.agg (J0 .i64 16 (Q9 (cr (cr (J02 f 16)))))) w w' e:=by
 go_enter Tryz.func147,Tryz.ntmps147
 go_wp2_with fail
 refine wn2 (c1:=(J0 .i64 16 (f))) (t1:=87) (c2:=(J0 .i64 16 (fun _=>0))) (t2:=87) fun W0 J V7 D=> ?_;have U:=Q3 V7;have T:=Q3 D;have HF:=BK hf;clear hf
 go_wp2_with fail
 go_loopw [3] (fun tt wr=> ∃(t:Nat)(fr:Nat→Int),t≤3∧tt=.int .i64 t∧fr=Z0d f t∧Below w.heap.size w wr∧Blk wr w.heap.size (J0 .i64 16 fr) 87∧Blk wr (w.heap.size+1) (J0 .i64 16 (fun _=>0)) 87)
  (fun tt _=>(3-intOf tt).toNat)
 case atStart=>
  exact⟨0,f,by omega,rfl,rfl,J,V7,D⟩
 case round=>
  obtain⟨t,fr,ht,rfl,R,J,V7,D⟩:=hrel;have hfr' :=Z2a f HF.out t;rw[←R] at hfr';have HR:=BK hfr';have HE:=BK R;clear hfr' R
  by_cases G:t=3
  ·
   have V:=G;subst G;go_upto_region 12 with fail;have N:=Q3 V7;have M:=Q3 D;refine Px 1 ?_;refine XL ?_;refine J0o fun W2 hE=> ?_;refine Lp ?_ (J3 D hE) (cells:=J0 .i64 16 (fr)) (h1:=(Z8 _ _ _));intro W3 hO h_;refine V5 ?_;replace V7:=ko V7 hE hO (by omega);replace D:=h_;replace J:=bwo J hE hO J.size (by omega);clear hO h_;go_wp2;refine BH (Z5 rfl rfl D (by kernel_rfl) (by kernel_rfl)) rfl ⟨?_,J⟩;rw[HE.out,V2q f HF.out]
  have X:t<3:=by omega
  clear G;have N:=Q3 V7;have M:=Q3 D;obtain⟨wo,rfl⟩:∃wo:AA,wo=wr:=⟨_,rfl⟩
  go_wp2_with fail
  go_loopw [4,5] (fun oo ii wr=> ∃(k:Nat),k≤16∧ii=.int .i64 k∧oo=.int .i64 (ovr fr k:Int)∧Below w.heap.size w wr∧Blk wr w.heap.size (J0 .i64 16 (J54 k (Q9 (J02 fr 16)) fr)) 87∧Blk wr (w.heap.size+1) (J0 .i64 16 (fun _=>0)) 87)
   (fun oo ii _=>(16-intOf ii).toNat)
  case atStart=>
   rw[←J33 (Q9 (J02 fr 16)) fr] at V7;refine⟨0,by omega,rfl,?_,J,V7,D⟩;rw[Q84];rfl
  case round=>
   obtain⟨k,hk,rfl,rfl,J,V7,D⟩:=hrel
   by_cases G:k=16
   ·
    have V:=G;subst G;rw[J4a] at V7;have c0:=(J5 V7 0).trans (Q6 _ _ _ _ (by omega));have f0:=V3 V7;have b1:=X7 (J02 fr 16) 0;have b2:=Q2o fr 1125899906842624 (fun j=>(HR.out j).2) 16;go_wp2;have hs:=Z7 V7 0 (.int .i64 (Q9 (J02 fr 16) 0+38*(ovr fr 16:Int)));rw[Y9] at hs;go_roundw
    case rel=>
     exact⟨t+1,nxt fr,by omega,by go_num,by rw[HE.out];rfl,Z0 J (by omega) _ _,hs,J4 D (by omega) _ _⟩
    case measure=>simp[intOf];omega
   have S:k<16:=by omega
   have hk3' :(k:Int)<16:=by omega
   clear G;obtain⟨s1,s2⟩:=Z4t fr HR.out k S;have c0:=(J5 V7 k).trans (Q6 _ _ _ _ S);rw[J5k] at c0;have f0:=V3 V7;obtain⟨l0,l1⟩:=HR.out k;have l2:=Q2o fr 1125899906842624 (fun j=>(HR.out j).2) k;go_wp2;have hs:=Z7 V7 k (.int .i64 (Q9 (J02 fr 16) k));rw[J37] at hs;go_roundw
   case rel=>exact⟨k+1,by omega,by go_num,rfl,Z0 J (by omega) _ _,hs,J4 D (by omega) _ _⟩
   case measure=>simp[intOf];omega
end

section
set_option maxHeartbeats 4000000

theorem J4d (X Y k:Nat)(h:Y≤X):
    (J17 X Y (k+1)=0∧Q9 X k-Q9 Y k-(J17 X Y k:Int)=Q9 (X-Y) k)∨
     (J17 X Y (k+1)=1∧Q9 X k-Q9 Y k-(J17 X Y k:Int)<0∧Q9 X k-Q9 Y k-(J17 X Y k:Int)+65536=Q9 (X-Y) k):=by
  have r1:=X7 X k;have r2:=X7 Y k;have r3:=J53 X Y k;have r4:=X7 (X-Y) k;have r5:=J53 X Y (k+1);have hs:=Q2k X Y k h;rcases Nat.lt_or_ge (J17 X Y (k+1)) 1 with h0|h1
  · rw[show J17 X Y (k+1)=0 by omega] at hs⊢;exact .inl ⟨rfl,by omega⟩
  rw[show J17 X Y (k+1)=1 by omega] at hs⊢;exact .inr ⟨rfl,by omega,by omega⟩
theorem Z0v:∀k,k<16→Q9 PP k=if k=0 then 65517 else if k=15 then 32767 else 65535:=by
  intro k hk;have:k=0∨k=1∨k=2∨k=3∨k=4∨k=5∨k=6∨k=7∨k=8∨k=9∨k=10∨k=11∨k=12∨k=13∨k=14∨k=15:=by omega
  rcases this with rfl|rfl|rfl|rfl|rfl|rfl|rfl|rfl|rfl|rfl|rfl|rfl|rfl|rfl|rfl|rfl<;>decide+kernel
theorem Q3f (N k:Nat)(hk:k<16):Q9 (N+J8) k=Q9 N k:=by
  unfold Q9
  obtain⟨d,hd⟩:∃d,J8=2^(16*k)*(65536*2^d):=⟨16*(15-k),by
    rw[show(65536:Nat)=2^16 by decide,←Nat.pow_add,←Nat.pow_add,show 16*k+(16+16*(15-k))=256 by omega];decide⟩
  rw[hd,Nat.add_mul_div_left _ _ (Nat.two_pow_pos _),Nat.add_mul_mod_self_left]
theorem Z33 (N:Nat)(hN:N<J8):J17 (N+J8) PP 16=if N<PP then 1 else 0:=by
  unfold J17;rw[show(2:Nat)^(16*16)=J8 by decide,Nat.add_mod_right,AL hN,AL J67]
theorem Y3c (N:Nat)(hN:N<J8)(h:¬N<PP):J0 .i64 16 (Q9 (N+J8-PP))=J0 .i64 16 (Q9 (N-PP)):=by
  apply K6;intro j hj;rw[show N+J8-PP=(N-PP)+J8 by omega,Q3f _ _ hj]
theorem Z8m (V:Nat):cr V % PP=V % PP:=by
  unfold cr;have hd:=Nat.div_add_mod V J8
  conv=>rhs;rw[←hd]
  rw[show J8=2*PP+38 from PP_two.symm,show(2*PP+38)*(V /(2*PP+38))+V %(2*PP+38)=V %(2*PP+38)+38*(V /(2*PP+38))+PP*(2*(V /(2*PP+38))) by rw[Nat.add_mul,Nat.mul_left_comm PP,Nat.mul_assoc];omega,Nat.add_mul_mod_self_left]

theorem Q6w (f:Nat→Int)(hf:okF f)(w:AA):
  BI Tryz.prog 118 #[.agg (J0 .i64 16 f)] w fun e w' =>V4 (A16 (J02 f 16 % PP)) w w' e:=by
 go_enter Tryz.func118,Tryz.ntmps118
 go_upto_region 1 with fail;refine wn2 (c1:=(J0 .i64 16 (f))) (t1:=87) (c2:=(J0 .i64 16 (fun _=>0))) (t2:=87) fun W0 J V7 G=> ?_;have Γ:=Q3 V7;have ψ:=Q3 G;have ρ:=Z8l f hf;obtain⟨W,hW⟩:=exn (cr (cr (J02 f 16)));rw[←hW] at ρ;have bW:W<J8:=by rw[hW];exact Q86 _ (Q65 f hf 16)
 have HW:=BK hW;have BW:=BK bW;clear hW bW;refine Px 2 ?_;refine XL ?_;refine Xf ?_ (fun W hW=>ρ W);refine J0o fun W1 hE=> ?_;refine LS ?_ (J3 V7 hE) (g:=w.heap.size) (cells:=J0 .i64 16 (Q9 W)) (h1:=(Z8 _ _ _));refine V5 ?_;have hF:Below w.heap.size w (W1.setRow w.heap.size (J0 .i64 16 (Q9 W)))∧Blk (W1.setRow w.heap.size (J0 .i64 16 (Q9 W))) w.heap.size (J0 .i64 16 (Q9 W)) 87∧Blk (W1.setRow w.heap.size (J0 .i64 16 (Q9 W))) (w.heap.size+1) (J0 .i64 16 (fun _=>0)) 87:=⟨(K0 (K5 J hE J.size) (by omega) _),(X6 (J3 V7 hE) (J0 .i64 16 (Q9 W))),(Y6 (J3 G hE) (by omega) _)⟩
 generalize (W1.setRow w.heap.size (J0 .i64 16 (Q9 W)))=W2 at hF⊢;clear J V7 G;obtain⟨J,V7,G⟩:=hF;have χ:=Q3 V7;have ω:=Q3 G
 go_wp2_with fail
 go_loopw [3] (fun tt wr=> ∃(t N:Nat),t≤3∧tt=.int .i64 t∧N+t*PP=W∧Below w.heap.size w wr∧Blk wr w.heap.size (J0 .i64 16 (Q9 N)) 87∧Blk wr (w.heap.size+1) (J0 .i64 16 (fun _=>0)) 87)
  (fun tt _=>(3-intOf tt).toNat)
 case atStart=>
  exact⟨0,W,by omega,rfl,by omega,J,V7,G⟩
 case round=>
  obtain⟨t,N,ht,rfl,hN,J,V7,G⟩:=hrel;have bN:N<J8:=by have:=BW.out;omega
  have HN:=BK hN;have BN:=BK bN;clear hN bN;obtain⟨M,hM⟩:=exn (N+J8);obtain⟨D,hD⟩:=exn (N+J8-PP);have HM:=BK hM;have ξ:=BK hD;clear hM hD
  by_cases T:t=3
  ·
   have σ:=T;exfalso;have:=HN.out;have:=BW.out;subst T;unfold J8 PP at*;omega
  have Δ:t<3:=by omega
  clear T
  by_cases γ:N<PP
  ·
   have HL:=BK γ;clear γ;go_upto_region 5 with fail;have θ:=Q3 V7;have ε:=Q3 G;refine Px1 1 4 (z:=J0 .i64 16 (fun _=>0)) (t:=87) ?_;refine XL ?_;refine XN ?_;intro U W4 ν hE K8;have φ:=J.size;refine Lp ?_ K8 (cells:=J0 .i64 16 (Q9 N)) (h1:=(Z8 _ _ _));intro W5 hO h_;refine V5 ?_;replace V7:=ko V7 hE hO (by omega);replace G:=ko G hE hO (by omega);replace K8:=h_;replace J:=bwo J hE hO J.size (by omega);clear hO h_;have c0:=(J5 K8 0).trans (Q6 _ _ _ _ (by omega));have f0:=V3 K8;have lb:=X7 N 0
   go_wp2_with fail
   have hs:=Z7 K8 0 (.int .i64 (Q9 N 0-65517));rw[Y9] at hs;have hF:=And.intro (Z0 J (show w.heap.size≤U by omega) 0 (.int .i64 (Q9 N 0-65517))) (And.intro (J4 V7 (show w.heap.size≠U by omega) 0 (.int .i64 (Q9 N 0-65517))) (And.intro (J4 G (show w.heap.size+1≠U by omega) 0 (.int .i64 (Q9 N 0-65517))) hs));generalize W5.setCell ⟨U,0,none⟩ (.int .i64 (Q9 N 0-65517))=Wm at hF⊢;clear J V7 G K8 c0 f0 lb hs;obtain⟨J,V7,G,K8⟩:=hF;have κ:=Q3 K8
   go_wp2_with fail
   go_loopw [5,6] (fun oo ii wr=> ∃(k:Nat),k≤16∧ii=.int .i64 k∧oo=.int .i64 (J17 M PP k:Int)∧Below w.heap.size w wr∧Blk wr w.heap.size (J0 .i64 16 (Q9 N)) 87∧Blk wr (w.heap.size+1) (J0 .i64 16 (fun _=>0)) 87∧Blk wr U (J0 .i64 16 (J54 k (Q9 D) (upd (Q9 N) 0 (Q9 N 0-65517)))) 87)
    (fun oo ii _=>(16-intOf ii).toNat)
   case atStart=>
    refine⟨0,by omega,rfl,by rw[J6f];rfl,J,V7,G,?_⟩;rw[J33];exact K8
   case round=>
    obtain⟨k,hk,rfl,rfl,J,V7,G,K8⟩:=hrel
    by_cases T:k=16
    ·
     have σ:=T;subst T;rw[J4a] at K8;have V:=Z33 N BN.out;rw[←HM.out] at V
     (first|rw[if_pos HL.out] at V|rw[if_neg HL.out] at V)
     rw[V];clear V;go_upto_region 21 with fail;have δ:=Q3 V7;have η:=Q3 G;have ζ:=Q3 K8;refine Px 1 ?_;refine XL ?_;refine J0o fun W7 hE=> ?_;refine Lp ?_ (J3 G hE) (cells:=J0 .i64 16 (Q9 N)) (h1:=(Z8 _ _ _));intro W8 hO h_;refine V5 ?_;replace V7:=ko V7 hE hO (by omega);replace G:=h_;replace K8:=ko K8 hE hO (by omega);replace J:=bwo J hE hO J.size (by omega);clear hO h_;go_wp2;refine BH (Z5 rfl rfl G (by kernel_rfl) (by kernel_rfl)) rfl ⟨?_,J⟩;rw[show J02 f 16 % PP=N by rw[←Z8m (J02 f 16),←Z8m (cr (J02 f 16)),←HW.out,←HN.out,Nat.add_mul_mod_self_right,AL HL.out]];rfl
    have X:k<16:=by omega
    have hk3' :(k:Int)<16:=by omega
    clear T;have R:=J4d M PP k (by rw[HM.out];unfold J8 PP;omega);rw[show M-PP=D by rw[HM.out,ξ.out],show Q9 M k=Q9 N k by rw[HM.out,Q3f N k X],Z0v k X] at R;have c0:=(J5 K8 k).trans (Q6 _ _ _ _ X);rw[J5k] at c0;have f0:=V3 K8;have lb:=X7 N k;have bb:=J53 M PP k;have Z:∀v,v=Q9 D k→(J0 .i64 16 (J54 k (Q9 D) (upd (Q9 N) 0 (Q9 N 0-65517)))).setIfInBounds k (.int .i64 v)=J0 .i64 16 (J54 (k+1) (Q9 D) (upd (Q9 N) 0 (Q9 N 0-65517))):=fun v hv=>by rw[hv];exact J37 _ _ _ _ _
    have HS:=BK Z;clear Z;obtain⟨bo,β⟩:=exn (J17 M PP k);rw[←β] at R bb⊢;clear β
    by_cases e0:k=0
    ·
     subst e0;rw[if_pos rfl] at R;have hu:upd (Q9 N) 0 (Q9 N 0-65517) 0=Q9 N 0-65517:=J21 _ _ _;rw[hu] at c0;clear hu;obtain⟨x,hx⟩:=exn (Q9 N 0);obtain⟨d,S⟩:=exn (Q9 D 0);have lD:=X7 D 0;rw[←hx] at c0 R lb;rw[←S] at R lD;have HD:=BK S;clear hx S;rcases R with⟨h1,h2⟩|⟨h1,h2,h3⟩
     ·
      have α:¬x-65517-(bo:Int)<0:=by omega
      have H1:=BK h1;have H2:=BK h2;clear h1 h2 lD;go_wp2;have h1:=H1.out;go_roundw
      case rel=>
       have hs:=(Z7 K8 0 (.int .i64 (x-65517-(bo:Int))))
       rw[HS.out (x-65517-(bo:Int)) (H2.out.trans HD.out)] at hs;refine⟨0+1,by omega,?_,?_,?_,?_,?_,hs⟩
       ·
        go_num
       ·
        rw[h1];rfl
       ·
        exact(Z0 J (by omega) _ _)
       ·
        exact(J4 V7 (by omega) _ _)
       exact(J4 G (by omega) _ _)
      case measure=>simp[intOf]<;>omega
     have H1:=BK h1;have H2:=BK h3;clear h1 h3 lD;go_wp2;have h1:=H1.out;go_roundw
     case rel=>
      have hs:=(Z7 (Z7 K8 0 (.int .i64 (x-65517-(bo:Int)))) 0 (.int .i64 (x-65517-(bo:Int)+65536)))
      simp only[Array.setIfInBounds_setIfInBounds] at hs;rw[HS.out (x-65517-(bo:Int)+65536) (H2.out.trans HD.out)] at hs;refine⟨0+1,by omega,?_,?_,?_,?_,?_,hs⟩
      ·
       go_num
      ·
       rw[h1];rfl
      ·
       exact(Z0 (Z0 J (by omega) _ _) (by omega) _ _)
      ·
       exact(J4 (J4 V7 (by omega) _ _) (by omega) _ _)
      exact(J4 (J4 G (by omega) _ _) (by omega) _ _)
     case measure=>simp[intOf]<;>omega
    rw[if_neg e0] at R;rw[J0h _ _ _ _ e0] at c0
    by_cases Y:k=15
    ·
     subst Y;rw[if_pos rfl] at R;clear e0;obtain⟨x,hx⟩:=exn (Q9 N 15);obtain⟨d,S⟩:=exn (Q9 D 15);have lD:=X7 D 15;rw[←hx] at c0 R lb;rw[←S] at R lD;have HD:=BK S;clear hx S;rcases R with⟨h1,h2⟩|⟨h1,h2,h3⟩
     ·
      have α:¬x-32767-(bo:Int)<0:=by omega
      have H1:=BK h1;have H2:=BK h2;clear h1 h2 lD;go_wp2;have h1:=H1.out;go_roundw
      case rel=>
       have hs:=(Z7 (Z7 K8 15 (.int .i64 (x-32767))) 15 (.int .i64 (x-32767-(bo:Int))))
       simp only[Array.setIfInBounds_setIfInBounds] at hs;rw[HS.out (x-32767-(bo:Int)) (H2.out.trans HD.out)] at hs;refine⟨15+1,by omega,?_,?_,?_,?_,?_,hs⟩
       ·
        go_num
       ·
        rw[h1];rfl
       ·
        exact(Z0 (Z0 J (by omega) _ _) (by omega) _ _)
       ·
        exact(J4 (J4 V7 (by omega) _ _) (by omega) _ _)
       exact(J4 (J4 G (by omega) _ _) (by omega) _ _)
      case measure=>simp[intOf]<;>omega
     have H1:=BK h1;have H2:=BK h3;clear h1 h3 lD;go_wp2;have h1:=H1.out;go_roundw
     case rel=>
      have hs:=(Z7 (Z7 (Z7 K8 15 (.int .i64 (x-32767))) 15 (.int .i64 (x-32767-(bo:Int)))) 15 (.int .i64 (x-32767-(bo:Int)+65536)))
      simp only[Array.setIfInBounds_setIfInBounds] at hs;rw[HS.out (x-32767-(bo:Int)+65536) (H2.out.trans HD.out)] at hs;refine⟨15+1,by omega,?_,?_,?_,?_,?_,hs⟩
      ·
       go_num
      ·
       rw[h1];rfl
      ·
       exact(Z0 (Z0 (Z0 J (by omega) _ _) (by omega) _ _) (by omega) _ _)
      ·
       exact(J4 (J4 (J4 V7 (by omega) _ _) (by omega) _ _) (by omega) _ _)
      exact(J4 (J4 (J4 G (by omega) _ _) (by omega) _ _) (by omega) _ _)
     case measure=>simp[intOf]<;>omega
    rw[if_neg Y] at R;have p0:(0:Int)<(k:Int):=by omega
    have μ:(k:Int)<15:=by omega
    have τ:((k:Int)==15)=false:=by rw[beq_eq_false_iff_ne];omega
    have g1:decide ((0:Int)<(k:Int))=true:=decide_eq_true p0;have g2:decide ((k:Int)<15)=true:=decide_eq_true μ;have g3:0<k:=by omega
    have g4:decide (0<k)=true:=decide_eq_true g3;have g5:k<15:=by omega
    have g6:decide (k<15)=true:=decide_eq_true g5;have g7:(k==15)=false:=by rw[beq_eq_false_iff_ne];omega
    clear e0 Y;obtain⟨x,hx⟩:=exn (Q9 N k);obtain⟨d,S⟩:=exn (Q9 D k);have lD:=X7 D k;rw[←hx] at c0 R lb;rw[←S] at R lD;have HD:=BK S;clear hx S;rcases R with⟨h1,h2⟩|⟨h1,h2,h3⟩
    ·
     have α:¬x-65535-(bo:Int)<0:=by omega
     have H1:=BK h1;have H2:=BK h2;clear h1 h2 lD;go_wp2;have h1:=H1.out;go_roundw
     case rel=>
      have hs:=(Z7 (Z7 K8 k (.int .i64 (x-65535))) k (.int .i64 (x-65535-(bo:Int))))
      simp only[Array.setIfInBounds_setIfInBounds] at hs;rw[HS.out (x-65535-(bo:Int)) (H2.out.trans HD.out)] at hs;refine⟨k+1,by omega,?_,?_,?_,?_,?_,hs⟩
      ·
       go_num
      ·
       rw[h1];rfl
      ·
       exact(Z0 (Z0 J (by omega) _ _) (by omega) _ _)
      ·
       exact(J4 (J4 V7 (by omega) _ _) (by omega) _ _)
      exact(J4 (J4 G (by omega) _ _) (by omega) _ _)
     case measure=>simp[intOf]<;>omega
    have H1:=BK h1;have H2:=BK h3;clear h1 h3 lD;go_wp2;have h1:=H1.out;go_roundw
    case rel=>
     have hs:=(Z7 (Z7 (Z7 K8 k (.int .i64 (x-65535))) k (.int .i64 (x-65535-(bo:Int)))) k (.int .i64 (x-65535-(bo:Int)+65536)))
     simp only[Array.setIfInBounds_setIfInBounds] at hs;rw[HS.out (x-65535-(bo:Int)+65536) (H2.out.trans HD.out)] at hs;refine⟨k+1,by omega,?_,?_,?_,?_,?_,hs⟩
     ·
      go_num
     ·
      rw[h1];rfl
     ·
      exact(Z0 (Z0 (Z0 J (by omega) _ _) (by omega) _ _) (by omega) _ _)
     ·
      exact(J4 (J4 (J4 V7 (by omega) _ _) (by omega) _ _) (by omega) _ _)
     exact(J4 (J4 (J4 G (by omega) _ _) (by omega) _ _) (by omega) _ _)
    case measure=>simp[intOf]<;>omega
  have HL:=BK γ;clear γ;go_upto_region 5 with fail;have θ:=Q3 V7;have ε:=Q3 G;refine Px1 1 4 (z:=J0 .i64 16 (fun _=>0)) (t:=87) ?_;refine XL ?_;refine XN ?_;intro U W4 ν hE K8;have φ:=J.size;refine Lp ?_ K8 (cells:=J0 .i64 16 (Q9 N)) (h1:=(Z8 _ _ _));intro W5 hO h_;refine V5 ?_;replace V7:=ko V7 hE hO (by omega);replace G:=ko G hE hO (by omega);replace K8:=h_;replace J:=bwo J hE hO J.size (by omega);clear hO h_;have c0:=(J5 K8 0).trans (Q6 _ _ _ _ (by omega));have f0:=V3 K8;have lb:=X7 N 0
  go_wp2_with fail
  have hs:=Z7 K8 0 (.int .i64 (Q9 N 0-65517));rw[Y9] at hs;have hF:=And.intro (Z0 J (show w.heap.size≤U by omega) 0 (.int .i64 (Q9 N 0-65517))) (And.intro (J4 V7 (show w.heap.size≠U by omega) 0 (.int .i64 (Q9 N 0-65517))) (And.intro (J4 G (show w.heap.size+1≠U by omega) 0 (.int .i64 (Q9 N 0-65517))) hs));generalize W5.setCell ⟨U,0,none⟩ (.int .i64 (Q9 N 0-65517))=Wm at hF⊢;clear J V7 G K8 c0 f0 lb hs;obtain⟨J,V7,G,K8⟩:=hF;have κ:=Q3 K8
  go_wp2_with fail
  go_loopw [5,6] (fun oo ii wr=> ∃(k:Nat),k≤16∧ii=.int .i64 k∧oo=.int .i64 (J17 M PP k:Int)∧Below w.heap.size w wr∧Blk wr w.heap.size (J0 .i64 16 (Q9 N)) 87∧Blk wr (w.heap.size+1) (J0 .i64 16 (fun _=>0)) 87∧Blk wr U (J0 .i64 16 (J54 k (Q9 D) (upd (Q9 N) 0 (Q9 N 0-65517)))) 87)
   (fun oo ii _=>(16-intOf ii).toNat)
  case atStart=>
   refine⟨0,by omega,rfl,by rw[J6f];rfl,J,V7,G,?_⟩;rw[J33];exact K8
  case round=>
   obtain⟨k,hk,rfl,rfl,J,V7,G,K8⟩:=hrel
   by_cases T:k=16
   ·
    have σ:=T;subst T;rw[J4a] at K8;have V:=Z33 N BN.out;rw[←HM.out] at V
    (first|rw[if_pos HL.out] at V|rw[if_neg HL.out] at V)
    rw[V];clear V;go_upto_region 22 with fail;have δ:=Q3 V7;have η:=Q3 G;have ζ:=Q3 K8;refine Px 1 ?_;refine XL ?_;refine J0o fun W7 hE=> ?_;refine LS ?_ (J3 V7 hE) (g:=w.heap.size) (cells:=J0 .i64 16 (Q9 D)) (h1:=(Z8 _ _ _));refine V5 ?_;have hF:Below w.heap.size w (W7.setRow w.heap.size (J0 .i64 16 (Q9 D)))∧Blk (W7.setRow w.heap.size (J0 .i64 16 (Q9 D))) w.heap.size (J0 .i64 16 (Q9 D)) 87∧Blk (W7.setRow w.heap.size (J0 .i64 16 (Q9 D))) (w.heap.size+1) (J0 .i64 16 (fun _=>0)) 87∧Blk (W7.setRow w.heap.size (J0 .i64 16 (Q9 D))) U (J0 .i64 16 (Q9 D)) 87:=⟨(K0 (K5 J hE J.size) (by omega) _),(X6 (J3 V7 hE) (J0 .i64 16 (Q9 D))),(Y6 (J3 G hE) (by omega) _),(Y6 (J3 K8 hE) (by omega) _)⟩
    generalize (W7.setRow w.heap.size (J0 .i64 16 (Q9 D)))=W8 at hF⊢;clear J V7 G K8;obtain⟨J,V7,G,K8⟩:=hF
    go_wp2_with fail
    go_roundw
    case rel=>
     refine⟨t+1,N-PP,by omega,by go_num,by have:=HN.out;have:=HL.out;rw[Nat.add_mul];omega,J,?_,G⟩;rw[←Y3c N BN.out HL.out,←ξ.out];exact V7
    case measure=>simp[intOf];omega
   have X:k<16:=by omega
   have hk3' :(k:Int)<16:=by omega
   clear T;have R:=J4d M PP k (by rw[HM.out];unfold J8 PP;omega);rw[show M-PP=D by rw[HM.out,ξ.out],show Q9 M k=Q9 N k by rw[HM.out,Q3f N k X],Z0v k X] at R;have c0:=(J5 K8 k).trans (Q6 _ _ _ _ X);rw[J5k] at c0;have f0:=V3 K8;have lb:=X7 N k;have bb:=J53 M PP k;have Z:∀v,v=Q9 D k→(J0 .i64 16 (J54 k (Q9 D) (upd (Q9 N) 0 (Q9 N 0-65517)))).setIfInBounds k (.int .i64 v)=J0 .i64 16 (J54 (k+1) (Q9 D) (upd (Q9 N) 0 (Q9 N 0-65517))):=fun v hv=>by rw[hv];exact J37 _ _ _ _ _
   have HS:=BK Z;clear Z;obtain⟨bo,β⟩:=exn (J17 M PP k);rw[←β] at R bb⊢;clear β
   by_cases e0:k=0
   ·
    subst e0;rw[if_pos rfl] at R;have hu:upd (Q9 N) 0 (Q9 N 0-65517) 0=Q9 N 0-65517:=J21 _ _ _;rw[hu] at c0;clear hu;obtain⟨x,hx⟩:=exn (Q9 N 0);obtain⟨d,S⟩:=exn (Q9 D 0);have lD:=X7 D 0;rw[←hx] at c0 R lb;rw[←S] at R lD;have HD:=BK S;clear hx S;rcases R with⟨h1,h2⟩|⟨h1,h2,h3⟩
    ·
     have α:¬x-65517-(bo:Int)<0:=by omega
     have H1:=BK h1;have H2:=BK h2;clear h1 h2 lD;go_wp2;have h1:=H1.out;go_roundw
     case rel=>
      have hs:=(Z7 K8 0 (.int .i64 (x-65517-(bo:Int))))
      rw[HS.out (x-65517-(bo:Int)) (H2.out.trans HD.out)] at hs;refine⟨0+1,by omega,?_,?_,?_,?_,?_,hs⟩
      ·
       go_num
      ·
       rw[h1];rfl
      ·
       exact(Z0 J (by omega) _ _)
      ·
       exact(J4 V7 (by omega) _ _)
      exact(J4 G (by omega) _ _)
     case measure=>simp[intOf]<;>omega
    have H1:=BK h1;have H2:=BK h3;clear h1 h3 lD;go_wp2;have h1:=H1.out;go_roundw
    case rel=>
     have hs:=(Z7 (Z7 K8 0 (.int .i64 (x-65517-(bo:Int)))) 0 (.int .i64 (x-65517-(bo:Int)+65536)))
     simp only[Array.setIfInBounds_setIfInBounds] at hs;rw[HS.out (x-65517-(bo:Int)+65536) (H2.out.trans HD.out)] at hs;refine⟨0+1,by omega,?_,?_,?_,?_,?_,hs⟩
     ·
      go_num
     ·
      rw[h1];rfl
     ·
      exact(Z0 (Z0 J (by omega) _ _) (by omega) _ _)
     ·
      exact(J4 (J4 V7 (by omega) _ _) (by omega) _ _)
     exact(J4 (J4 G (by omega) _ _) (by omega) _ _)
    case measure=>simp[intOf]<;>omega
   rw[if_neg e0] at R;rw[J0h _ _ _ _ e0] at c0
   by_cases Y:k=15
   ·
    subst Y;rw[if_pos rfl] at R;clear e0;obtain⟨x,hx⟩:=exn (Q9 N 15);obtain⟨d,S⟩:=exn (Q9 D 15);have lD:=X7 D 15;rw[←hx] at c0 R lb;rw[←S] at R lD;have HD:=BK S;clear hx S;rcases R with⟨h1,h2⟩|⟨h1,h2,h3⟩
    ·
     have α:¬x-32767-(bo:Int)<0:=by omega
     have H1:=BK h1;have H2:=BK h2;clear h1 h2 lD;go_wp2;have h1:=H1.out;go_roundw
     case rel=>
      have hs:=(Z7 (Z7 K8 15 (.int .i64 (x-32767))) 15 (.int .i64 (x-32767-(bo:Int))))
      simp only[Array.setIfInBounds_setIfInBounds] at hs;rw[HS.out (x-32767-(bo:Int)) (H2.out.trans HD.out)] at hs;refine⟨15+1,by omega,?_,?_,?_,?_,?_,hs⟩
      ·
       go_num
      ·
       rw[h1];rfl
      ·
       exact(Z0 (Z0 J (by omega) _ _) (by omega) _ _)
      ·
       exact(J4 (J4 V7 (by omega) _ _) (by omega) _ _)
      exact(J4 (J4 G (by omega) _ _) (by omega) _ _)
     case measure=>simp[intOf]<;>omega
    have H1:=BK h1;have H2:=BK h3;clear h1 h3 lD;go_wp2;have h1:=H1.out;go_roundw
    case rel=>
     have hs:=(Z7 (Z7 (Z7 K8 15 (.int .i64 (x-32767))) 15 (.int .i64 (x-32767-(bo:Int)))) 15 (.int .i64 (x-32767-(bo:Int)+65536)))
     simp only[Array.setIfInBounds_setIfInBounds] at hs;rw[HS.out (x-32767-(bo:Int)+65536) (H2.out.trans HD.out)] at hs;refine⟨15+1,by omega,?_,?_,?_,?_,?_,hs⟩
     ·
      go_num
     ·
      rw[h1];rfl
     ·
      exact(Z0 (Z0 (Z0 J (by omega) _ _) (by omega) _ _) (by omega) _ _)
     ·
      exact(J4 (J4 (J4 V7 (by omega) _ _) (by omega) _ _) (by omega) _ _)
     exact(J4 (J4 (J4 G (by omega) _ _) (by omega) _ _) (by omega) _ _)
    case measure=>simp[intOf]<;>omega
   rw[if_neg Y] at R;have p0:(0:Int)<(k:Int):=by omega
   have μ:(k:Int)<15:=by omega
   have τ:((k:Int)==15)=false:=by rw[beq_eq_false_iff_ne];omega
   have g1:decide ((0:Int)<(k:Int))=true:=decide_eq_true p0;have g2:decide ((k:Int)<15)=true:=decide_eq_true μ;have g3:0<k:=by omega
   have g4:decide (0<k)=true:=decide_eq_true g3;have g5:k<15:=by omega
   have g6:decide (k<15)=true:=decide_eq_true g5;have g7:(k==15)=false:=by rw[beq_eq_false_iff_ne];omega
   clear e0 Y;obtain⟨x,hx⟩:=exn (Q9 N k);obtain⟨d,S⟩:=exn (Q9 D k);have lD:=X7 D k;rw[←hx] at c0 R lb;rw[←S] at R lD;have HD:=BK S;clear hx S;rcases R with⟨h1,h2⟩|⟨h1,h2,h3⟩
   ·
    have α:¬x-65535-(bo:Int)<0:=by omega
    have H1:=BK h1;have H2:=BK h2;clear h1 h2 lD;go_wp2;have h1:=H1.out;go_roundw
    case rel=>
     have hs:=(Z7 (Z7 K8 k (.int .i64 (x-65535))) k (.int .i64 (x-65535-(bo:Int))))
     simp only[Array.setIfInBounds_setIfInBounds] at hs;rw[HS.out (x-65535-(bo:Int)) (H2.out.trans HD.out)] at hs;refine⟨k+1,by omega,?_,?_,?_,?_,?_,hs⟩
     ·
      go_num
     ·
      rw[h1];rfl
     ·
      exact(Z0 (Z0 J (by omega) _ _) (by omega) _ _)
     ·
      exact(J4 (J4 V7 (by omega) _ _) (by omega) _ _)
     exact(J4 (J4 G (by omega) _ _) (by omega) _ _)
    case measure=>simp[intOf]<;>omega
   have H1:=BK h1;have H2:=BK h3;clear h1 h3 lD;go_wp2;have h1:=H1.out;go_roundw
   case rel=>
    have hs:=(Z7 (Z7 (Z7 K8 k (.int .i64 (x-65535))) k (.int .i64 (x-65535-(bo:Int)))) k (.int .i64 (x-65535-(bo:Int)+65536)))
    simp only[Array.setIfInBounds_setIfInBounds] at hs;rw[HS.out (x-65535-(bo:Int)+65536) (H2.out.trans HD.out)] at hs;refine⟨k+1,by omega,?_,?_,?_,?_,?_,hs⟩
    ·
     go_num
    ·
     rw[h1];rfl
    ·
     exact(Z0 (Z0 (Z0 J (by omega) _ _) (by omega) _ _) (by omega) _ _)
    ·
     exact(J4 (J4 (J4 V7 (by omega) _ _) (by omega) _ _) (by omega) _ _)
    exact(J4 (J4 (J4 G (by omega) _ _) (by omega) _ _) (by omega) _ _)
   case measure=>simp[intOf]<;>omega
end

section
set_option maxHeartbeats 4000000

theorem Y3d (X:Nat):okF (Q9 X):=fun j=>by have:=X7 X j;omega
theorem Y3e (X Y:Nat):okF (fun j=>Q9 X j+Q9 Y j):=fun j=>by have:=X7 X j;have:=X7 Y j;dsimp only;omega
theorem Z8n (X Y:Nat)(hX:X<J8)(hY:Y<J8):J02 (fun j=>Q9 X j+Q9 Y j) 16=X+Y:=by
  rw[Q2m _ _ (fun j=>(X7 X j).1) (fun j=>(X7 Y j).1),J7d,J7d,show(2:Nat)^(16*16)=J8 by decide,AL hX,AL hY]
theorem Z8o (X:Nat)(hX:X<J8):J02 (Q9 X) 16=X:=by
  rw[J7d,show(2:Nat)^(16*16)=J8 by decide,AL hX]
theorem Q0s (X Y:Nat)(hX:X<J8)(hY:Y<J8)(w:AA):
  BI Tryz.prog 121 #[A16 X,A16 Y] w fun e w' =>V4 (A16 ((X+Y) % PP)) w w' e:=by
 have HX:=BK hX;have HY:=BK hY;clear hX hY;unfold A16
 go_enter Tryz.func121,Tryz.ntmps121
 go_wp2_with fail
 refine wn3 (c1:=(J0 .i64 16 (Q9 X))) (t1:=87) (c2:=(J0 .i64 16 (Q9 Y))) (t2:=87) (c3:=(J0 .i64 16 (fun _=>0))) (t3:=87) fun W0 J D G K8=> ?_;have V:=Q3 D;have β:=Q3 G;have Z:=Q3 K8
 go_wp2_with fail
 go_loopw [5] (fun ii wr=> ∃(k:Nat),k≤16∧ii=.int .i64 k∧Below w.heap.size w wr∧Blk wr w.heap.size (J0 .i64 16 (J54 k (fun j=>Q9 X j+Q9 Y j) (Q9 X))) 87∧Blk wr (w.heap.size+1) (J0 .i64 16 (Q9 Y)) 87∧Blk wr (w.heap.size+2) (J0 .i64 16 (fun _=>0)) 87)
  (fun ii _=>(16-intOf ii).toNat)
 case atStart=>
  refine⟨0,by omega,rfl,J,?_,G,K8⟩;rw[J33];exact D
 case round=>
  obtain⟨k,hk,rfl,J,D,G,K8⟩:=hrel
  by_cases M:k=16
  ·
   have γ:=M;subst M;rw[J4a] at D;go_upto_region 5 with fail;have U:=Q3 D;have T:=Q3 G;have α:=Q3 K8;have N:=Q6w (fun j=>Q9 X j+Q9 Y j) (Y3e X Y);rw[Z8n X Y HX.out HY.out] at N;obtain⟨R,hR⟩:=exn ((X+Y) % PP);rw[←hR] at N;have HR:=BK hR;clear hR;refine Px 2 ?_;refine XL ?_;refine Xf ?_ (fun W hW=>N W);refine J0o fun W2 hE=> ?_;refine Lp ?_ (J3 K8 hE) (cells:=J0 .i64 16 (Q9 R)) (h1:=(Z8 _ _ _));intro W3 hO h_;refine V5 ?_;replace D:=ko D hE hO (by omega);replace G:=ko G hE hO (by omega);replace K8:=h_;replace J:=bwo J hE hO J.size (by omega);clear hO h_;go_wp2;refine BH (Z5 rfl rfl K8 (by kernel_rfl) (by kernel_rfl)) rfl ⟨?_,J⟩
   (rw[←HR.out]<;>rfl)
  have S:k<16:=by omega
  have hk3' :(k:Int)<16:=by omega
  clear M;have c0:=(J5 D k).trans (Q6 _ _ _ _ S);rw[J5k] at c0;have c1:=(J5 G k).trans (Q6 _ _ _ _ S);have f0:=V3 D;have l0:=X7 X k;have l1:=X7 Y k;have w1:AI.i64.wrap (Q9 X k+Q9 Y k)=Q9 X k+Q9 Y k:=IntWalk.i64_in _ (by omega);go_wp2
  go_region
  go_wp2;have hs:=Z7 D k (.int .i64 (Q9 X k+Q9 Y k));have hm:=J37 .i64 16 k (fun j=>Q9 X j+Q9 Y j) (Q9 X);rw[hm] at hs;go_roundw
  case rel=>
   refine⟨k+1,by omega,?_,?_,Y3 hs,?_,?_⟩
   ·
    (first|rfl|go_num)
   ·
    exact(Z0 J (by omega) _ _).drew
   ·
    exact Y3 (J4 G (by omega) _ _)
   exact Y3 (J4 K8 (by omega) _ _)
  case measure=>simp[intOf];omega
end

section
set_option maxHeartbeats 4000000

end

section
set_option maxHeartbeats 4000000

theorem Y9h (X:Nat)(hX:X≤PP)(w:AA):
  BI Tryz.prog 148 #[A16 X] w fun e w' =>V4 (A16 ((PP-X) % PP)) w w' e:=by
 have HX:=BK hX;clear hX;unfold A16
 go_enter Tryz.func148,Tryz.ntmps148
 go_wp2_with fail
 refine wn3 (c1:=(J0 .i64 16 (Q9 X))) (t1:=87) (c2:=(J0 .i64 16 (fun _=>0))) (t2:=87) (c3:=(J0 .i64 16 (fun _=>0))) (t3:=87) fun W0 N V7 J G=> ?_;have κ:=Q3 V7;have θ:=Q3 J;have ε:=Q3 G;obtain⟨D,HD⟩:=exh (PP-X)
 go_wp2_with fail
 go_loopw [4,5] (fun oo ii wr=> ∃(k:Nat),k≤16∧ii=.int .i64 k∧oo=.int .i64 (J17 PP X k:Int)∧Below w.heap.size w wr∧Blk wr w.heap.size (J0 .i64 16 (Q9 X)) 87∧Blk wr (w.heap.size+1) (J0 .i64 16 (fun _=>0)) 87∧Blk wr (w.heap.size+2) (J0 .i64 16 (J54 k (Q9 D) (fun _=>0))) 87)
  (fun oo ii _=>(16-intOf ii).toNat)
 case atStart=>
  refine⟨0,by omega,rfl,by rw[J6f];rfl,N,V7,J,?_⟩;rw[J33];exact G
 case round=>
  obtain⟨k,hk,rfl,rfl,N,V7,J,G⟩:=hrel
  by_cases U:k=16
  ·
   have ξ:=U;subst U;rw[J4a] at G;have bD:D<J8:=by rw[HD.out];exact Nat.lt_of_le_of_lt (Nat.sub_le _ _) J67
   have BD:=BK bD;clear bD;go_upto_region 16 with fail;have η:=Q3 V7;have ζ:=Q3 J;have δ:=Q3 G;have Z:=Q6w (Q9 D) (Y3d D);rw[Z8o D BD.out] at Z;obtain⟨R,hR⟩:=exn (D % PP);rw[←hR] at Z;have HR:=BK hR;clear hR;refine Px 2 ?_;refine XL ?_;refine Xf ?_ (fun W hW=>Z W);refine J0o fun W2 hE=> ?_;refine Lp ?_ (J3 J hE) (cells:=J0 .i64 16 (Q9 R)) (h1:=(Z8 _ _ _));intro W3 hO h_;refine V5 ?_;replace V7:=ko V7 hE hO (by omega);replace J:=h_;replace G:=ko G hE hO (by omega);replace N:=bwo N hE hO N.size (by omega);clear hO h_;go_wp2;refine BH (Z5 rfl rfl J (by kernel_rfl) (by kernel_rfl)) rfl ⟨?_,N⟩
   (rw[←HD.out,←HR.out]<;>rfl)
  have V:k<16:=by omega
  have hk3' :(k:Int)<16:=by omega
  clear U;have M:=J4d PP X k HX.out;rw[←HD.out,Z0v k V] at M;have c0:=(J5 G k).trans (Q6 _ _ _ _ V);rw[J5k] at c0;have c1:=(J5 V7 k).trans (Q6 _ _ _ _ V);have f0:=V3 G;have lb:=X7 X k;have bb:=J53 PP X k;have Y:∀v,v=Q9 D k→(J0 .i64 16 (J54 k (Q9 D) (fun _=>0))).setIfInBounds k (.int .i64 v)=J0 .i64 16 (J54 (k+1) (Q9 D) (fun _=>0)):=fun v hv=>by rw[hv];exact J37 _ _ _ _ _
  have HS:=BK Y;clear Y;obtain⟨bo,β⟩:=exn (J17 PP X k);rw[←β] at M bb⊢;clear β
  by_cases e0:k=0
  ·
   subst e0;rw[if_pos rfl] at M;obtain⟨x,hx⟩:=exn (Q9 X 0);obtain⟨d,S⟩:=exn (Q9 D 0);have lD:=X7 D 0;rw[←hx] at c1 M lb;rw[←S] at M lD;have T:=BK S;clear hx S;rcases M with⟨h1,h2⟩|⟨h1,h2,h3⟩
   ·
    have α:¬65517-x-(bo:Int)<0:=by omega
    have H1:=BK h1;have H2:=BK h2;clear h1 h2 lD;go_wp2;have h1:=H1.out;go_roundw
    case rel=>
     have hs:=(Z7 G 0 (.int .i64 (65517-x-(bo:Int))))
     rw[HS.out (65517-x-(bo:Int)) (H2.out.trans T.out)] at hs;refine⟨0+1,by omega,?_,?_,?_,?_,?_,hs⟩
     ·
      (first|rfl|go_num)
     ·
      rw[h1];rfl
     ·
      exact(Z0 N (by omega) _ _)
     ·
      exact(J4 V7 (by omega) _ _)
     exact(J4 J (by omega) _ _)
    case measure=>simp[intOf]<;>omega
   have H1:=BK h1;have H2:=BK h3;clear h1 h3 lD;go_wp2;have h1:=H1.out;go_roundw
   case rel=>
    have hs:=(Z7 (Z7 G 0 (.int .i64 (65517-x-(bo:Int)))) 0 (.int .i64 (65517-x-(bo:Int)+65536)))
    simp only[Array.setIfInBounds_setIfInBounds] at hs;rw[HS.out (65517-x-(bo:Int)+65536) (H2.out.trans T.out)] at hs;refine⟨0+1,by omega,?_,?_,?_,?_,?_,hs⟩
    ·
     (first|rfl|go_num)
    ·
     rw[h1];rfl
    ·
     exact(Z0 (Z0 N (by omega) _ _) (by omega) _ _)
    ·
     exact(J4 (J4 V7 (by omega) _ _) (by omega) _ _)
    exact(J4 (J4 J (by omega) _ _) (by omega) _ _)
   case measure=>simp[intOf]<;>omega
  rw[if_neg e0] at M
  by_cases γ:k=15
  ·
   subst γ;rw[if_pos rfl] at M;clear e0;obtain⟨x,hx⟩:=exn (Q9 X 15);obtain⟨d,S⟩:=exn (Q9 D 15);have lD:=X7 D 15;rw[←hx] at c1 M lb;rw[←S] at M lD;have T:=BK S;clear hx S;rcases M with⟨h1,h2⟩|⟨h1,h2,h3⟩
   ·
    have α:¬32767-x-(bo:Int)<0:=by omega
    have H1:=BK h1;have H2:=BK h2;clear h1 h2 lD;go_wp2;have h1:=H1.out;go_roundw
    case rel=>
     have hs:=(Z7 G 15 (.int .i64 (32767-x-(bo:Int))))
     rw[HS.out (32767-x-(bo:Int)) (H2.out.trans T.out)] at hs;refine⟨15+1,by omega,?_,?_,?_,?_,?_,hs⟩
     ·
      (first|rfl|go_num)
     ·
      rw[h1];rfl
     ·
      exact(Z0 N (by omega) _ _)
     ·
      exact(J4 V7 (by omega) _ _)
     exact(J4 J (by omega) _ _)
    case measure=>simp[intOf]<;>omega
   have H1:=BK h1;have H2:=BK h3;clear h1 h3 lD;go_wp2;have h1:=H1.out;go_roundw
   case rel=>
    have hs:=(Z7 (Z7 G 15 (.int .i64 (32767-x-(bo:Int)))) 15 (.int .i64 (32767-x-(bo:Int)+65536)))
    simp only[Array.setIfInBounds_setIfInBounds] at hs;rw[HS.out (32767-x-(bo:Int)+65536) (H2.out.trans T.out)] at hs;refine⟨15+1,by omega,?_,?_,?_,?_,?_,hs⟩
    ·
     (first|rfl|go_num)
    ·
     rw[h1];rfl
    ·
     exact(Z0 (Z0 N (by omega) _ _) (by omega) _ _)
    ·
     exact(J4 (J4 V7 (by omega) _ _) (by omega) _ _)
    exact(J4 (J4 J (by omega) _ _) (by omega) _ _)
   case measure=>simp[intOf]<;>omega
  rw[if_neg γ] at M;have p0:¬(k:Int)=0:=by omega
  have ρ:¬(k:Int)=15:=by omega
  have ν:((k:Int)==0)=false:=by rw[beq_eq_false_iff_ne];omega
  have μ:((k:Int)==15)=false:=by rw[beq_eq_false_iff_ne];omega
  have g6:(k==0)=false:=by rw[beq_eq_false_iff_ne];omega
  have g7:(k==15)=false:=by rw[beq_eq_false_iff_ne];omega
  obtain⟨x,hx⟩:=exn (Q9 X k);obtain⟨d,S⟩:=exn (Q9 D k);have lD:=X7 D k;rw[←hx] at c1 M lb;rw[←S] at M lD;have T:=BK S;clear hx S;rcases M with⟨h1,h2⟩|⟨h1,h2,h3⟩
  ·
   have α:¬65535-x-(bo:Int)<0:=by omega
   have H1:=BK h1;have H2:=BK h2;clear h1 h2 lD;go_wp2;have h1:=H1.out;go_roundw
   case rel=>
    have hs:=(Z7 G k (.int .i64 (65535-x-(bo:Int))))
    rw[HS.out (65535-x-(bo:Int)) (H2.out.trans T.out)] at hs;refine⟨k+1,by omega,?_,?_,?_,?_,?_,hs⟩
    ·
     (first|rfl|go_num)
    ·
     rw[h1];rfl
    ·
     exact(Z0 N (by omega) _ _)
    ·
     exact(J4 V7 (by omega) _ _)
    exact(J4 J (by omega) _ _)
   case measure=>simp[intOf]<;>omega
  have H1:=BK h1;have H2:=BK h3;clear h1 h3 lD;go_wp2;have h1:=H1.out;go_roundw
  case rel=>
   have hs:=(Z7 (Z7 G k (.int .i64 (65535-x-(bo:Int)))) k (.int .i64 (65535-x-(bo:Int)+65536)))
   simp only[Array.setIfInBounds_setIfInBounds] at hs;rw[HS.out (65535-x-(bo:Int)+65536) (H2.out.trans T.out)] at hs;refine⟨k+1,by omega,?_,?_,?_,?_,?_,hs⟩
   ·
    (first|rfl|go_num)
   ·
    rw[h1];rfl
   ·
    exact(Z0 (Z0 N (by omega) _ _) (by omega) _ _)
   ·
    exact(J4 (J4 V7 (by omega) _ _) (by omega) _ _)
   exact(J4 (J4 J (by omega) _ _) (by omega) _ _)
  case measure=>simp[intOf]<;>omega
theorem Z8p (X Y:Nat)(hX:X<J8)(hY:Y≤PP)(w:AA):
  BI Tryz.prog 120 #[A16 X,A16 Y] w fun e w' =>V4 (A16 ((X+(PP-Y) % PP) % PP)) w w' e:=by
 have HX:=BK hX;have HY:=BK hY;clear hX hY;unfold A16
 go_enter Tryz.func120,Tryz.ntmps120
 go_upto_region 1 with fail;refine wn3 (c1:=(J0 .i64 16 (Q9 X))) (t1:=87) (c2:=(J0 .i64 16 (Q9 Y))) (t2:=87) (c3:=(J0 .i64 16 (fun _=>0))) (t3:=87) fun W0 J G D K8=> ?_;have T:=Q3 G;have V:=Q3 D;have U:=Q3 K8;have R:=Y9h Y HY.out;obtain⟨M,hM⟩:=exn ((PP-Y) % PP);rw[←hM] at R;have HM:=BK hM;have bM:=Z0r hM;have BM:=BK bM;clear hM bM;have N:=Q0s X M HX.out BM.out;obtain⟨S,hS⟩:=exn ((X+M) % PP);rw[←hS] at N;have Z:=BK hS;clear hS;refine Rx 4 ?_;refine XL ?_;refine XL ?_;refine Xf ?_ (fun W hW=>R W);refine Xf ?_ (fun W hW=>N W);refine J0o fun W1 hE=> ?_;refine Lp ?_ (J3 K8 hE) (cells:=J0 .i64 16 (Q9 S)) (h1:=(Z8 _ _ _));intro W2 hO h_;refine LN ?_;replace G:=ko G hE hO (by omega);replace D:=ko D hE hO (by omega);replace K8:=h_;replace J:=bwo J hE hO J.size (by omega);clear hO h_;go_wp2;refine BH (Z5 rfl rfl K8 (by kernel_rfl) (by kernel_rfl)) rfl ⟨?_,J⟩
 (rw[←HM.out,←Z.out]<;>rfl)
end

section
set_option maxHeartbeats 4000000

theorem Q3g (f:Nat→Int)(m:Nat):∀n,J02 f (m+n)=J02 f m+2^(16*m)*J02 (fun j=>f (m+j)) n
  |0=>by simp[J02]
  |n+1=>by
    show J02 f (m+n)+(f (m+n)).toNat*2^(16*(m+n))=J02 f m+2^(16*m)*(J02 (fun j=>f (m+j)) n+(f (m+n)).toNat*2^(16*n));rw[Q3g f m n,Nat.mul_add,Nat.pow_add,Nat.mul_add (2^(16*m)),Nat.mul_left_comm (2^(16*m))];omega
theorem Q3h (f:Nat→Int)(hf:∀j,0≤f j)(c:Nat):∀n,J02 (fun j=>(c:Int)*f j) n=c*J02 f n
  |0=>rfl
  |n+1=>by
    show J02 _ n+((c:Int)*f n).toNat*_=c*(J02 f n+(f n).toNat*_);obtain⟨x,hx⟩:=Int.eq_ofNat_of_zero_le (hf n);rw[Q3h f hf c n,Nat.mul_add,hx,←Int.natCast_mul,Int.toNat_natCast,Int.toNat_natCast,Nat.mul_assoc]
def J7q (F:Nat→Int):Nat→Int:=fun j=>F j+38*F (j+16)
theorem Z0w (F:Nat→Int)(h:∀j,0≤F j):J02 (J7q F) 16 % PP=J02 F 32 % PP:=by
  have e1:J02 (J7q F) 16=J02 F 16+38*J02 (fun j=>F (16+j)) 16:=by
    have:=Q2m F (fun j=>(38:Nat)*F (16+j)) h (fun j=>Int.mul_nonneg (by omega) (h _)) 16;rw[Q3h (fun j=>F (16+j)) (fun j=>h (16+j)) 38 16] at this;rw[←this];apply J8z;intro j _;unfold J7q;rw[Nat.add_comm j 16];rfl
  have e2:=Q3g F 16 16;rw[show 16+16=32 by decide,show(2:Nat)^(16*16)=J8 by decide,show J8=2*PP+38 from PP_two.symm] at e2;rw[e1,e2,Nat.add_mul,Nat.mul_comm 2 PP,Nat.mul_assoc PP,←Nat.add_assoc,Nat.add_right_comm,Nat.add_mul_mod_self_left]
theorem Z5d (F:Nat→Int)(h:∀j,0≤F j)(X Y i k:Nat)(hi:i<16)(hk:k<16)(B:Nat)(hB:∀j,F j≤(B:Int))(hs:J02 F 32=X % 2^(16*i)*Y+(Q9 X i).toNat*2^(16*i)*(Y % 2^(16*k))):
    (∀j,0≤upd F (i+k) (F (i+k)+Q9 X i*Q9 Y k) j)∧(∀j,upd F (i+k) (F (i+k)+Q9 X i*Q9 Y k) j≤((B+4294836225:Nat):Int))∧
    J02 (upd F (i+k) (F (i+k)+Q9 X i*Q9 Y k)) 32=X % 2^(16*i)*Y+(Q9 X i).toNat*2^(16*i)*(Y % 2^(16*(k+1))):=by
  have r1:=X7 X i;have r2:=X7 Y k;have h0:=h (i+k);obtain⟨x,hx⟩:=Int.eq_ofNat_of_zero_le r1.1;have hy:Q9 Y k=((Y / 2^(16*k) % 65536:Nat):Int):=rfl;have D:=Q2l F (i+k) (F (i+k)+Q9 X i*Q9 Y k) 32 (by omega);obtain⟨f,hf⟩:=Int.eq_ofNat_of_zero_le h0;have M:Y / 2^(16*k) % 65536<65536:=Nat.mod_lt _ (by decide);rw[J2y Y k];rw[hx] at hs r1⊢D;rw[hy] at r2⊢D;generalize Y / 2^(16*k) % 65536=y at*;have N:x*y≤65535*65535:=Nat.mul_le_mul (by omega) (by omega);have G:(x:Int)*(y:Int)=((x*y:Nat):Int):=by rw[Int.natCast_mul]
  rw[G] at D⊢;have J:=hB (i+k);rw[hf] at D⊢;refine⟨fun j=> ?_,fun j=> ?_,?_⟩
  · unfold upd;split
    · omega
    exact h j
  · unfold upd;split
    · omega
    have:=hB j;omega
  rw[←Int.natCast_add] at D⊢;rw[hs] at D;simp only[Int.toNat_natCast] at D⊢;rw[Nat.add_mul] at D;rw[Nat.mul_add (x*2^(16*i)),show x*2^(16*i)*(y*2^(16*k))=x*y*2^(16*(i+k)) by rw[show 16*(i+k)=16*i+16*k by omega,Nat.pow_add,Nat.mul_mul_mul_comm]];omega

theorem J2n (X Y:Nat)(hX:X<J8)(hY:Y<J8)(w:AA):
  BI Tryz.prog 73 #[A16 X,A16 Y] w fun e w' =>V4 (A16 (X*Y % PP)) w w' e:=by
 have HX:=BK hX;have HY:=BK hY;clear hX hY;unfold A16
 go_enter Tryz.func73,Tryz.ntmps73
 go_wp2_with fail
 refine wn4 (c1:=(J0 .i64 16 (Q9 X))) (t1:=87) (c2:=(J0 .i64 16 (Q9 Y))) (t2:=87) (c3:=(J0 .i64 16 (fun _=>0))) (t3:=87) (c5:=(J0 .i64 32 (fun _=>0))) (t5:=182) fun W0 S J D K8 M=> ?_;have ψ:=Q3 J;have Γ:=Q3 D;have φ:=Q3 K8;have ω:=Q3 M
 go_wp2_with fail
 go_loopw [6] (fun ii wr=> ∃(i:Nat)(F:Nat→Int),i≤16∧ii=.int .i64 i∧Hid ((∀j,0≤F j)∧(∀j,F j≤((16*i*4294836225:Nat):Int))∧J02 F 32=X % 2^(16*i)*Y)∧Below w.heap.size w wr∧Blk wr w.heap.size (J0 .i64 16 (Q9 X)) 87∧Blk wr (w.heap.size+1) (J0 .i64 16 (Q9 Y)) 87∧Blk wr (w.heap.size+2) (J0 .i64 16 (fun _=>0)) 87∧Blk wr (w.heap.size+3) (J0 .i64 32 F) 182)
  (fun ii _=>(16-intOf ii).toNat)
 case atStart=>
  refine⟨0,fun _=>0,by omega,rfl,BK ⟨fun _=>Int.le_refl _,fun _=>by simp,by rw[Q4y,BF,Nat.pow_zero,Nat.mod_one,Nat.zero_mul]⟩,S,J,D,K8,M⟩
 case round=>
  obtain⟨i,F,hi,rfl,HF,S,J,D,K8,M⟩:=hrel
  by_cases N:i=16
  ·
   have κ:=N;subst N;go_upto_region 9 with fail;have Z:=Q3 J;have β:=Q3 D;have α:=Q3 K8;have γ:=Q3 M;refine Px1 0 8 (z:=J0 .i64 16 (fun _=>0)) (t:=87) ?_;refine XN ?_;intro θ W2 Θ hE T;have Ψ:=S.size;refine V5 ?_;have hF:Below w.heap.size w W2∧Blk W2 w.heap.size (J0 .i64 16 (Q9 X)) 87∧Blk W2 (w.heap.size+1) (J0 .i64 16 (Q9 Y)) 87∧Blk W2 (w.heap.size+2) (J0 .i64 16 (fun _=>0)) 87∧Blk W2 (w.heap.size+3) (J0 .i64 32 F) 182∧Blk W2 θ (J0 .i64 16 (fun _=>0)) 87:=⟨(K5 S hE S.size),(J3 J hE),(J3 D hE),(J3 K8 hE),(J3 M hE),T⟩
   clear S J D K8 M T;obtain⟨S,J,D,K8,M,T⟩:=hF;have ρ:=Q3 T
   go_wp2_with fail
   go_loopw [9] (fun ii wr=> ∃(k:Nat),k≤16∧ii=.int .i64 k∧Below w.heap.size w wr∧Blk wr w.heap.size (J0 .i64 16 (Q9 X)) 87∧Blk wr (w.heap.size+1) (J0 .i64 16 (Q9 Y)) 87∧Blk wr (w.heap.size+2) (J0 .i64 16 (fun _=>0)) 87∧Blk wr (w.heap.size+3) (J0 .i64 32 F) 182∧Blk wr θ (J0 .i64 16 (J54 k (J7q F) (fun _=>0))) 87)
    (fun ii _=>(16-intOf ii).toNat)
   case atStart=>
    refine⟨0,by omega,rfl,S,J,D,K8,M,?_⟩;rw[J33];exact T
   case round=>
    obtain⟨k,hk,rfl,S,J,D,K8,M,T⟩:=hrel
    by_cases N:k=16
    ·
     have κ:=N;subst N;rw[J4a] at T;go_upto_region 14 with fail;have ν:=Q3 J;have τ:=Q3 D;have ξ:=Q3 K8;have σ:=Q3 M;have χ:=Q3 T;have ζ:okF (J7q F):=fun j=>by have u:=HF.out.1 j;have v:=HF.out.2.1 j;have u2:=HF.out.1 (j+16);have v2:=HF.out.2.1 (j+16);unfold J7q;omega
     have ε:=Q6w (J7q F) ζ;rw[Z0w F HF.out.1,HF.out.2.2,show X % 2^(16*16)=X by rw[show(2:Nat)^(16*16)=J8 by decide];exact AL HX.out] at ε;obtain⟨R,hR⟩:=exn (X*Y % PP);rw[←hR] at ε;have HR:=BK hR;clear hR;refine Px 2 ?_;refine XL ?_;refine Xf ?_ (fun W hW=>ε W);refine J0o fun W4 hE=> ?_;refine Lp ?_ (J3 K8 hE) (cells:=J0 .i64 16 (Q9 R)) (h1:=(Z8 _ _ _));intro W5 hO h_;refine V5 ?_;replace J:=ko J hE hO (by omega);replace D:=ko D hE hO (by omega);replace K8:=h_;replace M:=ko M hE hO (by omega);replace T:=ko T hE hO (by omega);replace S:=bwo S hE hO S.size (by omega);clear hO h_;go_wp2;refine BH (Z5 rfl rfl K8 (by kernel_rfl) (by kernel_rfl)) rfl ⟨?_,S⟩
     (rw[←HR.out]<;>rfl)
    have U:k<16:=by omega
    have hk3' :(k:Int)<16:=by omega
    clear N;have c0:=(J5 M k).trans (Q6 _ _ _ _ (by omega));have c1:=(J5 M (k+16)).trans (Q6 _ _ _ _ (by omega));have c2:=(J5 T k).trans (Q6 _ _ _ _ U);rw[J5k] at c2;have f0:=V3 T;obtain⟨u0,u1⟩:=And.intro (HF.out.1 k) (HF.out.2.1 k);obtain⟨v0,v1⟩:=And.intro (HF.out.1 (k+16)) (HF.out.2.1 (k+16));have w0:AI.i64.wrap ((k:Int)+16)=((k+16:Nat):Int):=by rw[IntWalk.i64_in _ (by omega)];omega
    have w1:AI.i64.wrap (38*F (k+16))=38*F (k+16):=IntWalk.i64_in _ (by omega);have w2:AI.i64.wrap (F k+38*F (k+16))=F k+38*F (k+16):=IntWalk.i64_in _ (by omega);clear u0 u1 v0 v1 w0;have D0:(k:Int)<32:=by omega
    have Ω:(k:Int)+16<32:=by omega
    go_wp2
    go_region
    go_wp2;have hs:=Z7 T k (.int .i64 (J7q F k));rw[J37] at hs;go_roundw
    case rel=>
     refine⟨k+1,by omega,?_,(Z0 S (by omega) _ _).drew,Y3 (J4 J (by omega) _ _),Y3 (J4 D (by omega) _ _),Y3 (J4 K8 (by omega) _ _),Y3 (J4 M (by omega) _ _),?_⟩
     ·
      (first|rfl|go_num)
     exact Y3 hs
    case measure=>simp[intOf];omega
  have η:i<16:=by omega
  have hi3' :(i:Int)<16:=by omega
  clear N;have Z:=Q3 J;have β:=Q3 D;have α:=Q3 K8;have γ:=Q3 M
  go_wp2_with fail
  go_loopw [7] (fun kk wr=> ∃(k:Nat)(G:Nat→Int),k≤16∧kk=.int .i64 k∧Hid ((∀j,0≤G j)∧(∀j,G j≤(((16*i+k)*4294836225:Nat):Int))∧J02 G 32=X % 2^(16*i)*Y+(Q9 X i).toNat*2^(16*i)*(Y % 2^(16*k)))∧Below w.heap.size w wr∧Blk wr w.heap.size (J0 .i64 16 (Q9 X)) 87∧Blk wr (w.heap.size+1) (J0 .i64 16 (Q9 Y)) 87∧Blk wr (w.heap.size+2) (J0 .i64 16 (fun _=>0)) 87∧Blk wr (w.heap.size+3) (J0 .i64 32 G) 182)
   (fun kk _=>(16-intOf kk).toNat)
  case atStart=>
   refine⟨0,F,by omega,rfl,BK ⟨HF.out.1,HF.out.2.1,by rw[HF.out.2.2,BF 16,Nat.pow_zero,Nat.mod_one,BF,Nat.add_zero]⟩,S,J,D,K8,M⟩
  case round=>
   obtain⟨k,G,hk,rfl,HG,S,J,D,K8,M⟩:=hrel
   by_cases N:k=16
   ·
    have κ:=N;subst N
    go_wp2_with fail
    go_roundw
    case rel=>
     refine⟨i+1,G,by omega,by go_num,BK ⟨HG.out.1,?_,?_⟩,S,J,D,K8,M⟩
     ·
      rw[show 16*(i+1)*4294836225=(16*i+16)*4294836225 by omega];exact HG.out.2.1
     have h:=HG.out.2.2;rw[show Y % 2^(16*16)=Y by rw[show(2:Nat)^(16*16)=J8 by decide];exact AL HY.out] at h;rw[h,J2y X i,Nat.add_mul];rfl
    case measure=>simp[intOf];omega
   have U:k<16:=by omega
   have hk3' :(k:Int)<16:=by omega
   clear N;obtain⟨m,hm⟩:=exn (i+k);have V:=Z5d G HG.out.1 X Y i k η U _ HG.out.2.1 HG.out.2.2;have Δ:=HG.out.1 m;have Ξ:=HG.out.2.1 m;have lx:=X7 X i;have ly:=X7 Y k;have hp:0≤Q9 X i*Q9 Y k∧Q9 X i*Q9 Y k≤4294836225:=⟨Int.mul_nonneg lx.1 ly.1,by have:=Int.mul_le_mul lx.2 ly.2 ly.1 (by omega);omega⟩
   rw[←hm] at V;have μ:m<32:=by omega
   have hm32' :(m:Int)<32:=by omega
   have w0:AI.i64.wrap ((i:Int)+(k:Int))=(m:Int):=by rw[IntWalk.i64_in _ (by omega)];omega
   have c0:=(J5 M m).trans (Q6 _ _ _ _ μ);have c1:=(J5 J i).trans (Q6 _ _ _ _ η);have c2:=(J5 D k).trans (Q6 _ _ _ _ U);have f0:=V3 M;obtain⟨p,δ⟩:=exn (Q9 X i*Q9 Y k);rw[←δ] at V hp;have w1:AI.i64.wrap (Q9 X i*Q9 Y k)=p:=by rw[←δ];exact IntWalk.i64_in _ (by omega)
   have w2:AI.i64.wrap (G m+p)=G m+p:=IntWalk.i64_in _ (by omega);have HC:=BK V;clear V δ lx ly Δ Ξ hp hm;go_wp2
   go_region
   go_wp2;have hs:=Z7 M m (.int .i64 (G m+p));rw[Y9] at hs;go_roundw
   case rel=>
    refine⟨k+1,_,by omega,?_,?_,(Z0 S (by omega) _ _).drew,Y3 (J4 J (by omega) _ _),Y3 (J4 D (by omega) _ _),Y3 (J4 K8 (by omega) _ _),Y3 hs⟩
    ·
     (first|rfl|go_num)
    refine BK ⟨HC.out.1,?_,HC.out.2.2⟩;rw[show(16*i+(k+1))*4294836225=(16*i+k)*4294836225+4294836225 by omega];exact HC.out.2.1
   case measure=>simp[intOf];omega
end
end Go.Proofs.YtdjacgmmidbieaaGreatDoor.S8

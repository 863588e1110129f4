/- Contracts and plain laws for superSeals_holds. Conditions: the tables hold their numbers. -/
import Derived.Test.YtdjacgmmidbieaaGreatDoorJ13
open Go renaming World->AA,bodyPost_ret->BH,Calls->BI,IntKind->AI
open Go.Lib renaming hid->BK
open _root_.List renaming forall_mem_cons->BR
open _root_.Nat renaming mod_eq_of_lt->AL,le_refl->AM,mod_lt->AO,le_of_lt->Ba,mul_zero->BF,div_eq_of_lt->AR
open Go.RowKit
set_option maxRecDepth 100000
set_option linter.unusedSimpArgs false
set_option linter.unusedVariables false
namespace Go.Proofs.YtdjacgmmidbieaaGreatDoor.S8.Sc
section
set_option maxHeartbeats 4000000

theorem V0h:(List.range 16).map (Q9 LL)=[54253,23797,25370,22546,40150,41719,63966,5342,0,0,0,0,0,0,0,4096]:=by decide+kernel
theorem V0i:A16 LL=.agg #[.int .i64 54253,.int .i64 23797,.int .i64 25370,.int .i64 22546,.int .i64 40150,.int .i64 41719,.int .i64 63966,.int .i64 5342,.int .i64 0,.int .i64 0,.int .i64 0,.int .i64 0,.int .i64 0,.int .i64 0,.int .i64 0,.int .i64 4096]:=by
  unfold A16;rw[Q83,V0h];rfl
theorem V4s (w:AA):BI Tryz.prog 124 #[] w fun e w' =>V4 (A16 LL) w w' e:=by
  rw[V0i]
  go_enter Tryz.func124,Tryz.ntmps124
  go_wp2_with (first|(refine Q4t rfl 144 _ rfl #[.int .i64 54253,.int .i64 23797,.int .i64 25370,.int .i64 22546,.int .i64 40150,.int .i64 41719,.int .i64 63966,.int .i64 5342,.int .i64 0,.int .i64 0,.int .i64 0,.int .i64 0,.int .i64 0,.int .i64 0,.int .i64 0,.int .i64 4096] (by kernel_rfl) ?_)|(refine wpList_store_row rfl 144 (.tmp 0) (.tmp 1) rfl w.heap.size _ rfl rfl 144 _ (Y4 _ _ rfl) (by kernel_rfl) (by kernel_rfl) (by rfl) ?_))
  refine BH (results_cell_row rfl _ _ w.heap.size _ _ _ _ rfl (Y4 _ _ rfl) Tryz.underlying144 rfl (by kernel_rfl)) rfl ⟨rfl,?_⟩;exact bz

theorem Q21 (X Y:Nat)(hX:X<J8)(hY:Y<J8)(w:AA):
    BI Tryz.prog 125 #[A16 X,A16 Y] w fun e w' =>V4 (.bool (decide (X<Y))) w w' e:=by
  unfold A16
  go_enter Tryz.func125,Tryz.ntmps125
  go_wp2
  go_loopw [5] (fun ii wr=> ∃k:Nat,k≤16∧ii=.int .i64 ((k:Int)-1)∧Below w.heap.size w wr∧
      Blk wr w.heap.size (J0 .i64 16 (Q9 X)) 144∧Blk wr (w.heap.size+1) (J0 .i64 16 (Q9 Y)) 144∧Hid (∀i,k≤i→i<16→Q9 X i=Q9 Y i))
    (fun ii _=>(intOf ii+1).toNat)
  case atStart=>
    refine⟨16,AM _,rfl,?_,Z6 (Y4 _ _ rfl) _,Y4 _ _ (by simp),fun i h1 h2=>by omega⟩;exact bz
  case round=>
    obtain⟨k,hk,rfl,D,b2,b3,HE⟩:=hrel
    by_cases G:k=0
    · subst G
      go_wp2
      go_ret
      refine⟨?_,D⟩;have:X=Y:=Y2c hX hY (fun i hi=>HE i (Nat.zero_le _) hi);rw[this,show decide (Y<Y)=false by simp];rfl
    obtain⟨m,rfl⟩:∃m,k=m+1:=⟨k-1,by omega⟩
    have e1:((m+1:Nat):Int)-1=(m:Int):=by omega
    rw[e1];clear G e1;have hm:(m:Int)<16:=by omega
    have c2:=(J5 b2 m).trans (Q6 _ _ _ _ (by omega));have c3:=(J5 b3 m).trans (Q6 _ _ _ _ (by omega))
    by_cases he:Q9 X m=Q9 Y m
    · have HE' :Hid (∀i,m≤i→i<16→Q9 X i=Q9 Y i):=fun i h1 h2=>by
        by_cases h:i=m
        · subst h;exact he
        exact HE i (by omega) h2
      have hb:(Q9 X m !=Q9 Y m)=false:=by simp[he]
      clear he;go_wp2
      go_region
      go_wp2;go_roundw
      case rel=>exact⟨m,by omega,rfl,D.drew,Y3 b2,Y3 b3,HE'⟩
      case measure=>(first|(simp[intOf];done)|(simp[intOf];omega))
    have hb:(Q9 X m !=Q9 Y m)=true:=by simp[he]
    have hv:decide (X<Y)=decide (Q9 X m<Q9 Y m):=by
      rw[Bool.eq_iff_iff,decide_eq_true_iff,decide_eq_true_iff];constructor
      · intro h
        exact Int.lt_of_not_ge fun J=>by
          have:=Q16 m (by omega) hY hX (fun i h1 h2=>(HE i (by omega) h2).symm) (by omega);omega
      exact Q16 m (by omega) hX hY (fun i h1 h2=>HE i (by omega) h2)
    have HV:=BK hv;clear he hv;go_wp2
    go_region
    go_wp2
    go_region
    go_wp2
    go_ret
    refine⟨by rw[HV.out];rfl,?_⟩;exact bz
end

section
set_option maxHeartbeats 4000000

theorem J4d (X Y k:Nat)(h:Y≤X):
    AI.i64.wrap (Q9 X k-Q9 Y k)=Q9 X k-Q9 Y k∧
    ((J17 X Y (k+1)=0∧AI.i64.wrap (Q9 X k-Q9 Y k-(J17 X Y k:Int))=Q9 (X-Y) k∧decide (Q9 (X-Y) k<0)=false)∨
     (J17 X Y (k+1)=1∧∃e:Int,AI.i64.wrap (Q9 X k-Q9 Y k-(J17 X Y k:Int))=e∧decide (e<0)=true∧AI.i64.wrap (e+65536)=Q9 (X-Y) k)):=by
  have r1:=X7 X k;have r2:=X7 Y k;have r3:=J53 X Y k;have r4:=X7 (X-Y) k;have r5:=J53 X Y (k+1);have hs:=Q2k X Y k h;refine⟨IntWalk.i64_in _ (by omega),?_⟩;rw[IntWalk.i64_in _ (show _ by omega),hs];rcases Nat.lt_or_ge (J17 X Y (k+1)) 1 with h0|h1
  · refine .inl ⟨by omega,?_,decide_eq_false (by omega)⟩
    rw[show J17 X Y (k+1)=0 by omega];omega
  refine .inr ⟨by omega,_,rfl,decide_eq_true ?_,?_⟩
  · rw[show J17 X Y (k+1)=1 by omega];omega
  rw[show J17 X Y (k+1)=1 by omega,IntWalk.i64_in _ (by omega)];omega
theorem Q93 (X Y k:Nat):bits .and .i64 (Q9 X k+Q9 Y k+(J32 X Y k:Int)) 65535=Q9 (X+Y) k∧(Q9 X k+Q9 Y k+(J32 X Y k:Int)) / 65536=(J32 X Y (k+1):Int):=by
  have r1:=X7 X k;have r2:=X7 Y k;have r3:=Q2i X Y k;have r4:=X7 (X+Y) k;have h:=Q2j X Y k;rw[Q4x _ (by omega) (by omega)];omega

theorem radd_c (X Y:Nat)(hX:X<LL)(hY:Y<LL)(w:AA):
    BI Tryz.prog 86 #[A16 X,A16 Y] w fun e w' =>V4 (A16 ((X+Y) % LL)) w w' e:=by
  obtain⟨S,hS⟩:∃S,S=X+Y:=⟨_,rfl⟩
  have δ:S % LL=if S<LL then S else S-LL:=by
    by_cases h:S<LL
    · rw[if_pos h,AL h]
    rw[if_neg h,Nat.mod_eq_sub_mod (by omega),AL (by omega)]
  have Z:S<J8:=by unfold LL at hX hY;unfold J8;omega
  rw[←hS];have HS:=BK hS;have α:=BK δ;have ε:=BK Z;have HX:=BK hX;have HY:=BK hY;clear hS δ Z hX hY;unfold A16
  go_enter Tryz.func86,Tryz.ntmps86
  go_wp2
  go_loopw [5,6] (fun oo ii wr=> ∃k:Nat,k≤16∧ii=.int .i64 k∧oo=.int .i64 (J32 X Y k)∧Below w.heap.size w wr∧
      Blk wr w.heap.size (J0 .i64 16 (J54 k (Q9 S) (Q9 X))) 144∧Blk wr (w.heap.size+1) (J0 .i64 16 (Q9 Y)) 144∧Blk wr (w.heap.size+2) (J0 .i64 16 (fun _=>0)) 144)
    (fun _ ii _=>(16-intOf ii).toNat)
  case atStart=>
    refine⟨0,by omega,rfl,by rw[Z0c];rfl,?_,?_,Z6 (Y4 _ _ (by simp)) _,Y4 _ _ (by simp)⟩
    · exact bz
    rw[J33];exact Z6 (Z6 (Y4 _ _ rfl) _) _
  case round=>
    obtain⟨k,hk,rfl,rfl,G,b1,b2,b3⟩:=hrel
    by_cases R:k=16
    · subst R
      rw[J4a] at b1;have Z:=ε.out;have θ.size:=G.size;have sb:=Q3 b3
      by_cases U:S<LL
      · have hd:decide (S<LL)=true:=by simp[U]
        have hv:S % LL=S:=by rw[α.out,if_pos U]
        clear α U
        go_wp2_with (first
          |(go_at_call 124;refine(V4s _).mono ?_;rintro e w1 ⟨rfl,J⟩;unfold A16;have b1:=J3 b1 J;have b2:=J3 b2 J;have b3:=J3 b3 J)
          | (refine wpList_store_row rfl 144 (.tmp 8) (.tmp 31) rfl w1.heap.size _ rfl rfl 144 _ (Y4 _ _ rfl) (by kernel_rfl) (by kernel_rfl) (Z8 _ _ _) ?_
             refine Q4r (fun W=>Below w.heap.size w W∧Blk W w.heap.size (J0 .i64 16 (Q9 S)) 144∧Blk W (w.heap.size+2) (J0 .i64 16 (fun _=>0)) 144∧Blk W w1.heap.size (J0 .i64 16 (Q9 LL)) 144∧Hid (w.heap.size+2<w1.heap.size)) ⟨(K0 ((K5 G J G.size).alloc (by have:=G.size;have:=J.size;omega) _) (by have:=G.size;have:=J.size;omega) _),Y6 (Z6 b1 _) (by have:=Q3 b1;omega) _,Y6 (Z6 b3 _) (by have:=Q3 b3;omega) _,X6 (Y4 _ _ rfl) _,BK (Q3 b3)⟩ ?_
             rintro w2 ⟨M,c1,c3,T,HW⟩)
          |(refine wpList_load_row rfl 144 (.tmp 2) rfl w.heap.size rfl _ _ _ _ c1 Tryz.underlying144 rfl (by kernel_rfl) ?_)
          |(refine wpList_load_row rfl 144 (.tmp 8) rfl w1.heap.size rfl _ _ _ _ T Tryz.underlying144 rfl (by kernel_rfl) ?_)
          |(go_at_call 125;refine(Q21 S LL Z (by decide) _).mono ?_;rintro e w3 ⟨rfl,N⟩;have c1:=J3 c1 N;have c3:=J3 c3 N;have T:=J3 T N;have V:=K5 M N M.size)
          |(refine wpList_store_row rfl 144 (.tmp 4) (.tmp 35) rfl (w.heap.size+2) _ rfl rfl 144 _ c3 (by kernel_rfl) (by kernel_rfl) (Z8 _ _ _) ?_))
        refine BH (results_cell_row rfl _ _ (w.heap.size+2) _ _ _ _ rfl (X6 c3 _) Tryz.underlying144 rfl (by kernel_rfl)) rfl ⟨by rw[hv],K0 V (by omega) _⟩
      have hd:decide (S<LL)=false:=by simp[U]
      have hv:S % LL=S-LL:=by rw[α.out,if_neg U]
      have γ:=Nat.le_of_not_lt U;clear α U
      go_wp2_with (first
        |(go_at_call 124;refine(V4s _).mono ?_;rintro e w1 ⟨rfl,J⟩;unfold A16;have b1:=J3 b1 J;have b2:=J3 b2 J;have b3:=J3 b3 J)
        | (refine wpList_store_row rfl 144 (.tmp 8) (.tmp 31) rfl w1.heap.size _ rfl rfl 144 _ (Y4 _ _ rfl) (by kernel_rfl) (by kernel_rfl) (Z8 _ _ _) ?_
           refine Q4r (fun W=>Below w.heap.size w W∧Blk W w.heap.size (J0 .i64 16 (Q9 S)) 144∧Blk W (w.heap.size+2) (J0 .i64 16 (fun _=>0)) 144∧Blk W w1.heap.size (J0 .i64 16 (Q9 LL)) 144∧Hid (w.heap.size+2<w1.heap.size)) ⟨(K0 ((K5 G J G.size).alloc (by have:=G.size;have:=J.size;omega) _) (by have:=G.size;have:=J.size;omega) _),Y6 (Z6 b1 _) (by have:=Q3 b1;omega) _,Y6 (Z6 b3 _) (by have:=Q3 b3;omega) _,X6 (Y4 _ _ rfl) _,BK (Q3 b3)⟩ ?_
           rintro w2 ⟨M,c1,c3,T,HW⟩)
        |(refine wpList_load_row rfl 144 (.tmp 2) rfl w.heap.size rfl _ _ _ _ c1 Tryz.underlying144 rfl (by kernel_rfl) ?_)
        |(refine wpList_load_row rfl 144 (.tmp 8) rfl w1.heap.size rfl _ _ _ _ T Tryz.underlying144 rfl (by kernel_rfl) ?_)
        |(go_at_call 125;refine(Q21 S LL Z (by decide) _).mono ?_;rintro e w3 ⟨rfl,N⟩;have c1:=J3 c1 N;have c3:=J3 c3 N;have T:=J3 T N;have V:=K5 M N M.size)
        )
      have HD:=BK hv;clear hv;obtain⟨D,hD⟩:∃D,D=S-LL:=⟨_,rfl⟩
      rw[←hD] at HD;have ζ:=BK hD;clear hD;have η:=BK γ;clear γ;refine Q2e (fun W=>Below w.heap.size w W∧Blk W w.heap.size (J0 .i64 16 (Q9 S)) 144∧Blk W (w.heap.size+2) (J0 .i64 16 (fun _=>0)) 144∧Blk W w1.heap.size (J0 .i64 16 (Q9 LL)) 144) ⟨V,c1,c3,T⟩ ?_;rintro w4 ⟨β,c1,c3,c4⟩
      go_loopw [9,10] (fun oo ii wr=> ∃k:Nat,k≤16∧ii=.int .i64 k∧oo=.int .i64 (J17 S LL k)∧Below w.heap.size w wr∧
          Blk wr w.heap.size (J0 .i64 16 (J54 k (Q9 D) (Q9 S))) 144∧Blk wr (w.heap.size+2) (J0 .i64 16 (fun _=>0)) 144∧Blk wr w1.heap.size (J0 .i64 16 (Q9 LL)) 144)
        (fun _ ii _=>(16-intOf ii).toNat)
      case atStart=>exact⟨0,by omega,rfl,by rw[J6f];rfl,β,by rw[J33];exact c1,c3,c4⟩
      case round=>
        obtain⟨k,hk,rfl,rfl,G,b1,b2,b3⟩:=hrel
        by_cases R:k=16
        · subst R
          rw[J4a] at b1
          go_wp2_with (first
            |(refine wpList_load_row rfl 144 (.tmp 2) rfl w.heap.size rfl _ _ _ _ b1 Tryz.underlying144 rfl (by kernel_rfl) ?_)
            |(refine wpList_store_row rfl 144 (.tmp 4) (.tmp 56) rfl (w.heap.size+2) _ rfl rfl 144 _ b2 (by kernel_rfl) (by kernel_rfl) (Z8 _ _ _) ?_))
          refine BH (results_cell_row rfl _ _ (w.heap.size+2) _ _ _ _ rfl (X6 b2 _) Tryz.underlying144 rfl (by kernel_rfl)) rfl ⟨by rw[HD.out],K0 G (by omega) _⟩
        have hk' :(k:Int)<16:=by omega
        have c1:=(J5 b1 k).trans (Q6 _ _ _ _ (by omega));rw[J5k] at c1;have c2:=(J5 b3 k).trans (Q6 _ _ _ _ (by omega));have f1:=V3 b1;have hlt' :=HW.out;have hp:=J4d S LL k η.out;rw[←ζ.out] at hp;obtain⟨d1,⟨hb,d2,d3⟩|⟨hb,e,d2,d3,d4⟩⟩:=hp
        · clear R
          go_wp2
          go_region
          go_wp2;go_roundw
          case rel=>
            have hs:=Z7 b1 k (.int .i64 (Q9 D k));rw[J37] at hs;refine⟨k+1,by omega,by go_num,by rw[hb];rfl,?_,Y3 hs,Y3 (J4 b2 (by omega) _ _),Y3 (J4 b3 (by omega) _ _)⟩;exact bz
          case measure=>simp[intOf];omega
        clear R;go_wp2
        go_region
        go_wp2;go_roundw
        case rel=>
          have hs:=Z7 b1 k (.int .i64 (Q9 D k));rw[J37] at hs;refine⟨k+1,by omega,by go_num,by rw[hb];rfl,?_,Y3 hs,Y3 (J4 b2 (by omega) _ _),Y3 (J4 b3 (by omega) _ _)⟩;exact bz
        case measure=>simp[intOf];omega
    have hk' :(k:Int)<16:=by omega
    have c1:=(J5 b1 k).trans (Q6 _ _ _ _ (by omega));rw[J5k] at c1;have c2:=(J5 b2 k).trans (Q6 _ _ _ _ (by omega));have f1:=V3 b1;have r1:=X7 X k;have r2:=X7 Y k;have r3:=Q2i X Y k;have d1:AI.i64.wrap (Q9 X k+Q9 Y k)=Q9 X k+Q9 Y k:=IntWalk.i64_in _ (by omega);have d2:AI.i64.wrap (Q9 X k+Q9 Y k+(J32 X Y k:Int))=Q9 X k+Q9 Y k+(J32 X Y k:Int):=IntWalk.i64_in _ (by omega);have hp:=Q93 X Y k;rw[←HS.out] at hp;have h1:=hp.1;have h2:=hp.2;clear hp R;go_wp2
    go_region
    go_wp2;go_roundw
    case rel=>
      have hs:=Z7 b1 k (.int .i64 (Q9 S k));rw[J37] at hs;refine⟨k+1,by omega,by go_num,rfl,?_,Y3 hs,Y3 (J4 b2 (by omega) _ _),Y3 (J4 b3 (by omega) _ _)⟩;exact bz
    case measure=>simp[intOf];omega
end

section
set_option maxHeartbeats 1000000

end

section
set_option maxHeartbeats 1000000

theorem Q74 (X k:Nat):AI.u8.wrap (Q9 X k)=J6 X (2*k)∧AI.u8.wrap (Q9 X k / 256)=J6 X (2*k+1):=by
  unfold Q9 J6;rw[AI.wrap_u8,AI.wrap_u8,show 8*(2*k)=16*k by omega,show 8*(2*k+1)=16*k+8 by omega,Nat.pow_add,←Nat.div_div_eq_div_mul];generalize X / 2^(16*k)=x;constructor<;>omega

theorem rbytes_c (X:Nat)(w:AA):BI Tryz.prog 85 #[A16 X] w fun e w' =>V4 (J9p 32 (J6 X)) w w' e:=by
  obtain⟨i0,hi,U,T,V⟩:=info_parts Q8a;unfold A16
  go_enter Tryz.func85,Tryz.ntmps85
  go_wp2
  go_loopw [3,4] (fun v ii wr=> ∃k:Nat,k≤16∧ii=.int .i64 k∧Below w.heap.size w wr∧wr.ownsRow (w.heap.size+1) 5 1 v (2*k) (J5g .u8 (2*k) (J6 X))∧
      Blk wr w.heap.size (J0 .i64 16 (Q9 X)) 144)
    (fun _ ii _=>(16-intOf ii).toNat)
  case atStart=>
    refine⟨0,by omega,rfl,?_,?_,Z6 (Y4 _ _ rfl) _⟩
    · exact bz
    exact⟨rfl,.inr ⟨w.heap.size+1,0,#[],rfl,AM _,Y4 _ _ (by simp),AM _,by decide,rfl,rfl⟩⟩
  case round=>
    obtain⟨k,hk,rfl,G,D,b1⟩:=hrel
    by_cases S:k=16
    · subst S
      have hc:=J7h Tryz.underlying45 Tryz.underlying5 D 9 Tryz.underlying9;go_wp2
      go_ret
      exact⟨rfl,G⟩
    have hk' :(k:Int)<16:=by omega
    have c1:=(J5 b1 k).trans (Q6 _ _ _ _ (by omega));have r1:=X7 X k;obtain⟨α,β⟩:=Q74 X k;have R.size:=G.size;have HB:=BK G.size;have ag:u3.ownBlock≠some w.heap.size:=fun h=>by have:=(D.lt _ h).1;omega
    have M:∀k,u3.ownBlock=some k→w.heap.size+1≤k:=fun k hk=>(D.lt k hk).1;have HO:=BK M;clear M
    go_wp2_with fail
    go_region_held3 (fun W=>W.cell? ⟨w.heap.size,k,none⟩=some (.int .i64 (Q9 X k)))
      (first
        |go_keep
        |(rw[J.cell_far _ (by simp;omega) (Ne.symm ag)];first|assumption|(simp[*];done)))
      ((refine step_append_lies _ (by rfl) (.tmp 10) (.tmp 20) 45 (by rfl) (w.heap.size+1) 5 i0 (.int .u8 0) 1 1 Tryz.underlying45 hi U T V rfl (by omega) u3 (2*k) (J5g .u8 (2*k) (J6 X)) (by rfl) (by first|exact(D.alloc _).drew|exact(D.drew).alloc _)
          ⟨wr.heap.size,0,none⟩ 2 2 [.int .u8 (J6 X (2*k)),.int .u8 (J6 X (2*k+1))] (by rfl) (by rfl) (AA.news_of_block (cs:= #[.int .u8 (J6 X (2*k)),.int .u8 (J6 X (2*k+1))]) (t:=5) (fr:=(0,0)) (heap_alloc_new wr _)) (by simp[Value.oneCell'])
          (by omega) (by unfold maxLen;omega) (by omega) (by simp;omega) (wr.heap.size+1) (by simp) ?_;intro gg Y w1 N J γ Z))
    have M:=HO.out;rw[List.append_cons,←J89,←J89] at N;have hbel' :=Q56 ((G.alloc R.size (.cells #[.int .u8 (J6 X (2*k)),.int .u8 (J6 X (2*k+1))] 5)).drew) J (by simp;omega) (fun k hk=>by have:=M k hk;omega);have b1' :=Q57 (Y3 (Z6 b1 _)) J (fun k hk=>by have:=M k hk;omega);go_wp2;go_roundw
    case rel=>
      exact⟨k+1,by omega,by go_num,hbel',N,b1'⟩
    case measure=>simp[intOf];omega
end

section
set_option maxHeartbeats 1000000

theorem Z5s (T p:Nat):(T / 2^p % 2=0→(T / 2^(p+1) % LL+T / 2^(p+1) % LL) % LL=T / 2^p % LL)∧
    (T / 2^p % 2=1→((T / 2^(p+1) % LL+T / 2^(p+1) % LL) % LL+1) % LL=T / 2^p % LL):=by
  rw[Nat.pow_succ,←Nat.div_div_eq_div_mul];generalize T / 2^p=U;constructor
  · intro h
    rw[←Nat.add_mod,show U / 2+U / 2=U by omega]
  intro h;rw[←Nat.add_mod,Nat.add_mod,Nat.mod_mod,←Nat.add_mod,show U / 2+U / 2+1=U by omega]
theorem Z9p (T i k:Nat)(hk:k<8):J6 T i / 2^k % 2=((T / 2^(8*i+k) % 2:Nat):Int):=by
  unfold J6;rw[Nat.pow_add,←Nat.div_div_eq_div_mul];generalize T / 2^(8*i)=x;have h:k=0∨k=1∨k=2∨k=3∨k=4∨k=5∨k=6∨k=7:=by omega
  rcases h with rfl|rfl|rfl|rfl|rfl|rfl|rfl|rfl<;>simp only[Nat.reducePow,Int.reducePow]<;>omega
theorem Y41:A16 1=.agg #[.int .i64 1,.int .i64 0,.int .i64 0,.int .i64 0,.int .i64 0,.int .i64 0,.int .i64 0,.int .i64 0,.int .i64 0,.int .i64 0,.int .i64 0,.int .i64 0,.int .i64 0,.int .i64 0,.int .i64 0,.int .i64 0]:=by
  unfold A16;rw[Q83,show(List.range 16).map (Q9 1)=[1,0,0,0,0,0,0,0,0,0,0,0,0,0,0,0] by decide+kernel];rfl
theorem Q3p:J0 .i64 16 (Q9 0)=J0 .i64 16 (fun _=>0):=K6 _ _ _ _ (fun i _=>by simp[Q9])
end

section
set_option maxHeartbeats 4000000

theorem rof_c (n T:Nat)(hT:T<2^(8*n))(hn:n≤700)(w:AA):
    BI Tryz.prog 84 #[J9p n (J6 T)] w fun e w' =>V4 (A16 (T % LL)) w w' e:=by
  have θ:T / 2^(8*n) % LL=0:=by rw[AR hT];rfl
  have α:=fun i (hi:i<n) (W:AA)=>Q30 (P:=Tryz.prog) 9 Tryz.underlying9 n (J6 T) (fun j _=>J2v T j) i hi W;have ρ:=J4y n (J6 T);unfold J9p;obtain⟨S,hS⟩:∃S,S=strOfNums ((List.range n).map (J6 T)):=⟨_,rfl⟩
  rw[←hS] at α ρ⊢;have μ:=BK θ;have ν:=BK α;clear hS hT θ α
  go_enter Tryz.func84,Tryz.ntmps84
  go_wp2
  go_loopw [4,5] (fun ii _ wr=> ∃m:Nat,m≤n∧ii=.int .i64 ((m:Int)-1)∧Below w.heap.size w wr∧
      Blk wr w.heap.size (J0 .i64 16 (fun _=>0)) 144∧Blk wr (w.heap.size+1) (J0 .i64 16 (Q9 (T / 2^(8*m) % LL))) 144)
    (fun ii _ _=>(intOf ii+1).toNat)
  case atStart=>
    refine⟨n,AM _,rfl,?_,Z6 (Y4 _ _ rfl) _,?_⟩
    · exact bz
    rw[μ.out,Q3p];exact Y4 _ _ (by simp)
  case round=>
    obtain⟨m,hm,rfl,D,b1,b2⟩:=hrel
    by_cases κ:m=0
    · subst κ
      go_wp2_with (first
        |(refine wpList_load_row rfl 144 (.tmp 3) rfl (w.heap.size+1) rfl _ _ _ _ b2 Tryz.underlying144 rfl (by kernel_rfl) ?_)
        |(refine wpList_store_row rfl 144 (.tmp 2) (.tmp 30) rfl w.heap.size _ rfl rfl 144 _ b1 (by kernel_rfl) (by kernel_rfl) (Z8 _ _ _) ?_))
      refine BH (results_cell_row rfl _ _ w.heap.size _ _ _ _ rfl (X6 b1 _) Tryz.underlying144 rfl (by kernel_rfl)) rfl ⟨?_,K0 D (by omega) _⟩;rw[BF,Nat.pow_zero,Nat.div_one];rfl
    obtain⟨i,rfl⟩:∃i,m=i+1:=⟨m-1,by omega⟩
    have e1:((i+1:Nat):Int)-1=(i:Int):=by omega
    rw[e1];clear κ e1;have hi:=ν.out i (by omega);have HI:=BK hi;clear hi;go_wp2
    go_loopw [5] (fun kk wr=> ∃k:Nat,k≤8∧kk=.int .i64 ((k:Int)-1)∧Below w.heap.size w wr∧
        Blk wr w.heap.size (J0 .i64 16 (fun _=>0)) 144∧Blk wr (w.heap.size+1) (J0 .i64 16 (Q9 (T / 2^(8*i+k) % LL))) 144)
      (fun kk _=>(intOf kk+1).toNat)
    case atStart=>exact⟨8,AM _,rfl,D,b1,b2⟩
    case round=>
      clear D b1 b2;obtain⟨k,hk,rfl,D,b1,b2⟩:=hrel
      by_cases ε:k=0
      · subst ε
        go_wp2;go_roundw
        case rel=>exact⟨i,by omega,rfl,D,b1,b2⟩
        case measure=>(first|(simp[intOf];done)|(simp[intOf];omega))
      obtain⟨j,rfl⟩:∃j,k=j+1:=⟨k-1,by omega⟩
      have e1:((j+1:Nat):Int)-1=(j:Int):=by omega
      rw[e1];clear ε e1;have hi:=HI.out;have τ:(j:Int)<8:=by omega
      have σ:(0:Int)≤(i:Int):=by omega
      have γ.size:=D.size;have δ:=Z9p T i j (by omega);obtain⟨M,J⟩:=Z5s T (8*i+j);have hU:=AO (T / 2^(8*i+(j+1))) (show 0<LL by decide);have HU:=BK hU;clear hU;obtain⟨N,hN⟩:∃N,N=T / 2^(8*i+(j+1)) % LL:=⟨_,rfl⟩
      rw[show 8*i+j+1=8*i+(j+1) by omega,←hN] at M J;rw[←hN] at b2 HU;clear hN
      have η:(J6 T i / 2^j).tmod 2=((T / 2^(8*i+j) % 2:Nat):Int):=by
        rw[←δ];exact Int.tmod_eq_emod_of_nonneg (Int.ediv_nonneg (J2v T i).1 (Int.le_of_lt (Int.pow_pos (by decide))))
      clear δ;have U:=radd_c N N HU.out HU.out;have X:=AO (N+N) (show 0<LL by decide);obtain⟨N2,Y⟩:∃N2,N2=(N+N) % LL:=⟨_,rfl⟩
      obtain⟨R,hR⟩:∃R,R=T / 2^(8*i+j) % LL:=⟨_,rfl⟩
      rw[←Y] at U M J X;rw[←hR] at M J;have HR:=BK hR;clear hR Y;unfold A16 at U;have Z:=BK U;clear U;rcases Nat.mod_two_eq_zero_or_one (T / 2^(8*i+j)) with h2|h2
      · rw[h2] at η
        rw[M h2] at Z;clear M J h2 X
        go_wp2_with (first
          |(refine wpList_load_row rfl 144 (.tmp 3) rfl (w.heap.size+1) rfl _ _ _ _ b2 Tryz.underlying144 rfl (by kernel_rfl) ?_)
          |(go_at_call 86;(with_reducible refine(Z.out _).mono ?_);rintro e w1 ⟨rfl,G⟩;have b1:=J3 b1 G;have b2:=J3 b2 G;have D:=K5 D G γ.size;have ζ:=D.size)
          |(refine wpList_store_row rfl 144 (.tmp 3) (.tmp 19) rfl (w.heap.size+1) _ rfl rfl 144 _ b2 (by kernel_rfl) (by kernel_rfl) (Z8 _ _ _) ?_;have b1:=Y6 b1 (show w.heap.size≠w.heap.size+1 by omega) (J0 .i64 16 (Q9 R));have b2:=X6 b2 (J0 .i64 16 (Q9 R));have D:=K0 D (show w.heap.size≤w.heap.size+1 by omega) (J0 .i64 16 (Q9 R))))
        go_roundw
        case rel=>exact⟨j,by omega,rfl,by assumption,by assumption,by rw[←HR.out];assumption⟩
        case measure=>(first|(simp[intOf];done)|(simp[intOf];omega))
      rw[h2] at η;have V:=radd_c N2 1 X (by decide);rw[J h2,Y41] at V;unfold A16 at V;have ξ:=BK V;clear M J h2 V X
      go_wp2_with (first
        |(refine wpList_load_row rfl 144 (.tmp 3) rfl (w.heap.size+1) rfl _ _ _ _ b2 Tryz.underlying144 rfl (by kernel_rfl) ?_)
        |(go_at_call 86;(with_reducible refine(Z.out _).mono ?_);rintro e w1 ⟨rfl,G⟩;have b1:=J3 b1 G;have b2:=J3 b2 G;have D:=K5 D G γ.size;have ζ:=D.size)
        |(refine wpList_store_row rfl 144 (.tmp 3) (.tmp 19) rfl (w.heap.size+1) _ rfl rfl 144 _ b2 (by kernel_rfl) (by kernel_rfl) (Z8 _ _ _) ?_;have b1:=Y6 b1 (show w.heap.size≠w.heap.size+1 by omega) (J0 .i64 16 (Q9 N2));have b2:=X6 b2 (J0 .i64 16 (Q9 N2));have D:=K0 D (show w.heap.size≤w.heap.size+1 by omega) (J0 .i64 16 (Q9 N2)))
        |(refine Q4t rfl 144 _ rfl #[.int .i64 1,.int .i64 0,.int .i64 0,.int .i64 0,.int .i64 0,.int .i64 0,.int .i64 0,.int .i64 0,.int .i64 0,.int .i64 0,.int .i64 0,.int .i64 0,.int .i64 0,.int .i64 0,.int .i64 0,.int .i64 0] (by kernel_rfl) ?_)
        |(go_at_call 86;(with_reducible refine(ξ.out _).mono ?_);rintro e w2 ⟨rfl,β⟩;have b1:=J3 b1 β;have b2:=J3 b2 β;have D:=K5 D β (by simp;exact ζ))
        |(refine wpList_store_row rfl 144 (.tmp 3) (.tmp 29) rfl (w.heap.size+1) _ rfl rfl 144 _ b2 (by kernel_rfl) (by kernel_rfl) (Z8 _ _ _) ?_;have b1:=Y6 b1 (show w.heap.size≠w.heap.size+1 by omega) (J0 .i64 16 (Q9 R));have b2:=X6 b2 (J0 .i64 16 (Q9 R));have D:=K0 D (show w.heap.size≤w.heap.size+1 by omega) (J0 .i64 16 (Q9 R))))
      go_roundw
      case rel=>exact⟨j,by omega,rfl,by assumption,by assumption,by rw[←HR.out];assumption⟩
      case measure=>(first|(simp[intOf];done)|(simp[intOf];omega))
end

section
set_option maxHeartbeats 4000000

theorem Z9q (T p X:Nat):(T / 2^p % 2=0→(T / 2^(p+1)*X % LL+T / 2^(p+1)*X % LL) % LL=T / 2^p*X % LL)∧
    (T / 2^p % 2=1→((T / 2^(p+1)*X % LL+T / 2^(p+1)*X % LL) % LL+X) % LL=T / 2^p*X % LL):=by
  rw[Nat.pow_succ,←Nat.div_div_eq_div_mul];generalize T / 2^p=U;constructor
  · intro h
    rw[←Nat.add_mod,←Nat.add_mul,show U / 2+U / 2=U by omega]
  intro h;rw[←Nat.add_mod,Nat.add_mod,Nat.mod_mod,←Nat.add_mod,←Nat.add_mul];rw[show(U / 2+U / 2)*X+X=(U / 2+U / 2+1)*X by rw[Nat.add_mul _ 1,Nat.one_mul],show U / 2+U / 2+1=U by omega]

theorem rmul_c (X T:Nat)(hX:X<LL)(hT:T<J8)(w:AA):
    BI Tryz.prog 87 #[A16 X,A16 T] w fun e w' =>V4 (A16 (X*T % LL)) w w' e:=by
  have ν:T / 2^(8*32)*X % LL=0:=by rw[AR (show T<2^(8*32) from hT),Nat.zero_mul];rfl
  have U:=rbytes_c T;have δ:=fun i (hi:i<32) (W:AA)=>Q30 (P:=Tryz.prog) 9 Tryz.underlying9 32 (J6 T) (fun j _=>J2v T j) i hi W;have χ:=J4y 32 (J6 T);unfold J9p at U;obtain⟨S,hS⟩:∃S,S=strOfNums ((List.range 32).map (J6 T)):=⟨_,rfl⟩
  rw[←hS] at δ χ U;unfold A16 at U;have ρ:=BK U;have σ:=BK ν;have τ:=BK δ;have HX:=BK hX;clear hS hT ν δ U hX;unfold A16
  go_enter Tryz.func87,Tryz.ntmps87
  go_wp2_with (first
    |(refine wpList_load_row rfl 144 (.tmp 3) rfl (w.heap.size+1) rfl _ _ _ _ (Z6 (Z6 (Y4 (J0 .i64 16 (Q9 T)) 144 (by simp)) _) _) Tryz.underlying144 rfl (by kernel_rfl) ?_)
    |(go_at_call 85;(with_reducible refine(ρ.out _).mono ?_);rintro e w1 ⟨rfl,G⟩))
  have b1:Blk w1 (w.heap.size+2) (J0 .i64 16 (fun _=>0)) 144:=J3 (Z6 (Y4 _ _ (by simp)) _) G;have b2:Blk w1 (w.heap.size+3) (J0 .i64 16 (fun _=>0)) 144:=J3 (Y4 _ _ (by simp)) G;have b3:Blk w1 w.heap.size (J0 .i64 16 (Q9 X)) 144:=J3 (Z6 (Z6 (Z6 (Y4 _ _ rfl) _) _) _) G;have η:Below w.heap.size w w1:=K5 bz G (by simp only[AA.size_alloc];omega)
  go_loopw [7,8] (fun ii _ wr=> ∃m:Nat,m≤32∧ii=.int .i64 ((m:Int)-1)∧Below w.heap.size w wr∧
      Blk wr (w.heap.size+2) (J0 .i64 16 (fun _=>0)) 144∧Blk wr (w.heap.size+3) (J0 .i64 16 (Q9 (T / 2^(8*m)*X % LL))) 144∧Blk wr w.heap.size (J0 .i64 16 (Q9 X)) 144)
    (fun ii _ _=>(intOf ii+1).toNat)
  case atStart=>
    exact⟨32,AM _,rfl,η,b1,by rw[σ.out,Q3p];exact b2,b3⟩
  case round=>
    obtain⟨m,hm,rfl,D,b1,b2,b3⟩:=hrel
    by_cases ξ:m=0
    · subst ξ
      go_wp2_with (first
        |(refine wpList_load_row rfl 144 (.tmp 5) rfl (w.heap.size+3) rfl _ _ _ _ b2 Tryz.underlying144 rfl (by kernel_rfl) ?_)
        |(refine wpList_store_row rfl 144 (.tmp 4) (.tmp 32) rfl (w.heap.size+2) _ rfl rfl 144 _ b1 (by kernel_rfl) (by kernel_rfl) (Z8 _ _ _) ?_))
      refine BH (results_cell_row rfl _ _ (w.heap.size+2) _ _ _ _ rfl (X6 b1 _) Tryz.underlying144 rfl (by kernel_rfl)) rfl ⟨?_,K0 D (by omega) _⟩;rw[BF,Nat.pow_zero,Nat.div_one,Nat.mul_comm T X]
    obtain⟨i,rfl⟩:∃i,m=i+1:=⟨m-1,by omega⟩
    have e1:((i+1:Nat):Int)-1=(i:Int):=by omega
    rw[e1];clear ξ e1;have hi:=τ.out i (by omega);have HI:=BK hi;clear hi;go_wp2
    go_loopw [8] (fun kk wr=> ∃k:Nat,k≤8∧kk=.int .i64 ((k:Int)-1)∧Below w.heap.size w wr∧
        Blk wr (w.heap.size+2) (J0 .i64 16 (fun _=>0)) 144∧Blk wr (w.heap.size+3) (J0 .i64 16 (Q9 (T / 2^(8*i+k)*X % LL))) 144∧Blk wr w.heap.size (J0 .i64 16 (Q9 X)) 144)
      (fun kk _=>(intOf kk+1).toNat)
    case atStart=>exact⟨8,AM _,rfl,D,b1,b2,b3⟩
    case round=>
      clear D b1 b2 b3;obtain⟨k,hk,rfl,D,b1,b2,b3⟩:=hrel
      by_cases θ:k=0
      · subst θ
        go_wp2;go_roundw
        case rel=>exact⟨i,by omega,rfl,D,b1,b2,b3⟩
        case measure=>(first|(simp[intOf];done)|(simp[intOf];omega))
      obtain⟨j,rfl⟩:∃j,k=j+1:=⟨k-1,by omega⟩
      have e1:((j+1:Nat):Int)-1=(j:Int):=by omega
      rw[e1];clear θ e1;have hi:=HI.out;have ω:(j:Int)<8:=by omega
      have ψ:(0:Int)≤(i:Int):=by omega
      have ε.size:=D.size;have ζ:=Z9p T i j (by omega);obtain⟨M,J⟩:=Z9q T (8*i+j) X;have hU:=AO (T / 2^(8*i+(j+1))*X) (show 0<LL by decide);have HU:=BK hU;clear hU;obtain⟨N,hN⟩:∃N,N=T / 2^(8*i+(j+1))*X % LL:=⟨_,rfl⟩
      rw[show 8*i+j+1=8*i+(j+1) by omega,←hN] at M J;rw[←hN] at b2 HU;clear hN
      have μ:(J6 T i / 2^j).tmod 2=((T / 2^(8*i+j) % 2:Nat):Int):=by
        rw[←ζ];exact Int.tmod_eq_emod_of_nonneg (Int.ediv_nonneg (J2v T i).1 (Int.le_of_lt (Int.pow_pos (by decide))))
      clear ζ;have V:=radd_c N N HU.out HU.out;have α:=AO (N+N) (show 0<LL by decide);obtain⟨N2,β⟩:∃N2,N2=(N+N) % LL:=⟨_,rfl⟩
      obtain⟨R,hR⟩:∃R,R=T / 2^(8*i+j)*X % LL:=⟨_,rfl⟩
      rw[←β] at V M J α;rw[←hR] at M J;have HR:=BK hR;clear hR β;unfold A16 at V;have γ:=BK V;clear V;rcases Nat.mod_two_eq_zero_or_one (T / 2^(8*i+j)) with h2|h2
      · rw[h2] at μ
        rw[M h2] at γ;clear M J h2 α
        go_wp2_with (first
          |(refine wpList_load_row rfl 144 (.tmp 5) rfl (w.heap.size+3) rfl _ _ _ _ b2 Tryz.underlying144 rfl (by kernel_rfl) ?_)
          |(go_at_call 86;(with_reducible refine(γ.out _).mono ?_);rintro e w1 ⟨rfl,G⟩;have b1:=J3 b1 G;have b2:=J3 b2 G;have b3:=J3 b3 G;have D:=K5 D G ε.size;have κ:=D.size)
          |(refine wpList_store_row rfl 144 (.tmp 5) (.tmp 21) rfl (w.heap.size+3) _ rfl rfl 144 _ b2 (by kernel_rfl) (by kernel_rfl) (Z8 _ _ _) ?_;have b1:=Y6 b1 (show w.heap.size+2≠w.heap.size+3 by omega) (J0 .i64 16 (Q9 R));have b3:=Y6 b3 (show w.heap.size≠w.heap.size+3 by omega) (J0 .i64 16 (Q9 R));have b2:=X6 b2 (J0 .i64 16 (Q9 R));have D:=K0 D (show w.heap.size≤w.heap.size+3 by omega) (J0 .i64 16 (Q9 R))))
        go_roundw
        case rel=>exact⟨j,by omega,rfl,by assumption,by assumption,by rw[←HR.out];assumption,by assumption⟩
        case measure=>(first|(simp[intOf];done)|(simp[intOf];omega))
      rw[h2] at μ;have Y:=radd_c N2 X α HX.out;rw[J h2] at Y;unfold A16 at Y;have φ:=BK Y;clear M J h2 Y α
      go_wp2_with (first
        |(refine wpList_load_row rfl 144 (.tmp 5) rfl (w.heap.size+3) rfl _ _ _ _ b2 Tryz.underlying144 rfl (by kernel_rfl) ?_)
        |(go_at_call 86;(with_reducible refine(γ.out _).mono ?_);rintro e w1 ⟨rfl,G⟩;have b1:=J3 b1 G;have b2:=J3 b2 G;have b3:=J3 b3 G;have D:=K5 D G ε.size;have κ:=D.size)
        |(refine wpList_store_row rfl 144 (.tmp 5) (.tmp 21) rfl (w.heap.size+3) _ rfl rfl 144 _ b2 (by kernel_rfl) (by kernel_rfl) (Z8 _ _ _) ?_;have b1:=Y6 b1 (show w.heap.size+2≠w.heap.size+3 by omega) (J0 .i64 16 (Q9 N2));have b3:=Y6 b3 (show w.heap.size≠w.heap.size+3 by omega) (J0 .i64 16 (Q9 N2));have b2:=X6 b2 (J0 .i64 16 (Q9 N2));have D:=K0 D (show w.heap.size≤w.heap.size+3 by omega) (J0 .i64 16 (Q9 N2)))
        |(refine wpList_load_row rfl 144 (.tmp 2) rfl w.heap.size rfl _ _ _ _ b3 Tryz.underlying144 rfl (by kernel_rfl) ?_)
        |(go_at_call 86;(with_reducible refine(φ.out _).mono ?_);rintro e w2 ⟨rfl,Z⟩;have b1:=J3 b1 Z;have b2:=J3 b2 Z;have b3:=J3 b3 Z;have D:=K5 D Z (by simp;exact κ))
        |(refine wpList_store_row rfl 144 (.tmp 5) (.tmp 31) rfl (w.heap.size+3) _ rfl rfl 144 _ b2 (by kernel_rfl) (by kernel_rfl) (Z8 _ _ _) ?_;have b1:=Y6 b1 (show w.heap.size+2≠w.heap.size+3 by omega) (J0 .i64 16 (Q9 R));have b3:=Y6 b3 (show w.heap.size≠w.heap.size+3 by omega) (J0 .i64 16 (Q9 R));have b2:=X6 b2 (J0 .i64 16 (Q9 R));have D:=K0 D (show w.heap.size≤w.heap.size+3 by omega) (J0 .i64 16 (Q9 R))))
      go_roundw
      case rel=>exact⟨j,by omega,rfl,by assumption,by assumption,by rw[←HR.out];assumption,by assumption⟩
      case measure=>(first|(simp[intOf];done)|(simp[intOf];omega))
end

section
set_option maxHeartbeats 4000000

end

section
set_option maxHeartbeats 2000000

theorem Z15 (n:Nat)(f:Nat→Int)(hf:∀j,J4v (f j))(cap:Nat)(j:Nat)(hj:j<n):(bytesRow (strOfNums ((List.range n).map f)) cap)[j]?=some (.int .u8 (f j)):=by
  unfold bytesRow;have D:(strOfNums ((List.range n).map f)).data.size=n:=J4y n f;rw[Array.getElem?_append_left (by simp only[Array.size_map,D];exact hj)];simp only[strOfNums,List.map_map,Array.getElem?_map,List.getElem?_toArray,List.getElem?_map,List.getElem?_range hj,Option.map_some,Function.comp];obtain⟨h0,h1⟩:=hf j;have:(f j).toNat<256:=by omega
  simp[UInt8.toNat_ofNat',AL this,Int.toNat_of_nonneg h0]
def Cl (w:AA)(g:Nat)(f:Nat→Int):Prop:=(∀j,j<32→w.cell? ⟨g,j,none⟩=some (.int .u8 (f j)))∧(∀j,j<32→w.frozen? ⟨g,j,none⟩=false)∧g<w.heap.size

theorem V0j (w:AA)(bs:Nat→Int)(hbs:∀j,J4v (bs j))(S:ByteArray)(hS:S=strOfNums ((List.range 32).map bs))(c:Nat):
    Cl (w.drew.alloc (.cells (bytesRow S c) 5 ((bytesRow S c).size,(bytesRow S c).size+1))) w.heap.size bs:=by
  have D:S.size=32:=by rw[hS];exact J4y 32 bs
  have G:32≤(bytesRow S c).size:=by
    unfold bytesRow;rw[Array.size_append,Array.size_map];have:S.data.size=32:=D;omega
  refine⟨fun j hj=> ?_,fun j hj=> ?_,by rw[AA.size_alloc];exact Nat.lt_succ_self _⟩
  · have h1:=AA.cell?_alloc_mark w.drew (bytesRow S c) 5 ((bytesRow S c).size,(bytesRow S c).size+1) j
    refine Eq.trans h1 ?_;rw[hS];exact Z15 32 bs hbs c j hj
  have hh:(w.drew.alloc (.cells (bytesRow S c) 5 ((bytesRow S c).size,(bytesRow S c).size+1))).heap[w.heap.size]?=some (.cells (bytesRow S c) 5 ((bytesRow S c).size,(bytesRow S c).size+1)):=by
    show(w.heap.push _)[w.heap.size]?=_;simp
  have J:j<(bytesRow S c).size:=by omega
  simp only[AA.frozen?,hh];rw[decide_eq_false (show ¬(bytesRow S c).size≤j by omega)];rfl
theorem Z5t (w:AA)(g c:Nat)(f:Nat→Int)(h:Cl w g f):(convert 45 9 (.slice (some ⟨g,0,none⟩) 32 c)).run Tryz.prog w=.ok (.string (strOfNums ((List.range 32).map f))) w:=
  run_convert_bytes_arg w 45 5 Tryz.underlying45 Tryz.underlying5 g 0 32 c ((List.range 32).map f) (by simp) (fun i hi=>by rw[Nat.zero_add,h.1 i hi];simp[List.getD,hi]) 9 Tryz.underlying9
theorem Z9r (w:AA)(g i:Nat)(f:Nat→Int)(h:Cl w g f)(hi:i<32)(x:Int):Cl (w.setCell ⟨g,i,none⟩ (.int .u8 x)) g (upd f i x):=by
  refine⟨fun j hj=> ?_,fun j hj=> ?_,by rw[AA.size_setCell];exact h.2.2⟩
  · unfold upd
    by_cases he:j=i
    · subst he
      rw[if_pos rfl]
      first|exact AA.cell?_setCell_same _ (h.1 j hj)|exact AA.cell?_setCell_same _ _ _ (h.1 j hj)
    have D:(⟨g,i,none⟩:Addr)≠⟨g,j,none⟩:=by intro e;apply he;injection e with _ e2;exact e2.symm
    rw[if_neg he,AA.cell?_setCell_other _ _ _ _ D];exact h.1 j hj
  have:=AA.frozen?_setCells (g) [Value.int .u8 x] i w ⟨g,j,none⟩;rw[←h.2.1 j hj,←this];rfl
theorem Z9s {w:AA}{g:Nat}{f f' :Nat→Int}(h:Cl w g f)(he:∀j,j<32→f j=f' j):Cl w g f' :=
  ⟨fun j hj=>by rw[←he j hj];exact h.1 j hj,h.2⟩
theorem Z9t (w:AA)(g:Nat)(f:Nat→Int)(h:Cl w g f):Cl ((w.setCell ⟨g,0,none⟩ (.int .u8 (f 0-f 0 % 8))).setCell ⟨g,31,none⟩ (.int .u8 (f 31 % 64+64))).drew g (J1r f):=by
  have h2:=Z9r _ g 31 _ (Z9r w g 0 f h (by omega) (f 0-f 0 % 8)) (by omega) (f 31 % 64+64)
  exact Z9s (w:=((w.setCell ⟨g,0,none⟩ (.int .u8 (f 0-f 0 % 8))).setCell ⟨g,31,none⟩ (.int .u8 (f 31 % 64+64))).drew) h2 (fun j hj=>by
    unfold upd J1r
    by_cases h:j=31
    · subst h;rfl
    by_cases h2:j=0
    · subst h2;rfl
    simp[h,h2])

theorem rclamp_c (bs:Nat→Int)(hbs:∀j,J4v (bs j))(w:AA):
  BI Tryz.prog 38 #[J9p 32 bs] w fun e w' =>V4 (J9p 32 (J1r bs)) w w' e:=by
 have M:=fun(W:AA)=>run_bytes_of_string (P:=Tryz.prog) W 9 45 5 (strOfNums ((List.range 32).map bs)) Tryz.underlying9 Tryz.underlying45 Tryz.underlying5;have R:=J4y 32 bs;unfold J9p;have G:=fun(c:Nat)=>V0j w bs hbs _ rfl c;have J:=fun(g c:Nat)(W:AA)(h:Cl W g (J1r bs))=>Z5t W g c (J1r bs) h;obtain⟨S,hS⟩:∃S,S=strOfNums ((List.range 32).map bs):=⟨_,rfl⟩
 rw[←hS] at M R G⊢;rw[R] at M;have r0:=hbs 0;have N:=hbs 31;unfold J4v at r0 N;have m1:(bs 0).tmod 8=bs 0 % 8:=Int.tmod_eq_emod_of_nonneg r0.1;have m2:(bs 31).tmod 64=bs 31 % 64:=Int.tmod_eq_emod_of_nonneg N.1;have m3:AI.u8.wrap (bs 0-bs 0 % 8)=bs 0-bs 0 % 8:=by rw[AI.wrap_u8];omega
 have m4:AI.u8.wrap (bs 31 % 64+64)=bs 31 % 64+64:=by rw[AI.wrap_u8];omega
 have HN:=BK G;have U:=BK J;clear G J hS hbs
 go_enter Tryz.func38,Tryz.ntmps38
 go_upto_region 2 with fail;refine Q2e (fun W=>Below w.heap.size w W∧Cl W w.heap.size bs) ⟨bz,HN.out _⟩ ?_;rintro W ⟨T,D⟩;have c0:=D.1 0 (by omega);have Y:=D.1 31 (by omega);have f0:=D.2.1 0 (by omega);have X:=D.2.1 31 (by omega);have hg:=D.2.2;have V:=U.out w.heap.size (grownCap w 32 0 5) _ (Z9t W w.heap.size bs D);clear D
 go_region
 go_wp2
 go_ret
 exact⟨rfl,((Z0 (Z0 T (AM _) _ _) (AM _) _ _)).drew⟩
end
end Go.Proofs.YtdjacgmmidbieaaGreatDoor.S8.Sc

namespace Go.Proofs.YtdjacgmmidbieaaGreatDoor.S8
set_option maxHeartbeats 1500000
attribute [local irreducible] wpList K1 wpX
theorem V7f (w:AA):
  BI Tryz.prog 119 #[] w fun e w' =>V4 (A16 DD) w w' e:=by
 have hS:=SH.nil [] w
 go_enter Tryz.func119,Tryz.ntmps119
 go_upto_region 0 with fail;refine RL hS ?_;clear hS;refine MN (z:=J0 .i64 16 (Q9 0)) (t:=87) ?_;intro D;refine MZ fun W hS=> ?_;go_upto_region 1 with fail;refine RL hS ?_;clear hS;refine MW ?_ (v:=.agg (J0 .i64 16 (Q9 DD))) (hv:=by intro W;kernel_rfl);refine MR 0 ?_;refine MZ fun W hS=> ?_;go_wp2;exact BH (Z5 rfl rfl (hS.blk (i:=0) rfl) (by kernel_rfl) (by rw[J1];kernel_rfl)) rfl ⟨rfl,hS.ext⟩
theorem Z3c (w:AA):
  BI Tryz.prog 41 #[] w fun e w' =>V4 (.agg (p3 BX BY 1)) w w' e:=by
 have hS:=SH.nil [] w
 go_enter Tryz.func41,Tryz.ntmps41
 go_upto_region 0 with fail;refine RL hS ?_;clear hS;refine MN (z:=p3 0 0 0) (t:=89) ?_;intro D;refine MZ fun W hS=> ?_;go_upto_region 1 with fail;refine RL hS ?_;clear hS;refine MW ?_ (v:=.agg (J0 .i64 16 (Q9 BX))) (hv:=by intro W;kernel_rfl);refine MW ?_ (v:=.agg (J0 .i64 16 (Q9 BY))) (hv:=by intro W;kernel_rfl);refine MW ?_ (v:=.agg (J0 .i64 16 (Q9 1))) (hv:=by intro W;kernel_rfl);refine MW ?_ (v:=.agg (p3 BX BY 1)) (hv:=by intro W;kernel_rfl);refine MR 0 ?_ (hz:=by rw[J0r];kernel_rfl) (hs:=by first|rw[J0r,J0r]|rw[J0r]|kernel_rfl) (h1:=Q3j);refine MZ fun W hS=> ?_;go_wp2;exact BH (Z5 rfl rfl (hS.blk (i:=0) rfl) (by kernel_rfl) (by rw[J0r];kernel_rfl)) rfl ⟨rfl,hS.ext⟩
theorem Y3h (w:AA):
  BI Tryz.prog 75 #[] w fun e w' =>V4 (.agg (p3 0 1 1)) w w' e:=by
 have hS:=SH.nil [] w
 go_enter Tryz.func75,Tryz.ntmps75
 go_upto_region 0 with fail;refine RL hS ?_;clear hS;refine MN (z:=p3 0 0 0) (t:=89) ?_;intro D;refine MZ fun W hS=> ?_;go_upto_region 1 with fail;refine RL hS ?_;clear hS;refine MW ?_ (v:=.agg (J0 .i64 16 (Q9 1))) (hv:=by intro W;kernel_rfl);refine MW ?_ (v:=.agg (J0 .i64 16 (Q9 1))) (hv:=by intro W;kernel_rfl);refine MW ?_ (v:=.agg (p3 0 1 1)) (hv:=by intro W;kernel_rfl);refine MR 0 ?_ (hz:=by rw[J0r];kernel_rfl) (hs:=by first|rw[J0r,J0r]|rw[J0r]|kernel_rfl) (h1:=Q3j);refine MZ fun W hS=> ?_;go_wp2;exact BH (Z5 rfl rfl (hS.blk (i:=0) rfl) (by kernel_rfl) (by rw[J0r];kernel_rfl)) rfl ⟨rfl,hS.ext⟩
theorem Z3d:RD BX BY 1 BP:=Y9y (by decide) (by decide) Q02
theorem Y3i:RD 0 1 1 p0:=rn_p0.rr

theorem Z3e {X1 Y1 Z1:Nat}{p1:Pr}{X2 Y2 Z2:Nat}{p2:Pr}(h1:RD X1 Y1 Z1 p1)(h2:RD X2 Y2 Z2 p2):
  ∃X Y Z,RD X Y Z (J15 p1 p2)∧∀w,BI Tryz.prog 76 #[.agg (p3 X1 Y1 Z1),.agg (p3 X2 Y2 Z2)] w fun e w' =>V4 (.agg (p3 X Y Z)) w w' e:=by
 have D5:=J2n Z1 Z2 (Q5 h1.z) (Q5 h2.z);obtain⟨N1,ρ⟩:=exn (Z1*Z2 % PP);rw[←ρ] at D5;have lN1:=bpp ρ;have β:=Q5 lN1;have X0:=BK ρ;clear ρ;have G7:=J2n N1 N1 β β;obtain⟨N2,γ⟩:=exn (N1*N1 % PP);rw[←γ] at G7;have X5:=bpp γ;have M2:=Q5 X5;have HN2:=BK γ;clear γ;have Ξ:=J2n X1 X2 (Q5 h1.x) (Q5 h2.x);obtain⟨N3,τ⟩:=exn (X1*X2 % PP);rw[←τ] at Ξ;have lN3:=bpp τ;have D1:=Q5 lN3;have HN3:=BK τ;clear τ;have G4:=J2n Y1 Y2 (Q5 h1.y) (Q5 h2.y);obtain⟨N4,Γ⟩:=exn (Y1*Y2 % PP);rw[←Γ] at G4;have T9:=bpp Γ;have D6:=Q5 T9;have T8:=BK Γ;clear Γ;have G0:=J2n N3 N4 D1 D6;obtain⟨N5,θ⟩:=exn (N3*N4 % PP);rw[←θ] at G0;have S9:=bpp θ;have T7:=Q5 S9;have S7:=BK θ;clear θ;have Θ:=J2n DD N5 Z8y T7;obtain⟨N6,σ⟩:=exn (DD*N5 % PP);rw[←σ] at Θ;have M0:=bpp σ;have T5:=Q5 M0;have T1:=BK σ;clear σ;have Δ:=Z8p N2 N6 M2 (Ba M0);obtain⟨N7,ε⟩:=exn ((N2+(PP-N6) % PP) % PP);rw[←ε] at Δ;have V7:=bpp ε;have M1:=Q5 V7;have HN7:=BK ε;clear ε;have Ψ:=Q0s N2 N6 M2 T5;obtain⟨N8,α⟩:=exn ((N2+N6) % PP);rw[←α] at Ψ;have lN8:=bpp α;have G9:=Q5 lN8;have T2:=BK α;clear α;have D0:=Q0s X1 Y1 (Q5 h1.x) (Q5 h1.y);obtain⟨N9,ω⟩:=exn ((X1+Y1) % PP);rw[←ω] at D0;have S6:=bpp ω;have bN9:=Q5 S6;have T6:=BK ω;clear ω;have ψ:=Q0s X2 Y2 (Q5 h2.x) (Q5 h2.y);obtain⟨G6,S⟩:=exn ((X2+Y2) % PP);rw[←S] at ψ;have S3:=bpp S;have R7:=Q5 S3;have R8:=BK S;clear S;have η:=J2n N9 G6 bN9 R7;obtain⟨D4,D⟩:=exn (N9*G6 % PP);rw[←D] at η;have N0:=bpp D;have R3:=Q5 N0;have R5:=BK D;clear D;have φ:=J2n N1 N7 β M1;obtain⟨D7,U⟩:=exn (N1*N7 % PP);rw[←U] at φ;have R9:=bpp U;have M7:=Q5 R9;have S1:=BK U;clear U;have ν:=Q0s N3 N4 D1 D6;obtain⟨G5,V⟩:=exn ((N3+N4) % PP);rw[←V] at ν;have D9:=bpp V;have bN13:=Q5 D9;have Ω:=BK V;clear V;have κ:=Z8p D4 G5 R3 (Ba D9);obtain⟨G2,N⟩:=exn ((D4+(PP-G5) % PP) % PP);rw[←N] at κ;have M3:=bpp N;have S0:=Q5 M3;have M4:=BK N;clear N;have ξ:=J2n D7 G2 M7 S0;obtain⟨G3,J⟩:=exn (D7*G2 % PP);rw[←J] at ξ;have R6:=bpp J;have bN15:=Q5 R6;have M5:=BK J;clear J;have χ:=J2n N1 N8 β G9;obtain⟨G1,G⟩:=exn (N1*N8 % PP);rw[←G] at χ;have R2:=bpp G;have M8:=Q5 R2;have R4:=BK G;clear G;have μ:=Q0s N3 N4 D1 D6;obtain⟨G8,T⟩:=exn ((N3+N4) % PP);rw[←T] at μ;have S5:=bpp T;have R0:=Q5 S5;have R1:=BK T;clear T;have δ:=J2n G1 G8 M8 R0;obtain⟨D8,R⟩:=exn (G1*G8 % PP);rw[←R] at δ;have M6:=bpp R;have bN18:=Q5 M6;have S4:=BK R;clear R;have ζ:=J2n N7 N8 M1 G9;obtain⟨D3,M⟩:=exn (N7*N8 % PP);rw[←M] at ζ;have S2:=bpp M;have bN19:=Q5 S2;have M9:=BK M;clear M;refine⟨G3,D8,D3,Y9z h1 h2 X0.out HN2.out HN3.out T8.out S7.out T1.out HN7.out T2.out T6.out R8.out R5.out S1.out Ω.out M4.out M5.out R4.out (S4.out.trans (by rw[R1.out,←Ω.out])) M9.out,fun w=> ?_⟩;have hS:=SH.nil [] w
 go_enter Tryz.func76,Tryz.ntmps76
 go_upto_region 0 with fail;refine RL hS ?_;clear hS;refine MN (z:=p3 X1 Y1 Z1) (t:=89) ?_;intro K9;refine MN (z:=p3 X2 Y2 Z2) (t:=89) ?_;intro J18;refine MN (z:=p3 0 0 0) (t:=89) ?_;intro Q1k;refine MZ fun W hS=> ?_;go_upto_region 1 with fail;refine RL hS ?_;clear hS;refine MV ?_;refine Ml 2 Y9x ?_;refine MV ?_;refine Ml 1 Y9x ?_;refine MC (v:=.agg (J0 .i64 16 (Q9 N1))) (fun W hS=>D5 W) ?_;refine MN (z:=J0 .i64 16 (Q9 0)) (t:=87) ?_;intro Q4l;refine MR 0 ?_;refine MZ fun W hS=> ?_;go_upto_region 2 with fail;refine RL hS ?_;clear hS;refine ML 0 ?_;refine ML 0 ?_;refine MC (v:=.agg (J0 .i64 16 (Q9 N2))) (fun W hS=>G7 W) ?_;refine MN (z:=J0 .i64 16 (Q9 0)) (t:=87) ?_;intro Y3f;refine MR 0 ?_;refine MZ fun W hS=> ?_;go_upto_region 3 with fail;refine RXn 10 [⟨10,7,J0 .i64 16 (Q9 0),87⟩,⟨11,8,J0 .i64 16 (Q9 0),87⟩] hS ?_ (by simp only[BR];exact⟨⟨_,rfl,rfl,rfl,fun _ _=>by kernel_rfl⟩,⟨_,rfl,rfl,rfl,fun _ _=>by kernel_rfl⟩,fun _ h=>by cases h⟩);clear hS;refine MV ?_;refine Ml 4 Z91 ?_;refine MV ?_;refine Ml 3 Z91 ?_;refine MC (v:=.agg (J0 .i64 16 (Q9 N3))) (fun W hS=>Ξ W) ?_;refine MV ?_;refine Ml 4 Z92 ?_;refine MV ?_;refine Ml 3 Z92 ?_;refine MC (v:=.agg (J0 .i64 16 (Q9 N4))) (fun W hS=>G4 W) ?_;refine MZB fun β6=> ?_;refine MR 0 ?_;refine MR 1 ?_;refine MZn fun W hS=> ?_;go_upto_region 4 with fail;refine RXn 5 [⟨5,9,J0 .i64 16 (Q9 0),87⟩] hS ?_ (by simp only[BR];exact⟨⟨_,rfl,rfl,rfl,fun _ _=>by kernel_rfl⟩,fun _ h=>by cases h⟩);clear hS;refine MC (v:=.agg (J0 .i64 16 (Q9 DD))) (fun W hS=>V7f W) ?_;refine ML 0 ?_;refine ML 1 ?_;refine MC (v:=.agg (J0 .i64 16 (Q9 N5))) (fun W hS=>G0 W) ?_;refine MC (v:=.agg (J0 .i64 16 (Q9 N6))) (fun W hS=>Θ W) ?_;refine MZB fun β7=> ?_;refine MR 0 ?_;refine MZn fun W hS=> ?_;go_upto_region 5 with fail;refine RXn 6 [⟨6,10,J0 .i64 16 (Q9 0),87⟩,⟨7,11,J0 .i64 16 (Q9 0),87⟩] hS ?_ (by simp only[BR];exact⟨⟨_,rfl,rfl,rfl,fun _ _=>by kernel_rfl⟩,⟨_,rfl,rfl,rfl,fun _ _=>by kernel_rfl⟩,fun _ h=>by cases h⟩);clear hS;refine ML 3 ?_;refine ML 0 ?_;refine MC (v:=.agg (J0 .i64 16 (Q9 N7))) (fun W hS=>Δ W) ?_;refine ML 3 ?_;refine ML 0 ?_;refine MC (v:=.agg (J0 .i64 16 (Q9 N8))) (fun W hS=>Ψ W) ?_;refine MZB fun β8=> ?_;refine MR 0 ?_;refine MR 1 ?_;refine MZn fun W hS=> ?_;go_upto_region 6 with fail;refine RXn 11 [⟨11,12,J0 .i64 16 (Q9 0),87⟩] hS ?_ (by simp only[BR];exact⟨⟨_,rfl,rfl,rfl,fun _ _=>by kernel_rfl⟩,fun _ h=>by cases h⟩);clear hS;refine MV ?_;refine Ml 9 Z91 ?_;refine MV ?_;refine Ml 9 Z92 ?_;refine MC (v:=.agg (J0 .i64 16 (Q9 N9))) (fun W hS=>D0 W) ?_;refine MV ?_;refine Ml 8 Z91 ?_;refine MV ?_;refine Ml 8 Z92 ?_;refine MC (v:=.agg (J0 .i64 16 (Q9 G6))) (fun W hS=>ψ W) ?_;refine MC (v:=.agg (J0 .i64 16 (Q9 D4))) (fun W hS=>η W) ?_;refine MZB fun β9=> ?_;refine MR 0 ?_;refine MZn fun W hS=> ?_;go_upto_region 7 with fail;refine RXn 9 [⟨9,13,J0 .i64 16 (Q9 0),87⟩] hS ?_ (by simp only[BR];exact⟨⟨_,rfl,rfl,rfl,fun _ _=>by kernel_rfl⟩,fun _ h=>by cases h⟩);clear hS;refine ML 7 ?_;refine ML 1 ?_;refine MC (v:=.agg (J0 .i64 16 (Q9 D7))) (fun W hS=>φ W) ?_;refine ML 0 ?_;refine ML 4 ?_;refine ML 5 ?_;refine MC (v:=.agg (J0 .i64 16 (Q9 G5))) (fun W hS=>ν W) ?_;refine MC (v:=.agg (J0 .i64 16 (Q9 G2))) (fun W hS=>κ W) ?_;refine MC (v:=.agg (J0 .i64 16 (Q9 G3))) (fun W hS=>ξ W) ?_;refine MZB fun β10=> ?_;refine MR 0 ?_;refine MZn fun W hS=> ?_;go_upto_region 8 with fail;refine RXn 7 [⟨7,14,J0 .i64 16 (Q9 0),87⟩] hS ?_ (by simp only[BR];exact⟨⟨_,rfl,rfl,rfl,fun _ _=>by kernel_rfl⟩,fun _ h=>by cases h⟩);clear hS;refine ML 8 ?_;refine ML 3 ?_;refine MC (v:=.agg (J0 .i64 16 (Q9 G1))) (fun W hS=>χ W) ?_;refine ML 5 ?_;refine ML 6 ?_;refine MC (v:=.agg (J0 .i64 16 (Q9 G8))) (fun W hS=>μ W) ?_;refine MC (v:=.agg (J0 .i64 16 (Q9 D8))) (fun W hS=>δ W) ?_;refine MZB fun β11=> ?_;refine MR 0 ?_;refine MZn fun W hS=> ?_;go_upto_region 9 with fail;refine RX 6 hS ?_;clear hS;refine ML 1 ?_;refine ML 0 ?_;refine ML 3 ?_;refine ML 4 ?_;refine MC (v:=.agg (J0 .i64 16 (Q9 D3))) (fun W hS=>ζ W) ?_;refine MW ?_ (v:=.agg (p3 G3 D8 D3)) (hv:=by intro W;kernel_rfl);refine MZt ?_;refine MR 10 ?_ (hz:=by rw[J0r];kernel_rfl) (hs:=by first|rw[J0r,J0r]|rw[J0r]|kernel_rfl) (h1:=Q3j);refine MZn fun W hS=> ?_;go_wp2;exact BH (Z5 rfl rfl (hS.blk (i:=10) rfl) (by kernel_rfl) (by rw[J0r];kernel_rfl)) rfl ⟨rfl,hS.ext⟩
end Go.Proofs.YtdjacgmmidbieaaGreatDoor.S8

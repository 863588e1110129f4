/- Contracts and plain laws for directHolds_holds. Conditions: the tables hold their numbers. -/
import Derived.Test.YtpljgkofbfeelaaGreatDoorJ18
open Go renaming World->AA,Value->AB,bodyPost_ret->BC,Calls->Az,IntKind->AG
open Go.IntKind renaming wrap_i64->BD
open _root_.List renaming mem_singleton->Ae,nil_append->BM,mem_cons->AY,cons_append->BK,mem_append->Ar
open _root_.Nat renaming le_refl->AJ,le_trans->AZ
open _root_.Array renaming length_toList->BR
open Go.RowKit
set_option maxRecDepth 100000
set_option linter.unusedSimpArgs false
set_option linter.unusedVariables false
namespace Go.Proofs.YtpljgkofbfeelaaGreatDoor
section
set_option maxHeartbeats 3000000
attribute [local irreducible] wpList Z9 wpX
def J43 (K:Nat)(d:Nat):Nat→TR→TR
 |0,T=>T
 |m+1,T=>if d≤m then J43 K d m (if kb K m=0 then .node m T .nil else .node m .nil T) else T
def J44 (a x b y d:Nat):TR:=
 if kb a (X9 (J2 a) (J2 b))=1 then J43 b d (X9 (J2 a) (J2 b)) (.node (X9 (J2 a) (J2 b)) (.leaf b y) (.leaf a x))
 else J43 a d (X9 (J2 a) (J2 b)) (.node (X9 (J2 a) (J2 b)) (.leaf a x) (.leaf b y))
def J26 (k v:Nat):TR→Nat→TR
 | .nil,_=> .leaf k v
 | .leaf a x,d=>if a=k then .leaf k v else J44 a x k v d
 | .node _ l r,d=>if kb k d=0 then .node d (J26 k v l (d+1)) r else .node d l (J26 k v r (d+1))
theorem J9f {K d m:Nat}{T:TR}(h:d≤m):J43 K d (m+1) T=J43 K d m (if kb K m=0 then .node m T .nil else .node m .nil T):=by
 show(if d≤m then _ else _)=_;rw[if_pos h]
theorem Q1h {K d m:Nat}{T:TR}(h:m≤d):J43 K d m T=T:=by
 cases m with
 |zero=>rfl
 |succ m=>show(if d≤m then _ else _)=_;rw[if_neg (by omega)]
theorem Q6z (K d:Nat):∀(m:Nat) (T:TR),cnt (J43 K d m T)=cnt T
 |0,_=>rfl
 |m+1,T=>by
  unfold J43
  split
  ·
   rw[Q6z];split<;>simp[cnt]
  ·
   rfl
theorem Z8l (a x b y d:Nat):cnt (J44 a x b y d)=2:=by unfold J44;split<;>rw[Q6z]<;>rfl
theorem J5t (k v:Nat):∀(T:TR) (d:Nat),cnt (J26 k v T d)≤cnt T+1
 | .nil,_=>by show 1≤0+1;omega
 | .leaf a x,d=>by
  show cnt (if a=k then TR.leaf k v else J44 a x k v d)≤1+1
  split
  ·
   show 1≤2;omega
  ·
   rw[Z8l];omega
 | .node e l r,d=>by
  have h1:=J5t k v l (d+1);have h2:=J5t k v r (d+1);show cnt (if kb k d=0 then TR.node d (J26 k v l (d+1)) r else TR.node d l (J26 k v r (d+1)))≤cnt l+cnt r+1
  split
  ·
   show cnt (J26 k v l (d+1))+cnt r≤_;omega
  ·
   show cnt l+cnt (J26 k v r (d+1))≤_;omega
theorem Z6t {a b:Nat}(ha:a<2^256)(hb:b<2^256)(h:a≠b):X9 (J2 a) (J2 b)<256:=by
 rcases Nat.lt_or_ge (X9 (J2 a) (J2 b)) 256 with h1|h1
 ·
  exact h1
 have h2:∀n j,j+n=32→(∀i,i<j→kby a i=kby b i)→(∀i,i<32→kby a i=kby b i):=by
  intro n
  induction n with
  |zero=>intro j hj hl i hi;exact hl i (by omega)
  |succ n ih=>
   intro j hj hl
   by_cases he:kby a j=kby b j
   ·
    exact ih (j+1) (by omega) fun i hi=>by rcases Nat.lt_succ_iff_lt_or_eq.1 hi with hi|rfl;exact hl i hi;exact he
   ·
    have:=Q6y (by omega) hl he;have:=(Z3i ⟨kby a j^^^kby b j,Nat.xor_lt_two_pow (n:=8) (J8s a j) (J8s b j)⟩).2.1 (fun h0=>he (by have e:=congrArg (· ^^^kby b j) h0;simpa[Nat.xor_assoc] using e));simp only at this;omega
 exact absurd (J8v ha hb fun j hj=>congrArg Nat.cast (h2 32 0 (by omega) (fun i hi=>absurd hi (Nat.not_lt_zero _)) j hj)) h
theorem TA.leaf' {w:AA}{k v b:Nat}(h:Blk w b (ndc k v nlp nlp false (sL k v) 1) 163)(hk:k<2^256)(hv:v<2^256):TA w (.leaf k v) (ptr b):=⟨b,rfl,h,hk,hv⟩
attribute [local irreducible] hs4 sE sL sN

theorem V5x {q:Prop}{a x c y b1 b2:Nat}(ha:a<2^256)(hx:x<2^256)(hc:c<2^256)(hy:y<2^256)(d:Nat)(hd_:d<4611686018427387904)(w:AA)(hG:GT q w)(hB1:Blk w b1 (ndc a x nlp nlp false (sL a x) 1) 163)(hB2:Blk w b2 (ndc c y nlp nlp false (sL c y) 1) 163):
  Az Tryz.prog 158 #[ptr b1,ptr b2,.int .i64 (d:Int)] w fun e w' =>Q0a (J44 a x c y d) w w' e:=by
 have hS:=SH.nil [] w;have h3:=Q3s (J2 a) (J2 c);have hA:TA w (.leaf a x) (ptr b1):=TA.leaf' hB1 ha hx;have hC:TA w (.leaf c y) (ptr b2):=TA.leaf' hB2 hc hy
 go_enter Tryz.func158,Tryz.ntmps158
 go_upto_region 1 with fail;refine RTh (.q 0 (.q 1 (.q 2 (.q 3 (.q 4 (.q 5 (.q 6 (.q 7 (.q 8 (.q 9 (.e 10 (.q 11 .z)))))))))))) hS ?_;clear hS;(iterate 4 refine TV ?_);refine TF (v:=.agg (J0 .u8 32 (J2 a))) rfl (fun W hS=>J0s (vs:=(J0 .u8 32 (J2 a)).toList) rfl rfl (fun i v hv=>by rw[J3 (J4 hB1 hS.ext)];exact J7r i v (by simpa using hv)) (by kernel_rfl) (by first|kernel_rfl|(simp only[BR];rw[J1];kernel_rfl))) ?_;(iterate 4 refine TV ?_);refine TF (v:=.agg (J0 .u8 32 (J2 c))) rfl (fun W hS=>J0s (vs:=(J0 .u8 32 (J2 c)).toList) rfl rfl (fun i v hv=>by rw[J3 (J4 hB2 hS.ext)];exact J7r i v (by simpa using hv)) (by kernel_rfl) (by first|kernel_rfl|(simp only[BR];rw[J1];kernel_rfl))) ?_;refine TE (fun _ h=>h) ?_;refine MC (v:=.int .i64 ((X9 (J2 a) (J2 c):Nat):Int)) (fun W hS=>Q6j a c W) ?_;refine TNh (fun W hS=>hS) ?_;refine TV ?_;refine TZ (fun _ h=>h) fun W hS=> ?_
 by_cases hb:kb a (X9 (J2 a) (J2 c))=1
 ·
  go_upto_region 2 with fail;refine RL hS ?_;clear hS;(iterate 4 refine MV ?_);refine MF (v:=.agg (J0 .u8 32 (J2 a))) (fun W hS=>J0s (vs:=(J0 .u8 32 (J2 a)).toList) rfl rfl (fun i v hv=>by rw[J3 (J4 hB1 hS.ext)];exact J7r i v (by simpa using hv)) (by kernel_rfl) (by first|kernel_rfl|(simp only[BR];rw[J1];kernel_rfl))) ?_;refine MV ?_;refine MC (v:=.int .i64 ((kb a (X9 (J2 a) (J2 c)):Nat):Int)) (fun W hS=>J5q a (X9 (J2 a) (J2 c)) (by omega) W) ?_;refine MW ?_ (v:=.bool true) (hv:=by intro W;go_simp;(try simp[hb]));refine MZ fun W hS=> ?_;go_upto_region 4 with fail;refine RL hS ?_;clear hS;(iterate 3 refine MV ?_);refine ME (fun W hS=>J53 hS (J8r (X9 (J2 a) (J2 c)) (by simp only[cnt];omega) W (X5 hG hS.ext) (TA.ext hC hS.ext) (TA.ext hA hS.ext)) rfl) ?_;intro N;refine MV ?_;refine MZ fun W hS=> ?_;go_upto_region 5 with fail;refine RL hS ?_;clear hS;refine MV ?_;refine MW ?_ (v:=.int .i64 (((X9 (J2 a) (J2 c):Nat):Int)-1)) (hv:=by intro W;go_simp;(try simp only[AG.wrap_i64]);(try omega));refine MV ?_;refine MZ fun W hS=> ?_
  go_wp2_with fail
  go_loopw [8,9] (fun uv ii wr=> ∃(T1:TR)(u:AB)(m:Nat),(m≤X9 (J2 a) (J2 c))∧(J43 c d m T1=J43 c d (X9 (J2 a) (J2 c)) (.node (X9 (J2 a) (J2 c)) (.leaf c y) (.leaf a x)))∧(full T1)∧(Q8v T1=c)∧(cnt T1=2)∧(u=uv)∧(ii=.int .i64 ((m:Int)-1))∧SH [] w wr [.t 163 (fun W=>TA W T1 u)])
   (fun uv ii _=>(intOf ii+1).toNat)
  case atStart=>exact⟨(.node (X9 (J2 a) (J2 c)) (.leaf c y) (.leaf a x)),N,X9 (J2 a) (J2 c),AJ _,rfl,trivial,rfl,rfl,rfl,by go_num,hS⟩
  clear hS
  case round=>
   obtain⟨T1,u,m,hm,D,hf,hk,U,rfl,rfl,hS⟩:=hrel
   by_cases G:d<m
   ·
    obtain⟨m,rfl⟩:∃m1,m=m1+1:=⟨m-1,by omega⟩
    go_upto_region 6 with fail;refine RL hS ?_;clear hS;refine MV ?_;refine MV ?_;refine MW ?_ (v:=.bool true) (hv:=by intro W;go_simp;omega);refine MZ fun W hS=> ?_
    by_cases hz:kb c m=0
    ·
     go_upto_region 8 with fail;refine RL hS ?_;clear hS;refine MV ?_;refine MC (v:=.agg (J0 .u8 32 (J2 c))) (fun W hS=>(hk▸Z6s hf W (hS.tt (i:=0) rfl))) ?_;refine MW ?_ (v:=.int .i64 ((m:Nat):Int)) (hv:=by intro W;go_simp;(try omega));refine MC (v:=.int .i64 ((kb c m:Nat):Int)) (fun W hS=>J5q c m (by omega) W) ?_;refine MW ?_ (v:=.bool true) (hv:=by intro W;go_simp;(try simp[hz]));refine MZ fun W hS=> ?_;go_upto_region 9 with fail;refine RL hS ?_;clear hS;refine MW ?_ (v:=.int .i64 ((m:Nat):Int)) (hv:=by intro W;go_simp;(try omega));refine MV ?_;refine ME (fun W hS=>J53 hS (J8r m (by simp only[cnt];omega) W (X5 hG hS.ext) (hS.tt (i:=0) rfl) (show TA W .nil nlp from rfl)) rfl) ?_;intro J;refine MV ?_;refine MZ fun W hS=> ?_;go_upto_region 7 with fail;refine RL hS ?_;clear hS;refine MV ?_;refine MW ?_ (v:=.int .i64 ((m:Int)-1)) (hv:=by intro W;go_simp;(try simp only[AG.wrap_i64]);(try omega));refine MV ?_;refine MZ fun W hS=> ?_;go_wp2;go_roundw
     case rel=>exact⟨(.node m T1 .nil),J,m,by omega,(by rw[←D,J9f (by omega),if_pos hz]),(by rw[Z3k (Q3t hf)];exact hf),(by rw[Z3j (Q3t hf)];exact hk),(by show cnt T1+0=2;omega),rfl,by go_num,(hS.pick [0])⟩
     case measure=>first|(simp[intOf];done)|(simp[intOf];omega)
    go_upto_region 8 with fail;refine RL hS ?_;clear hS;refine MV ?_;refine MC (v:=.agg (J0 .u8 32 (J2 c))) (fun W hS=>(hk▸Z6s hf W (hS.tt (i:=0) rfl))) ?_;refine MW ?_ (v:=.int .i64 ((m:Nat):Int)) (hv:=by intro W;go_simp;(try omega));refine MC (v:=.int .i64 ((kb c m:Nat):Int)) (fun W hS=>J5q c m (by omega) W) ?_;refine MW ?_ (v:=.bool false) (hv:=by intro W;go_simp;(try omega));refine MZ fun W hS=> ?_;go_upto_region 10 with fail;refine RL hS ?_;clear hS;refine MW ?_ (v:=.int .i64 ((m:Nat):Int)) (hv:=by intro W;go_simp;(try omega));refine MV ?_;refine ME (fun W hS=>J53 hS (J8r m (by simp only[cnt];omega) W (X5 hG hS.ext) (show TA W .nil nlp from rfl) (hS.tt (i:=0) rfl)) rfl) ?_;intro S;refine MV ?_;refine MZ fun W hS=> ?_;go_upto_region 7 with fail;refine RL hS ?_;clear hS;refine MV ?_;refine MW ?_ (v:=.int .i64 ((m:Int)-1)) (hv:=by intro W;go_simp;(try simp only[AG.wrap_i64]);(try omega));refine MV ?_;refine MZ fun W hS=> ?_;go_wp2;go_roundw
    case rel=>exact⟨(.node m .nil T1),S,m,by omega,(by rw[←D,J9f (by omega),if_neg hz]),hf,hk,(by show 0+cnt T1=2;omega),rfl,by go_num,(hS.pick [0])⟩
    case measure=>first|(simp[intOf];done)|(simp[intOf];omega)
   go_upto_region 6 with fail;refine RL hS ?_;clear hS;refine MV ?_;refine MV ?_;refine MW ?_ (v:=.bool false) (hv:=by intro W;go_simp;omega);refine MZ fun W hS=> ?_;go_wp2;exact BC (v:=u) (by simp only[results,Tryz.results158];go_simp) rfl ⟨_,rfl,hS.ext,(by have h_:=hS.tt (i:=0) rfl;rw[show J44 a x c y d=T1 from(by unfold J44;rw[if_pos hb];rw[←D,Q1h (by omega)])];exact h_)⟩
 go_upto_region 2 with fail;refine RL hS ?_;clear hS;(iterate 4 refine MV ?_);refine MF (v:=.agg (J0 .u8 32 (J2 a))) (fun W hS=>J0s (vs:=(J0 .u8 32 (J2 a)).toList) rfl rfl (fun i v hv=>by rw[J3 (J4 hB1 hS.ext)];exact J7r i v (by simpa using hv)) (by kernel_rfl) (by first|kernel_rfl|(simp only[BR];rw[J1];kernel_rfl))) ?_;refine MV ?_;refine MC (v:=.int .i64 ((kb a (X9 (J2 a) (J2 c)):Nat):Int)) (fun W hS=>J5q a (X9 (J2 a) (J2 c)) (by omega) W) ?_;refine MW ?_ (v:=.bool false) (hv:=by intro W;go_simp;(try omega));refine MZ fun W hS=> ?_;go_upto_region 4 with fail;refine RL hS ?_;clear hS;(iterate 3 refine MV ?_);refine ME (fun W hS=>J53 hS (J8r (X9 (J2 a) (J2 c)) (by simp only[cnt];omega) W (X5 hG hS.ext) (TA.ext hA hS.ext) (TA.ext hC hS.ext)) rfl) ?_;intro M;refine MV ?_;refine MZ fun W hS=> ?_;go_upto_region 5 with fail;refine RL hS ?_;clear hS;refine MV ?_;refine MW ?_ (v:=.int .i64 (((X9 (J2 a) (J2 c):Nat):Int)-1)) (hv:=by intro W;go_simp;(try simp only[AG.wrap_i64]);(try omega));refine MV ?_;refine MZ fun W hS=> ?_
 go_wp2_with fail
 go_loopw [8,9] (fun uv ii wr=> ∃(T1:TR)(u:AB)(m:Nat),(m≤X9 (J2 a) (J2 c))∧(J43 a d m T1=J43 a d (X9 (J2 a) (J2 c)) (.node (X9 (J2 a) (J2 c)) (.leaf a x) (.leaf c y)))∧(full T1)∧(Q8v T1=a)∧(cnt T1=2)∧(u=uv)∧(ii=.int .i64 ((m:Int)-1))∧SH [] w wr [.t 163 (fun W=>TA W T1 u)])
  (fun uv ii _=>(intOf ii+1).toNat)
 case atStart=>exact⟨(.node (X9 (J2 a) (J2 c)) (.leaf a x) (.leaf c y)),M,X9 (J2 a) (J2 c),AJ _,rfl,trivial,rfl,rfl,rfl,by go_num,hS⟩
 clear hS
 case round=>
  obtain⟨T1,u,m,hm,D,hf,hk,U,rfl,rfl,hS⟩:=hrel
  by_cases G:d<m
  ·
   obtain⟨m,rfl⟩:∃m1,m=m1+1:=⟨m-1,by omega⟩
   go_upto_region 6 with fail;refine RL hS ?_;clear hS;refine MV ?_;refine MV ?_;refine MW ?_ (v:=.bool true) (hv:=by intro W;go_simp;omega);refine MZ fun W hS=> ?_
   by_cases hz:kb a m=0
   ·
    go_upto_region 8 with fail;refine RL hS ?_;clear hS;refine MV ?_;refine MC (v:=.agg (J0 .u8 32 (J2 a))) (fun W hS=>(hk▸Z6s hf W (hS.tt (i:=0) rfl))) ?_;refine MW ?_ (v:=.int .i64 ((m:Nat):Int)) (hv:=by intro W;go_simp;(try omega));refine MC (v:=.int .i64 ((kb a m:Nat):Int)) (fun W hS=>J5q a m (by omega) W) ?_;refine MW ?_ (v:=.bool true) (hv:=by intro W;go_simp;(try simp[hz]));refine MZ fun W hS=> ?_;go_upto_region 9 with fail;refine RL hS ?_;clear hS;refine MW ?_ (v:=.int .i64 ((m:Nat):Int)) (hv:=by intro W;go_simp;(try omega));refine MV ?_;refine ME (fun W hS=>J53 hS (J8r m (by simp only[cnt];omega) W (X5 hG hS.ext) (hS.tt (i:=0) rfl) (show TA W .nil nlp from rfl)) rfl) ?_;intro T;refine MV ?_;refine MZ fun W hS=> ?_;go_upto_region 7 with fail;refine RL hS ?_;clear hS;refine MV ?_;refine MW ?_ (v:=.int .i64 ((m:Int)-1)) (hv:=by intro W;go_simp;(try simp only[AG.wrap_i64]);(try omega));refine MV ?_;refine MZ fun W hS=> ?_;go_wp2;go_roundw
    case rel=>exact⟨(.node m T1 .nil),T,m,by omega,(by rw[←D,J9f (by omega),if_pos hz]),(by rw[Z3k (Q3t hf)];exact hf),(by rw[Z3j (Q3t hf)];exact hk),(by show cnt T1+0=2;omega),rfl,by go_num,(hS.pick [0])⟩
    case measure=>first|(simp[intOf];done)|(simp[intOf];omega)
   go_upto_region 8 with fail;refine RL hS ?_;clear hS;refine MV ?_;refine MC (v:=.agg (J0 .u8 32 (J2 a))) (fun W hS=>(hk▸Z6s hf W (hS.tt (i:=0) rfl))) ?_;refine MW ?_ (v:=.int .i64 ((m:Nat):Int)) (hv:=by intro W;go_simp;(try omega));refine MC (v:=.int .i64 ((kb a m:Nat):Int)) (fun W hS=>J5q a m (by omega) W) ?_;refine MW ?_ (v:=.bool false) (hv:=by intro W;go_simp;(try omega));refine MZ fun W hS=> ?_;go_upto_region 10 with fail;refine RL hS ?_;clear hS;refine MW ?_ (v:=.int .i64 ((m:Nat):Int)) (hv:=by intro W;go_simp;(try omega));refine MV ?_;refine ME (fun W hS=>J53 hS (J8r m (by simp only[cnt];omega) W (X5 hG hS.ext) (show TA W .nil nlp from rfl) (hS.tt (i:=0) rfl)) rfl) ?_;intro R;refine MV ?_;refine MZ fun W hS=> ?_;go_upto_region 7 with fail;refine RL hS ?_;clear hS;refine MV ?_;refine MW ?_ (v:=.int .i64 ((m:Int)-1)) (hv:=by intro W;go_simp;(try simp only[AG.wrap_i64]);(try omega));refine MV ?_;refine MZ fun W hS=> ?_;go_wp2;go_roundw
   case rel=>exact⟨(.node m .nil T1),R,m,by omega,(by rw[←D,J9f (by omega),if_neg hz]),hf,hk,(by show 0+cnt T1=2;omega),rfl,by go_num,(hS.pick [0])⟩
   case measure=>first|(simp[intOf];done)|(simp[intOf];omega)
  go_upto_region 6 with fail;refine RL hS ?_;clear hS;refine MV ?_;refine MV ?_;refine MW ?_ (v:=.bool false) (hv:=by intro W;go_simp;omega);refine MZ fun W hS=> ?_;go_wp2;exact BC (v:=u) (by simp only[results,Tryz.results158];go_simp) rfl ⟨_,rfl,hS.ext,(by have h_:=hS.tt (i:=0) rfl;rw[show J44 a x c y d=T1 from(by unfold J44;rw[if_neg hb];rw[←D,Q1h (by omega)])];exact h_)⟩
end

section
set_option maxHeartbeats 3000000
attribute [local irreducible] wpList Z9 wpX
theorem Q6k (A B:Nat)(hA:A<2^256)(hB:B<2^256)(w:AA):(Op.equalIn 10000 38 (.agg (J0 .u8 32 (J2 A))) (.agg (J0 .u8 32 (J2 B)))).run Tryz.prog w=.ok (decide (A=B)) w:=by
 have h:=J1q (P:=Tryz.prog) w 9998 38 5 32 .u8 (J0 .u8 32 (J2 A)) (J0 .u8 32 (J2 B)) (J2 A) (J2 B) Tryz.underlying38 Tryz.underlying5 (by kernel_rfl)
  (fun i hi=>Z8 _ _ _ _ hi) (fun i hi=>Z8 _ _ _ _ hi)
 rw[h]
 congr 1
 rw[Bool.eq_iff_iff,J46,decide_eq_true_iff];exact⟨J8v hA hB,fun h=>by subst h;intro _ _;rfl⟩
theorem V5y {q:Prop}{a x c y:Nat}{u1 u2:AB}(d:Nat)(hd_:d<4611686018427387904)(w:AA)(hG:GT q w)(h1:TA w (.leaf a x) u1)(h2:TA w (.leaf c y) u2):
  Az Tryz.prog 158 #[u1,u2,.int .i64 (d:Int)] w fun e w' =>Q0a (J44 a x c y d) w w' e:=by
 obtain⟨b1,rfl,G,ha,hx⟩:=h1;obtain⟨b2,rfl,D,hc,hy⟩:=h2;exact V5x ha hx hc hy d hd_ w hG G D
attribute [local irreducible] hs4 sE sL sN

theorem Y8h {q:Prop}{k v:Nat}(hk:k<2^256)(hv:v<2^256)(d:Nat)(w:AA)(hG:GT q w):
  Az Tryz.prog 114 #[nlp,.agg (lf k v),.int .i64 (d:Int)] w fun e w' =>Q0a (J26 k v .nil d) w w' e:=by
 have hS:=SH.nil [] w
 go_enter Tryz.func114,Tryz.ntmps114
 go_upto_region 0 with fail;refine RL hS ?_;clear hS;refine MN (z:=lf k v) (t:=40) ?_;intro G;refine MV ?_;refine MZ fun W hS=> ?_;go_upto_region 3 with fail;refine RL hS ?_;clear hS;refine ML 0 ?_ (hs:=by rw[J06];kernel_rfl);refine ME (fun W hS=>J53 hS (Y46 hk hv W (X5 hG hS.ext)) rfl) ?_;intro D;refine MV ?_;refine MZ fun W hS=> ?_;go_wp2;exact BC (v:=D) (by simp only[results,Tryz.results114];go_simp) rfl ⟨_,rfl,hS.ext,(by exact hS.tt (i:=0) rfl)⟩
theorem V5z {q:Prop}{k v:Nat}(hk:k<2^256)(hv:v<2^256){a x b1:Nat}(ha:a<2^256)(hx:x<2^256)(hak:a=k)(d:Nat)(w:AA)(hG:GT q w)(hB1:Blk w b1 (ndc a x nlp nlp false (sL a x) 1) 163):
  Az Tryz.prog 114 #[ptr b1,.agg (lf k v),.int .i64 (d:Int)] w fun e w' =>Q0a (J26 k v (.leaf a x) d) w w' e:=by
 have hS:=SH.nil [] w;have hA:TA w (.leaf a x) (ptr b1):=TA.leaf' hB1 ha hx
 go_enter Tryz.func114,Tryz.ntmps114
 go_upto_region 0 with fail;refine RL hS ?_;clear hS;refine MN (z:=lf k v) (t:=40) ?_;intro G;refine MV ?_;refine MZ fun W hS=> ?_;go_upto_region 2 with fail;refine RTh (.q 0 (.q 1 (.q 2 (.q 3 (.q 4 (.q 5 (.q 6 (.q 7 (.q 8 (.q 9 (.q 10 (.q 11 (.q 12 (.q 13 (.q 14 (.q 15 .z)))))))))))))))) hS ?_;clear hS;(iterate 3 refine TV ?_);refine TF (v:=.bool false) rfl (fun W hS=>Q6 rfl rfl (by rw[J3 (J4 hB1 hS.ext)];exact J73) (by kernel_rfl)) ?_;refine Tt ?_;refine Tt ?_;(iterate 4 refine TV ?_);refine TF (v:=.agg (J0 .u8 32 (J2 a))) rfl (fun W hS=>J0s (vs:=(J0 .u8 32 (J2 a)).toList) rfl rfl (fun i v hv=>by rw[J3 (J4 hB1 hS.ext)];exact J7r i v (by simpa using hv)) (by kernel_rfl) (by first|kernel_rfl|(simp only[BR];rw[J1];kernel_rfl))) ?_;refine TV ?_;refine Tl 0 Z2j ?_;refine TW ?_ (v:=.bool true) (hv:=fun _=>J3l ((fun w=>(Q6k a k ha hk w).trans (by rw[decide_eq_true hak])) _) (by kernel_rfl) rfl rfl rfl);refine Tt ?_;refine Tt ?_;refine TZ (fun _ h=>h) fun W hS=> ?_;go_upto_region 3 with fail;refine RL hS ?_;clear hS;refine ML 0 ?_ (hs:=by rw[J06];kernel_rfl);refine ME (fun W hS=>J53 hS (Y46 hk hv W (X5 hG hS.ext)) rfl) ?_;intro D;refine MV ?_;refine MZ fun W hS=> ?_;go_wp2;exact BC (v:=D) (by simp only[results,Tryz.results114];go_simp) rfl ⟨_,rfl,hS.ext,(by rw[show J26 k v (.leaf a x) d=.leaf k v from if_pos hak];exact hS.tt (i:=0) rfl)⟩
theorem V60 {q:Prop}{k v:Nat}(hk:k<2^256)(hv:v<2^256){a x b1:Nat}(ha:a<2^256)(hx:x<2^256)(hak:¬a=k)(d:Nat)(hdl:d<4611686018427387904)(w:AA)(hG:GT q w)(hB1:Blk w b1 (ndc a x nlp nlp false (sL a x) 1) 163):
  Az Tryz.prog 114 #[ptr b1,.agg (lf k v),.int .i64 (d:Int)] w fun e w' =>Q0a (J26 k v (.leaf a x) d) w w' e:=by
 have hS:=SH.nil [] w;have hA:TA w (.leaf a x) (ptr b1):=TA.leaf' hB1 ha hx
 go_enter Tryz.func114,Tryz.ntmps114
 go_upto_region 0 with fail;refine RL hS ?_;clear hS;refine MN (z:=lf k v) (t:=40) ?_;intro J;refine MV ?_;refine MZ fun W hS=> ?_;go_upto_region 2 with fail;refine RTh (.q 0 (.q 1 (.q 2 (.q 3 (.q 4 (.q 5 (.q 6 (.q 7 (.q 8 (.q 9 (.q 10 (.q 11 (.q 12 (.q 13 (.q 14 (.q 15 .z)))))))))))))))) hS ?_;clear hS;(iterate 3 refine TV ?_);refine TF (v:=.bool false) rfl (fun W hS=>Q6 rfl rfl (by rw[J3 (J4 hB1 hS.ext)];exact J73) (by kernel_rfl)) ?_;refine Tt ?_;refine Tt ?_;(iterate 4 refine TV ?_);refine TF (v:=.agg (J0 .u8 32 (J2 a))) rfl (fun W hS=>J0s (vs:=(J0 .u8 32 (J2 a)).toList) rfl rfl (fun i v hv=>by rw[J3 (J4 hB1 hS.ext)];exact J7r i v (by simpa using hv)) (by kernel_rfl) (by first|kernel_rfl|(simp only[BR];rw[J1];kernel_rfl))) ?_;refine TV ?_;refine Tl 0 Z2j ?_;refine TW ?_ (v:=.bool false) (hv:=fun _=>J3l ((fun w=>(Q6k a k ha hk w).trans (by rw[decide_eq_false hak])) _) (by kernel_rfl) rfl rfl rfl);refine Tf ?_;refine Tf ?_;refine TZ (fun _ h=>h) fun W hS=> ?_;go_upto_region 4 with fail;refine RL hS ?_;clear hS;(iterate 3 refine MV ?_);refine MF (v:=.bool false) (fun W hS=>Q6 rfl rfl (by rw[J3 (J4 hB1 hS.ext)];exact J73) (by kernel_rfl)) ?_;refine Wt ?_;refine Wt ?_;refine MZ fun W hS=> ?_;go_upto_region 5 with fail;refine RL hS ?_;clear hS;refine MV ?_;refine ML 0 ?_ (hs:=by rw[J06];kernel_rfl);refine ME (fun W hS=>J53 hS (Y46 hk hv W (X5 hG hS.ext)) rfl) ?_;intro G;refine MV ?_;refine ME (fun W hS=>J53 hS (V5y d hdl W (X5 hG hS.ext) (TA.ext hA hS.ext) (hS.tt (i:=0) rfl)) rfl) ?_;intro D;refine MV ?_;refine MZ fun W hS=> ?_;go_wp2;exact BC (v:=D) (by simp only[results,Tryz.results114];go_simp) rfl ⟨_,rfl,hS.ext,(by rw[show J26 k v (.leaf a x) d=J44 a x k v d from if_neg hak];exact hS.tt (i:=0) rfl)⟩
theorem K1r {q:Prop}{k v:Nat}(hk:k<2^256)(hv:v<2^256){e0 b:Nat}{l r:TR}{p0 p1:Option Addr}(d:Nat)(hdl:d<4611686018427387904)(hn:cnt l+cnt r<2305843009213693952)(hb:kb k d=0)(w:AA)(hG:GT q w)(hB:Blk w b (ndc 0 0 (.pointer p0) (.pointer p1) true (rs (.node e0 l r)) (cnt l+cnt r)) 163)(hl:TA w l (.pointer p0))(hr:TA w r (.pointer p1))(ih:∀W,GT q W→TA W l (.pointer p0)→Az Tryz.prog 114 #[.pointer p0,.agg (lf k v),.int .i64 ((d+1:Nat):Int)] W fun e w' =>Q0a (J26 k v l (d+1)) W w' e):
  Az Tryz.prog 114 #[ptr b,.agg (lf k v),.int .i64 (d:Int)] w fun e w' =>Q0a (J26 k v (.node e0 l r) d) w w' e:=by
 have hS:=SH.nil [] w
 go_enter Tryz.func114,Tryz.ntmps114
 go_upto_region 0 with fail;refine RL hS ?_;clear hS;refine MN (z:=lf k v) (t:=40) ?_;intro M;refine MV ?_;refine MZ fun W hS=> ?_;go_upto_region 2 with fail;refine RTh (.q 0 (.q 1 (.q 2 (.q 3 (.q 4 (.q 5 (.q 6 (.q 7 (.q 8 (.q 9 (.q 10 (.q 11 (.q 12 (.q 13 (.q 14 (.q 15 .z)))))))))))))))) hS ?_;clear hS;(iterate 3 refine TV ?_);refine TF (v:=.bool true) rfl (fun W hS=>Q6 rfl rfl (by rw[J3 (J4 hB hS.ext)];exact J73) (by kernel_rfl)) ?_;refine Tf ?_;refine Tf ?_;(iterate 8 refine TS ?_);refine Tf ?_;refine Tf ?_;refine TZ (fun _ h=>h) fun W hS=> ?_;go_upto_region 4 with fail;refine RL hS ?_;clear hS;(iterate 3 refine MV ?_);refine MF (v:=.bool true) (fun W hS=>Q6 rfl rfl (by rw[J3 (J4 hB hS.ext)];exact J73) (by kernel_rfl)) ?_;refine Wf ?_;refine Wf ?_;refine MZ fun W hS=> ?_;go_upto_region 6 with fail;refine RL hS ?_;clear hS;(iterate 3 refine MV ?_);refine MF (v:=.agg #[(.pointer p0),(.pointer p1)]) (fun W hS=>J0s (vs:=(#[(.pointer p0),(.pointer p1)]).toList) rfl rfl (fun i v hv=>by rw[J3 (J4 hB hS.ext)];exact Z1e i v (by simpa using hv)) (by kernel_rfl) (by kernel_rfl)) ?_;refine MN (z:= #[.pointer none,.pointer none]) (t:=161) ?_;intro D;refine MR 0 ?_;refine MZ fun W hS=> ?_;go_upto_region 7 with fail;refine RL hS ?_;clear hS;refine MV ?_;refine Ml 1 Z2j ?_;refine MV ?_;refine MC (v:=.int .i64 0) (fun W hS=>(hb▸J5q k d hdl W)) ?_;refine W0 ?_;refine MZ fun W hS=> ?_;go_upto_region 8 with fail;refine RTp [1] (.q 0 (.q 1 (.q 2 (.q 4 (.q 5 (.q 6 (.e 3 (.e 7 (.q 8 (.e 9 .z)))))))))) hS ?_;clear hS;refine T0 ?_;refine T0 ?_;refine TW ?_ (v:=.pointer (some ⟨D,0,none⟩)) (hv:=fun _=>J05 (m:=2) (k:=1) (j:=0) (off:=0) (by decide) Tryz.underlying161 (by kernel_rfl) rfl rfl rfl);refine TL 0 ?_ (hs:=by rw[J06];kernel_rfl);refine TV ?_;refine TW ?_ (v:=.int .i64 ((d+1:Nat):Int)) (hv:=by intro W;go_simp;(try simp only[AG.wrap_i64]);omega);refine TE (fun _ h=>h.pick [1]) ?_;refine MG 0 ?_ (v:=.pointer p0);refine Y6 [1] [0] ?_;refine TE (fun _ h=>h.pick [1]) ?_;refine ME (fun W hS=>J53 hS (ih W (X5 hG hS.ext) (TA.ext hl hS.ext)) rfl) ?_;intro G;refine Y6 [0,2] [1] ?_;refine TW ?_ (v:=.pointer (some ⟨D,0,none⟩)) (hv:=fun _=>J05 (m:=2) (k:=1) (j:=0) (off:=0) (by decide) Tryz.underlying161 (by kernel_rfl) rfl rfl rfl);refine TE (fun _ h=>h.pick [0,2]) ?_;refine MP 1 (v:=G) ?_ (hv:=fun W hS=>TA.one (hS.tt (i:=0) rfl));refine Y6 [0,2] [0,1] ?_;refine TZ (fun _ h=>h.pick [0,2]) fun W hS=> ?_;go_upto_region 9 with fail;refine RL hS ?_;clear hS;refine MV ?_;refine MW ?_ (v:=.pointer (some ⟨D,0,none⟩)) (hv:=fun _=>J05 (m:=2) (k:=1) (j:=0) (off:=0) (by decide) Tryz.underlying161 (by kernel_rfl) rfl rfl rfl);refine MG 1 ?_ (v:=G);refine MW ?_ (v:=.pointer (some ⟨D,1,none⟩)) (hv:=fun _=>J05 (m:=2) (k:=1) (j:=1) (off:=0) (by decide) Tryz.underlying161 (by kernel_rfl) rfl rfl rfl);refine MG 1 ?_ (v:=.pointer p1);refine ME (fun W hS=>J53 hS (J8r d (by have R:=J5t k v l (d+1);have N:=J5t k v r (d+1);omega) W (X5 hG hS.ext) (hS.tt (i:=0) rfl) (TA.ext hr hS.ext)) rfl) ?_;intro J;refine MV ?_;refine MZ fun W hS=> ?_;go_wp2;exact BC (v:=J) (by simp only[results,Tryz.results114];go_simp) rfl ⟨_,rfl,hS.ext,(by rw[show J26 k v (.node e0 l r) d=.node d (J26 k v l (d+1)) r from if_pos hb];exact hS.tt (i:=0) rfl)⟩
theorem K1s {q:Prop}{k v:Nat}(hk:k<2^256)(hv:v<2^256){e0 b:Nat}{l r:TR}{p0 p1:Option Addr}(d:Nat)(hdl:d<4611686018427387904)(hn:cnt l+cnt r<2305843009213693952)(hb:kb k d=1)(w:AA)(hG:GT q w)(hB:Blk w b (ndc 0 0 (.pointer p0) (.pointer p1) true (rs (.node e0 l r)) (cnt l+cnt r)) 163)(hl:TA w l (.pointer p0))(hr:TA w r (.pointer p1))(ih:∀W,GT q W→TA W r (.pointer p1)→Az Tryz.prog 114 #[.pointer p1,.agg (lf k v),.int .i64 ((d+1:Nat):Int)] W fun e w' =>Q0a (J26 k v r (d+1)) W w' e):
  Az Tryz.prog 114 #[ptr b,.agg (lf k v),.int .i64 (d:Int)] w fun e w' =>Q0a (J26 k v (.node e0 l r) d) w w' e:=by
 have hS:=SH.nil [] w
 go_enter Tryz.func114,Tryz.ntmps114
 go_upto_region 0 with fail;refine RL hS ?_;clear hS;refine MN (z:=lf k v) (t:=40) ?_;intro M;refine MV ?_;refine MZ fun W hS=> ?_;go_upto_region 2 with fail;refine RTh (.q 0 (.q 1 (.q 2 (.q 3 (.q 4 (.q 5 (.q 6 (.q 7 (.q 8 (.q 9 (.q 10 (.q 11 (.q 12 (.q 13 (.q 14 (.q 15 .z)))))))))))))))) hS ?_;clear hS;(iterate 3 refine TV ?_);refine TF (v:=.bool true) rfl (fun W hS=>Q6 rfl rfl (by rw[J3 (J4 hB hS.ext)];exact J73) (by kernel_rfl)) ?_;refine Tf ?_;refine Tf ?_;(iterate 8 refine TS ?_);refine Tf ?_;refine Tf ?_;refine TZ (fun _ h=>h) fun W hS=> ?_;go_upto_region 4 with fail;refine RL hS ?_;clear hS;(iterate 3 refine MV ?_);refine MF (v:=.bool true) (fun W hS=>Q6 rfl rfl (by rw[J3 (J4 hB hS.ext)];exact J73) (by kernel_rfl)) ?_;refine Wf ?_;refine Wf ?_;refine MZ fun W hS=> ?_;go_upto_region 6 with fail;refine RL hS ?_;clear hS;(iterate 3 refine MV ?_);refine MF (v:=.agg #[(.pointer p0),(.pointer p1)]) (fun W hS=>J0s (vs:=(#[(.pointer p0),(.pointer p1)]).toList) rfl rfl (fun i v hv=>by rw[J3 (J4 hB hS.ext)];exact Z1e i v (by simpa using hv)) (by kernel_rfl) (by kernel_rfl)) ?_;refine MN (z:= #[.pointer none,.pointer none]) (t:=161) ?_;intro D;refine MR 0 ?_;refine MZ fun W hS=> ?_;go_upto_region 7 with fail;refine RL hS ?_;clear hS;refine MV ?_;refine Ml 1 Z2j ?_;refine MV ?_;refine MC (v:=.int .i64 1) (fun W hS=>(hb▸J5q k d hdl W)) ?_;refine MW ?_ (v:=.int .i64 1);refine MZ fun W hS=> ?_;go_upto_region 8 with fail;refine RTp [1] (.q 0 (.q 1 (.q 2 (.q 4 (.q 5 (.q 6 (.e 3 (.e 7 (.q 8 (.e 9 .z)))))))))) hS ?_;clear hS;refine TW ?_ (v:=.int .i64 1);refine TW ?_ (v:=.int .i64 1);refine TW ?_ (v:=.pointer (some ⟨D,1,none⟩)) (hv:=fun _=>J05 (m:=2) (k:=1) (j:=1) (off:=0) (by decide) Tryz.underlying161 (by kernel_rfl) rfl rfl rfl);refine TL 0 ?_ (hs:=by rw[J06];kernel_rfl);refine TV ?_;refine TW ?_ (v:=.int .i64 ((d+1:Nat):Int)) (hv:=by intro W;go_simp;(try simp only[AG.wrap_i64]);omega);refine TE (fun _ h=>h.pick [1]) ?_;refine MG 0 ?_ (v:=.pointer p1);refine Y6 [1] [0] ?_;refine TE (fun _ h=>h.pick [1]) ?_;refine ME (fun W hS=>J53 hS (ih W (X5 hG hS.ext) (TA.ext hr hS.ext)) rfl) ?_;intro G;refine Y6 [0,2] [1] ?_;refine TW ?_ (v:=.pointer (some ⟨D,1,none⟩)) (hv:=fun _=>J05 (m:=2) (k:=1) (j:=1) (off:=0) (by decide) Tryz.underlying161 (by kernel_rfl) rfl rfl rfl);refine TE (fun _ h=>h.pick [0,2]) ?_;refine MP 1 (v:=G) ?_ (hv:=fun W hS=>TA.one (hS.tt (i:=0) rfl));refine Y6 [0,2] [0,1] ?_;refine TZ (fun _ h=>h.pick [0,2]) fun W hS=> ?_;go_upto_region 9 with fail;refine RL hS ?_;clear hS;refine MV ?_;refine MW ?_ (v:=.pointer (some ⟨D,0,none⟩)) (hv:=fun _=>J05 (m:=2) (k:=1) (j:=0) (off:=0) (by decide) Tryz.underlying161 (by kernel_rfl) rfl rfl rfl);refine MG 1 ?_ (v:=.pointer p0);refine MW ?_ (v:=.pointer (some ⟨D,1,none⟩)) (hv:=fun _=>J05 (m:=2) (k:=1) (j:=1) (off:=0) (by decide) Tryz.underlying161 (by kernel_rfl) rfl rfl rfl);refine MG 1 ?_ (v:=G);refine ME (fun W hS=>J53 hS (J8r d (by have R:=J5t k v l (d+1);have N:=J5t k v r (d+1);omega) W (X5 hG hS.ext) (TA.ext hl hS.ext) (hS.tt (i:=0) rfl)) rfl) ?_;intro J;refine MV ?_;refine MZ fun W hS=> ?_;go_wp2;exact BC (v:=J) (by simp only[results,Tryz.results114];go_simp) rfl ⟨_,rfl,hS.ext,(by rw[show J26 k v (.node e0 l r) d=.node d l (J26 k v r (d+1)) from if_neg (by rw[hb];decide)];exact hS.tt (i:=0) rfl)⟩
theorem Y49 {q:Prop}{k v:Nat}(hk:k<2^256)(hv:v<2^256):∀{T:TR} {u:AB} (d:Nat),d+tsz T<4611686018427387904→cnt T<2305843009213693952→∀(w:AA),GT q w→TA w T u→Az Tryz.prog 114 #[u,.agg (lf k v),.int .i64 (d:Int)] w fun e w' =>Q0a (J26 k v T d) w w' e
 | .nil,_,d,_,_,w,hG,h=>by rw[show _=nlp from h];exact Y8h hk hv d w hG
 | .leaf a x,_,d,hd_,_,w,hG,⟨b1,h1,hB1,ha,hx⟩=>by
  subst h1
  by_cases hak:a=k
  ·
   exact V5z hk hv ha hx hak d w hG hB1
  ·
   exact V60 hk hv ha hx hak d (by omega) w hG hB1
 | .node e l r,_,d,hd_,hn,w,hG,⟨b,s0,s1,h1,hB,hl,hr⟩=>by
  subst h1;obtain⟨p0,rfl⟩:=hl.pt;obtain⟨p1,rfl⟩:=hr.pt;have hd2:d+(1+tsz l+tsz r)<4611686018427387904:=hd_;have hn2:cnt l+cnt r<2305843009213693952:=hn;have hb2:=J9p k d;rcases Nat.lt_or_ge 0 (kb k d) with hb|hb
  ·
   exact K1s hk hv d (by omega) hn2 (by omega) w hG hB hl hr fun W hG' h' =>Y49 hk hv (T:=r) (d+1) (by omega) (by omega) W hG' h'
  ·
   exact K1r hk hv d (by omega) hn2 (by omega) w hG hB hl hr fun W hG' h' =>Y49 hk hv (T:=l) (d+1) (by omega) (by omega) W hG' h'
end

section
set_option maxHeartbeats 3000000
attribute [local irreducible] wpList Z9 wpX
abbrev lfl (x:Nat×Nat):List AB:=(lf x.1 x.2).toList
def ofT (ls:List (Nat×Nat)):TR:=ls.foldl (fun T x=>J26 x.1 x.2 T 0) .nil
theorem Q9l (ls:List (Nat×Nat))(x:Nat×Nat):ofT (ls++[x])=J26 x.1 x.2 (ofT ls) 0:=by unfold ofT;rw[List.foldl_append];rfl
theorem Y4a {ls:List (Nat×Nat)}{i:Nat}{x:Nat×Nat}(h:ls[i]?=some x):ofT (ls.take (i+1))=J26 x.1 x.2 (ofT (ls.take i)) 0:=by
 rw[List.take_add_one,h];exact Q9l _ _
theorem Q2e (K d:Nat):∀(m:Nat) (T:TR),tsz (J43 K d m T)≤m+tsz T
 |0,T=>by show tsz T≤0+tsz T;omega
 |m+1,T=>by
  unfold J43
  split
  ·
   refine AZ (Q2e K d m _) ?_
   split
   ·
    show m+(1+tsz T+0)≤_;omega
   ·
    show m+(1+0+tsz T)≤_;omega
  ·
   omega
theorem Z8m (a x b y d:Nat):tsz (J44 a x b y d)≤259:=by
 have h:=Q3s (J2 a) (J2 b);unfold J44
 split
 ·
  refine AZ (Q2e _ _ _ _) ?_;show _+(1+1+1)≤259;omega
 refine AZ (Q2e _ _ _ _) ?_;show _+(1+1+1)≤259;omega
theorem Q5g (k v:Nat):∀(T:TR) (d:Nat),tsz (J26 k v T d)≤tsz T+260
 | .nil,_=>by show 1≤0+260;omega
 | .leaf a x,d=>by
  show tsz (if a=k then TR.leaf k v else J44 a x k v d)≤1+260
  split
  ·
   show 1≤261;omega
  ·
   have:=Z8m a x k v d;omega
 | .node e l r,d=>by
  have h1:=Q5g k v l (d+1);have h2:=Q5g k v r (d+1);show tsz (if kb k d=0 then TR.node d (J26 k v l (d+1)) r else TR.node d l (J26 k v r (d+1)))≤1+tsz l+tsz r+260
  split
  ·
   show 1+tsz (J26 k v l (d+1))+tsz r≤_;omega
  ·
   show 1+tsz l+tsz (J26 k v r (d+1))≤_;omega
theorem Q8w:∀(n:Nat) (ls:List (Nat×Nat)),tsz (ofT (ls.take n))≤260*n∧cnt (ofT (ls.take n))≤n
 |0,ls=>by rw[List.take_zero];exact⟨AJ _,AJ _⟩
 |n+1,ls=>by
  have ih:=Q8w n ls;cases h:ls[n]? with
  |none=>rw[List.take_add_one,h];simp only[Option.toList_none,List.append_nil];omega
  |some x=>
   rw[Y4a h];have h1:=Q5g x.1 x.2 (ofT (ls.take n)) 0;have h2:=J5t x.1 x.2 (ofT (ls.take n)) 0;omega
attribute [local irreducible] hs4 sE sL sN

theorem V7k {q:Prop}{k v:Nat}(hk:k<2^256)(hv:v<2^256){T:TR}{u:AB}(hz:tsz T<4611686018427387904)(hcn:cnt T<2305843009213693952)(w:AA)(hG:GT q w)(h:TA w T u):
  Az Tryz.prog 64 #[u,.agg (lf k v)] w fun e w' =>Q0a (J26 k v T 0) w w' e:=by
 have hS:=SH.nil [] w
 go_enter Tryz.func64,Tryz.ntmps64
 go_upto_region 0 with fail;refine RL hS ?_;clear hS;refine MN (z:=lf k v) (t:=40) ?_;intro G;refine MV ?_;refine MZ fun W hS=> ?_;go_upto_region 1 with fail;refine RL hS ?_;clear hS;refine MV ?_;refine ML 0 ?_ (hs:=by rw[J06];kernel_rfl);refine ME (fun W hS=>J53 hS (Y49 hk hv 0 (by omega) hcn W (X5 hG hS.ext) (TA.ext h hS.ext)) rfl) ?_;intro D;refine MV ?_;refine MZ fun W hS=> ?_;go_wp2;exact BC (v:=D) (by simp only[results,Tryz.results64];go_simp) rfl ⟨_,rfl,hS.ext,(by exact hS.tt (i:=0) rfl)⟩
end

section
def kl (a b:Nat):Bool:=V0l (J2 a) (J2 b)
theorem Q3u {a b i:Nat}(h:i<256):kb a i=kb b i↔J41 (J2 a) i=J41 (J2 b) i:=by
  rw[←Q1f h,←Q1f h];omega
theorem J2b (a b:Nat):(∀i,i<X9 (J2 a) (J2 b)→kb a i=kb b i)∧(X9 (J2 a) (J2 b)<256→kb a (X9 (J2 a) (J2 b))≠kb b (X9 (J2 a) (J2 b))):=by
  have D:∀n i,n+i=256→(∀j,j<i→kb a j=kb b j)→(∀j,j<J9q (J2 a) (J2 b) (256-i) i→kb a j=kb b j)∧(J9q (J2 a) (J2 b) (256-i) i<256→kb a (J9q (J2 a) (J2 b) (256-i) i)≠kb b (J9q (J2 a) (J2 b) (256-i) i)):=by
    intro n
    induction n with
    |zero=>
      intro i hi h;obtain rfl:i=256:=by omega
      exact⟨h,fun h1=>absurd h1 (by show ¬256<256;omega)⟩
    |succ n ih=>
      intro i hi h;rw[J9e (by omega)]
      split
      · rename_i he
        exact ih (i+1) (by omega) fun j hj=>by
          rcases Nat.lt_succ_iff_lt_or_eq.1 hj with hj|rfl
          · exact h j hj
          · exact(Q3u (by omega)).2 he
      · rename_i he
        exact⟨h,fun h1=>fun h2=>he ((Q3u h1).1 h2)⟩
  exact D 256 0 rfl (fun j hj=>absurd hj (Nat.not_lt_zero _))
theorem Q8x {a b m:Nat}(hm:m≤256)(hlt:∀i,i<m→kb a i=kb b i)(he:m<256→kb a m≠kb b m):X9 (J2 a) (J2 b)=m:=
  Q8u hm (fun i hi=>(Q3u (by omega)).1 (hlt i hi)) fun h=>fun h2=>he h ((Q3u h).2 h2)
theorem Q70 (a b:Nat):X9 (J2 a) (J2 b)=X9 (J2 b) (J2 a):=by
  obtain⟨h1,h2⟩:=J2b b a;exact Q8x (Q3s _ _) (fun i hi=>(h1 i hi).symm) fun h=>(h2 h).symm
theorem kl_iff {a b:Nat}:kl a b=true↔X9 (J2 a) (J2 b)<256∧kb a (X9 (J2 a) (J2 b))=0:=by
  unfold kl V0l;simp only[Bool.and_eq_true,decide_eq_true_eq];constructor
  · rintro⟨h1,h2⟩;exact⟨h1,by have:=Q1f (k:=a) h1;omega⟩
  rintro⟨h1,h2⟩;exact⟨h1,by have:=Q1f (k:=a) h1;omega⟩
theorem Q8y {a b:Nat}(h:kl a b=true):kb b (X9 (J2 a) (J2 b))=1:=by
  obtain⟨h1,h2⟩:=kl_iff.1 h;have h3:=(J2b a b).2 h1;have:=J9p b (X9 (J2 a) (J2 b));omega
theorem Q0b (a:Nat):kl a a=false:=by
  cases h:kl a a with
  |false=>rfl
  |true=>have h1:=kl_iff.1 h;exact absurd rfl ((J2b a a).2 h1.1)
theorem Q5h {a b c:Nat}(h1:kl a b=true)(h2:kl b c=true):kl a c=true:=by
  obtain⟨p1,p2⟩:=kl_iff.1 h1;obtain⟨q1,q2⟩:=kl_iff.1 h2;have p3:=Q8y h1;have q3:=Q8y h2;have sa:=(J2b a b).1;have sb:=(J2b b c).1;generalize X9 (J2 a) (J2 b)=m at*;generalize X9 (J2 b) (J2 c)=n at*;rcases Nat.lt_trichotomy m n with h|h|h
  · have e:X9 (J2 a) (J2 c)=m:=Q8x (by omega) (fun i hi=>(sa i hi).trans (sb i (by omega))) fun _=>by rw[p2,←sb m h,p3];decide
    exact kl_iff.2 (by rw[e];exact⟨p1,p2⟩)
  · subst h;omega
  have e:X9 (J2 a) (J2 c)=n:=Q8x (by omega) (fun i hi=>(sa i (by omega)).trans (sb i hi)) fun _=>by rw[sa n h,q2,q3];decide
  exact kl_iff.2 (by rw[e];exact⟨q1,by rw[sa n h,q2]⟩)
theorem Q5i {a b:Nat}(ha:a<2^256)(hb:b<2^256)(hne:a≠b)(h:kl a b=false):kl b a=true:=by
  have h1:=Z6t ha hb hne;have h2:=(J2b a b).2 h1;have h3:kb a (X9 (J2 a) (J2 b))≠0:=fun e=>by rw[kl_iff.2 ⟨h1,e⟩] at h;cases h
  have h4:=J9p a (X9 (J2 a) (J2 b));have h5:=J9p b (X9 (J2 a) (J2 b));have h6:kb b (X9 (J2 a) (J2 b))=0:=by omega
  exact kl_iff.2 (by rw[Q70 b a];exact⟨h1,h6⟩)
/-! ### Lists of leaves, by the document -/
def Q1i (x:Lf):Bool→List Lf→List Lf
  |done,[]=>if done=true then[] else[x]
  |done,y::r=>(if done=false∧kl y.1 x.1=false then[x] else[])++((if y.1=x.1 then[] else[y])++Q1i x (done || !kl y.1 x.1) r)
def J57 (l:List Lf)(x:Lf):List Lf:=Q1i x false l
def J52 (ls:List Lf):List Lf:=ls.foldl J57 []
def J1d (l:List Lf)(d b:Nat):List Lf:=l.filter fun y=>decide (kb y.1 d=b)
def Srt (l:List Lf):Prop:=l.Pairwise (fun a b=>kl a.1 b.1=true)
def J34 (l:List Lf):Prop:=∀y∈l,y.1<2^256∧y.2<2^256
theorem Q5j (x:Lf):∀l:List Lf,Q1i x true l=l.filter fun y=>decide (y.1≠x.1)
  |[]=>rfl
  |y::r=>by
    show([]:List Lf)++((if y.1=x.1 then[] else[y])++Q1i x true r)=_;rw[Q5j x r,List.filter_cons]
    by_cases h:y.1=x.1
    · rw[if_pos h,if_neg (by simp[h])];rfl
    · rw[if_neg h,if_pos (by simp[h])];rfl
theorem J6g {x y:Lf}{r:List Lf}(h:kl y.1 x.1=true):J57 (y::r) x=y::J57 r x:=by
  have D:y.1≠x.1:=fun e=>by rw[e,Q0b] at h;cases h
  show Q1i x false (y::r)=y::Q1i x false r;simp[Q1i,h,D]
theorem J3b {x y:Lf}{r:List Lf}(h:kl y.1 x.1=false):J57 (y::r) x=x::(if y.1=x.1 then[] else[y])++r.filter fun z=>decide (z.1≠x.1):=by
  show(if(false=false∧kl y.1 x.1=false) then[x] else[])++((if y.1=x.1 then[] else[y])++Q1i x (false || !kl y.1 x.1) r)=_;rw[if_pos ⟨rfl,h⟩,h];show[x]++(_++Q1i x true r)=_;rw[Q5j];simp
theorem Q0c {l:List Lf}(p:Lf→Bool)(h:Srt l):Srt (l.filter p):=List.Pairwise.filter p h
theorem Q5k {x z:Lf}:∀{l:List Lf},z∈J57 l x→z=x∨z∈l
  |[],h=>by rw[show J57 [] x=[x] from rfl] at h;exact .inl (Ae.1 h)
  |y::r,h=>by
    cases hk:kl y.1 x.1 with
    |true=>
      rw[J6g hk] at h;rcases AY.1 h with rfl|h
      · exact .inr (by simp)
      · rcases Q5k h with h|h
        · exact .inl h
        · exact .inr (by simp[h])
    |false=>
      rw[J3b hk] at h;simp only[BK,AY,Ar,List.mem_filter] at h;rcases h with h|h|h
      · exact .inl h
      · split at h
        · cases h
        · exact .inr (by simp at h;simp[h])
      · exact .inr (by simp[h.1])
theorem Z6u {l:List Lf}{x:Lf}(h:J34 l)(hx:x.1<2^256∧x.2<2^256):J34 (J57 l x):=fun z hz=>by
  rcases Q5k hz with rfl|hz
  · exact hx
  · exact h z hz
theorem Q5l {x:Lf}(hx:x.1<2^256):∀{l:List Lf},J34 l→Srt l→Srt (J57 l x)
  |[],_,_=>by show Srt [x];exact List.pairwise_singleton _ _
  |y::r,ho,hs=>by
    have hc:=List.pairwise_cons.1 hs;have hy:=ho y (by simp);cases hk:kl y.1 x.1 with
    |true=>
      rw[J6g hk];refine List.pairwise_cons.2 ⟨fun z hz=> ?_,Q5l hx (fun z hz=>ho z (by simp[hz])) hc.2⟩;rcases Q5k hz with rfl|hz
      · exact hk
      · exact hc.1 z hz
    |false=>
      rw[J3b hk]
      have hxy:y.1=x.1∨kl x.1 y.1=true:=by
        by_cases e:y.1=x.1
        · exact .inl e
        · exact .inr (Q5i hy.1 hx e hk)
      have D:∀z∈r,kl x.1 z.1=true:=fun z hz=>by
        rcases hxy with e|e
        · rw[←e];exact hc.1 z hz
        exact Q5h e (hc.1 z hz)
      rw[BK];refine List.pairwise_cons.2 ⟨fun z hz=> ?_,?_⟩
      · rcases Ar.1 hz with hz|hz
        · split at hz
          · cases hz
          rename_i e;rw[Ae.1 hz];exact hxy.resolve_left e
        exact D z (List.mem_filter.1 hz).1
      split
      · exact Q0c _ hc.2
      refine List.pairwise_cons.2 ⟨fun z hz=>hc.1 z (List.mem_filter.1 hz).1,Q0c _ hc.2⟩
theorem J78 {ls:List Lf}(h:J34 ls):J34 (J52 ls)∧Srt (J52 ls):=by
  unfold J52
  have:∀(ls D:List Lf),J34 ls→J34 D→Srt D→J34 (ls.foldl J57 D)∧Srt (ls.foldl J57 D):=by
    intro ls
    induction ls with
    |nil=>intro D _ h1 h2;exact⟨h1,h2⟩
    |cons x r ih=>
      intro D ho h1 h2;have hx:=ho x (by simp);exact ih (J57 D x) (fun z hz=>ho z (by simp[hz])) (Z6u h1 hx) (Q5l hx.1 h1 h2)
  exact this ls [] h (fun z hz=>by cases hz) .nil
theorem J74 {x:Lf}{l:List Lf}(h:∀z∈l,kl x.1 z.1=true):(l.filter fun z=>decide (z.1≠x.1))=l:=by
  rw[List.filter_eq_self];intro z hz;have:=h z hz;simp only[decide_eq_true_eq];intro e;rw[e,Q0b] at this;cases this
theorem Q0d {d b:Nat}{x:Lf}(hx:x.1<2^256):∀{l:List Lf},J34 l→Srt l→J1d (J57 l x) d b=if kb x.1 d=b then J57 (J1d l d b) x else J1d l d b
  |[],_,_=>by
    show J1d [x] d b=_;unfold J1d
    by_cases h:kb x.1 d=b
    · rw[if_pos h,List.filter_cons,if_pos (by simp[h])];rfl
    · rw[if_neg h,List.filter_cons,if_neg (by simp[h])]
  |y::r,ho,hs=>by
    have hc:=List.pairwise_cons.1 hs;have hy:=ho y (by simp);have hr:J34 r:=fun z hz=>ho z (by simp[hz]);cases hk:kl y.1 x.1 with
    |true=>
      have ih:=Q0d (d:=d) (b:=b) hx hr hc.2;rw[J6g hk];have e:∀q:List Lf,J1d (y::q) d b=if kb y.1 d=b then y::J1d q d b else J1d q d b:=fun q=>by unfold J1d;rw[List.filter_cons];simp
      rw[e,e,ih]
      by_cases h1:kb y.1 d=b
      · rw[if_pos h1,if_pos h1]
        by_cases h2:kb x.1 d=b
        · rw[if_pos h2,if_pos h2,J6g hk]
        · rw[if_neg h2,if_neg h2]
      · rw[if_neg h1,if_neg h1]
    |false=>
      have J:y.1=x.1∨kl x.1 y.1=true:=by
        by_cases e:y.1=x.1
        · exact .inl e
        · exact .inr (Q5i hy.1 hx e hk)
      have D:∀z∈r,kl x.1 z.1=true:=fun z hz=>by
        rcases J with e|e
        · rw[←e];exact hc.1 z hz
        exact Q5h e (hc.1 z hz)
      have M:∀z∈r,kl z.1 x.1=false:=fun z hz=>by
        cases h:kl z.1 x.1 with
        |false=>rfl
        |true=>have:=Q5h h (D z hz);rw[Q0b] at this;cases this
      rw[J3b hk,J74 D]
      have G:∀q:List Lf,(∀z∈q,z∈r)→J57 q x=x::q:=fun q hq=>by
        cases q with
        |nil=>rfl
        |cons z q=>
          have hz:=hq z (by simp);rw[J3b (M z hz),J74 fun u hu=>D u (hq u (by simp[hu])),if_neg (fun e=>by have:=D z hz;rw[e,Q0b] at this;cases this)];rfl
      unfold J1d
      by_cases hb:kb x.1 d=b
      · rw[if_pos hb,BK,List.filter_cons,if_pos (by simp[hb])]
        by_cases e:y.1=x.1
        · rw[if_pos e,BM,List.filter_cons,if_pos (by simp[e,hb])]
          rw[J3b hk,if_pos e,J74 fun z hz=>D z (List.mem_filter.1 hz).1];rfl
        rw[if_neg e,List.singleton_append,List.filter_cons]
        by_cases h1:kb y.1 d=b
        · rw[if_pos (by simp[h1]),J3b hk,if_neg e,J74 fun z hz=>D z (List.mem_filter.1 hz).1]
          rfl
        rw[if_neg (by simp[h1]),G _ fun z hz=>(List.mem_filter.1 hz).1]
      rw[if_neg hb,BK,List.filter_cons,if_neg (by simp[hb])]
      by_cases e:y.1=x.1
      · rw[if_pos e,BM,List.filter_cons,if_neg (by simp[e,hb])]
      rw[if_neg e];rfl
end

section
def can:Nat→List Lf→Nat→TR
  |_,[],_=> .nil
  |_,[x],_=> .leaf x.1 x.2
  |0,x::_::_,_=> .leaf x.1 x.2
  |f+1,x::y::r,d=> .node d (can f (J1d (x::y::r) d 0) (d+1)) (can f (J1d (x::y::r) d 1) (d+1))
theorem J6b (f d:Nat):can f [] d=.nil:=by cases f<;>rfl
theorem J4h (f d:Nat)(x:Lf):can f [x] d=.leaf x.1 x.2:=by cases f<;>rfl
theorem J7i {f d:Nat}{ws:List Lf}(h:2≤ws.length):can (f+1) ws d=.node d (can f (J1d ws d 0) (d+1)) (can f (J1d ws d 1) (d+1)):=by
  match ws,h with
  |x::y::r,_=>rfl
def Pre (ws:List Lf)(d:Nat):Prop:=∀y∈ws,∀z∈ws,∀i,i<d→kb y.1 i=kb z.1 i
theorem mem_rside {y:Lf}{ws:List Lf}{d b:Nat}:y∈J1d ws d b↔y∈ws∧kb y.1 d=b:=by unfold J1d;simp
theorem Q5m (y:Lf)(q:List Lf)(d b:Nat):J1d (y::q) d b=if kb y.1 d=b then y::J1d q d b else J1d q d b:=by unfold J1d;rw[List.filter_cons];simp
theorem J3u {ws:List Lf}{d b:Nat}(h:Pre ws d):Pre (J1d ws d b) (d+1):=fun y hy z hz i hi=>by
  obtain⟨y1,y2⟩:=mem_rside.1 hy;obtain⟨z1,z2⟩:=mem_rside.1 hz;rcases Nat.lt_succ_iff_lt_or_eq.1 hi with hi|rfl
  · exact h y y1 z z1 i hi
  · rw[y2,z2]
theorem Z6v {ws:List Lf}{d b:Nat}(h:J34 ws):J34 (J1d ws d b):=fun y hy=>h y (mem_rside.1 hy).1
theorem J36 {ws:List Lf}{d b:Nat}(h:Srt ws):Srt (J1d ws d b):=Q0c _ h
theorem Q4w {x y:Lf}{r:List Lf}(hs:Srt (x::y::r))(hp:Pre (x::y::r) 256):False:=by
  have h1:=(List.pairwise_cons.1 hs).1 y (by simp);obtain⟨h2,_⟩:=kl_iff.1 h1;exact(J2b x.1 y.1).2 h2 (hp x (by simp) y (by simp) _ h2)
def V0o (K d:Nat)(T:TR):TR:=if kb K d=0 then .node d T .nil else .node d .nil T
theorem Q71 {K d:Nat}:∀(m:Nat) (T:TR),d<m→J43 K d m T=V0o K d (J43 K (d+1) m T)
  |0,_,h=>by omega
  |m+1,T,h=>by
    rw[J9f (by omega)];rcases Nat.lt_or_ge d m with h1|h1
    · rw[J9f (show d+1≤m by omega)]
      exact Q71 m _ h1
    · obtain rfl:m=d:=by omega
      rw[Q1h (AJ _),Q1h (AJ _)];rfl
theorem Z1g {a b:Lf}(hk:kl a.1 b.1=true):∀(f d:Nat),f+d=256→d≤X9 (J2 a.1) (J2 b.1)→can f [a,b] d=J43 a.1 d (X9 (J2 a.1) (J2 b.1)) (.node (X9 (J2 a.1) (J2 b.1)) (.leaf a.1 a.2) (.leaf b.1 b.2))
  |0,d,h,hd=>by have:=(kl_iff.1 hk).1;omega
  |f+1,d,h,hd=>by
    obtain⟨h1,h2⟩:=kl_iff.1 hk;have h3:=Q8y hk;have h4:=(J2b a.1 b.1).1;rw[J7i (by simp)];rcases Nat.lt_or_ge d (X9 (J2 a.1) (J2 b.1)) with h5|h5
    · have h6:=h4 d h5
      rw[Q71 _ _ h5,←Z1g hk f (d+1) (by omega) h5];have hb:=J9p a.1 d;unfold V0o;simp only[Q5m,←h6];rcases Nat.lt_or_ge 0 (kb a.1 d) with hz|hz
      · have e:kb a.1 d=1:=by omega
        rw[e];simp[J1d,J6b]
      · have e:kb a.1 d=0:=by omega
        rw[e];simp[J1d,J6b]
    · obtain rfl:d=X9 (J2 a.1) (J2 b.1):=by omega
      rw[Q1h (AJ _)];simp only[Q5m,h2,h3];simp[J1d,J4h]
theorem Z1h {a b:Lf}(hk:kl a.1 b.1=true){f d:Nat}(h:f+d=256)(hd:d≤X9 (J2 a.1) (J2 b.1)):J44 a.1 a.2 b.1 b.2 d=can f [a,b] d∧J44 b.1 b.2 a.1 a.2 d=can f [a,b] d:=by
  obtain⟨h1,h2⟩:=kl_iff.1 hk;have h3:=Q8y hk;rw[Z1g hk f d h hd];unfold J44;rw[Q70 b.1 a.1,if_neg (by rw[h2];decide),if_pos h3];exact⟨rfl,rfl⟩
theorem Q5n {a b:Lf}{ws:List Lf}{d:Nat}(hd:d≤256)(h:Pre ws d)(ha:a∈ws)(hb:b∈ws):d≤X9 (J2 a.1) (J2 b.1):=by
  rcases Nat.lt_or_ge (X9 (J2 a.1) (J2 b.1)) d with h1|h1
  · exact absurd (h a ha b hb _ h1) ((J2b a.1 b.1).2 (by omega))
  exact h1
theorem Y4b {x:Lf}{ws:List Lf}(hx:x.1<2^256)(ho:J34 ws)(hs:Srt ws)(h:2≤ws.length):2≤(J57 ws x).length:=by
  match ws,h with
  |y::z::r,_=>
    cases hk:kl y.1 x.1 with
    |true=>
      rw[J6g hk];cases hq:J57 (z::r) x with
      |nil=>
        cases hk2:kl z.1 x.1 with
        |true=>rw[J6g hk2] at hq;cases hq
        |false=>rw[J3b hk2] at hq;cases hq
      |cons u q=>simp
    |false=>
      rw[J3b hk]
      by_cases e:y.1=x.1
      · have hc:=(List.pairwise_cons.1 hs).1
        rw[if_pos e,J74 fun u hu=>by rw[←e];exact hc u hu];simp
      · rw[if_neg e];simp
theorem Y8i (x:Lf)(hx:x.1<2^256):∀(f d:Nat) (ws:List Lf),f+d=256→J34 ws→Srt ws→Pre (x::ws) d→J26 x.1 x.2 (can f ws d) d=can f (J57 ws x) d:=by
  intro f
  induction f with
  |zero=>
    intro d ws hd ho hs hp;obtain rfl:d=256:=by omega
    match ws with
    |[]=>rw[J6b,show J57 [] x=[x] from rfl,J4h];rfl
    |[y]=>
      rw[J4h]
      have e:y.1=x.1:=J8v (ho y (by simp)).1 hx fun j hj=>by
        have h0:X9 (J2 y.1) (J2 x.1)=256:=by
          have:=Q5n (a:=y) (b:=x) (AJ _) hp (by simp) (by simp);have:=Q3s (J2 y.1) (J2 x.1);omega
        rcases Nat.lt_or_ge (X9 (J2 y.1) (J2 x.1)) 256 with h|h
        · omega
        · by_cases e:y.1=x.1
          · rw[e]
          · exact absurd (Z6t (ho y (by simp)).1 hx e) (by omega)
      rw[J3b (by rw[e];exact Q0b _),if_pos e];show(if y.1=x.1 then TR.leaf x.1 x.2 else _)=can 0 [x] 256;rw[if_pos e];rfl
    |y::z::r=>exact(Q4w hs fun u hu v hv=>hp u (List.mem_cons_of_mem _ hu) v (List.mem_cons_of_mem _ hv)).elim
  |succ f ih=>
    intro d ws hd ho hs hp
    match ws,ho,hs,hp with
    |[],_,_,_=>rw[J6b,show J57 [] x=[x] from rfl,J4h];rfl
    |[y],ho,hs,hp=>
      rw[J4h];show(if y.1=x.1 then TR.leaf x.1 x.2 else J44 y.1 y.2 x.1 x.2 d)=_
      by_cases e:y.1=x.1
      · rw[if_pos e,J3b (by rw[e];exact Q0b _),if_pos e]
        exact(J4h _ _ x).symm
      · rw[if_neg e]
        cases hk:kl y.1 x.1 with
        |true=>
          rw[J6g hk];exact(Z1h hk hd (Q5n (by omega) hp (by simp) (by simp))).1
        |false=>
          rw[J3b hk,if_neg e];have G:=Q5i (ho y (by simp)).1 hx e hk;exact(Z1h G hd (Q5n (by omega) hp (by simp) (by simp))).2
    |y::z::r,ho,hs,hp=>
      have h2:=Y4b hx ho hs (by simp);rw[J7i (by simp),J7i h2,Q0d hx ho hs,Q0d hx ho hs];have hb:=J9p x.1 d;have J:Pre (y::z::r) d:=fun u hu v hv=>hp u (List.mem_cons_of_mem _ hu) v (List.mem_cons_of_mem _ hv)
      have D:∀b,kb x.1 d=b→Pre (x::J1d (y::z::r) d b) (d+1):=fun b hb u hu v hv=>by
        refine J3u (b:=b) hp u ?_ v ?_
        · rcases AY.1 hu with rfl|hu
          · exact mem_rside.2 ⟨by simp,hb⟩
          · exact mem_rside.2 ⟨List.mem_cons_of_mem _ (mem_rside.1 hu).1,(mem_rside.1 hu).2⟩
        · rcases AY.1 hv with rfl|hv
          · exact mem_rside.2 ⟨by simp,hb⟩
          · exact mem_rside.2 ⟨List.mem_cons_of_mem _ (mem_rside.1 hv).1,(mem_rside.1 hv).2⟩
      show(if kb x.1 d=0 then TR.node d (J26 x.1 x.2 (can f (J1d (y::z::r) d 0) (d+1)) (d+1)) _ else TR.node d _ (J26 x.1 x.2 (can f (J1d (y::z::r) d 1) (d+1)) (d+1)))=_;rcases Nat.lt_or_ge 0 (kb x.1 d) with h0|h0
      · have e:kb x.1 d=1:=by omega
        rw[if_neg (by omega),if_neg (by omega),if_pos e,ih (d+1) _ (by omega) (Z6v ho) (J36 hs) (D 1 e)]
      · have e:kb x.1 d=0:=by omega
        rw[if_pos e,if_pos e,if_neg (by omega),ih (d+1) _ (by omega) (Z6v ho) (J36 hs) (D 0 e)]
theorem Q2h (ws:List Lf):Pre ws 0:=fun _ _ _ _ i hi=>absurd hi (Nat.not_lt_zero i)
theorem Q0m {ls:List Lf}(h:J34 ls):ofT ls=can 256 (J52 ls) 0:=by
  unfold ofT J52
  have:∀(ls D:List Lf),J34 ls→J34 D→Srt D→ls.foldl (fun T x=>J26 x.1 x.2 T 0) (can 256 D 0)=can 256 (ls.foldl J57 D) 0:=by
    intro ls
    induction ls with
    |nil=>intro D _ _ _;rfl
    |cons x r ih=>
      intro D ho h1 h2;have hx:=ho x (by simp);show r.foldl _ (J26 x.1 x.2 (can 256 D 0) 0)=_;rw[Y8i x hx.1 256 0 D rfl h1 h2 (Q2h _)];exact ih (J57 D x) (fun z hz=>ho z (by simp[hz])) (Z6u h1 hx) (Q5l hx.1 h1 h2)
  have h0:=this ls [] h (fun z hz=>by cases hz) .nil;rw[J6b] at h0;exact h0
/-! ### The leaves of a tree -/
def lvs:TR→List Lf
  | .nil=>[]
  | .leaf k v=>[(k,v)]
  | .node _ l r=>lvs l++lvs r
/-! ### Lists, step by step -/
end
end Go.Proofs.YtpljgkofbfeelaaGreatDoor

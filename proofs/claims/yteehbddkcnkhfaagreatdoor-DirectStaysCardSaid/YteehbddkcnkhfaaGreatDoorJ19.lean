/- Contracts and plain laws for directStays_holds. Conditions: the tables hold their numbers. -/
import Derived.Test.YteehbddkcnkhfaaGreatDoorJ18
open Go.RowKit
set_option maxRecDepth 100000
set_option linter.unusedSimpArgs false
set_option linter.unusedVariables false
namespace Go.Proofs.YteehbddkcnkhfaaGreatDoor
section
set_option maxHeartbeats 1500000
attribute [local irreducible] wpList V2 wpX
def tsz:TR→Nat
 | .nil=>0
 | .leaf _ _=>1
 | .node _ l r=>1+tsz l+tsz r
def hd (w:World):Nat→Value→Nat
 |n+1,.pointer (some a)=>match w.cell? ⟨a.block,66,none⟩ with
  |some (.bool true)=>1+hd w n ((w.cell? ⟨a.block,64,none⟩).getD undef)+hd w n ((w.cell? ⟨a.block,65,none⟩).getD undef)
  |some (.bool false)=>1
  |_=>0
 |_,_=>0
theorem V7p (w:World)(n:Nat):hd w n nlp=0:=by cases n<;>rfl
theorem Q0u {w:World}:∀{T:TR} {u:Value} {n:Nat},TA w T u→tsz T≤n→hd w n u=tsz T
 | .nil,_,n,h,_=>by rw[show _=nlp from h];exact V7p w n
 | .leaf k v,_,0,_,hn=>absurd hn (by show ¬1≤0;omega)
 | .leaf k v,_,n+1,⟨b,h1,h2,_⟩,_=>by
  subst h1;have e:w.cell? ⟨b,66,none⟩=some (.bool false):=by rw[J3 h2];exact J7v
  show(match w.cell? ⟨b,66,none⟩ with
   |some (.bool true)=>_
   |some (.bool false)=>1
   |_=>0)=1
  rw[e]
 | .node d l r,_,0,_,hn=>absurd hn (by show ¬1+tsz l+tsz r≤0;omega)
 | .node d l r,_,n+1,⟨b,s0,s1,h1,h2,h3,h4⟩,hn=>by
  subst h1;have e:w.cell? ⟨b,66,none⟩=some (.bool true):=by rw[J3 h2];exact J7v
  have e0:w.cell? ⟨b,64,none⟩=some s0:=by rw[J3 h2];exact nd_s0
  have e1:w.cell? ⟨b,65,none⟩=some s1:=by rw[J3 h2];exact nd_s1
  have hn' :1+tsz l+tsz r≤n+1:=hn
  show(match w.cell? ⟨b,66,none⟩ with
   |some (.bool true)=>1+hd w n ((w.cell? ⟨b,64,none⟩).getD undef)+hd w n ((w.cell? ⟨b,65,none⟩).getD undef)
   |some (.bool false)=>1
   |_=>0)=1+tsz l+tsz r
  rw[e,e0,e1];show 1+hd w n s0+hd w n s1=_;rw[Q0u h3 (by omega),Q0u h4 (by omega)]
def Z00:TR→Nat
 | .nil=>0
 | .leaf k _=>k
 | .node _ .nil r=>Z00 r
 | .node _ l _=>Z00 l
def full:TR→Prop
 | .nil=>False
 | .leaf _ _=>True
 | .node _ .nil r=>full r
 | .node _ l _=>full l
theorem Z4k {d:Nat}{l r:TR}(h:l≠ .nil):Z00 (.node d l r)=Z00 l:=by cases l<;>first|exact absurd rfl h|rfl
theorem Z4l {d:Nat}{l r:TR}(h:l≠ .nil):full (.node d l r)=full l:=by cases l<;>first|exact absurd rfl h|rfl
theorem Q4t {T:TR}(h:full T):T≠ .nil:=fun e=>by subst e;exact h
theorem TA.cases {w:World}{T:TR}{u:Value}(h:TA w T u)(hf:full T):(∃b k v,T=.leaf k v∧u=ptr b∧Blk w b (ndc k v nlp nlp false (sL k v) 1) 181)∨
  ∃b d l r s0 s1,T=.node d l r∧u=ptr b∧Blk w b (ndc 0 0 s0 s1 true (rs (.node d l r)) (cnt l+cnt r)) 181∧TA w l s0∧TA w r s1:=by
 cases T with
 |nil=>exact hf.elim
 |leaf k v=>obtain⟨b,h1,h2,_⟩:=h;exact .inl ⟨b,k,v,rfl,h1,h2⟩
 |node d l r=>obtain⟨b,s0,s1,h1,h2,h3,h4⟩:=h;exact .inr ⟨b,d,l,r,s0,s1,rfl,h1,h2,h3,h4⟩
theorem TA.side {w:World}{T:TR}{u:Value}(h:TA w T u):(T=.nil∧u=nlp)∨∃b,T≠ .nil∧u=ptr b:=by
 cases T with
 |nil=>exact .inl ⟨rfl,h⟩
 |leaf k v=>obtain⟨b,h1,_⟩:=h;exact .inr ⟨b,fun e=>(by cases e),h1⟩
 |node d l r=>obtain⟨b,s0,s1,h1,_⟩:=h;exact .inr ⟨b,fun e=>(by cases e),h1⟩
attribute [local irreducible] hs4 sE sL sN

theorem Z7g {T:TR}{u:Value}(hf0:full T)(w:World)(h:TA w T u):
  Calls Tryz.prog 197 #[u] w fun e w' =>X5 (.agg (J0 .u8 32 (J5 (Z00 T)))) w w' e:=by
 have hS:=SH.nil [] w
 go_enter Tryz.func197,Tryz.ntmps197
 go_upto_region 0 with fail;refine RL hS ?_;clear hS;refine MN (z:=J0 .u8 32 (J5 0)) (t:=42) ?_;intro K9;refine MZ fun W hS=> ?_
 go_wp2_with fail
 go_loopw [0] (fun u wr=> ∃(T1:TR),(TA w T1 u)∧(full T1)∧(Z00 T1=Z00 T)∧(tsz T1≤tsz T)∧SH [] w wr [.b K9 (J0 .u8 32 (J5 0)) 42])
  (fun u _=>hd w (tsz T) u)
 case atStart=>exact⟨T,h,hf0,rfl,Nat.le_refl _,hS⟩
 clear hS
 case round=>
  obtain⟨T1,hT,hf,hk,hz,hS⟩:=hrel;rcases hT.cases hf with⟨b,k,v,rfl,rfl,hB⟩|⟨b,d,l,r,s0,s1,rfl,rfl,hB,hl,hr⟩
  ·
   go_upto_region 1 with fail;refine RL hS ?_;clear hS;(iterate 3 refine MV ?_);refine MF (v:=.bool false) (fun W hS=>Z5 rfl rfl (by rw[J3 (J2 hB hS.ext)];exact J7v) (by kernel_rfl)) ?_;refine MZ fun W hS=> ?_;go_upto_region 5 with fail;refine RL hS ?_;clear hS;(iterate 4 refine MV ?_);refine MF (v:=.agg (J0 .u8 32 (J5 k))) (fun W hS=>J0i (vs:=(J0 .u8 32 (J5 k)).toList) rfl rfl (fun i v hv=>by rw[J3 (J2 hB hS.ext)];exact J8m i v (by simpa using hv)) (by kernel_rfl) (by first|kernel_rfl|(simp only[Array.length_toList];rw[J1];kernel_rfl))) ?_;refine MR 0 ?_;refine MZ fun W hS=> ?_;go_wp2;exact bodyPost_ret (Y0 rfl rfl (hS.blk (i:=0) rfl) (by kernel_rfl) (by rw[J1];kernel_rfl)) rfl ⟨by rw[←hk];rfl,hS.ext⟩
  have D:TA w (.node d l r) (ptr b):=hT;go_upto_region 1 with fail;refine RL hS ?_;clear hS;(iterate 3 refine MV ?_);refine MF (v:=.bool true) (fun W hS=>Z5 rfl rfl (by rw[J3 (J2 hB hS.ext)];exact J7v) (by kernel_rfl)) ?_;refine MZ fun W hS=> ?_;rcases hl.side with⟨rfl,rfl⟩|⟨c,G,rfl⟩
  ·
   go_upto_region 2 with fail;refine RL hS ?_;clear hS;(iterate 3 refine MV ?_);refine MW ?_ (v:=.pointer (some ⟨b,64,none⟩)) (hv:=fun _=>J0f (m:=2) (k:=1) (j:=0) (off:=64) (by decide) Tryz.underlying179 (by kernel_rfl) rfl rfl rfl);refine MF (v:=.pointer none) (fun W hS=>Z5 rfl rfl (by rw[J3 (J2 hB hS.ext)];exact nd_s0) (by kernel_rfl)) ?_;refine Wf ?_;refine MZ fun W hS=> ?_;go_upto_region 4 with fail;refine RL hS ?_;clear hS;(iterate 3 refine MV ?_);refine MW ?_ (v:=.pointer (some ⟨b,65,none⟩)) (hv:=fun _=>J0f (m:=2) (k:=1) (j:=1) (off:=64) (by decide) Tryz.underlying179 (by kernel_rfl) rfl rfl rfl);refine MF (v:=s1) (fun W hS=>Z5 rfl rfl (by rw[J3 (J2 hB hS.ext)];exact nd_s1) (by kernel_rfl)) ?_;refine MV ?_;refine MZ fun W hS=> ?_;go_wp2;go_roundw
   case rel=>exact⟨r,hr,hf,hk,(by have h_:1+tsz .nil+tsz r≤tsz T:=hz;omega),hS⟩
   case measure=>rw[Q0u D hz,Q0u hr (by have h_:1+tsz .nil+tsz r≤tsz T:=hz;omega)];show _<1+tsz .nil+tsz r;omega
  go_upto_region 2 with fail;refine RL hS ?_;clear hS;(iterate 3 refine MV ?_);refine MW ?_ (v:=.pointer (some ⟨b,64,none⟩)) (hv:=fun _=>J0f (m:=2) (k:=1) (j:=0) (off:=64) (by decide) Tryz.underlying179 (by kernel_rfl) rfl rfl rfl);refine MF (v:=.pointer (some ⟨c,0,none⟩)) (fun W hS=>Z5 rfl rfl (by rw[J3 (J2 hB hS.ext)];exact nd_s0) (by kernel_rfl)) ?_;refine Wt ?_;refine MZ fun W hS=> ?_;go_upto_region 3 with fail;refine RL hS ?_;clear hS;(iterate 3 refine MV ?_);refine MW ?_ (v:=.pointer (some ⟨b,64,none⟩)) (hv:=fun _=>J0f (m:=2) (k:=1) (j:=0) (off:=64) (by decide) Tryz.underlying179 (by kernel_rfl) rfl rfl rfl);refine MF (v:=.pointer (some ⟨c,0,none⟩)) (fun W hS=>Z5 rfl rfl (by rw[J3 (J2 hB hS.ext)];exact nd_s0) (by kernel_rfl)) ?_;refine MV ?_;refine MZ fun W hS=> ?_;go_wp2;go_roundw
  case rel=>exact⟨l,hl,(by rw[Z4l G] at hf;exact hf),(by rw[Z4k G] at hk;exact hk),(by have h_:1+tsz l+tsz r≤tsz T:=hz;omega),hS⟩
  case measure=>rw[Q0u D hz,Q0u hl (by have h_:1+tsz l+tsz r≤tsz T:=hz;omega)];show _<1+tsz l+tsz r;omega
end

section
set_option maxHeartbeats 3000000
attribute [local irreducible] wpList V2 wpX
def J5a (K:Nat)(d:Nat):Nat→TR→TR
 |0,T=>T
 |m+1,T=>if d≤m then J5a K d m (if kb K m=0 then .node m T .nil else .node m .nil T) else T
def J4i (a x b y d:Nat):TR:=
 if kb a (J0m (J5 a) (J5 b))=1 then J5a b d (J0m (J5 a) (J5 b)) (.node (J0m (J5 a) (J5 b)) (.leaf b y) (.leaf a x))
 else J5a a d (J0m (J5 a) (J5 b)) (.node (J0m (J5 a) (J5 b)) (.leaf a x) (.leaf b y))
def J2h (k v:Nat):TR→Nat→TR
 | .nil,_=> .leaf k v
 | .leaf a x,d=>if a=k then .leaf k v else J4i a x k v d
 | .node _ l r,d=>if kb k d=0 then .node d (J2h k v l (d+1)) r else .node d l (J2h k v r (d+1))
theorem Q0i {K d m:Nat}{T:TR}(h:d≤m):J5a K d (m+1) T=J5a K d m (if kb K m=0 then .node m T .nil else .node m .nil T):=by
 show(if d≤m then _ else _)=_;rw[if_pos h]
theorem Q2b {K d m:Nat}{T:TR}(h:m≤d):J5a K d m T=T:=by
 cases m with
 |zero=>rfl
 |succ m=>show(if d≤m then _ else _)=_;rw[if_neg (by omega)]
theorem Q83 (K d:Nat):∀(m:Nat) (T:TR),cnt (J5a K d m T)=cnt T
 |0,_=>rfl
 |m+1,T=>by
  unfold J5a
  split
  ·
   rw[Q83];split<;>simp[cnt]
  ·
   rfl
theorem Z9g (a x b y d:Nat):cnt (J4i a x b y d)=2:=by unfold J4i;split<;>rw[Q83]<;>rfl
theorem J6c (k v:Nat):∀(T:TR) (d:Nat),cnt (J2h k v T d)≤cnt T+1
 | .nil,_=>by show 1≤0+1;omega
 | .leaf a x,d=>by
  show cnt (if a=k then TR.leaf k v else J4i a x k v d)≤1+1
  split
  ·
   show 1≤2;omega
  ·
   rw[Z9g];omega
 | .node e l r,d=>by
  have h1:=J6c k v l (d+1);have h2:=J6c k v r (d+1);show cnt (if kb k d=0 then TR.node d (J2h k v l (d+1)) r else TR.node d l (J2h k v r (d+1)))≤cnt l+cnt r+1
  split
  ·
   show cnt (J2h k v l (d+1))+cnt r≤_;omega
  ·
   show cnt l+cnt (J2h k v r (d+1))≤_;omega
theorem Z7h {a b:Nat}(ha:a<2^256)(hb:b<2^256)(h:a≠b):J0m (J5 a) (J5 b)<256:=by
 rcases Nat.lt_or_ge (J0m (J5 a) (J5 b)) 256 with h1|h1
 ·
  exact h1
 have h2:∀n j,j+n=32→(∀i,i<j→kby a i=kby b i)→(∀i,i<32→kby a i=kby b i):=by
  intro n
  induction n with
  |zero=>intro j hj hl i hi;exact hl i (by omega)
  |succ n ih=>
   intro j hj hl
   by_cases he:kby a j=kby b j
   ·
    exact ih (j+1) (by omega) fun i hi=>by rcases Nat.lt_succ_iff_lt_or_eq.1 hi with hi|rfl;exact hl i hi;exact he
   ·
    have:=Q82 (by omega) hl he;have:=(Z4j ⟨kby a j^^^kby b j,Nat.xor_lt_two_pow (n:=8) (Q00 a j) (Q00 b j)⟩).2.1 (fun h0=>he (by have e:=congrArg (· ^^^kby b j) h0;simpa[Nat.xor_assoc] using e));simp only at this;omega
 exact absurd (Q1t ha hb fun j hj=>congrArg Nat.cast (h2 32 0 (by omega) (fun i hi=>absurd hi (Nat.not_lt_zero _)) j hj)) h
theorem TA.leaf' {w:World}{k v b:Nat}(h:Blk w b (ndc k v nlp nlp false (sL k v) 1) 181)(hk:k<2^256)(hv:v<2^256):TA w (.leaf k v) (ptr b):=⟨b,rfl,h,hk,hv⟩
attribute [local irreducible] hs4 sE sL sN

theorem V7q {q:Prop}{a x c y b1 b2:Nat}(ha:a<2^256)(hx:x<2^256)(hc:c<2^256)(hy:y<2^256)(d:Nat)(hd_:d<4611686018427387904)(w:World)(hG:GT q w)(hB1:Blk w b1 (ndc a x nlp nlp false (sL a x) 1) 181)(hB2:Blk w b2 (ndc c y nlp nlp false (sL c y) 1) 181):
  Calls Tryz.prog 171 #[ptr b1,ptr b2,.int .i64 (d:Int)] w fun e w' =>Q1a (J4i a x c y d) w w' e:=by
 have hS:=SH.nil [] w;have h3:=Q4s (J5 a) (J5 c);have hA:TA w (.leaf a x) (ptr b1):=TA.leaf' hB1 ha hx;have hC:TA w (.leaf c y) (ptr b2):=TA.leaf' hB2 hc hy
 go_enter Tryz.func171,Tryz.ntmps171
 go_upto_region 1 with fail;refine RTh (.q 0 (.q 1 (.q 2 (.q 3 (.q 4 (.q 5 (.q 6 (.q 7 (.q 8 (.q 9 (.e 10 (.q 11 .z)))))))))))) hS ?_;clear hS;(iterate 4 refine TV ?_);refine TF (v:=.agg (J0 .u8 32 (J5 a))) rfl (fun W hS=>J0i (vs:=(J0 .u8 32 (J5 a)).toList) rfl rfl (fun i v hv=>by rw[J3 (J2 hB1 hS.ext)];exact J8m i v (by simpa using hv)) (by kernel_rfl) (by first|kernel_rfl|(simp only[Array.length_toList];rw[J1];kernel_rfl))) ?_;(iterate 4 refine TV ?_);refine TF (v:=.agg (J0 .u8 32 (J5 c))) rfl (fun W hS=>J0i (vs:=(J0 .u8 32 (J5 c)).toList) rfl rfl (fun i v hv=>by rw[J3 (J2 hB2 hS.ext)];exact J8m i v (by simpa using hv)) (by kernel_rfl) (by first|kernel_rfl|(simp only[Array.length_toList];rw[J1];kernel_rfl))) ?_;refine TE (fun _ h=>h) ?_;refine MC (v:=.int .i64 ((J0m (J5 a) (J5 c):Nat):Int)) (fun W hS=>Z9f a c W) ?_;refine TNh (fun W hS=>hS) ?_;refine TV ?_;refine TZ (fun _ h=>h) fun W hS=> ?_
 by_cases hb:kb a (J0m (J5 a) (J5 c))=1
 ·
  go_upto_region 2 with fail;refine RL hS ?_;clear hS;(iterate 4 refine MV ?_);refine MF (v:=.agg (J0 .u8 32 (J5 a))) (fun W hS=>J0i (vs:=(J0 .u8 32 (J5 a)).toList) rfl rfl (fun i v hv=>by rw[J3 (J2 hB1 hS.ext)];exact J8m i v (by simpa using hv)) (by kernel_rfl) (by first|kernel_rfl|(simp only[Array.length_toList];rw[J1];kernel_rfl))) ?_;refine MV ?_;refine MC (v:=.int .i64 ((kb a (J0m (J5 a) (J5 c)):Nat):Int)) (fun W hS=>J8s a (J0m (J5 a) (J5 c)) (by omega) W) ?_;refine MW ?_ (v:=.bool true) (hv:=by intro W;go_simp;(try simp[hb]));refine MZ fun W hS=> ?_;go_upto_region 4 with fail;refine RL hS ?_;clear hS;(iterate 3 refine MV ?_);refine ME (fun W hS=>J5n hS (J9z (J0m (J5 a) (J5 c)) (by simp only[cnt];omega) W (J0b hG hS.ext) (TA.ext hC hS.ext) (TA.ext hA hS.ext)) rfl) ?_;intro J;refine MV ?_;refine MZ fun W hS=> ?_;go_upto_region 5 with fail;refine RL hS ?_;clear hS;refine MV ?_;refine MW ?_ (v:=.int .i64 (((J0m (J5 a) (J5 c):Nat):Int)-1)) (hv:=by intro W;go_simp;(try simp only[IntKind.wrap_i64]);(try omega));refine MV ?_;refine MZ fun W hS=> ?_
  go_wp2_with fail
  go_loopw [8,9] (fun uv ii wr=> ∃(T1:TR)(u:Value)(m:Nat),(m≤J0m (J5 a) (J5 c))∧(J5a c d m T1=J5a c d (J0m (J5 a) (J5 c)) (.node (J0m (J5 a) (J5 c)) (.leaf c y) (.leaf a x)))∧(full T1)∧(Z00 T1=c)∧(cnt T1=2)∧(u=uv)∧(ii=.int .i64 ((m:Int)-1))∧SH [] w wr [.t 181 (fun W=>TA W T1 u)])
   (fun uv ii _=>(intOf ii+1).toNat)
  case atStart=>exact⟨(.node (J0m (J5 a) (J5 c)) (.leaf c y) (.leaf a x)),J,J0m (J5 a) (J5 c),Nat.le_refl _,rfl,trivial,rfl,rfl,rfl,by go_num,hS⟩
  clear hS
  case round=>
   obtain⟨T1,u,m,hm,D,hf,hk,U,rfl,rfl,hS⟩:=hrel
   by_cases G:d<m
   ·
    obtain⟨m,rfl⟩:∃m1,m=m1+1:=⟨m-1,by omega⟩
    go_upto_region 6 with fail;refine RL hS ?_;clear hS;refine MV ?_;refine MV ?_;refine MW ?_ (v:=.bool true) (hv:=by intro W;go_simp;omega);refine MZ fun W hS=> ?_
    by_cases hz:kb c m=0
    ·
     go_upto_region 8 with fail;refine RL hS ?_;clear hS;refine MV ?_;refine MC (v:=.agg (J0 .u8 32 (J5 c))) (fun W hS=>(hk▸Z7g hf W (hS.tt (i:=0) rfl))) ?_;refine MW ?_ (v:=.int .i64 ((m:Nat):Int)) (hv:=by intro W;go_simp;(try omega));refine MC (v:=.int .i64 ((kb c m:Nat):Int)) (fun W hS=>J8s c m (by omega) W) ?_;refine MW ?_ (v:=.bool true) (hv:=by intro W;go_simp;(try simp[hz]));refine MZ fun W hS=> ?_;go_upto_region 9 with fail;refine RL hS ?_;clear hS;refine MW ?_ (v:=.int .i64 ((m:Nat):Int)) (hv:=by intro W;go_simp;(try omega));refine MV ?_;refine ME (fun W hS=>J5n hS (J9z m (by simp only[cnt];omega) W (J0b hG hS.ext) (hS.tt (i:=0) rfl) (show TA W .nil nlp from rfl)) rfl) ?_;intro R;refine MV ?_;refine MZ fun W hS=> ?_;go_upto_region 7 with fail;refine RL hS ?_;clear hS;refine MV ?_;refine MW ?_ (v:=.int .i64 ((m:Int)-1)) (hv:=by intro W;go_simp;(try simp only[IntKind.wrap_i64]);(try omega));refine MV ?_;refine MZ fun W hS=> ?_;go_wp2;go_roundw
     case rel=>exact⟨(.node m T1 .nil),R,m,by omega,(by rw[←D,Q0i (by omega),if_pos hz]),(by rw[Z4l (Q4t hf)];exact hf),(by rw[Z4k (Q4t hf)];exact hk),(by show cnt T1+0=2;omega),rfl,by go_num,(hS.pick [0])⟩
     case measure=>first|(simp[intOf];done)|(simp[intOf];omega)
    go_upto_region 8 with fail;refine RL hS ?_;clear hS;refine MV ?_;refine MC (v:=.agg (J0 .u8 32 (J5 c))) (fun W hS=>(hk▸Z7g hf W (hS.tt (i:=0) rfl))) ?_;refine MW ?_ (v:=.int .i64 ((m:Nat):Int)) (hv:=by intro W;go_simp;(try omega));refine MC (v:=.int .i64 ((kb c m:Nat):Int)) (fun W hS=>J8s c m (by omega) W) ?_;refine MW ?_ (v:=.bool false) (hv:=by intro W;go_simp;(try omega));refine MZ fun W hS=> ?_;go_upto_region 10 with fail;refine RL hS ?_;clear hS;refine MW ?_ (v:=.int .i64 ((m:Nat):Int)) (hv:=by intro W;go_simp;(try omega));refine MV ?_;refine ME (fun W hS=>J5n hS (J9z m (by simp only[cnt];omega) W (J0b hG hS.ext) (show TA W .nil nlp from rfl) (hS.tt (i:=0) rfl)) rfl) ?_;intro S;refine MV ?_;refine MZ fun W hS=> ?_;go_upto_region 7 with fail;refine RL hS ?_;clear hS;refine MV ?_;refine MW ?_ (v:=.int .i64 ((m:Int)-1)) (hv:=by intro W;go_simp;(try simp only[IntKind.wrap_i64]);(try omega));refine MV ?_;refine MZ fun W hS=> ?_;go_wp2;go_roundw
    case rel=>exact⟨(.node m .nil T1),S,m,by omega,(by rw[←D,Q0i (by omega),if_neg hz]),hf,hk,(by show 0+cnt T1=2;omega),rfl,by go_num,(hS.pick [0])⟩
    case measure=>first|(simp[intOf];done)|(simp[intOf];omega)
   go_upto_region 6 with fail;refine RL hS ?_;clear hS;refine MV ?_;refine MV ?_;refine MW ?_ (v:=.bool false) (hv:=by intro W;go_simp;omega);refine MZ fun W hS=> ?_;go_wp2;exact bodyPost_ret (v:=u) (by simp only[results,Tryz.results171];go_simp) rfl ⟨_,rfl,hS.ext,(by have h_:=hS.tt (i:=0) rfl;rw[show J4i a x c y d=T1 from(by unfold J4i;rw[if_pos hb];rw[←D,Q2b (by omega)])];exact h_)⟩
 go_upto_region 2 with fail;refine RL hS ?_;clear hS;(iterate 4 refine MV ?_);refine MF (v:=.agg (J0 .u8 32 (J5 a))) (fun W hS=>J0i (vs:=(J0 .u8 32 (J5 a)).toList) rfl rfl (fun i v hv=>by rw[J3 (J2 hB1 hS.ext)];exact J8m i v (by simpa using hv)) (by kernel_rfl) (by first|kernel_rfl|(simp only[Array.length_toList];rw[J1];kernel_rfl))) ?_;refine MV ?_;refine MC (v:=.int .i64 ((kb a (J0m (J5 a) (J5 c)):Nat):Int)) (fun W hS=>J8s a (J0m (J5 a) (J5 c)) (by omega) W) ?_;refine MW ?_ (v:=.bool false) (hv:=by intro W;go_simp;(try omega));refine MZ fun W hS=> ?_;go_upto_region 4 with fail;refine RL hS ?_;clear hS;(iterate 3 refine MV ?_);refine ME (fun W hS=>J5n hS (J9z (J0m (J5 a) (J5 c)) (by simp only[cnt];omega) W (J0b hG hS.ext) (TA.ext hA hS.ext) (TA.ext hC hS.ext)) rfl) ?_;intro M;refine MV ?_;refine MZ fun W hS=> ?_;go_upto_region 5 with fail;refine RL hS ?_;clear hS;refine MV ?_;refine MW ?_ (v:=.int .i64 (((J0m (J5 a) (J5 c):Nat):Int)-1)) (hv:=by intro W;go_simp;(try simp only[IntKind.wrap_i64]);(try omega));refine MV ?_;refine MZ fun W hS=> ?_
 go_wp2_with fail
 go_loopw [8,9] (fun uv ii wr=> ∃(T1:TR)(u:Value)(m:Nat),(m≤J0m (J5 a) (J5 c))∧(J5a a d m T1=J5a a d (J0m (J5 a) (J5 c)) (.node (J0m (J5 a) (J5 c)) (.leaf a x) (.leaf c y)))∧(full T1)∧(Z00 T1=a)∧(cnt T1=2)∧(u=uv)∧(ii=.int .i64 ((m:Int)-1))∧SH [] w wr [.t 181 (fun W=>TA W T1 u)])
  (fun uv ii _=>(intOf ii+1).toNat)
 case atStart=>exact⟨(.node (J0m (J5 a) (J5 c)) (.leaf a x) (.leaf c y)),M,J0m (J5 a) (J5 c),Nat.le_refl _,rfl,trivial,rfl,rfl,rfl,by go_num,hS⟩
 clear hS
 case round=>
  obtain⟨T1,u,m,hm,D,hf,hk,U,rfl,rfl,hS⟩:=hrel
  by_cases G:d<m
  ·
   obtain⟨m,rfl⟩:∃m1,m=m1+1:=⟨m-1,by omega⟩
   go_upto_region 6 with fail;refine RL hS ?_;clear hS;refine MV ?_;refine MV ?_;refine MW ?_ (v:=.bool true) (hv:=by intro W;go_simp;omega);refine MZ fun W hS=> ?_
   by_cases hz:kb a m=0
   ·
    go_upto_region 8 with fail;refine RL hS ?_;clear hS;refine MV ?_;refine MC (v:=.agg (J0 .u8 32 (J5 a))) (fun W hS=>(hk▸Z7g hf W (hS.tt (i:=0) rfl))) ?_;refine MW ?_ (v:=.int .i64 ((m:Nat):Int)) (hv:=by intro W;go_simp;(try omega));refine MC (v:=.int .i64 ((kb a m:Nat):Int)) (fun W hS=>J8s a m (by omega) W) ?_;refine MW ?_ (v:=.bool true) (hv:=by intro W;go_simp;(try simp[hz]));refine MZ fun W hS=> ?_;go_upto_region 9 with fail;refine RL hS ?_;clear hS;refine MW ?_ (v:=.int .i64 ((m:Nat):Int)) (hv:=by intro W;go_simp;(try omega));refine MV ?_;refine ME (fun W hS=>J5n hS (J9z m (by simp only[cnt];omega) W (J0b hG hS.ext) (hS.tt (i:=0) rfl) (show TA W .nil nlp from rfl)) rfl) ?_;intro N;refine MV ?_;refine MZ fun W hS=> ?_;go_upto_region 7 with fail;refine RL hS ?_;clear hS;refine MV ?_;refine MW ?_ (v:=.int .i64 ((m:Int)-1)) (hv:=by intro W;go_simp;(try simp only[IntKind.wrap_i64]);(try omega));refine MV ?_;refine MZ fun W hS=> ?_;go_wp2;go_roundw
    case rel=>exact⟨(.node m T1 .nil),N,m,by omega,(by rw[←D,Q0i (by omega),if_pos hz]),(by rw[Z4l (Q4t hf)];exact hf),(by rw[Z4k (Q4t hf)];exact hk),(by show cnt T1+0=2;omega),rfl,by go_num,(hS.pick [0])⟩
    case measure=>first|(simp[intOf];done)|(simp[intOf];omega)
   go_upto_region 8 with fail;refine RL hS ?_;clear hS;refine MV ?_;refine MC (v:=.agg (J0 .u8 32 (J5 a))) (fun W hS=>(hk▸Z7g hf W (hS.tt (i:=0) rfl))) ?_;refine MW ?_ (v:=.int .i64 ((m:Nat):Int)) (hv:=by intro W;go_simp;(try omega));refine MC (v:=.int .i64 ((kb a m:Nat):Int)) (fun W hS=>J8s a m (by omega) W) ?_;refine MW ?_ (v:=.bool false) (hv:=by intro W;go_simp;(try omega));refine MZ fun W hS=> ?_;go_upto_region 10 with fail;refine RL hS ?_;clear hS;refine MW ?_ (v:=.int .i64 ((m:Nat):Int)) (hv:=by intro W;go_simp;(try omega));refine MV ?_;refine ME (fun W hS=>J5n hS (J9z m (by simp only[cnt];omega) W (J0b hG hS.ext) (show TA W .nil nlp from rfl) (hS.tt (i:=0) rfl)) rfl) ?_;intro T;refine MV ?_;refine MZ fun W hS=> ?_;go_upto_region 7 with fail;refine RL hS ?_;clear hS;refine MV ?_;refine MW ?_ (v:=.int .i64 ((m:Int)-1)) (hv:=by intro W;go_simp;(try simp only[IntKind.wrap_i64]);(try omega));refine MV ?_;refine MZ fun W hS=> ?_;go_wp2;go_roundw
   case rel=>exact⟨(.node m .nil T1),T,m,by omega,(by rw[←D,Q0i (by omega),if_neg hz]),hf,hk,(by show 0+cnt T1=2;omega),rfl,by go_num,(hS.pick [0])⟩
   case measure=>first|(simp[intOf];done)|(simp[intOf];omega)
  go_upto_region 6 with fail;refine RL hS ?_;clear hS;refine MV ?_;refine MV ?_;refine MW ?_ (v:=.bool false) (hv:=by intro W;go_simp;omega);refine MZ fun W hS=> ?_;go_wp2;exact bodyPost_ret (v:=u) (by simp only[results,Tryz.results171];go_simp) rfl ⟨_,rfl,hS.ext,(by have h_:=hS.tt (i:=0) rfl;rw[show J4i a x c y d=T1 from(by unfold J4i;rw[if_neg hb];rw[←D,Q2b (by omega)])];exact h_)⟩
end

section
set_option maxHeartbeats 3000000
attribute [local irreducible] wpList V2 wpX
theorem Z7i (A B:Nat)(hA:A<2^256)(hB:B<2^256)(w:World):(Op.equalIn 10000 42 (.agg (J0 .u8 32 (J5 A))) (.agg (J0 .u8 32 (J5 B)))).run Tryz.prog w=.ok (decide (A=B)) w:=by
 have h:=J1i (P:=Tryz.prog) w 9998 42 5 32 .u8 (J0 .u8 32 (J5 A)) (J0 .u8 32 (J5 B)) (J5 A) (J5 B) Tryz.underlying42 Tryz.underlying5 (by kernel_rfl)
  (fun i hi=>V0 _ _ _ _ hi) (fun i hi=>V0 _ _ _ _ hi)
 rw[h]
 congr 1
 rw[Bool.eq_iff_iff,J3o,decide_eq_true_iff];exact⟨Q1t hA hB,fun h=>by subst h;intro _ _;rfl⟩
theorem V7r {q:Prop}{a x c y:Nat}{u1 u2:Value}(d:Nat)(hd_:d<4611686018427387904)(w:World)(hG:GT q w)(h1:TA w (.leaf a x) u1)(h2:TA w (.leaf c y) u2):
  Calls Tryz.prog 171 #[u1,u2,.int .i64 (d:Int)] w fun e w' =>Q1a (J4i a x c y d) w w' e:=by
 obtain⟨b1,rfl,D,ha,hx⟩:=h1;obtain⟨b2,rfl,G,hc,hy⟩:=h2;exact V7q ha hx hc hy d hd_ w hG D G
attribute [local irreducible] hs4 sE sL sN

theorem V00 {q:Prop}{k v:Nat}(hk:k<2^256)(hv:v<2^256)(d:Nat)(w:World)(hG:GT q w):
  Calls Tryz.prog 130 #[nlp,.agg (lf k v),.int .i64 (d:Int)] w fun e w' =>Q1a (J2h k v .nil d) w w' e:=by
 have hS:=SH.nil [] w
 go_enter Tryz.func130,Tryz.ntmps130
 go_upto_region 0 with fail;refine RL hS ?_;clear hS;refine MN (z:=lf k v) (t:=44) ?_;intro G;refine MV ?_;refine MZ fun W hS=> ?_;go_upto_region 3 with fail;refine RL hS ?_;clear hS;refine ML 0 ?_ (hs:=by rw[X6];kernel_rfl);refine ME (fun W hS=>J5n hS (Y5k hk hv W (J0b hG hS.ext)) rfl) ?_;intro D;refine MV ?_;refine MZ fun W hS=> ?_;go_wp2;exact bodyPost_ret (v:=D) (by simp only[results,Tryz.results130];go_simp) rfl ⟨_,rfl,hS.ext,(by exact hS.tt (i:=0) rfl)⟩
theorem V7s {q:Prop}{k v:Nat}(hk:k<2^256)(hv:v<2^256){a x b1:Nat}(ha:a<2^256)(hx:x<2^256)(hak:a=k)(d:Nat)(w:World)(hG:GT q w)(hB1:Blk w b1 (ndc a x nlp nlp false (sL a x) 1) 181):
  Calls Tryz.prog 130 #[ptr b1,.agg (lf k v),.int .i64 (d:Int)] w fun e w' =>Q1a (J2h k v (.leaf a x) d) w w' e:=by
 have hS:=SH.nil [] w;have hA:TA w (.leaf a x) (ptr b1):=TA.leaf' hB1 ha hx
 go_enter Tryz.func130,Tryz.ntmps130
 go_upto_region 0 with fail;refine RL hS ?_;clear hS;refine MN (z:=lf k v) (t:=44) ?_;intro G;refine MV ?_;refine MZ fun W hS=> ?_;go_upto_region 2 with fail;refine RTh (.q 0 (.q 1 (.q 2 (.q 3 (.q 4 (.q 5 (.q 6 (.q 7 (.q 8 (.q 9 (.q 10 (.q 11 (.q 12 (.q 13 (.q 14 (.q 15 .z)))))))))))))))) hS ?_;clear hS;(iterate 3 refine TV ?_);refine TF (v:=.bool false) rfl (fun W hS=>Z5 rfl rfl (by rw[J3 (J2 hB1 hS.ext)];exact J7v) (by kernel_rfl)) ?_;refine Tt ?_;refine Tt ?_;(iterate 4 refine TV ?_);refine TF (v:=.agg (J0 .u8 32 (J5 a))) rfl (fun W hS=>J0i (vs:=(J0 .u8 32 (J5 a)).toList) rfl rfl (fun i v hv=>by rw[J3 (J2 hB1 hS.ext)];exact J8m i v (by simpa using hv)) (by kernel_rfl) (by first|kernel_rfl|(simp only[Array.length_toList];rw[J1];kernel_rfl))) ?_;refine TV ?_;refine Tl 0 Z3d ?_;refine TW ?_ (v:=.bool true) (hv:=fun _=>J9f ((fun w=>(Z7i a k ha hk w).trans (by rw[decide_eq_true hak])) _) (by kernel_rfl) rfl rfl rfl);refine Tt ?_;refine Tt ?_;refine TZ (fun _ h=>h) fun W hS=> ?_;go_upto_region 3 with fail;refine RL hS ?_;clear hS;refine ML 0 ?_ (hs:=by rw[X6];kernel_rfl);refine ME (fun W hS=>J5n hS (Y5k hk hv W (J0b hG hS.ext)) rfl) ?_;intro D;refine MV ?_;refine MZ fun W hS=> ?_;go_wp2;exact bodyPost_ret (v:=D) (by simp only[results,Tryz.results130];go_simp) rfl ⟨_,rfl,hS.ext,(by rw[show J2h k v (.leaf a x) d=.leaf k v from if_pos hak];exact hS.tt (i:=0) rfl)⟩
theorem V7t {q:Prop}{k v:Nat}(hk:k<2^256)(hv:v<2^256){a x b1:Nat}(ha:a<2^256)(hx:x<2^256)(hak:¬a=k)(d:Nat)(hdl:d<4611686018427387904)(w:World)(hG:GT q w)(hB1:Blk w b1 (ndc a x nlp nlp false (sL a x) 1) 181):
  Calls Tryz.prog 130 #[ptr b1,.agg (lf k v),.int .i64 (d:Int)] w fun e w' =>Q1a (J2h k v (.leaf a x) d) w w' e:=by
 have hS:=SH.nil [] w;have hA:TA w (.leaf a x) (ptr b1):=TA.leaf' hB1 ha hx
 go_enter Tryz.func130,Tryz.ntmps130
 go_upto_region 0 with fail;refine RL hS ?_;clear hS;refine MN (z:=lf k v) (t:=44) ?_;intro J;refine MV ?_;refine MZ fun W hS=> ?_;go_upto_region 2 with fail;refine RTh (.q 0 (.q 1 (.q 2 (.q 3 (.q 4 (.q 5 (.q 6 (.q 7 (.q 8 (.q 9 (.q 10 (.q 11 (.q 12 (.q 13 (.q 14 (.q 15 .z)))))))))))))))) hS ?_;clear hS;(iterate 3 refine TV ?_);refine TF (v:=.bool false) rfl (fun W hS=>Z5 rfl rfl (by rw[J3 (J2 hB1 hS.ext)];exact J7v) (by kernel_rfl)) ?_;refine Tt ?_;refine Tt ?_;(iterate 4 refine TV ?_);refine TF (v:=.agg (J0 .u8 32 (J5 a))) rfl (fun W hS=>J0i (vs:=(J0 .u8 32 (J5 a)).toList) rfl rfl (fun i v hv=>by rw[J3 (J2 hB1 hS.ext)];exact J8m i v (by simpa using hv)) (by kernel_rfl) (by first|kernel_rfl|(simp only[Array.length_toList];rw[J1];kernel_rfl))) ?_;refine TV ?_;refine Tl 0 Z3d ?_;refine TW ?_ (v:=.bool false) (hv:=fun _=>J9f ((fun w=>(Z7i a k ha hk w).trans (by rw[decide_eq_false hak])) _) (by kernel_rfl) rfl rfl rfl);refine Tf ?_;refine Tf ?_;refine TZ (fun _ h=>h) fun W hS=> ?_;go_upto_region 4 with fail;refine RL hS ?_;clear hS;(iterate 3 refine MV ?_);refine MF (v:=.bool false) (fun W hS=>Z5 rfl rfl (by rw[J3 (J2 hB1 hS.ext)];exact J7v) (by kernel_rfl)) ?_;refine Wt ?_;refine Wt ?_;refine MZ fun W hS=> ?_;go_upto_region 5 with fail;refine RL hS ?_;clear hS;refine MV ?_;refine ML 0 ?_ (hs:=by rw[X6];kernel_rfl);refine ME (fun W hS=>J5n hS (Y5k hk hv W (J0b hG hS.ext)) rfl) ?_;intro G;refine MV ?_;refine ME (fun W hS=>J5n hS (V7r d hdl W (J0b hG hS.ext) (TA.ext hA hS.ext) (hS.tt (i:=0) rfl)) rfl) ?_;intro D;refine MV ?_;refine MZ fun W hS=> ?_;go_wp2;exact bodyPost_ret (v:=D) (by simp only[results,Tryz.results130];go_simp) rfl ⟨_,rfl,hS.ext,(by rw[show J2h k v (.leaf a x) d=J4i a x k v d from if_neg hak];exact hS.tt (i:=0) rfl)⟩
theorem K2z {q:Prop}{k v:Nat}(hk:k<2^256)(hv:v<2^256){e0 b:Nat}{l r:TR}{p0 p1:Option Addr}(d:Nat)(hdl:d<4611686018427387904)(hn:cnt l+cnt r<2305843009213693952)(hb:kb k d=0)(w:World)(hG:GT q w)(hB:Blk w b (ndc 0 0 (.pointer p0) (.pointer p1) true (rs (.node e0 l r)) (cnt l+cnt r)) 181)(hl:TA w l (.pointer p0))(hr:TA w r (.pointer p1))(ih:∀W,GT q W→TA W l (.pointer p0)→Calls Tryz.prog 130 #[.pointer p0,.agg (lf k v),.int .i64 ((d+1:Nat):Int)] W fun e w' =>Q1a (J2h k v l (d+1)) W w' e):
  Calls Tryz.prog 130 #[ptr b,.agg (lf k v),.int .i64 (d:Int)] w fun e w' =>Q1a (J2h k v (.node e0 l r) d) w w' e:=by
 have hS:=SH.nil [] w
 go_enter Tryz.func130,Tryz.ntmps130
 go_upto_region 0 with fail;refine RL hS ?_;clear hS;refine MN (z:=lf k v) (t:=44) ?_;intro R;refine MV ?_;refine MZ fun W hS=> ?_;go_upto_region 2 with fail;refine RTh (.q 0 (.q 1 (.q 2 (.q 3 (.q 4 (.q 5 (.q 6 (.q 7 (.q 8 (.q 9 (.q 10 (.q 11 (.q 12 (.q 13 (.q 14 (.q 15 .z)))))))))))))))) hS ?_;clear hS;(iterate 3 refine TV ?_);refine TF (v:=.bool true) rfl (fun W hS=>Z5 rfl rfl (by rw[J3 (J2 hB hS.ext)];exact J7v) (by kernel_rfl)) ?_;refine Tf ?_;refine Tf ?_;(iterate 8 refine TS ?_);refine Tf ?_;refine Tf ?_;refine TZ (fun _ h=>h) fun W hS=> ?_;go_upto_region 4 with fail;refine RL hS ?_;clear hS;(iterate 3 refine MV ?_);refine MF (v:=.bool true) (fun W hS=>Z5 rfl rfl (by rw[J3 (J2 hB hS.ext)];exact J7v) (by kernel_rfl)) ?_;refine Wf ?_;refine Wf ?_;refine MZ fun W hS=> ?_;go_upto_region 6 with fail;refine RL hS ?_;clear hS;(iterate 3 refine MV ?_);refine MF (v:=.agg #[(.pointer p0),(.pointer p1)]) (fun W hS=>J0i (vs:=(#[(.pointer p0),(.pointer p1)]).toList) rfl rfl (fun i v hv=>by rw[J3 (J2 hB hS.ext)];exact Z26 i v (by simpa using hv)) (by kernel_rfl) (by kernel_rfl)) ?_;refine MN (z:= #[.pointer none,.pointer none]) (t:=179) ?_;intro D;refine MR 0 ?_;refine MZ fun W hS=> ?_;go_upto_region 7 with fail;refine RL hS ?_;clear hS;refine MV ?_;refine Ml 1 Z3d ?_;refine MV ?_;refine MC (v:=.int .i64 0) (fun W hS=>(hb▸J8s k d hdl W)) ?_;refine W0 ?_;refine MZ fun W hS=> ?_;go_upto_region 8 with fail;refine RTp [1] (.q 0 (.q 1 (.q 2 (.q 4 (.q 5 (.q 6 (.e 3 (.e 7 (.q 8 (.e 9 .z)))))))))) hS ?_;clear hS;refine T0 ?_;refine T0 ?_;refine TW ?_ (v:=.pointer (some ⟨D,0,none⟩)) (hv:=fun _=>J0f (m:=2) (k:=1) (j:=0) (off:=0) (by decide) Tryz.underlying179 (by kernel_rfl) rfl rfl rfl);refine TL 0 ?_ (hs:=by rw[X6];kernel_rfl);refine TV ?_;refine TW ?_ (v:=.int .i64 ((d+1:Nat):Int)) (hv:=by intro W;go_simp;(try simp only[IntKind.wrap_i64]);omega);refine TE (fun _ h=>h.pick [1]) ?_;refine MG 0 ?_ (v:=.pointer p0);refine K5 [1] [0] ?_;refine TE (fun _ h=>h.pick [1]) ?_;refine ME (fun W hS=>J5n hS (ih W (J0b hG hS.ext) (TA.ext hl hS.ext)) rfl) ?_;intro G;refine K5 [0,2] [1] ?_;refine TW ?_ (v:=.pointer (some ⟨D,0,none⟩)) (hv:=fun _=>J0f (m:=2) (k:=1) (j:=0) (off:=0) (by decide) Tryz.underlying179 (by kernel_rfl) rfl rfl rfl);refine TE (fun _ h=>h.pick [0,2]) ?_;refine MP 1 (v:=G) ?_ (hv:=fun W hS=>TA.one (hS.tt (i:=0) rfl));refine K5 [0,2] [0,1] ?_;refine TZ (fun _ h=>h.pick [0,2]) fun W hS=> ?_;go_upto_region 9 with fail;refine RL hS ?_;clear hS;refine MV ?_;refine MW ?_ (v:=.pointer (some ⟨D,0,none⟩)) (hv:=fun _=>J0f (m:=2) (k:=1) (j:=0) (off:=0) (by decide) Tryz.underlying179 (by kernel_rfl) rfl rfl rfl);refine MG 1 ?_ (v:=G);refine MW ?_ (v:=.pointer (some ⟨D,1,none⟩)) (hv:=fun _=>J0f (m:=2) (k:=1) (j:=1) (off:=0) (by decide) Tryz.underlying179 (by kernel_rfl) rfl rfl rfl);refine MG 1 ?_ (v:=.pointer p1);refine ME (fun W hS=>J5n hS (J9z d (by have M:=J6c k v l (d+1);have N:=J6c k v r (d+1);omega) W (J0b hG hS.ext) (hS.tt (i:=0) rfl) (TA.ext hr hS.ext)) rfl) ?_;intro J;refine MV ?_;refine MZ fun W hS=> ?_;go_wp2;exact bodyPost_ret (v:=J) (by simp only[results,Tryz.results130];go_simp) rfl ⟨_,rfl,hS.ext,(by rw[show J2h k v (.node e0 l r) d=.node d (J2h k v l (d+1)) r from if_pos hb];exact hS.tt (i:=0) rfl)⟩
theorem K30 {q:Prop}{k v:Nat}(hk:k<2^256)(hv:v<2^256){e0 b:Nat}{l r:TR}{p0 p1:Option Addr}(d:Nat)(hdl:d<4611686018427387904)(hn:cnt l+cnt r<2305843009213693952)(hb:kb k d=1)(w:World)(hG:GT q w)(hB:Blk w b (ndc 0 0 (.pointer p0) (.pointer p1) true (rs (.node e0 l r)) (cnt l+cnt r)) 181)(hl:TA w l (.pointer p0))(hr:TA w r (.pointer p1))(ih:∀W,GT q W→TA W r (.pointer p1)→Calls Tryz.prog 130 #[.pointer p1,.agg (lf k v),.int .i64 ((d+1:Nat):Int)] W fun e w' =>Q1a (J2h k v r (d+1)) W w' e):
  Calls Tryz.prog 130 #[ptr b,.agg (lf k v),.int .i64 (d:Int)] w fun e w' =>Q1a (J2h k v (.node e0 l r) d) w w' e:=by
 have hS:=SH.nil [] w
 go_enter Tryz.func130,Tryz.ntmps130
 go_upto_region 0 with fail;refine RL hS ?_;clear hS;refine MN (z:=lf k v) (t:=44) ?_;intro R;refine MV ?_;refine MZ fun W hS=> ?_;go_upto_region 2 with fail;refine RTh (.q 0 (.q 1 (.q 2 (.q 3 (.q 4 (.q 5 (.q 6 (.q 7 (.q 8 (.q 9 (.q 10 (.q 11 (.q 12 (.q 13 (.q 14 (.q 15 .z)))))))))))))))) hS ?_;clear hS;(iterate 3 refine TV ?_);refine TF (v:=.bool true) rfl (fun W hS=>Z5 rfl rfl (by rw[J3 (J2 hB hS.ext)];exact J7v) (by kernel_rfl)) ?_;refine Tf ?_;refine Tf ?_;(iterate 8 refine TS ?_);refine Tf ?_;refine Tf ?_;refine TZ (fun _ h=>h) fun W hS=> ?_;go_upto_region 4 with fail;refine RL hS ?_;clear hS;(iterate 3 refine MV ?_);refine MF (v:=.bool true) (fun W hS=>Z5 rfl rfl (by rw[J3 (J2 hB hS.ext)];exact J7v) (by kernel_rfl)) ?_;refine Wf ?_;refine Wf ?_;refine MZ fun W hS=> ?_;go_upto_region 6 with fail;refine RL hS ?_;clear hS;(iterate 3 refine MV ?_);refine MF (v:=.agg #[(.pointer p0),(.pointer p1)]) (fun W hS=>J0i (vs:=(#[(.pointer p0),(.pointer p1)]).toList) rfl rfl (fun i v hv=>by rw[J3 (J2 hB hS.ext)];exact Z26 i v (by simpa using hv)) (by kernel_rfl) (by kernel_rfl)) ?_;refine MN (z:= #[.pointer none,.pointer none]) (t:=179) ?_;intro D;refine MR 0 ?_;refine MZ fun W hS=> ?_;go_upto_region 7 with fail;refine RL hS ?_;clear hS;refine MV ?_;refine Ml 1 Z3d ?_;refine MV ?_;refine MC (v:=.int .i64 1) (fun W hS=>(hb▸J8s k d hdl W)) ?_;refine MW ?_ (v:=.int .i64 1);refine MZ fun W hS=> ?_;go_upto_region 8 with fail;refine RTp [1] (.q 0 (.q 1 (.q 2 (.q 4 (.q 5 (.q 6 (.e 3 (.e 7 (.q 8 (.e 9 .z)))))))))) hS ?_;clear hS;refine TW ?_ (v:=.int .i64 1);refine TW ?_ (v:=.int .i64 1);refine TW ?_ (v:=.pointer (some ⟨D,1,none⟩)) (hv:=fun _=>J0f (m:=2) (k:=1) (j:=1) (off:=0) (by decide) Tryz.underlying179 (by kernel_rfl) rfl rfl rfl);refine TL 0 ?_ (hs:=by rw[X6];kernel_rfl);refine TV ?_;refine TW ?_ (v:=.int .i64 ((d+1:Nat):Int)) (hv:=by intro W;go_simp;(try simp only[IntKind.wrap_i64]);omega);refine TE (fun _ h=>h.pick [1]) ?_;refine MG 0 ?_ (v:=.pointer p1);refine K5 [1] [0] ?_;refine TE (fun _ h=>h.pick [1]) ?_;refine ME (fun W hS=>J5n hS (ih W (J0b hG hS.ext) (TA.ext hr hS.ext)) rfl) ?_;intro G;refine K5 [0,2] [1] ?_;refine TW ?_ (v:=.pointer (some ⟨D,1,none⟩)) (hv:=fun _=>J0f (m:=2) (k:=1) (j:=1) (off:=0) (by decide) Tryz.underlying179 (by kernel_rfl) rfl rfl rfl);refine TE (fun _ h=>h.pick [0,2]) ?_;refine MP 1 (v:=G) ?_ (hv:=fun W hS=>TA.one (hS.tt (i:=0) rfl));refine K5 [0,2] [0,1] ?_;refine TZ (fun _ h=>h.pick [0,2]) fun W hS=> ?_;go_upto_region 9 with fail;refine RL hS ?_;clear hS;refine MV ?_;refine MW ?_ (v:=.pointer (some ⟨D,0,none⟩)) (hv:=fun _=>J0f (m:=2) (k:=1) (j:=0) (off:=0) (by decide) Tryz.underlying179 (by kernel_rfl) rfl rfl rfl);refine MG 1 ?_ (v:=.pointer p0);refine MW ?_ (v:=.pointer (some ⟨D,1,none⟩)) (hv:=fun _=>J0f (m:=2) (k:=1) (j:=1) (off:=0) (by decide) Tryz.underlying179 (by kernel_rfl) rfl rfl rfl);refine MG 1 ?_ (v:=G);refine ME (fun W hS=>J5n hS (J9z d (by have M:=J6c k v l (d+1);have N:=J6c k v r (d+1);omega) W (J0b hG hS.ext) (TA.ext hl hS.ext) (hS.tt (i:=0) rfl)) rfl) ?_;intro J;refine MV ?_;refine MZ fun W hS=> ?_;go_wp2;exact bodyPost_ret (v:=J) (by simp only[results,Tryz.results130];go_simp) rfl ⟨_,rfl,hS.ext,(by rw[show J2h k v (.node e0 l r) d=.node d l (J2h k v r (d+1)) from if_neg (by rw[hb];decide)];exact hS.tt (i:=0) rfl)⟩
theorem Y5n {q:Prop}{k v:Nat}(hk:k<2^256)(hv:v<2^256):∀{T:TR} {u:Value} (d:Nat),d+tsz T<4611686018427387904→cnt T<2305843009213693952→∀(w:World),GT q w→TA w T u→Calls Tryz.prog 130 #[u,.agg (lf k v),.int .i64 (d:Int)] w fun e w' =>Q1a (J2h k v T d) w w' e
 | .nil,_,d,_,_,w,hG,h=>by rw[show _=nlp from h];exact V00 hk hv d w hG
 | .leaf a x,_,d,hd_,_,w,hG,⟨b1,h1,hB1,ha,hx⟩=>by
  subst h1
  by_cases hak:a=k
  ·
   exact V7s hk hv ha hx hak d w hG hB1
  ·
   exact V7t hk hv ha hx hak d (by omega) w hG hB1
 | .node e l r,_,d,hd_,hn,w,hG,⟨b,s0,s1,h1,hB,hl,hr⟩=>by
  subst h1;obtain⟨p0,rfl⟩:=hl.pt;obtain⟨p1,rfl⟩:=hr.pt;have hd2:d+(1+tsz l+tsz r)<4611686018427387904:=hd_;have hn2:cnt l+cnt r<2305843009213693952:=hn;have hb2:=Q3h k d;rcases Nat.lt_or_ge 0 (kb k d) with hb|hb
  ·
   exact K30 hk hv d (by omega) hn2 (by omega) w hG hB hl hr fun W hG' h' =>Y5n hk hv (T:=r) (d+1) (by omega) (by omega) W hG' h'
  ·
   exact K2z hk hv d (by omega) hn2 (by omega) w hG hB hl hr fun W hG' h' =>Y5n hk hv (T:=l) (d+1) (by omega) (by omega) W hG' h'
end

section
set_option maxHeartbeats 3000000
attribute [local irreducible] wpList V2 wpX
abbrev lfl (x:Nat×Nat):List Value:=(lf x.1 x.2).toList
def ofT (ls:List (Nat×Nat)):TR:=ls.foldl (fun T x=>J2h x.1 x.2 T 0) .nil
theorem Z0n (ls:List (Nat×Nat))(x:Nat×Nat):ofT (ls++[x])=J2h x.1 x.2 (ofT ls) 0:=by unfold ofT;rw[List.foldl_append];rfl
theorem Y5o {ls:List (Nat×Nat)}{i:Nat}{x:Nat×Nat}(h:ls[i]?=some x):ofT (ls.take (i+1))=J2h x.1 x.2 (ofT (ls.take i)) 0:=by
 rw[List.take_add_one,h];exact Z0n _ _
theorem Q38 (K d:Nat):∀(m:Nat) (T:TR),tsz (J5a K d m T)≤m+tsz T
 |0,T=>by show tsz T≤0+tsz T;omega
 |m+1,T=>by
  unfold J5a
  split
  ·
   refine Nat.le_trans (Q38 K d m _) ?_
   split
   ·
    show m+(1+tsz T+0)≤_;omega
   ·
    show m+(1+0+tsz T)≤_;omega
  ·
   omega
theorem Z9h (a x b y d:Nat):tsz (J4i a x b y d)≤259:=by
 have h:=Q4s (J5 a) (J5 b);unfold J4i
 split
 ·
  refine Nat.le_trans (Q38 _ _ _ _) ?_;show _+(1+1+1)≤259;omega
 refine Nat.le_trans (Q38 _ _ _ _) ?_;show _+(1+1+1)≤259;omega
theorem Q6k (k v:Nat):∀(T:TR) (d:Nat),tsz (J2h k v T d)≤tsz T+260
 | .nil,_=>by show 1≤0+260;omega
 | .leaf a x,d=>by
  show tsz (if a=k then TR.leaf k v else J4i a x k v d)≤1+260
  split
  ·
   show 1≤261;omega
  ·
   have:=Z9h a x k v d;omega
 | .node e l r,d=>by
  have h1:=Q6k k v l (d+1);have h2:=Q6k k v r (d+1);show tsz (if kb k d=0 then TR.node d (J2h k v l (d+1)) r else TR.node d l (J2h k v r (d+1)))≤1+tsz l+tsz r+260
  split
  ·
   show 1+tsz (J2h k v l (d+1))+tsz r≤_;omega
  ·
   show 1+tsz l+tsz (J2h k v r (d+1))≤_;omega
theorem Z01:∀(n:Nat) (ls:List (Nat×Nat)),tsz (ofT (ls.take n))≤260*n∧cnt (ofT (ls.take n))≤n
 |0,ls=>by rw[List.take_zero];exact⟨Nat.le_refl _,Nat.le_refl _⟩
 |n+1,ls=>by
  have ih:=Z01 n ls;cases h:ls[n]? with
  |none=>rw[List.take_add_one,h];simp only[Option.toList_none,List.append_nil];omega
  |some x=>
   rw[Y5o h];have h1:=Q6k x.1 x.2 (ofT (ls.take n)) 0;have h2:=J6c x.1 x.2 (ofT (ls.take n)) 0;omega
attribute [local irreducible] hs4 sE sL sN

theorem V96 {q:Prop}{k v:Nat}(hk:k<2^256)(hv:v<2^256){T:TR}{u:Value}(hz:tsz T<4611686018427387904)(hcn:cnt T<2305843009213693952)(w:World)(hG:GT q w)(h:TA w T u):
  Calls Tryz.prog 87 #[u,.agg (lf k v)] w fun e w' =>Q1a (J2h k v T 0) w w' e:=by
 have hS:=SH.nil [] w
 go_enter Tryz.func87,Tryz.ntmps87
 go_upto_region 0 with fail;refine RL hS ?_;clear hS;refine MN (z:=lf k v) (t:=44) ?_;intro G;refine MV ?_;refine MZ fun W hS=> ?_;go_upto_region 1 with fail;refine RL hS ?_;clear hS;refine MV ?_;refine ML 0 ?_ (hs:=by rw[X6];kernel_rfl);refine ME (fun W hS=>J5n hS (Y5n hk hv 0 (by omega) hcn W (J0b hG hS.ext) (TA.ext h hS.ext)) rfl) ?_;intro D;refine MV ?_;refine MZ fun W hS=> ?_;go_wp2;exact bodyPost_ret (v:=D) (by simp only[results,Tryz.results87];go_simp) rfl ⟨_,rfl,hS.ext,(by exact hS.tt (i:=0) rfl)⟩
end

section
def kl (a b:Nat):Bool:=V24 (J5 a) (J5 b)
theorem Q4u {a b i:Nat}(h:i<256):kb a i=kb b i↔J4f (J5 a) i=J4f (J5 b) i:=by
  rw[←Q29 h,←Q29 h];omega
theorem J3c (a b:Nat):(∀i,i<J0m (J5 a) (J5 b)→kb a i=kb b i)∧(J0m (J5 a) (J5 b)<256→kb a (J0m (J5 a) (J5 b))≠kb b (J0m (J5 a) (J5 b))):=by
  have D:∀n i,n+i=256→(∀j,j<i→kb a j=kb b j)→(∀j,j<Q0t (J5 a) (J5 b) (256-i) i→kb a j=kb b j)∧(Q0t (J5 a) (J5 b) (256-i) i<256→kb a (Q0t (J5 a) (J5 b) (256-i) i)≠kb b (Q0t (J5 a) (J5 b) (256-i) i)):=by
    intro n
    induction n with
    |zero=>
      intro i hi h;obtain rfl:i=256:=by omega
      exact⟨h,fun h1=>absurd h1 (by show ¬256<256;omega)⟩
    |succ n ih=>
      intro i hi h;rw[Q0h (by omega)]
      split
      · rename_i he
        exact ih (i+1) (by omega) fun j hj=>by
          rcases Nat.lt_succ_iff_lt_or_eq.1 hj with hj|rfl
          · exact h j hj
          · exact(Q4u (by omega)).2 he
      · rename_i he
        exact⟨h,fun h1=>fun h2=>he ((Q4u h1).1 h2)⟩
  exact D 256 0 rfl (fun j hj=>absurd hj (Nat.not_lt_zero _))
theorem Z02 {a b m:Nat}(hm:m≤256)(hlt:∀i,i<m→kb a i=kb b i)(he:m<256→kb a m≠kb b m):J0m (J5 a) (J5 b)=m:=
  Q9z hm (fun i hi=>(Q4u (by omega)).1 (hlt i hi)) fun h=>fun h2=>he h ((Q4u h).2 h2)
theorem Q84 (a b:Nat):J0m (J5 a) (J5 b)=J0m (J5 b) (J5 a):=by
  obtain⟨h1,h2⟩:=J3c b a;exact Z02 (Q4s _ _) (fun i hi=>(h1 i hi).symm) fun h=>(h2 h).symm
theorem kl_iff {a b:Nat}:kl a b=true↔J0m (J5 a) (J5 b)<256∧kb a (J0m (J5 a) (J5 b))=0:=by
  unfold kl V24;simp only[Bool.and_eq_true,decide_eq_true_eq];constructor
  · rintro⟨h1,h2⟩;exact⟨h1,by have:=Q29 (k:=a) h1;omega⟩
  rintro⟨h1,h2⟩;exact⟨h1,by have:=Q29 (k:=a) h1;omega⟩
theorem Z03 {a b:Nat}(h:kl a b=true):kb b (J0m (J5 a) (J5 b))=1:=by
  obtain⟨h1,h2⟩:=kl_iff.1 h;have h3:=(J3c a b).2 h1;have:=Q3h b (J0m (J5 a) (J5 b));omega
theorem Q39 (a:Nat):kl a a=false:=by
  cases h:kl a a with
  |false=>rfl
  |true=>have h1:=kl_iff.1 h;exact absurd rfl ((J3c a a).2 h1.1)
theorem Q6l {a b c:Nat}(h1:kl a b=true)(h2:kl b c=true):kl a c=true:=by
  obtain⟨p1,p2⟩:=kl_iff.1 h1;obtain⟨q1,q2⟩:=kl_iff.1 h2;have p3:=Z03 h1;have q3:=Z03 h2;have sa:=(J3c a b).1;have sb:=(J3c b c).1;generalize J0m (J5 a) (J5 b)=m at*;generalize J0m (J5 b) (J5 c)=n at*;rcases Nat.lt_trichotomy m n with h|h|h
  · have e:J0m (J5 a) (J5 c)=m:=Z02 (by omega) (fun i hi=>(sa i hi).trans (sb i (by omega))) fun _=>by rw[p2,←sb m h,p3];decide
    exact kl_iff.2 (by rw[e];exact⟨p1,p2⟩)
  · subst h;omega
  have e:J0m (J5 a) (J5 c)=n:=Z02 (by omega) (fun i hi=>(sa i (by omega)).trans (sb i hi)) fun _=>by rw[sa n h,q2,q3];decide
  exact kl_iff.2 (by rw[e];exact⟨q1,by rw[sa n h,q2]⟩)
theorem Q6m {a b:Nat}(ha:a<2^256)(hb:b<2^256)(hne:a≠b)(h:kl a b=false):kl b a=true:=by
  have h1:=Z7h ha hb hne;have h2:=(J3c a b).2 h1;have h3:kb a (J0m (J5 a) (J5 b))≠0:=fun e=>by rw[kl_iff.2 ⟨h1,e⟩] at h;cases h
  have h4:=Q3h a (J0m (J5 a) (J5 b));have h5:=Q3h b (J0m (J5 a) (J5 b));have h6:kb b (J0m (J5 a) (J5 b))=0:=by omega
  exact kl_iff.2 (by rw[Q84 b a];exact⟨h1,h6⟩)
/-! ### Lists of leaves, by the document -/
def Q2c (x:Lf):Bool→List Lf→List Lf
  |done,[]=>if done=true then[] else[x]
  |done,y::r=>(if done=false∧kl y.1 x.1=false then[x] else[])++((if y.1=x.1 then[] else[y])++Q2c x (done || !kl y.1 x.1) r)
def J75 (l:List Lf)(x:Lf):List Lf:=Q2c x false l
def Z28 (ls:List Lf):List Lf:=ls.foldl J75 []
def J1p (l:List Lf)(d b:Nat):List Lf:=l.filter fun y=>decide (kb y.1 d=b)
def Srt (l:List Lf):Prop:=l.Pairwise (fun a b=>kl a.1 b.1=true)
def J3v (l:List Lf):Prop:=∀y∈l,y.1<2^256∧y.2<2^256
theorem Q6n (x:Lf):∀l:List Lf,Q2c x true l=l.filter fun y=>decide (y.1≠x.1)
  |[]=>rfl
  |y::r=>by
    show([]:List Lf)++((if y.1=x.1 then[] else[y])++Q2c x true r)=_;rw[Q6n x r,List.filter_cons]
    by_cases h:y.1=x.1
    · rw[if_pos h,if_neg (by simp[h])];rfl
    · rw[if_neg h,if_pos (by simp[h])];rfl
theorem J8n {x y:Lf}{r:List Lf}(h:kl y.1 x.1=true):J75 (y::r) x=y::J75 r x:=by
  have D:y.1≠x.1:=fun e=>by rw[e,Q39] at h;cases h
  show Q2c x false (y::r)=y::Q2c x false r;simp[Q2c,h,D]
theorem J4e {x y:Lf}{r:List Lf}(h:kl y.1 x.1=false):J75 (y::r) x=x::(if y.1=x.1 then[] else[y])++r.filter fun z=>decide (z.1≠x.1):=by
  show(if(false=false∧kl y.1 x.1=false) then[x] else[])++((if y.1=x.1 then[] else[y])++Q2c x (false || !kl y.1 x.1) r)=_;rw[if_pos ⟨rfl,h⟩,h];show[x]++(_++Q2c x true r)=_;rw[Q6n];simp
theorem Q1b {l:List Lf}(p:Lf→Bool)(h:Srt l):Srt (l.filter p):=List.Pairwise.filter p h
theorem Q6o {x z:Lf}:∀{l:List Lf},z∈J75 l x→z=x∨z∈l
  |[],h=>by rw[show J75 [] x=[x] from rfl] at h;exact .inl (List.mem_singleton.1 h)
  |y::r,h=>by
    cases hk:kl y.1 x.1 with
    |true=>
      rw[J8n hk] at h;rcases List.mem_cons.1 h with rfl|h
      · exact .inr (by simp)
      · rcases Q6o h with h|h
        · exact .inl h
        · exact .inr (by simp[h])
    |false=>
      rw[J4e hk] at h;simp only[List.cons_append,List.mem_cons,List.mem_append,List.mem_filter] at h;rcases h with h|h|h
      · exact .inl h
      · split at h
        · cases h
        · exact .inr (by simp at h;simp[h])
      · exact .inr (by simp[h.1])
theorem Z7j {l:List Lf}{x:Lf}(h:J3v l)(hx:x.1<2^256∧x.2<2^256):J3v (J75 l x):=fun z hz=>by
  rcases Q6o hz with rfl|hz
  · exact hx
  · exact h z hz
theorem Q6p {x:Lf}(hx:x.1<2^256):∀{l:List Lf},J3v l→Srt l→Srt (J75 l x)
  |[],_,_=>by show Srt [x];exact List.pairwise_singleton _ _
  |y::r,ho,hs=>by
    have hc:=List.pairwise_cons.1 hs;have hy:=ho y (by simp);cases hk:kl y.1 x.1 with
    |true=>
      rw[J8n hk];refine List.pairwise_cons.2 ⟨fun z hz=> ?_,Q6p hx (fun z hz=>ho z (by simp[hz])) hc.2⟩;rcases Q6o hz with rfl|hz
      · exact hk
      · exact hc.1 z hz
    |false=>
      rw[J4e hk]
      have hxy:y.1=x.1∨kl x.1 y.1=true:=by
        by_cases e:y.1=x.1
        · exact .inl e
        · exact .inr (Q6m hy.1 hx e hk)
      have D:∀z∈r,kl x.1 z.1=true:=fun z hz=>by
        rcases hxy with e|e
        · rw[←e];exact hc.1 z hz
        exact Q6l e (hc.1 z hz)
      rw[List.cons_append];refine List.pairwise_cons.2 ⟨fun z hz=> ?_,?_⟩
      · rcases List.mem_append.1 hz with hz|hz
        · split at hz
          · cases hz
          rename_i e;rw[List.mem_singleton.1 hz];exact hxy.resolve_left e
        exact D z (List.mem_filter.1 hz).1
      split
      · exact Q1b _ hc.2
      refine List.pairwise_cons.2 ⟨fun z hz=>hc.1 z (List.mem_filter.1 hz).1,Q1b _ hc.2⟩
theorem Q5t {ls:List Lf}(h:J3v ls):J3v (Z28 ls)∧Srt (Z28 ls):=by
  unfold Z28
  have:∀(ls D:List Lf),J3v ls→J3v D→Srt D→J3v (ls.foldl J75 D)∧Srt (ls.foldl J75 D):=by
    intro ls
    induction ls with
    |nil=>intro D _ h1 h2;exact⟨h1,h2⟩
    |cons x r ih=>
      intro D ho h1 h2;have hx:=ho x (by simp);exact ih (J75 D x) (fun z hz=>ho z (by simp[hz])) (Z7j h1 hx) (Q6p hx.1 h1 h2)
  exact this ls [] h (fun z hz=>by cases hz) .nil
theorem J7w {x:Lf}{l:List Lf}(h:∀z∈l,kl x.1 z.1=true):(l.filter fun z=>decide (z.1≠x.1))=l:=by
  rw[List.filter_eq_self];intro z hz;have:=h z hz;simp only[decide_eq_true_eq];intro e;rw[e,Q39] at this;cases this
theorem Q1c {d b:Nat}{x:Lf}(hx:x.1<2^256):∀{l:List Lf},J3v l→Srt l→J1p (J75 l x) d b=if kb x.1 d=b then J75 (J1p l d b) x else J1p l d b
  |[],_,_=>by
    show J1p [x] d b=_;unfold J1p
    by_cases h:kb x.1 d=b
    · rw[if_pos h,List.filter_cons,if_pos (by simp[h])];rfl
    · rw[if_neg h,List.filter_cons,if_neg (by simp[h])]
  |y::r,ho,hs=>by
    have hc:=List.pairwise_cons.1 hs;have hy:=ho y (by simp);have hr:J3v r:=fun z hz=>ho z (by simp[hz]);cases hk:kl y.1 x.1 with
    |true=>
      have ih:=Q1c (d:=d) (b:=b) hx hr hc.2;rw[J8n hk];have e:∀q:List Lf,J1p (y::q) d b=if kb y.1 d=b then y::J1p q d b else J1p q d b:=fun q=>by unfold J1p;rw[List.filter_cons];simp
      rw[e,e,ih]
      by_cases h1:kb y.1 d=b
      · rw[if_pos h1,if_pos h1]
        by_cases h2:kb x.1 d=b
        · rw[if_pos h2,if_pos h2,J8n hk]
        · rw[if_neg h2,if_neg h2]
      · rw[if_neg h1,if_neg h1]
    |false=>
      have J:y.1=x.1∨kl x.1 y.1=true:=by
        by_cases e:y.1=x.1
        · exact .inl e
        · exact .inr (Q6m hy.1 hx e hk)
      have D:∀z∈r,kl x.1 z.1=true:=fun z hz=>by
        rcases J with e|e
        · rw[←e];exact hc.1 z hz
        exact Q6l e (hc.1 z hz)
      have M:∀z∈r,kl z.1 x.1=false:=fun z hz=>by
        cases h:kl z.1 x.1 with
        |false=>rfl
        |true=>have:=Q6l h (D z hz);rw[Q39] at this;cases this
      rw[J4e hk,J7w D]
      have G:∀q:List Lf,(∀z∈q,z∈r)→J75 q x=x::q:=fun q hq=>by
        cases q with
        |nil=>rfl
        |cons z q=>
          have hz:=hq z (by simp);rw[J4e (M z hz),J7w fun u hu=>D u (hq u (by simp[hu])),if_neg (fun e=>by have:=D z hz;rw[e,Q39] at this;cases this)];rfl
      unfold J1p
      by_cases hb:kb x.1 d=b
      · rw[if_pos hb,List.cons_append,List.filter_cons,if_pos (by simp[hb])]
        by_cases e:y.1=x.1
        · rw[if_pos e,List.nil_append,List.filter_cons,if_pos (by simp[e,hb])]
          rw[J4e hk,if_pos e,J7w fun z hz=>D z (List.mem_filter.1 hz).1];rfl
        rw[if_neg e,List.singleton_append,List.filter_cons]
        by_cases h1:kb y.1 d=b
        · rw[if_pos (by simp[h1]),J4e hk,if_neg e,J7w fun z hz=>D z (List.mem_filter.1 hz).1]
          rfl
        rw[if_neg (by simp[h1]),G _ fun z hz=>(List.mem_filter.1 hz).1]
      rw[if_neg hb,List.cons_append,List.filter_cons,if_neg (by simp[hb])]
      by_cases e:y.1=x.1
      · rw[if_pos e,List.nil_append,List.filter_cons,if_neg (by simp[e,hb])]
      rw[if_neg e];rfl
end
end Go.Proofs.YteehbddkcnkhfaaGreatDoor

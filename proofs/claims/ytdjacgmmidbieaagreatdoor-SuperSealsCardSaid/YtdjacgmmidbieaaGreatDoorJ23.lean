/- Contracts and plain laws for superSeals_holds. Conditions: the tables hold their numbers. -/
import Derived.Test.YtdjacgmmidbieaaGreatDoorJ22
open Go renaming undef->AU,World->AA,Value->AB,bodyPost_ret->BH,Calls->BI,IntKind->AI
open Go.IntKind renaming wrap_i64->AJ
open _root_.Nat renaming le_refl->AM,le_trans->Ae
open _root_.Array renaming length_toList->BG
open Go.RowKit
set_option maxRecDepth 100000
set_option linter.unusedSimpArgs false
set_option linter.unusedVariables false
namespace Go.Proofs.YtdjacgmmidbieaaGreatDoor
section
set_option maxHeartbeats 1500000
attribute [local irreducible] wpList K1 wpX
def tsz:TR→Nat
 | .nil=>0
 | .leaf _ _=>1
 | .node _ l r=>1+tsz l+tsz r
def hd (w:AA):Nat→AB→Nat
 |n+1,.pointer (some a)=>match w.cell? ⟨a.block,66,none⟩ with
  |some (.bool true)=>1+hd w n ((w.cell? ⟨a.block,64,none⟩).getD AU)+hd w n ((w.cell? ⟨a.block,65,none⟩).getD AU)
  |some (.bool false)=>1
  |_=>0
 |_,_=>0
theorem V17 (w:AA)(n:Nat):hd w n nlp=0:=by cases n<;>rfl
theorem Q5m {w:AA}:∀{T:TR} {u:AB} {n:Nat},TA w T u→tsz T≤n→hd w n u=tsz T
 | .nil,_,n,h,_=>by rw[show _=nlp from h];exact V17 w n
 | .leaf k v,_,0,_,hn=>absurd hn (by show ¬1≤0;omega)
 | .leaf k v,_,n+1,⟨b,h1,h2,_⟩,_=>by
  subst h1;have e:w.cell? ⟨b,66,none⟩=some (.bool false):=by rw[J5 h2];exact J81
  show(match w.cell? ⟨b,66,none⟩ with
   |some (.bool true)=>_
   |some (.bool false)=>1
   |_=>0)=1
  rw[e]
 | .node d l r,_,0,_,hn=>absurd hn (by show ¬1+tsz l+tsz r≤0;omega)
 | .node d l r,_,n+1,⟨b,s0,s1,h1,h2,h3,h4⟩,hn=>by
  subst h1;have e:w.cell? ⟨b,66,none⟩=some (.bool true):=by rw[J5 h2];exact J81
  have e0:w.cell? ⟨b,64,none⟩=some s0:=by rw[J5 h2];exact nd_s0
  have e1:w.cell? ⟨b,65,none⟩=some s1:=by rw[J5 h2];exact nd_s1
  have hn' :1+tsz l+tsz r≤n+1:=hn
  show(match w.cell? ⟨b,66,none⟩ with
   |some (.bool true)=>1+hd w n ((w.cell? ⟨b,64,none⟩).getD AU)+hd w n ((w.cell? ⟨b,65,none⟩).getD AU)
   |some (.bool false)=>1
   |_=>0)=1+tsz l+tsz r
  rw[e,e0,e1];show 1+hd w n s0+hd w n s1=_;rw[Q5m h3 (by omega),Q5m h4 (by omega)]
def Q7m:TR→Nat
 | .nil=>0
 | .leaf k _=>k
 | .node _ .nil r=>Q7m r
 | .node _ l _=>Q7m l
def full:TR→Prop
 | .nil=>False
 | .leaf _ _=>True
 | .node _ .nil r=>full r
 | .node _ l _=>full l
theorem Z1j {d:Nat}{l r:TR}(h:l≠ .nil):Q7m (.node d l r)=Q7m l:=by cases l<;>first|exact absurd rfl h|rfl
theorem Z1k {d:Nat}{l r:TR}(h:l≠ .nil):full (.node d l r)=full l:=by cases l<;>first|exact absurd rfl h|rfl
theorem Q25 {T:TR}(h:full T):T≠ .nil:=fun e=>by subst e;exact h
theorem TA.cases {w:AA}{T:TR}{u:AB}(h:TA w T u)(hf:full T):(∃b k v,T=.leaf k v∧u=ptr b∧Blk w b (ndc k v nlp nlp false (sL k v) 1) 116)∨
  ∃b d l r s0 s1,T=.node d l r∧u=ptr b∧Blk w b (ndc 0 0 s0 s1 true (rs (.node d l r)) (cnt l+cnt r)) 116∧TA w l s0∧TA w r s1:=by
 cases T with
 |nil=>exact hf.elim
 |leaf k v=>obtain⟨b,h1,h2,_⟩:=h;exact .inl ⟨b,k,v,rfl,h1,h2⟩
 |node d l r=>obtain⟨b,s0,s1,h1,h2,h3,h4⟩:=h;exact .inr ⟨b,d,l,r,s0,s1,rfl,h1,h2,h3,h4⟩
theorem TA.side {w:AA}{T:TR}{u:AB}(h:TA w T u):(T=.nil∧u=nlp)∨∃b,T≠ .nil∧u=ptr b:=by
 cases T with
 |nil=>exact .inl ⟨rfl,h⟩
 |leaf k v=>obtain⟨b,h1,_⟩:=h;exact .inr ⟨b,fun e=>(by cases e),h1⟩
 |node d l r=>obtain⟨b,s0,s1,h1,_⟩:=h;exact .inr ⟨b,fun e=>(by cases e),h1⟩
attribute [local irreducible] hs4 sE sL sN

theorem Z43 {T:TR}{u:AB}(hf0:full T)(w:AA)(h:TA w T u):
  BI Tryz.prog 158 #[u] w fun e w' =>V4 (.agg (J0 .u8 32 (J6 (Q7m T)))) w w' e:=by
 have hS:=SH.nil [] w
 go_enter Tryz.func158,Tryz.ntmps158
 go_upto_region 0 with fail;refine RL hS ?_;clear hS;refine MN (z:=J0 .u8 32 (J6 0)) (t:=38) ?_;intro K9;refine MZ fun W hS=> ?_
 go_wp2_with fail
 go_loopw [0] (fun u wr=> ∃(T1:TR),(TA w T1 u)∧(full T1)∧(Q7m T1=Q7m T)∧(tsz T1≤tsz T)∧SH [] w wr [.b K9 (J0 .u8 32 (J6 0)) 38])
  (fun u _=>hd w (tsz T) u)
 case atStart=>exact⟨T,h,hf0,rfl,AM _,hS⟩
 clear hS
 case round=>
  obtain⟨T1,hT,hf,hk,hz,hS⟩:=hrel;rcases hT.cases hf with⟨b,k,v,rfl,rfl,hB⟩|⟨b,d,l,r,s0,s1,rfl,rfl,hB,hl,hr⟩
  ·
   go_upto_region 1 with fail;refine RL hS ?_;clear hS;(iterate 3 refine MV ?_);refine MF (v:=.bool false) (fun W hS=>V6 rfl rfl (by rw[J5 (J3 hB hS.ext)];exact J81) (by kernel_rfl)) ?_;refine MZ fun W hS=> ?_;go_upto_region 5 with fail;refine RL hS ?_;clear hS;(iterate 4 refine MV ?_);refine MF (v:=.agg (J0 .u8 32 (J6 k))) (fun W hS=>J0n (vs:=(J0 .u8 32 (J6 k)).toList) rfl rfl (fun i v hv=>by rw[J5 (J3 hB hS.ext)];exact J9c i v (by simpa using hv)) (by kernel_rfl) (by first|kernel_rfl|(simp only[BG];rw[J1];kernel_rfl))) ?_;refine MR 0 ?_;refine MZ fun W hS=> ?_;go_wp2;exact BH (Z5 rfl rfl (hS.blk (i:=0) rfl) (by kernel_rfl) (by rw[J1];kernel_rfl)) rfl ⟨by rw[←hk];rfl,hS.ext⟩
  have D:TA w (.node d l r) (ptr b):=hT;go_upto_region 1 with fail;refine RL hS ?_;clear hS;(iterate 3 refine MV ?_);refine MF (v:=.bool true) (fun W hS=>V6 rfl rfl (by rw[J5 (J3 hB hS.ext)];exact J81) (by kernel_rfl)) ?_;refine MZ fun W hS=> ?_;rcases hl.side with⟨rfl,rfl⟩|⟨c,G,rfl⟩
  ·
   go_upto_region 2 with fail;refine RL hS ?_;clear hS;(iterate 3 refine MV ?_);refine MW ?_ (v:=.pointer (some ⟨b,64,none⟩)) (hv:=fun _=>J14 (m:=2) (k:=1) (j:=0) (off:=64) (by decide) Tryz.underlying114 (by kernel_rfl) rfl rfl rfl);refine MF (v:=.pointer none) (fun W hS=>V6 rfl rfl (by rw[J5 (J3 hB hS.ext)];exact nd_s0) (by kernel_rfl)) ?_;refine Wf ?_;refine MZ fun W hS=> ?_;go_upto_region 4 with fail;refine RL hS ?_;clear hS;(iterate 3 refine MV ?_);refine MW ?_ (v:=.pointer (some ⟨b,65,none⟩)) (hv:=fun _=>J14 (m:=2) (k:=1) (j:=1) (off:=64) (by decide) Tryz.underlying114 (by kernel_rfl) rfl rfl rfl);refine MF (v:=s1) (fun W hS=>V6 rfl rfl (by rw[J5 (J3 hB hS.ext)];exact nd_s1) (by kernel_rfl)) ?_;refine MV ?_;refine MZ fun W hS=> ?_;go_wp2;go_roundw
   case rel=>exact⟨r,hr,hf,hk,(by have h_:1+tsz .nil+tsz r≤tsz T:=hz;omega),hS⟩
   case measure=>rw[Q5m D hz,Q5m hr (by have h_:1+tsz .nil+tsz r≤tsz T:=hz;omega)];show _<1+tsz .nil+tsz r;omega
  go_upto_region 2 with fail;refine RL hS ?_;clear hS;(iterate 3 refine MV ?_);refine MW ?_ (v:=.pointer (some ⟨b,64,none⟩)) (hv:=fun _=>J14 (m:=2) (k:=1) (j:=0) (off:=64) (by decide) Tryz.underlying114 (by kernel_rfl) rfl rfl rfl);refine MF (v:=.pointer (some ⟨c,0,none⟩)) (fun W hS=>V6 rfl rfl (by rw[J5 (J3 hB hS.ext)];exact nd_s0) (by kernel_rfl)) ?_;refine Wt ?_;refine MZ fun W hS=> ?_;go_upto_region 3 with fail;refine RL hS ?_;clear hS;(iterate 3 refine MV ?_);refine MW ?_ (v:=.pointer (some ⟨b,64,none⟩)) (hv:=fun _=>J14 (m:=2) (k:=1) (j:=0) (off:=64) (by decide) Tryz.underlying114 (by kernel_rfl) rfl rfl rfl);refine MF (v:=.pointer (some ⟨c,0,none⟩)) (fun W hS=>V6 rfl rfl (by rw[J5 (J3 hB hS.ext)];exact nd_s0) (by kernel_rfl)) ?_;refine MV ?_;refine MZ fun W hS=> ?_;go_wp2;go_roundw
  case rel=>exact⟨l,hl,(by rw[Z1k G] at hf;exact hf),(by rw[Z1j G] at hk;exact hk),(by have h_:1+tsz l+tsz r≤tsz T:=hz;omega),hS⟩
  case measure=>rw[Q5m D hz,Q5m hl (by have h_:1+tsz l+tsz r≤tsz T:=hz;omega)];show _<1+tsz l+tsz r;omega
end

section
set_option maxHeartbeats 3000000
attribute [local irreducible] wpList K1 wpX
def J4i (K:Nat)(d:Nat):Nat→TR→TR
 |0,T=>T
 |m+1,T=>if d≤m then J4i K d m (if kb K m=0 then .node m T .nil else .node m .nil T) else T
def J3m (a x b y d:Nat):TR:=
 if kb a (J0b (J6 a) (J6 b))=1 then J4i b d (J0b (J6 a) (J6 b)) (.node (J0b (J6 a) (J6 b)) (.leaf b y) (.leaf a x))
 else J4i a d (J0b (J6 a) (J6 b)) (.node (J0b (J6 a) (J6 b)) (.leaf a x) (.leaf b y))
def J2h (k v:Nat):TR→Nat→TR
 | .nil,_=> .leaf k v
 | .leaf a x,d=>if a=k then .leaf k v else J3m a x k v d
 | .node _ l r,d=>if kb k d=0 then .node d (J2h k v l (d+1)) r else .node d l (J2h k v r (d+1))
theorem J8j {K d m:Nat}{T:TR}(h:d≤m):J4i K d (m+1) T=J4i K d m (if kb K m=0 then .node m T .nil else .node m .nil T):=by
 show(if d≤m then _ else _)=_;rw[if_pos h]
theorem Q0d {K d m:Nat}{T:TR}(h:m≤d):J4i K d m T=T:=by
 cases m with
 |zero=>rfl
 |succ m=>show(if d≤m then _ else _)=_;rw[if_neg (by omega)]
theorem Q5n (K d:Nat):∀(m:Nat) (T:TR),cnt (J4i K d m T)=cnt T
 |0,_=>rfl
 |m+1,T=>by
  unfold J4i
  split
  ·
   rw[Q5n];split<;>simp[cnt]
  ·
   rfl
theorem Z6e (a x b y d:Nat):cnt (J3m a x b y d)=2:=by unfold J3m;split<;>rw[Q5n]<;>rfl
theorem J5b (k v:Nat):∀(T:TR) (d:Nat),cnt (J2h k v T d)≤cnt T+1
 | .nil,_=>by show 1≤0+1;omega
 | .leaf a x,d=>by
  show cnt (if a=k then TR.leaf k v else J3m a x k v d)≤1+1
  split
  ·
   show 1≤2;omega
  ·
   rw[Z6e];omega
 | .node e l r,d=>by
  have h1:=J5b k v l (d+1);have h2:=J5b k v r (d+1);show cnt (if kb k d=0 then TR.node d (J2h k v l (d+1)) r else TR.node d l (J2h k v r (d+1)))≤cnt l+cnt r+1
  split
  ·
   show cnt (J2h k v l (d+1))+cnt r≤_;omega
  ·
   show cnt l+cnt (J2h k v r (d+1))≤_;omega
theorem Z44 {a b:Nat}(ha:a<2^256)(hb:b<2^256)(h:a≠b):J0b (J6 a) (J6 b)<256:=by
 rcases Nat.lt_or_ge (J0b (J6 a) (J6 b)) 256 with h1|h1
 ·
  exact h1
 have h2:∀n j,j+n=32→(∀i,i<j→kby a i=kby b i)→(∀i,i<32→kby a i=kby b i):=by
  intro n
  induction n with
  |zero=>intro j hj hl i hi;exact hl i (by omega)
  |succ n ih=>
   intro j hj hl
   by_cases he:kby a j=kby b j
   ·
    exact ih (j+1) (by omega) fun i hi=>by rcases Nat.lt_succ_iff_lt_or_eq.1 hi with hi|rfl;exact hl i hi;exact he
   ·
    have:=Q5l (by omega) hl he;have:=(Z1i ⟨kby a j^^^kby b j,Nat.xor_lt_two_pow (n:=8) (J84 a j) (J84 b j)⟩).2.1 (fun h0=>he (by have e:=congrArg (· ^^^kby b j) h0;simpa[Nat.xor_assoc] using e));simp only at this;omega
 exact absurd (J9r ha hb fun j hj=>congrArg Nat.cast (h2 32 0 (by omega) (fun i hi=>absurd hi (Nat.not_lt_zero _)) j hj)) h
theorem TA.leaf' {w:AA}{k v b:Nat}(h:Blk w b (ndc k v nlp nlp false (sL k v) 1) 116)(hk:k<2^256)(hv:v<2^256):TA w (.leaf k v) (ptr b):=⟨b,rfl,h,hk,hv⟩
attribute [local irreducible] hs4 sE sL sN

theorem V18 {q:Prop}{a x c y b1 b2:Nat}(ha:a<2^256)(hx:x<2^256)(hc:c<2^256)(hy:y<2^256)(d:Nat)(hd_:d<4611686018427387904)(w:AA)(hG:GT q w)(hB1:Blk w b1 (ndc a x nlp nlp false (sL a x) 1) 116)(hB2:Blk w b2 (ndc c y nlp nlp false (sL c y) 1) 116):
  BI Tryz.prog 142 #[ptr b1,ptr b2,.int .i64 (d:Int)] w fun e w' =>J82 (J3m a x c y d) w w' e:=by
 have hS:=SH.nil [] w;have h3:=Q24 (J6 a) (J6 c);have hA:TA w (.leaf a x) (ptr b1):=TA.leaf' hB1 ha hx;have hC:TA w (.leaf c y) (ptr b2):=TA.leaf' hB2 hc hy
 go_enter Tryz.func142,Tryz.ntmps142
 go_upto_region 1 with fail;refine RTh (.q 0 (.q 1 (.q 2 (.q 3 (.q 4 (.q 5 (.q 6 (.q 7 (.q 8 (.q 9 (.e 10 (.q 11 .z)))))))))))) hS ?_;clear hS;(iterate 4 refine TV ?_);refine TF (v:=.agg (J0 .u8 32 (J6 a))) rfl (fun W hS=>J0n (vs:=(J0 .u8 32 (J6 a)).toList) rfl rfl (fun i v hv=>by rw[J5 (J3 hB1 hS.ext)];exact J9c i v (by simpa using hv)) (by kernel_rfl) (by first|kernel_rfl|(simp only[BG];rw[J1];kernel_rfl))) ?_;(iterate 4 refine TV ?_);refine TF (v:=.agg (J0 .u8 32 (J6 c))) rfl (fun W hS=>J0n (vs:=(J0 .u8 32 (J6 c)).toList) rfl rfl (fun i v hv=>by rw[J5 (J3 hB2 hS.ext)];exact J9c i v (by simpa using hv)) (by kernel_rfl) (by first|kernel_rfl|(simp only[BG];rw[J1];kernel_rfl))) ?_;refine TE (fun _ h=>h) ?_;refine MC (v:=.int .i64 ((J0b (J6 a) (J6 c):Nat):Int)) (fun W hS=>Z6d a c W) ?_;refine TNh (fun W hS=>hS) ?_;refine TV ?_;refine TZ (fun _ h=>h) fun W hS=> ?_
 by_cases hb:kb a (J0b (J6 a) (J6 c))=1
 ·
  go_upto_region 2 with fail;refine RL hS ?_;clear hS;(iterate 4 refine MV ?_);refine MF (v:=.agg (J0 .u8 32 (J6 a))) (fun W hS=>J0n (vs:=(J0 .u8 32 (J6 a)).toList) rfl rfl (fun i v hv=>by rw[J5 (J3 hB1 hS.ext)];exact J9c i v (by simpa using hv)) (by kernel_rfl) (by first|kernel_rfl|(simp only[BG];rw[J1];kernel_rfl))) ?_;refine MV ?_;refine MC (v:=.int .i64 ((kb a (J0b (J6 a) (J6 c)):Nat):Int)) (fun W hS=>Q1e a (J0b (J6 a) (J6 c)) (by omega) W) ?_;refine MW ?_ (v:=.bool true) (hv:=by intro W;go_simp;(try simp[hb]));refine MZ fun W hS=> ?_;go_upto_region 4 with fail;refine RL hS ?_;clear hS;(iterate 3 refine MV ?_);refine ME (fun W hS=>J4h hS (J83 (J0b (J6 a) (J6 c)) (by simp only[cnt];omega) W (Y5 hG hS.ext) (TA.ext hC hS.ext) (TA.ext hA hS.ext)) rfl) ?_;intro J;refine MV ?_;refine MZ fun W hS=> ?_;go_upto_region 5 with fail;refine RL hS ?_;clear hS;refine MV ?_;refine MW ?_ (v:=.int .i64 (((J0b (J6 a) (J6 c):Nat):Int)-1)) (hv:=by intro W;go_simp;(try simp only[AI.wrap_i64]);(try omega));refine MV ?_;refine MZ fun W hS=> ?_
  go_wp2_with fail
  go_loopw [8,9] (fun uv ii wr=> ∃(T1:TR)(u:AB)(m:Nat),(m≤J0b (J6 a) (J6 c))∧(J4i c d m T1=J4i c d (J0b (J6 a) (J6 c)) (.node (J0b (J6 a) (J6 c)) (.leaf c y) (.leaf a x)))∧(full T1)∧(Q7m T1=c)∧(cnt T1=2)∧(u=uv)∧(ii=.int .i64 ((m:Int)-1))∧SH [] w wr [.t 116 (fun W=>TA W T1 u)])
   (fun uv ii _=>(intOf ii+1).toNat)
  case atStart=>exact⟨(.node (J0b (J6 a) (J6 c)) (.leaf c y) (.leaf a x)),J,J0b (J6 a) (J6 c),AM _,rfl,trivial,rfl,rfl,rfl,by go_num,hS⟩
  clear hS
  case round=>
   obtain⟨T1,u,m,hm,D,hf,hk,U,rfl,rfl,hS⟩:=hrel
   by_cases G:d<m
   ·
    obtain⟨m,rfl⟩:∃m1,m=m1+1:=⟨m-1,by omega⟩
    go_upto_region 6 with fail;refine RL hS ?_;clear hS;refine MV ?_;refine MV ?_;refine MW ?_ (v:=.bool true) (hv:=by intro W;go_simp;omega);refine MZ fun W hS=> ?_
    by_cases hz:kb c m=0
    ·
     go_upto_region 8 with fail;refine RL hS ?_;clear hS;refine MV ?_;refine MC (v:=.agg (J0 .u8 32 (J6 c))) (fun W hS=>(hk▸Z43 hf W (hS.tt (i:=0) rfl))) ?_;refine MW ?_ (v:=.int .i64 ((m:Nat):Int)) (hv:=by intro W;go_simp;(try omega));refine MC (v:=.int .i64 ((kb c m:Nat):Int)) (fun W hS=>Q1e c m (by omega) W) ?_;refine MW ?_ (v:=.bool true) (hv:=by intro W;go_simp;(try simp[hz]));refine MZ fun W hS=> ?_;go_upto_region 9 with fail;refine RL hS ?_;clear hS;refine MW ?_ (v:=.int .i64 ((m:Nat):Int)) (hv:=by intro W;go_simp;(try omega));refine MV ?_;refine ME (fun W hS=>J4h hS (J83 m (by simp only[cnt];omega) W (Y5 hG hS.ext) (hS.tt (i:=0) rfl) (show TA W .nil nlp from rfl)) rfl) ?_;intro N;refine MV ?_;refine MZ fun W hS=> ?_;go_upto_region 7 with fail;refine RL hS ?_;clear hS;refine MV ?_;refine MW ?_ (v:=.int .i64 ((m:Int)-1)) (hv:=by intro W;go_simp;(try simp only[AI.wrap_i64]);(try omega));refine MV ?_;refine MZ fun W hS=> ?_;go_wp2;go_roundw
     case rel=>exact⟨(.node m T1 .nil),N,m,by omega,(by rw[←D,J8j (by omega),if_pos hz]),(by rw[Z1k (Q25 hf)];exact hf),(by rw[Z1j (Q25 hf)];exact hk),(by show cnt T1+0=2;omega),rfl,by go_num,(hS.pick [0])⟩
     case measure=>first|(simp[intOf];done)|(simp[intOf];omega)
    go_upto_region 8 with fail;refine RL hS ?_;clear hS;refine MV ?_;refine MC (v:=.agg (J0 .u8 32 (J6 c))) (fun W hS=>(hk▸Z43 hf W (hS.tt (i:=0) rfl))) ?_;refine MW ?_ (v:=.int .i64 ((m:Nat):Int)) (hv:=by intro W;go_simp;(try omega));refine MC (v:=.int .i64 ((kb c m:Nat):Int)) (fun W hS=>Q1e c m (by omega) W) ?_;refine MW ?_ (v:=.bool false) (hv:=by intro W;go_simp;(try omega));refine MZ fun W hS=> ?_;go_upto_region 10 with fail;refine RL hS ?_;clear hS;refine MW ?_ (v:=.int .i64 ((m:Nat):Int)) (hv:=by intro W;go_simp;(try omega));refine MV ?_;refine ME (fun W hS=>J4h hS (J83 m (by simp only[cnt];omega) W (Y5 hG hS.ext) (show TA W .nil nlp from rfl) (hS.tt (i:=0) rfl)) rfl) ?_;intro M;refine MV ?_;refine MZ fun W hS=> ?_;go_upto_region 7 with fail;refine RL hS ?_;clear hS;refine MV ?_;refine MW ?_ (v:=.int .i64 ((m:Int)-1)) (hv:=by intro W;go_simp;(try simp only[AI.wrap_i64]);(try omega));refine MV ?_;refine MZ fun W hS=> ?_;go_wp2;go_roundw
    case rel=>exact⟨(.node m .nil T1),M,m,by omega,(by rw[←D,J8j (by omega),if_neg hz]),hf,hk,(by show 0+cnt T1=2;omega),rfl,by go_num,(hS.pick [0])⟩
    case measure=>first|(simp[intOf];done)|(simp[intOf];omega)
   go_upto_region 6 with fail;refine RL hS ?_;clear hS;refine MV ?_;refine MV ?_;refine MW ?_ (v:=.bool false) (hv:=by intro W;go_simp;omega);refine MZ fun W hS=> ?_;go_wp2;exact BH (v:=u) (by simp only[results,Tryz.results142];go_simp) rfl ⟨_,rfl,hS.ext,(by have h_:=hS.tt (i:=0) rfl;rw[show J3m a x c y d=T1 from(by unfold J3m;rw[if_pos hb];rw[←D,Q0d (by omega)])];exact h_)⟩
 go_upto_region 2 with fail;refine RL hS ?_;clear hS;(iterate 4 refine MV ?_);refine MF (v:=.agg (J0 .u8 32 (J6 a))) (fun W hS=>J0n (vs:=(J0 .u8 32 (J6 a)).toList) rfl rfl (fun i v hv=>by rw[J5 (J3 hB1 hS.ext)];exact J9c i v (by simpa using hv)) (by kernel_rfl) (by first|kernel_rfl|(simp only[BG];rw[J1];kernel_rfl))) ?_;refine MV ?_;refine MC (v:=.int .i64 ((kb a (J0b (J6 a) (J6 c)):Nat):Int)) (fun W hS=>Q1e a (J0b (J6 a) (J6 c)) (by omega) W) ?_;refine MW ?_ (v:=.bool false) (hv:=by intro W;go_simp;(try omega));refine MZ fun W hS=> ?_;go_upto_region 4 with fail;refine RL hS ?_;clear hS;(iterate 3 refine MV ?_);refine ME (fun W hS=>J4h hS (J83 (J0b (J6 a) (J6 c)) (by simp only[cnt];omega) W (Y5 hG hS.ext) (TA.ext hA hS.ext) (TA.ext hC hS.ext)) rfl) ?_;intro T;refine MV ?_;refine MZ fun W hS=> ?_;go_upto_region 5 with fail;refine RL hS ?_;clear hS;refine MV ?_;refine MW ?_ (v:=.int .i64 (((J0b (J6 a) (J6 c):Nat):Int)-1)) (hv:=by intro W;go_simp;(try simp only[AI.wrap_i64]);(try omega));refine MV ?_;refine MZ fun W hS=> ?_
 go_wp2_with fail
 go_loopw [8,9] (fun uv ii wr=> ∃(T1:TR)(u:AB)(m:Nat),(m≤J0b (J6 a) (J6 c))∧(J4i a d m T1=J4i a d (J0b (J6 a) (J6 c)) (.node (J0b (J6 a) (J6 c)) (.leaf a x) (.leaf c y)))∧(full T1)∧(Q7m T1=a)∧(cnt T1=2)∧(u=uv)∧(ii=.int .i64 ((m:Int)-1))∧SH [] w wr [.t 116 (fun W=>TA W T1 u)])
  (fun uv ii _=>(intOf ii+1).toNat)
 case atStart=>exact⟨(.node (J0b (J6 a) (J6 c)) (.leaf a x) (.leaf c y)),T,J0b (J6 a) (J6 c),AM _,rfl,trivial,rfl,rfl,rfl,by go_num,hS⟩
 clear hS
 case round=>
  obtain⟨T1,u,m,hm,D,hf,hk,U,rfl,rfl,hS⟩:=hrel
  by_cases G:d<m
  ·
   obtain⟨m,rfl⟩:∃m1,m=m1+1:=⟨m-1,by omega⟩
   go_upto_region 6 with fail;refine RL hS ?_;clear hS;refine MV ?_;refine MV ?_;refine MW ?_ (v:=.bool true) (hv:=by intro W;go_simp;omega);refine MZ fun W hS=> ?_
   by_cases hz:kb a m=0
   ·
    go_upto_region 8 with fail;refine RL hS ?_;clear hS;refine MV ?_;refine MC (v:=.agg (J0 .u8 32 (J6 a))) (fun W hS=>(hk▸Z43 hf W (hS.tt (i:=0) rfl))) ?_;refine MW ?_ (v:=.int .i64 ((m:Nat):Int)) (hv:=by intro W;go_simp;(try omega));refine MC (v:=.int .i64 ((kb a m:Nat):Int)) (fun W hS=>Q1e a m (by omega) W) ?_;refine MW ?_ (v:=.bool true) (hv:=by intro W;go_simp;(try simp[hz]));refine MZ fun W hS=> ?_;go_upto_region 9 with fail;refine RL hS ?_;clear hS;refine MW ?_ (v:=.int .i64 ((m:Nat):Int)) (hv:=by intro W;go_simp;(try omega));refine MV ?_;refine ME (fun W hS=>J4h hS (J83 m (by simp only[cnt];omega) W (Y5 hG hS.ext) (hS.tt (i:=0) rfl) (show TA W .nil nlp from rfl)) rfl) ?_;intro R;refine MV ?_;refine MZ fun W hS=> ?_;go_upto_region 7 with fail;refine RL hS ?_;clear hS;refine MV ?_;refine MW ?_ (v:=.int .i64 ((m:Int)-1)) (hv:=by intro W;go_simp;(try simp only[AI.wrap_i64]);(try omega));refine MV ?_;refine MZ fun W hS=> ?_;go_wp2;go_roundw
    case rel=>exact⟨(.node m T1 .nil),R,m,by omega,(by rw[←D,J8j (by omega),if_pos hz]),(by rw[Z1k (Q25 hf)];exact hf),(by rw[Z1j (Q25 hf)];exact hk),(by show cnt T1+0=2;omega),rfl,by go_num,(hS.pick [0])⟩
    case measure=>first|(simp[intOf];done)|(simp[intOf];omega)
   go_upto_region 8 with fail;refine RL hS ?_;clear hS;refine MV ?_;refine MC (v:=.agg (J0 .u8 32 (J6 a))) (fun W hS=>(hk▸Z43 hf W (hS.tt (i:=0) rfl))) ?_;refine MW ?_ (v:=.int .i64 ((m:Nat):Int)) (hv:=by intro W;go_simp;(try omega));refine MC (v:=.int .i64 ((kb a m:Nat):Int)) (fun W hS=>Q1e a m (by omega) W) ?_;refine MW ?_ (v:=.bool false) (hv:=by intro W;go_simp;(try omega));refine MZ fun W hS=> ?_;go_upto_region 10 with fail;refine RL hS ?_;clear hS;refine MW ?_ (v:=.int .i64 ((m:Nat):Int)) (hv:=by intro W;go_simp;(try omega));refine MV ?_;refine ME (fun W hS=>J4h hS (J83 m (by simp only[cnt];omega) W (Y5 hG hS.ext) (show TA W .nil nlp from rfl) (hS.tt (i:=0) rfl)) rfl) ?_;intro S;refine MV ?_;refine MZ fun W hS=> ?_;go_upto_region 7 with fail;refine RL hS ?_;clear hS;refine MV ?_;refine MW ?_ (v:=.int .i64 ((m:Int)-1)) (hv:=by intro W;go_simp;(try simp only[AI.wrap_i64]);(try omega));refine MV ?_;refine MZ fun W hS=> ?_;go_wp2;go_roundw
   case rel=>exact⟨(.node m .nil T1),S,m,by omega,(by rw[←D,J8j (by omega),if_neg hz]),hf,hk,(by show 0+cnt T1=2;omega),rfl,by go_num,(hS.pick [0])⟩
   case measure=>first|(simp[intOf];done)|(simp[intOf];omega)
  go_upto_region 6 with fail;refine RL hS ?_;clear hS;refine MV ?_;refine MV ?_;refine MW ?_ (v:=.bool false) (hv:=by intro W;go_simp;omega);refine MZ fun W hS=> ?_;go_wp2;exact BH (v:=u) (by simp only[results,Tryz.results142];go_simp) rfl ⟨_,rfl,hS.ext,(by have h_:=hS.tt (i:=0) rfl;rw[show J3m a x c y d=T1 from(by unfold J3m;rw[if_neg hb];rw[←D,Q0d (by omega)])];exact h_)⟩
end

section
set_option maxHeartbeats 3000000
attribute [local irreducible] wpList K1 wpX
theorem Y7t (A B:Nat)(hA:A<2^256)(hB:B<2^256)(w:AA):(Op.equalIn 10000 38 (.agg (J0 .u8 32 (J6 A))) (.agg (J0 .u8 32 (J6 B)))).run Tryz.prog w=.ok (decide (A=B)) w:=by
 have h:=J13 (P:=Tryz.prog) w 9998 38 5 32 .u8 (J0 .u8 32 (J6 A)) (J0 .u8 32 (J6 B)) (J6 A) (J6 B) Tryz.underlying38 Tryz.underlying5 (by kernel_rfl)
  (fun i hi=>Q6 _ _ _ _ hi) (fun i hi=>Q6 _ _ _ _ hi)
 rw[h]
 congr 1
 rw[Bool.eq_iff_iff,J2w,decide_eq_true_iff];exact⟨J9r hA hB,fun h=>by subst h;intro _ _;rfl⟩
theorem V19 {q:Prop}{a x c y:Nat}{u1 u2:AB}(d:Nat)(hd_:d<4611686018427387904)(w:AA)(hG:GT q w)(h1:TA w (.leaf a x) u1)(h2:TA w (.leaf c y) u2):
  BI Tryz.prog 142 #[u1,u2,.int .i64 (d:Int)] w fun e w' =>J82 (J3m a x c y d) w w' e:=by
 obtain⟨b1,rfl,G,ha,hx⟩:=h1;obtain⟨b2,rfl,D,hc,hy⟩:=h2;exact V18 ha hx hc hy d hd_ w hG G D
attribute [local irreducible] hs4 sE sL sN

theorem Y4w {q:Prop}{k v:Nat}(hk:k<2^256)(hv:v<2^256)(d:Nat)(w:AA)(hG:GT q w):
  BI Tryz.prog 108 #[nlp,.agg (lf k v),.int .i64 (d:Int)] w fun e w' =>J82 (J2h k v .nil d) w w' e:=by
 have hS:=SH.nil [] w
 go_enter Tryz.func108,Tryz.ntmps108
 go_upto_region 0 with fail;refine RL hS ?_;clear hS;refine MN (z:=lf k v) (t:=40) ?_;intro G;refine MV ?_;refine MZ fun W hS=> ?_;go_upto_region 3 with fail;refine RL hS ?_;clear hS;refine ML 0 ?_ (hs:=by rw[V0];kernel_rfl);refine ME (fun W hS=>J4h hS (Y0u hk hv W (Y5 hG hS.ext)) rfl) ?_;intro D;refine MV ?_;refine MZ fun W hS=> ?_;go_wp2;exact BH (v:=D) (by simp only[results,Tryz.results108];go_simp) rfl ⟨_,rfl,hS.ext,(by exact hS.tt (i:=0) rfl)⟩
theorem V1a {q:Prop}{k v:Nat}(hk:k<2^256)(hv:v<2^256){a x b1:Nat}(ha:a<2^256)(hx:x<2^256)(hak:a=k)(d:Nat)(w:AA)(hG:GT q w)(hB1:Blk w b1 (ndc a x nlp nlp false (sL a x) 1) 116):
  BI Tryz.prog 108 #[ptr b1,.agg (lf k v),.int .i64 (d:Int)] w fun e w' =>J82 (J2h k v (.leaf a x) d) w w' e:=by
 have hS:=SH.nil [] w;have hA:TA w (.leaf a x) (ptr b1):=TA.leaf' hB1 ha hx
 go_enter Tryz.func108,Tryz.ntmps108
 go_upto_region 0 with fail;refine RL hS ?_;clear hS;refine MN (z:=lf k v) (t:=40) ?_;intro G;refine MV ?_;refine MZ fun W hS=> ?_;go_upto_region 2 with fail;refine RTh (.q 0 (.q 1 (.q 2 (.q 3 (.q 4 (.q 5 (.q 6 (.q 7 (.q 8 (.q 9 (.q 10 (.q 11 (.q 12 (.q 13 (.q 14 (.q 15 .z)))))))))))))))) hS ?_;clear hS;(iterate 3 refine TV ?_);refine TF (v:=.bool false) rfl (fun W hS=>V6 rfl rfl (by rw[J5 (J3 hB1 hS.ext)];exact J81) (by kernel_rfl)) ?_;refine Tt ?_;refine Tt ?_;(iterate 4 refine TV ?_);refine TF (v:=.agg (J0 .u8 32 (J6 a))) rfl (fun W hS=>J0n (vs:=(J0 .u8 32 (J6 a)).toList) rfl rfl (fun i v hv=>by rw[J5 (J3 hB1 hS.ext)];exact J9c i v (by simpa using hv)) (by kernel_rfl) (by first|kernel_rfl|(simp only[BG];rw[J1];kernel_rfl))) ?_;refine TV ?_;refine Tl 0 J4o ?_;refine TW ?_ (v:=.bool true) (hv:=fun _=>J62 ((fun w=>(Y7t a k ha hk w).trans (by rw[decide_eq_true hak])) _) (by kernel_rfl) rfl rfl rfl);refine Tt ?_;refine Tt ?_;refine TZ (fun _ h=>h) fun W hS=> ?_;go_upto_region 3 with fail;refine RL hS ?_;clear hS;refine ML 0 ?_ (hs:=by rw[V0];kernel_rfl);refine ME (fun W hS=>J4h hS (Y0u hk hv W (Y5 hG hS.ext)) rfl) ?_;intro D;refine MV ?_;refine MZ fun W hS=> ?_;go_wp2;exact BH (v:=D) (by simp only[results,Tryz.results108];go_simp) rfl ⟨_,rfl,hS.ext,(by rw[show J2h k v (.leaf a x) d=.leaf k v from if_pos hak];exact hS.tt (i:=0) rfl)⟩
theorem V1b {q:Prop}{k v:Nat}(hk:k<2^256)(hv:v<2^256){a x b1:Nat}(ha:a<2^256)(hx:x<2^256)(hak:¬a=k)(d:Nat)(hdl:d<4611686018427387904)(w:AA)(hG:GT q w)(hB1:Blk w b1 (ndc a x nlp nlp false (sL a x) 1) 116):
  BI Tryz.prog 108 #[ptr b1,.agg (lf k v),.int .i64 (d:Int)] w fun e w' =>J82 (J2h k v (.leaf a x) d) w w' e:=by
 have hS:=SH.nil [] w;have hA:TA w (.leaf a x) (ptr b1):=TA.leaf' hB1 ha hx
 go_enter Tryz.func108,Tryz.ntmps108
 go_upto_region 0 with fail;refine RL hS ?_;clear hS;refine MN (z:=lf k v) (t:=40) ?_;intro J;refine MV ?_;refine MZ fun W hS=> ?_;go_upto_region 2 with fail;refine RTh (.q 0 (.q 1 (.q 2 (.q 3 (.q 4 (.q 5 (.q 6 (.q 7 (.q 8 (.q 9 (.q 10 (.q 11 (.q 12 (.q 13 (.q 14 (.q 15 .z)))))))))))))))) hS ?_;clear hS;(iterate 3 refine TV ?_);refine TF (v:=.bool false) rfl (fun W hS=>V6 rfl rfl (by rw[J5 (J3 hB1 hS.ext)];exact J81) (by kernel_rfl)) ?_;refine Tt ?_;refine Tt ?_;(iterate 4 refine TV ?_);refine TF (v:=.agg (J0 .u8 32 (J6 a))) rfl (fun W hS=>J0n (vs:=(J0 .u8 32 (J6 a)).toList) rfl rfl (fun i v hv=>by rw[J5 (J3 hB1 hS.ext)];exact J9c i v (by simpa using hv)) (by kernel_rfl) (by first|kernel_rfl|(simp only[BG];rw[J1];kernel_rfl))) ?_;refine TV ?_;refine Tl 0 J4o ?_;refine TW ?_ (v:=.bool false) (hv:=fun _=>J62 ((fun w=>(Y7t a k ha hk w).trans (by rw[decide_eq_false hak])) _) (by kernel_rfl) rfl rfl rfl);refine Tf ?_;refine Tf ?_;refine TZ (fun _ h=>h) fun W hS=> ?_;go_upto_region 4 with fail;refine RL hS ?_;clear hS;(iterate 3 refine MV ?_);refine MF (v:=.bool false) (fun W hS=>V6 rfl rfl (by rw[J5 (J3 hB1 hS.ext)];exact J81) (by kernel_rfl)) ?_;refine Wt ?_;refine Wt ?_;refine MZ fun W hS=> ?_;go_upto_region 5 with fail;refine RL hS ?_;clear hS;refine MV ?_;refine ML 0 ?_ (hs:=by rw[V0];kernel_rfl);refine ME (fun W hS=>J4h hS (Y0u hk hv W (Y5 hG hS.ext)) rfl) ?_;intro G;refine MV ?_;refine ME (fun W hS=>J4h hS (V19 d hdl W (Y5 hG hS.ext) (TA.ext hA hS.ext) (hS.tt (i:=0) rfl)) rfl) ?_;intro D;refine MV ?_;refine MZ fun W hS=> ?_;go_wp2;exact BH (v:=D) (by simp only[results,Tryz.results108];go_simp) rfl ⟨_,rfl,hS.ext,(by rw[show J2h k v (.leaf a x) d=J3m a x k v d from if_neg hak];exact hS.tt (i:=0) rfl)⟩
theorem V5j {q:Prop}{k v:Nat}(hk:k<2^256)(hv:v<2^256){e0 b:Nat}{l r:TR}{p0 p1:Option Addr}(d:Nat)(hdl:d<4611686018427387904)(hn:cnt l+cnt r<2305843009213693952)(hb:kb k d=0)(w:AA)(hG:GT q w)(hB:Blk w b (ndc 0 0 (.pointer p0) (.pointer p1) true (rs (.node e0 l r)) (cnt l+cnt r)) 116)(hl:TA w l (.pointer p0))(hr:TA w r (.pointer p1))(ih:∀W,GT q W→TA W l (.pointer p0)→BI Tryz.prog 108 #[.pointer p0,.agg (lf k v),.int .i64 ((d+1:Nat):Int)] W fun e w' =>J82 (J2h k v l (d+1)) W w' e):
  BI Tryz.prog 108 #[ptr b,.agg (lf k v),.int .i64 (d:Int)] w fun e w' =>J82 (J2h k v (.node e0 l r) d) w w' e:=by
 have hS:=SH.nil [] w
 go_enter Tryz.func108,Tryz.ntmps108
 go_upto_region 0 with fail;refine RL hS ?_;clear hS;refine MN (z:=lf k v) (t:=40) ?_;intro N;refine MV ?_;refine MZ fun W hS=> ?_;go_upto_region 2 with fail;refine RTh (.q 0 (.q 1 (.q 2 (.q 3 (.q 4 (.q 5 (.q 6 (.q 7 (.q 8 (.q 9 (.q 10 (.q 11 (.q 12 (.q 13 (.q 14 (.q 15 .z)))))))))))))))) hS ?_;clear hS;(iterate 3 refine TV ?_);refine TF (v:=.bool true) rfl (fun W hS=>V6 rfl rfl (by rw[J5 (J3 hB hS.ext)];exact J81) (by kernel_rfl)) ?_;refine Tf ?_;refine Tf ?_;(iterate 8 refine TS ?_);refine Tf ?_;refine Tf ?_;refine TZ (fun _ h=>h) fun W hS=> ?_;go_upto_region 4 with fail;refine RL hS ?_;clear hS;(iterate 3 refine MV ?_);refine MF (v:=.bool true) (fun W hS=>V6 rfl rfl (by rw[J5 (J3 hB hS.ext)];exact J81) (by kernel_rfl)) ?_;refine Wf ?_;refine Wf ?_;refine MZ fun W hS=> ?_;go_upto_region 6 with fail;refine RL hS ?_;clear hS;(iterate 3 refine MV ?_);refine MF (v:=.agg #[(.pointer p0),(.pointer p1)]) (fun W hS=>J0n (vs:=(#[(.pointer p0),(.pointer p1)]).toList) rfl rfl (fun i v hv=>by rw[J5 (J3 hB hS.ext)];exact Q9n i v (by simpa using hv)) (by kernel_rfl) (by kernel_rfl)) ?_;refine MN (z:= #[.pointer none,.pointer none]) (t:=114) ?_;intro G;refine MR 0 ?_;refine MZ fun W hS=> ?_;go_upto_region 7 with fail;refine RL hS ?_;clear hS;refine MV ?_;refine Ml 1 J4o ?_;refine MV ?_;refine MC (v:=.int .i64 0) (fun W hS=>(hb▸Q1e k d hdl W)) ?_;refine W0 ?_;refine MZ fun W hS=> ?_;go_upto_region 8 with fail;refine RTp [1] (.q 0 (.q 1 (.q 2 (.q 4 (.q 5 (.q 6 (.e 3 (.e 7 (.q 8 (.e 9 .z)))))))))) hS ?_;clear hS;refine T0 ?_;refine T0 ?_;refine TW ?_ (v:=.pointer (some ⟨G,0,none⟩)) (hv:=fun _=>J14 (m:=2) (k:=1) (j:=0) (off:=0) (by decide) Tryz.underlying114 (by kernel_rfl) rfl rfl rfl);refine TL 0 ?_ (hs:=by rw[V0];kernel_rfl);refine TV ?_;refine TW ?_ (v:=.int .i64 ((d+1:Nat):Int)) (hv:=by intro W;go_simp;(try simp only[AI.wrap_i64]);omega);refine TE (fun _ h=>h.pick [1]) ?_;refine MG 0 ?_ (v:=.pointer p0);refine TNp [1] [0] ?_;refine TE (fun _ h=>h.pick [1]) ?_;refine ME (fun W hS=>J4h hS (ih W (Y5 hG hS.ext) (TA.ext hl hS.ext)) rfl) ?_;intro D;refine TNp [0,2] [1] ?_;refine TW ?_ (v:=.pointer (some ⟨G,0,none⟩)) (hv:=fun _=>J14 (m:=2) (k:=1) (j:=0) (off:=0) (by decide) Tryz.underlying114 (by kernel_rfl) rfl rfl rfl);refine TE (fun _ h=>h.pick [0,2]) ?_;refine MP 1 (v:=D) ?_ (hv:=fun W hS=>TA.one (hS.tt (i:=0) rfl));refine TNp [0,2] [0,1] ?_;refine TZ (fun _ h=>h.pick [0,2]) fun W hS=> ?_;go_upto_region 9 with fail;refine RL hS ?_;clear hS;refine MV ?_;refine MW ?_ (v:=.pointer (some ⟨G,0,none⟩)) (hv:=fun _=>J14 (m:=2) (k:=1) (j:=0) (off:=0) (by decide) Tryz.underlying114 (by kernel_rfl) rfl rfl rfl);refine MG 1 ?_ (v:=D);refine MW ?_ (v:=.pointer (some ⟨G,1,none⟩)) (hv:=fun _=>J14 (m:=2) (k:=1) (j:=1) (off:=0) (by decide) Tryz.underlying114 (by kernel_rfl) rfl rfl rfl);refine MG 1 ?_ (v:=.pointer p1);refine ME (fun W hS=>J4h hS (J83 d (by have R:=J5b k v l (d+1);have M:=J5b k v r (d+1);omega) W (Y5 hG hS.ext) (hS.tt (i:=0) rfl) (TA.ext hr hS.ext)) rfl) ?_;intro J;refine MV ?_;refine MZ fun W hS=> ?_;go_wp2;exact BH (v:=J) (by simp only[results,Tryz.results108];go_simp) rfl ⟨_,rfl,hS.ext,(by rw[show J2h k v (.node e0 l r) d=.node d (J2h k v l (d+1)) r from if_pos hb];exact hS.tt (i:=0) rfl)⟩
theorem V5k {q:Prop}{k v:Nat}(hk:k<2^256)(hv:v<2^256){e0 b:Nat}{l r:TR}{p0 p1:Option Addr}(d:Nat)(hdl:d<4611686018427387904)(hn:cnt l+cnt r<2305843009213693952)(hb:kb k d=1)(w:AA)(hG:GT q w)(hB:Blk w b (ndc 0 0 (.pointer p0) (.pointer p1) true (rs (.node e0 l r)) (cnt l+cnt r)) 116)(hl:TA w l (.pointer p0))(hr:TA w r (.pointer p1))(ih:∀W,GT q W→TA W r (.pointer p1)→BI Tryz.prog 108 #[.pointer p1,.agg (lf k v),.int .i64 ((d+1:Nat):Int)] W fun e w' =>J82 (J2h k v r (d+1)) W w' e):
  BI Tryz.prog 108 #[ptr b,.agg (lf k v),.int .i64 (d:Int)] w fun e w' =>J82 (J2h k v (.node e0 l r) d) w w' e:=by
 have hS:=SH.nil [] w
 go_enter Tryz.func108,Tryz.ntmps108
 go_upto_region 0 with fail;refine RL hS ?_;clear hS;refine MN (z:=lf k v) (t:=40) ?_;intro N;refine MV ?_;refine MZ fun W hS=> ?_;go_upto_region 2 with fail;refine RTh (.q 0 (.q 1 (.q 2 (.q 3 (.q 4 (.q 5 (.q 6 (.q 7 (.q 8 (.q 9 (.q 10 (.q 11 (.q 12 (.q 13 (.q 14 (.q 15 .z)))))))))))))))) hS ?_;clear hS;(iterate 3 refine TV ?_);refine TF (v:=.bool true) rfl (fun W hS=>V6 rfl rfl (by rw[J5 (J3 hB hS.ext)];exact J81) (by kernel_rfl)) ?_;refine Tf ?_;refine Tf ?_;(iterate 8 refine TS ?_);refine Tf ?_;refine Tf ?_;refine TZ (fun _ h=>h) fun W hS=> ?_;go_upto_region 4 with fail;refine RL hS ?_;clear hS;(iterate 3 refine MV ?_);refine MF (v:=.bool true) (fun W hS=>V6 rfl rfl (by rw[J5 (J3 hB hS.ext)];exact J81) (by kernel_rfl)) ?_;refine Wf ?_;refine Wf ?_;refine MZ fun W hS=> ?_;go_upto_region 6 with fail;refine RL hS ?_;clear hS;(iterate 3 refine MV ?_);refine MF (v:=.agg #[(.pointer p0),(.pointer p1)]) (fun W hS=>J0n (vs:=(#[(.pointer p0),(.pointer p1)]).toList) rfl rfl (fun i v hv=>by rw[J5 (J3 hB hS.ext)];exact Q9n i v (by simpa using hv)) (by kernel_rfl) (by kernel_rfl)) ?_;refine MN (z:= #[.pointer none,.pointer none]) (t:=114) ?_;intro G;refine MR 0 ?_;refine MZ fun W hS=> ?_;go_upto_region 7 with fail;refine RL hS ?_;clear hS;refine MV ?_;refine Ml 1 J4o ?_;refine MV ?_;refine MC (v:=.int .i64 1) (fun W hS=>(hb▸Q1e k d hdl W)) ?_;refine MW ?_ (v:=.int .i64 1);refine MZ fun W hS=> ?_;go_upto_region 8 with fail;refine RTp [1] (.q 0 (.q 1 (.q 2 (.q 4 (.q 5 (.q 6 (.e 3 (.e 7 (.q 8 (.e 9 .z)))))))))) hS ?_;clear hS;refine TW ?_ (v:=.int .i64 1);refine TW ?_ (v:=.int .i64 1);refine TW ?_ (v:=.pointer (some ⟨G,1,none⟩)) (hv:=fun _=>J14 (m:=2) (k:=1) (j:=1) (off:=0) (by decide) Tryz.underlying114 (by kernel_rfl) rfl rfl rfl);refine TL 0 ?_ (hs:=by rw[V0];kernel_rfl);refine TV ?_;refine TW ?_ (v:=.int .i64 ((d+1:Nat):Int)) (hv:=by intro W;go_simp;(try simp only[AI.wrap_i64]);omega);refine TE (fun _ h=>h.pick [1]) ?_;refine MG 0 ?_ (v:=.pointer p1);refine TNp [1] [0] ?_;refine TE (fun _ h=>h.pick [1]) ?_;refine ME (fun W hS=>J4h hS (ih W (Y5 hG hS.ext) (TA.ext hr hS.ext)) rfl) ?_;intro D;refine TNp [0,2] [1] ?_;refine TW ?_ (v:=.pointer (some ⟨G,1,none⟩)) (hv:=fun _=>J14 (m:=2) (k:=1) (j:=1) (off:=0) (by decide) Tryz.underlying114 (by kernel_rfl) rfl rfl rfl);refine TE (fun _ h=>h.pick [0,2]) ?_;refine MP 1 (v:=D) ?_ (hv:=fun W hS=>TA.one (hS.tt (i:=0) rfl));refine TNp [0,2] [0,1] ?_;refine TZ (fun _ h=>h.pick [0,2]) fun W hS=> ?_;go_upto_region 9 with fail;refine RL hS ?_;clear hS;refine MV ?_;refine MW ?_ (v:=.pointer (some ⟨G,0,none⟩)) (hv:=fun _=>J14 (m:=2) (k:=1) (j:=0) (off:=0) (by decide) Tryz.underlying114 (by kernel_rfl) rfl rfl rfl);refine MG 1 ?_ (v:=.pointer p0);refine MW ?_ (v:=.pointer (some ⟨G,1,none⟩)) (hv:=fun _=>J14 (m:=2) (k:=1) (j:=1) (off:=0) (by decide) Tryz.underlying114 (by kernel_rfl) rfl rfl rfl);refine MG 1 ?_ (v:=D);refine ME (fun W hS=>J4h hS (J83 d (by have R:=J5b k v l (d+1);have M:=J5b k v r (d+1);omega) W (Y5 hG hS.ext) (TA.ext hl hS.ext) (hS.tt (i:=0) rfl)) rfl) ?_;intro J;refine MV ?_;refine MZ fun W hS=> ?_;go_wp2;exact BH (v:=J) (by simp only[results,Tryz.results108];go_simp) rfl ⟨_,rfl,hS.ext,(by rw[show J2h k v (.node e0 l r) d=.node d l (J2h k v r (d+1)) from if_neg (by rw[hb];decide)];exact hS.tt (i:=0) rfl)⟩
theorem Y0x {q:Prop}{k v:Nat}(hk:k<2^256)(hv:v<2^256):∀{T:TR} {u:AB} (d:Nat),d+tsz T<4611686018427387904→cnt T<2305843009213693952→∀(w:AA),GT q w→TA w T u→BI Tryz.prog 108 #[u,.agg (lf k v),.int .i64 (d:Int)] w fun e w' =>J82 (J2h k v T d) w w' e
 | .nil,_,d,_,_,w,hG,h=>by rw[show _=nlp from h];exact Y4w hk hv d w hG
 | .leaf a x,_,d,hd_,_,w,hG,⟨b1,h1,hB1,ha,hx⟩=>by
  subst h1
  by_cases hak:a=k
  ·
   exact V1a hk hv ha hx hak d w hG hB1
  ·
   exact V1b hk hv ha hx hak d (by omega) w hG hB1
 | .node e l r,_,d,hd_,hn,w,hG,⟨b,s0,s1,h1,hB,hl,hr⟩=>by
  subst h1;obtain⟨p0,rfl⟩:=hl.pt;obtain⟨p1,rfl⟩:=hr.pt;have hd2:d+(1+tsz l+tsz r)<4611686018427387904:=hd_;have hn2:cnt l+cnt r<2305843009213693952:=hn;have hb2:=Q5k k d;rcases Nat.lt_or_ge 0 (kb k d) with hb|hb
  ·
   exact V5k hk hv d (by omega) hn2 (by omega) w hG hB hl hr fun W hG' h' =>Y0x hk hv (T:=r) (d+1) (by omega) (by omega) W hG' h'
  ·
   exact V5j hk hv d (by omega) hn2 (by omega) w hG hB hl hr fun W hG' h' =>Y0x hk hv (T:=l) (d+1) (by omega) (by omega) W hG' h'
end

section
set_option maxHeartbeats 3000000
attribute [local irreducible] wpList K1 wpX
abbrev lfl (x:Nat×Nat):List AB:=(lf x.1 x.2).toList
def ofT (ls:List (Nat×Nat)):TR:=ls.foldl (fun T x=>J2h x.1 x.2 T 0) .nil
theorem Y0y (ls:List (Nat×Nat))(x:Nat×Nat):ofT (ls++[x])=J2h x.1 x.2 (ofT ls) 0:=by unfold ofT;rw[List.foldl_append];rfl
theorem Q9p {ls:List (Nat×Nat)}{i:Nat}{x:Nat×Nat}(h:ls[i]?=some x):ofT (ls.take (i+1))=J2h x.1 x.2 (ofT (ls.take i)) 0:=by
 rw[List.take_add_one,h];exact Y0y _ _
theorem Q0y (K d:Nat):∀(m:Nat) (T:TR),tsz (J4i K d m T)≤m+tsz T
 |0,T=>by show tsz T≤0+tsz T;omega
 |m+1,T=>by
  unfold J4i
  split
  ·
   refine Ae (Q0y K d m _) ?_
   split
   ·
    show m+(1+tsz T+0)≤_;omega
   ·
    show m+(1+0+tsz T)≤_;omega
  ·
   omega
theorem Z6f (a x b y d:Nat):tsz (J3m a x b y d)≤259:=by
 have h:=Q24 (J6 a) (J6 b);unfold J3m
 split
 ·
  refine Ae (Q0y _ _ _ _) ?_;show _+(1+1+1)≤259;omega
 refine Ae (Q0y _ _ _ _) ?_;show _+(1+1+1)≤259;omega
theorem Q3y (k v:Nat):∀(T:TR) (d:Nat),tsz (J2h k v T d)≤tsz T+260
 | .nil,_=>by show 1≤0+260;omega
 | .leaf a x,d=>by
  show tsz (if a=k then TR.leaf k v else J3m a x k v d)≤1+260
  split
  ·
   show 1≤261;omega
  ·
   have:=Z6f a x k v d;omega
 | .node e l r,d=>by
  have h1:=Q3y k v l (d+1);have h2:=Q3y k v r (d+1);show tsz (if kb k d=0 then TR.node d (J2h k v l (d+1)) r else TR.node d l (J2h k v r (d+1)))≤1+tsz l+tsz r+260
  split
  ·
   show 1+tsz (J2h k v l (d+1))+tsz r≤_;omega
  ·
   show 1+tsz l+tsz (J2h k v r (d+1))≤_;omega
theorem Z1l:∀(n:Nat) (ls:List (Nat×Nat)),tsz (ofT (ls.take n))≤260*n∧cnt (ofT (ls.take n))≤n
 |0,ls=>by rw[List.take_zero];exact⟨AM _,AM _⟩
 |n+1,ls=>by
  have ih:=Z1l n ls;cases h:ls[n]? with
  |none=>rw[List.take_add_one,h];simp only[Option.toList_none,List.append_nil];omega
  |some x=>
   rw[Q9p h];have h1:=Q3y x.1 x.2 (ofT (ls.take n)) 0;have h2:=J5b x.1 x.2 (ofT (ls.take n)) 0;omega
attribute [local irreducible] hs4 sE sL sN

theorem V5l {q:Prop}{k v:Nat}(hk:k<2^256)(hv:v<2^256){T:TR}{u:AB}(hz:tsz T<4611686018427387904)(hcn:cnt T<2305843009213693952)(w:AA)(hG:GT q w)(h:TA w T u):
  BI Tryz.prog 60 #[u,.agg (lf k v)] w fun e w' =>J82 (J2h k v T 0) w w' e:=by
 have hS:=SH.nil [] w
 go_enter Tryz.func60,Tryz.ntmps60
 go_upto_region 0 with fail;refine RL hS ?_;clear hS;refine MN (z:=lf k v) (t:=40) ?_;intro G;refine MV ?_;refine MZ fun W hS=> ?_;go_upto_region 1 with fail;refine RL hS ?_;clear hS;refine MV ?_;refine ML 0 ?_ (hs:=by rw[V0];kernel_rfl);refine ME (fun W hS=>J4h hS (Y0x hk hv 0 (by omega) hcn W (Y5 hG hS.ext) (TA.ext h hS.ext)) rfl) ?_;intro D;refine MV ?_;refine MZ fun W hS=> ?_;go_wp2;exact BH (v:=D) (by simp only[results,Tryz.results60];go_simp) rfl ⟨_,rfl,hS.ext,(by exact hS.tt (i:=0) rfl)⟩
end
end Go.Proofs.YtdjacgmmidbieaaGreatDoor

/- Contracts and plain laws for custumalPast_holds. Conditions: the tables hold their numbers. -/
import Derived.Test.YteehbddkcnkhfaaGreatDoorJ16
open Go.RowKit
set_option maxRecDepth 100000
set_option linter.unusedSimpArgs false
set_option linter.unusedVariables false
namespace Go.Proofs.YteehbddkcnkhfaaGreatDoor
section
set_option maxHeartbeats 1500000
attribute [local irreducible] wpList Y5 wpX
def tsz:TR→Nat
 | .nil=>0
 | .leaf _ _=>1
 | .node _ l r=>1+tsz l+tsz r
def hd (w:World):Nat→Value→Nat
 |n+1,.pointer (some a)=>match w.cell? ⟨a.block,66,none⟩ with
  |some (.bool true)=>1+hd w n ((w.cell? ⟨a.block,64,none⟩).getD undef)+hd w n ((w.cell? ⟨a.block,65,none⟩).getD undef)
  |some (.bool false)=>1
  |_=>0
 |_,_=>0
theorem V3i (w:World)(n:Nat):hd w n nlp=0:=by cases n<;>rfl
theorem J8y {w:World}:∀{T:TR} {u:Value} {n:Nat},TA w T u→tsz T≤n→hd w n u=tsz T
 | .nil,_,n,h,_=>by rw[show _=nlp from h];exact V3i w n
 | .leaf k v,_,0,_,hn=>absurd hn (by show ¬1≤0;omega)
 | .leaf k v,_,n+1,⟨b,h1,h2,_⟩,_=>by
  subst h1;have e:w.cell? ⟨b,66,none⟩=some (.bool false):=by rw[J3 h2];exact J6k
  show(match w.cell? ⟨b,66,none⟩ with
   |some (.bool true)=>_
   |some (.bool false)=>1
   |_=>0)=1
  rw[e]
 | .node d l r,_,0,_,hn=>absurd hn (by show ¬1+tsz l+tsz r≤0;omega)
 | .node d l r,_,n+1,⟨b,s0,s1,h1,h2,h3,h4⟩,hn=>by
  subst h1;have e:w.cell? ⟨b,66,none⟩=some (.bool true):=by rw[J3 h2];exact J6k
  have e0:w.cell? ⟨b,64,none⟩=some s0:=by rw[J3 h2];exact nd_s0
  have e1:w.cell? ⟨b,65,none⟩=some s1:=by rw[J3 h2];exact nd_s1
  have hn' :1+tsz l+tsz r≤n+1:=hn
  show(match w.cell? ⟨b,66,none⟩ with
   |some (.bool true)=>1+hd w n ((w.cell? ⟨b,64,none⟩).getD undef)+hd w n ((w.cell? ⟨b,65,none⟩).getD undef)
   |some (.bool false)=>1
   |_=>0)=1+tsz l+tsz r
  rw[e,e0,e1];show 1+hd w n s0+hd w n s1=_;rw[J8y h3 (by omega),J8y h4 (by omega)]
def Q78:TR→Nat
 | .nil=>0
 | .leaf k _=>k
 | .node _ .nil r=>Q78 r
 | .node _ l _=>Q78 l
def full:TR→Prop
 | .nil=>False
 | .leaf _ _=>True
 | .node _ .nil r=>full r
 | .node _ l _=>full l
theorem Z1f {d:Nat}{l r:TR}(h:l≠ .nil):Q78 (.node d l r)=Q78 l:=by cases l<;>first|exact absurd rfl h|rfl
theorem Z1g {d:Nat}{l r:TR}(h:l≠ .nil):full (.node d l r)=full l:=by cases l<;>first|exact absurd rfl h|rfl
theorem Q2e {T:TR}(h:full T):T≠ .nil:=fun e=>by subst e;exact h
theorem TA.cases {w:World}{T:TR}{u:Value}(h:TA w T u)(hf:full T):(∃b k v,T=.leaf k v∧u=ptr b∧Blk w b (ndc k v nlp nlp false (sL k v) 1) 181)∨
  ∃b d l r s0 s1,T=.node d l r∧u=ptr b∧Blk w b (ndc 0 0 s0 s1 true (rs (.node d l r)) (cnt l+cnt r)) 181∧TA w l s0∧TA w r s1:=by
 cases T with
 |nil=>exact hf.elim
 |leaf k v=>obtain⟨b,h1,h2,_⟩:=h;exact .inl ⟨b,k,v,rfl,h1,h2⟩
 |node d l r=>obtain⟨b,s0,s1,h1,h2,h3,h4⟩:=h;exact .inr ⟨b,d,l,r,s0,s1,rfl,h1,h2,h3,h4⟩
theorem TA.side {w:World}{T:TR}{u:Value}(h:TA w T u):(T=.nil∧u=nlp)∨∃b,T≠ .nil∧u=ptr b:=by
 cases T with
 |nil=>exact .inl ⟨rfl,h⟩
 |leaf k v=>obtain⟨b,h1,_⟩:=h;exact .inr ⟨b,fun e=>(by cases e),h1⟩
 |node d l r=>obtain⟨b,s0,s1,h1,_⟩:=h;exact .inr ⟨b,fun e=>(by cases e),h1⟩
attribute [local irreducible] hs4 sE sL sN

theorem Z46 {T:TR}{u:Value}(hf0:full T)(w:World)(h:TA w T u):
  Calls Tryz.prog 197 #[u] w fun e w' =>X5 (.agg (J1 .u8 32 (J4 (Q78 T)))) w w' e:=by
 have hS:=SH.nil [] w
 go_enter Tryz.func197,Tryz.ntmps197
 go_upto_region 0 with fail;refine RL hS ?_;clear hS;refine MN (z:=J1 .u8 32 (J4 0)) (t:=42) ?_;intro K1;refine MZ fun W hS=> ?_
 go_wp2_with fail
 go_loopw [0] (fun u wr=> ∃(T1:TR),(TA w T1 u)∧(full T1)∧(Q78 T1=Q78 T)∧(tsz T1≤tsz T)∧SH [] w wr [.b K1 (J1 .u8 32 (J4 0)) 42])
  (fun u _=>hd w (tsz T) u)
 case atStart=>exact⟨T,h,hf0,rfl,Nat.le_refl _,hS⟩
 clear hS
 case round=>
  obtain⟨T1,hT,hf,hk,hz,hS⟩:=hrel;rcases hT.cases hf with⟨b,k,v,rfl,rfl,hB⟩|⟨b,d,l,r,s0,s1,rfl,rfl,hB,hl,hr⟩
  ·
   go_upto_region 1 with fail;refine RL hS ?_;clear hS;(iterate 3 refine MV ?_);refine MF (v:=.bool false) (fun W hS=>Q5 rfl rfl (by rw[J3 (J2 hB hS.ext)];exact J6k) (by kernel_rfl)) ?_;refine MZ fun W hS=> ?_;go_upto_region 5 with fail;refine RL hS ?_;clear hS;(iterate 4 refine MV ?_);refine MF (v:=.agg (J1 .u8 32 (J4 k))) (fun W hS=>J0d (vs:=(J1 .u8 32 (J4 k)).toList) rfl rfl (fun i v hv=>by rw[J3 (J2 hB hS.ext)];exact J77 i v (by simpa using hv)) (by kernel_rfl) (by first|kernel_rfl|(simp only[Array.length_toList];rw[J0];kernel_rfl))) ?_;refine MR 0 ?_;refine MZ fun W hS=> ?_;go_wp2;exact bodyPost_ret (Z8 rfl rfl (hS.blk (i:=0) rfl) (by kernel_rfl) (by rw[J0];kernel_rfl)) rfl ⟨by rw[←hk];rfl,hS.ext⟩
  have D:TA w (.node d l r) (ptr b):=hT;go_upto_region 1 with fail;refine RL hS ?_;clear hS;(iterate 3 refine MV ?_);refine MF (v:=.bool true) (fun W hS=>Q5 rfl rfl (by rw[J3 (J2 hB hS.ext)];exact J6k) (by kernel_rfl)) ?_;refine MZ fun W hS=> ?_;rcases hl.side with⟨rfl,rfl⟩|⟨c,G,rfl⟩
  ·
   go_upto_region 2 with fail;refine RL hS ?_;clear hS;(iterate 3 refine MV ?_);refine MW ?_ (v:=.pointer (some ⟨b,64,none⟩)) (hv:=fun _=>J0a (m:=2) (k:=1) (j:=0) (off:=64) (by decide) Tryz.underlying179 (by kernel_rfl) rfl rfl rfl);refine MF (v:=.pointer none) (fun W hS=>Q5 rfl rfl (by rw[J3 (J2 hB hS.ext)];exact nd_s0) (by kernel_rfl)) ?_;refine Wf ?_;refine MZ fun W hS=> ?_;go_upto_region 4 with fail;refine RL hS ?_;clear hS;(iterate 3 refine MV ?_);refine MW ?_ (v:=.pointer (some ⟨b,65,none⟩)) (hv:=fun _=>J0a (m:=2) (k:=1) (j:=1) (off:=64) (by decide) Tryz.underlying179 (by kernel_rfl) rfl rfl rfl);refine MF (v:=s1) (fun W hS=>Q5 rfl rfl (by rw[J3 (J2 hB hS.ext)];exact nd_s1) (by kernel_rfl)) ?_;refine MV ?_;refine MZ fun W hS=> ?_;go_wp2;go_roundw
   case rel=>exact⟨r,hr,hf,hk,(by have h_:1+tsz .nil+tsz r≤tsz T:=hz;omega),hS⟩
   case measure=>rw[J8y D hz,J8y hr (by have h_:1+tsz .nil+tsz r≤tsz T:=hz;omega)];show _<1+tsz .nil+tsz r;omega
  go_upto_region 2 with fail;refine RL hS ?_;clear hS;(iterate 3 refine MV ?_);refine MW ?_ (v:=.pointer (some ⟨b,64,none⟩)) (hv:=fun _=>J0a (m:=2) (k:=1) (j:=0) (off:=64) (by decide) Tryz.underlying179 (by kernel_rfl) rfl rfl rfl);refine MF (v:=.pointer (some ⟨c,0,none⟩)) (fun W hS=>Q5 rfl rfl (by rw[J3 (J2 hB hS.ext)];exact nd_s0) (by kernel_rfl)) ?_;refine Wt ?_;refine MZ fun W hS=> ?_;go_upto_region 3 with fail;refine RL hS ?_;clear hS;(iterate 3 refine MV ?_);refine MW ?_ (v:=.pointer (some ⟨b,64,none⟩)) (hv:=fun _=>J0a (m:=2) (k:=1) (j:=0) (off:=64) (by decide) Tryz.underlying179 (by kernel_rfl) rfl rfl rfl);refine MF (v:=.pointer (some ⟨c,0,none⟩)) (fun W hS=>Q5 rfl rfl (by rw[J3 (J2 hB hS.ext)];exact nd_s0) (by kernel_rfl)) ?_;refine MV ?_;refine MZ fun W hS=> ?_;go_wp2;go_roundw
  case rel=>exact⟨l,hl,(by rw[Z1g G] at hf;exact hf),(by rw[Z1f G] at hk;exact hk),(by have h_:1+tsz l+tsz r≤tsz T:=hz;omega),hS⟩
  case measure=>rw[J8y D hz,J8y hl (by have h_:1+tsz l+tsz r≤tsz T:=hz;omega)];show _<1+tsz l+tsz r;omega
end

section
set_option maxHeartbeats 3000000
attribute [local irreducible] wpList Y5 wpX
def J52 (K:Nat)(d:Nat):Nat→TR→TR
 |0,T=>T
 |m+1,T=>if d≤m then J52 K d m (if kb K m=0 then .node m T .nil else .node m .nil T) else T
def J5m (a x b y d:Nat):TR:=
 if kb a (J36 (J4 a) (J4 b))=1 then J52 b d (J36 (J4 a) (J4 b)) (.node (J36 (J4 a) (J4 b)) (.leaf b y) (.leaf a x))
 else J52 a d (J36 (J4 a) (J4 b)) (.node (J36 (J4 a) (J4 b)) (.leaf a x) (.leaf b y))
def J2m (k v:Nat):TR→Nat→TR
 | .nil,_=> .leaf k v
 | .leaf a x,d=>if a=k then .leaf k v else J5m a x k v d
 | .node _ l r,d=>if kb k d=0 then .node d (J2m k v l (d+1)) r else .node d l (J2m k v r (d+1))
theorem Q2f {K d m:Nat}{T:TR}(h:d≤m):J52 K d (m+1) T=J52 K d m (if kb K m=0 then .node m T .nil else .node m .nil T):=by
 show(if d≤m then _ else _)=_;rw[if_pos h]
theorem Z47 {K d m:Nat}{T:TR}(h:m≤d):J52 K d m T=T:=by
 cases m with
 |zero=>rfl
 |succ m=>show(if d≤m then _ else _)=_;rw[if_neg (by omega)]
theorem Q5i (K d:Nat):∀(m:Nat) (T:TR),cnt (J52 K d m T)=cnt T
 |0,_=>rfl
 |m+1,T=>by
  unfold J52
  split
  ·
   rw[Q5i];split<;>simp[cnt]
  ·
   rfl
theorem Z6a (a x b y d:Nat):cnt (J5m a x b y d)=2:=by unfold J5m;split<;>rw[Q5i]<;>rfl
theorem J5c (k v:Nat):∀(T:TR) (d:Nat),cnt (J2m k v T d)≤cnt T+1
 | .nil,_=>by show 1≤0+1;omega
 | .leaf a x,d=>by
  show cnt (if a=k then TR.leaf k v else J5m a x k v d)≤1+1
  split
  ·
   show 1≤2;omega
  ·
   rw[Z6a];omega
 | .node e l r,d=>by
  have h1:=J5c k v l (d+1);have h2:=J5c k v r (d+1);show cnt (if kb k d=0 then TR.node d (J2m k v l (d+1)) r else TR.node d l (J2m k v r (d+1)))≤cnt l+cnt r+1
  split
  ·
   show cnt (J2m k v l (d+1))+cnt r≤_;omega
  ·
   show cnt l+cnt (J2m k v r (d+1))≤_;omega
theorem TA.leaf' {w:World}{k v b:Nat}(h:Blk w b (ndc k v nlp nlp false (sL k v) 1) 181)(hk:k<2^256)(hv:v<2^256):TA w (.leaf k v) (ptr b):=⟨b,rfl,h,hk,hv⟩
attribute [local irreducible] hs4 sE sL sN

theorem V3j {q:Prop}{a x c y b1 b2:Nat}(ha:a<2^256)(hx:x<2^256)(hc:c<2^256)(hy:y<2^256)(d:Nat)(hd_:d<4611686018427387904)(w:World)(hG:GT q w)(hB1:Blk w b1 (ndc a x nlp nlp false (sL a x) 1) 181)(hB2:Blk w b2 (ndc c y nlp nlp false (sL c y) 1) 181):
  Calls Tryz.prog 171 #[ptr b1,ptr b2,.int .i64 (d:Int)] w fun e w' =>J9e (J5m a x c y d) w w' e:=by
 have hS:=SH.nil [] w;have h3:=Z45 (J4 a) (J4 c);have hA:TA w (.leaf a x) (ptr b1):=TA.leaf' hB1 ha hx;have hC:TA w (.leaf c y) (ptr b2):=TA.leaf' hB2 hc hy
 go_enter Tryz.func171,Tryz.ntmps171
 go_upto_region 1 with fail;refine RTh (.q 0 (.q 1 (.q 2 (.q 3 (.q 4 (.q 5 (.q 6 (.q 7 (.q 8 (.q 9 (.e 10 (.q 11 .z)))))))))))) hS ?_;clear hS;(iterate 4 refine TV ?_);refine TF (v:=.agg (J1 .u8 32 (J4 a))) rfl (fun W hS=>J0d (vs:=(J1 .u8 32 (J4 a)).toList) rfl rfl (fun i v hv=>by rw[J3 (J2 hB1 hS.ext)];exact J77 i v (by simpa using hv)) (by kernel_rfl) (by first|kernel_rfl|(simp only[Array.length_toList];rw[J0];kernel_rfl))) ?_;(iterate 4 refine TV ?_);refine TF (v:=.agg (J1 .u8 32 (J4 c))) rfl (fun W hS=>J0d (vs:=(J1 .u8 32 (J4 c)).toList) rfl rfl (fun i v hv=>by rw[J3 (J2 hB2 hS.ext)];exact J77 i v (by simpa using hv)) (by kernel_rfl) (by first|kernel_rfl|(simp only[Array.length_toList];rw[J0];kernel_rfl))) ?_;refine TE (fun _ h=>h) ?_;refine MC (v:=.int .i64 ((J36 (J4 a) (J4 c):Nat):Int)) (fun W hS=>Z69 a c W) ?_;refine TNh (fun W hS=>hS) ?_;refine TV ?_;refine TZ (fun _ h=>h) fun W hS=> ?_
 by_cases hb:kb a (J36 (J4 a) (J4 c))=1
 ·
  go_upto_region 2 with fail;refine RL hS ?_;clear hS;(iterate 4 refine MV ?_);refine MF (v:=.agg (J1 .u8 32 (J4 a))) (fun W hS=>J0d (vs:=(J1 .u8 32 (J4 a)).toList) rfl rfl (fun i v hv=>by rw[J3 (J2 hB1 hS.ext)];exact J77 i v (by simpa using hv)) (by kernel_rfl) (by first|kernel_rfl|(simp only[Array.length_toList];rw[J0];kernel_rfl))) ?_;refine MV ?_;refine MC (v:=.int .i64 ((kb a (J36 (J4 a) (J4 c)):Nat):Int)) (fun W hS=>J7b a (J36 (J4 a) (J4 c)) (by omega) W) ?_;refine MW ?_ (v:=.bool true) (hv:=by intro W;go_simp;(try simp[hb]));refine MZ fun W hS=> ?_;go_upto_region 4 with fail;refine RL hS ?_;clear hS;(iterate 3 refine MV ?_);refine ME (fun W hS=>J4r hS (J8a (J36 (J4 a) (J4 c)) (by simp only[cnt];omega) W (J0f hG hS.ext) (TA.ext hC hS.ext) (TA.ext hA hS.ext)) rfl) ?_;intro T;refine MV ?_;refine MZ fun W hS=> ?_;go_upto_region 5 with fail;refine RL hS ?_;clear hS;refine MV ?_;refine MW ?_ (v:=.int .i64 (((J36 (J4 a) (J4 c):Nat):Int)-1)) (hv:=by intro W;go_simp;(try simp only[IntKind.wrap_i64]);(try omega));refine MV ?_;refine MZ fun W hS=> ?_
  go_wp2_with fail
  go_loopw [8,9] (fun uv ii wr=> ∃(T1:TR)(u:Value)(m:Nat),(m≤J36 (J4 a) (J4 c))∧(J52 c d m T1=J52 c d (J36 (J4 a) (J4 c)) (.node (J36 (J4 a) (J4 c)) (.leaf c y) (.leaf a x)))∧(full T1)∧(Q78 T1=c)∧(cnt T1=2)∧(u=uv)∧(ii=.int .i64 ((m:Int)-1))∧SH [] w wr [.t 181 (fun W=>TA W T1 u)])
   (fun uv ii _=>(intOf ii+1).toNat)
  case atStart=>exact⟨(.node (J36 (J4 a) (J4 c)) (.leaf c y) (.leaf a x)),T,J36 (J4 a) (J4 c),Nat.le_refl _,rfl,trivial,rfl,rfl,rfl,by go_num,hS⟩
  clear hS
  case round=>
   obtain⟨T1,u,m,hm,D,hf,hk,U,rfl,rfl,hS⟩:=hrel
   by_cases G:d<m
   ·
    obtain⟨m,rfl⟩:∃m1,m=m1+1:=⟨m-1,by omega⟩
    go_upto_region 6 with fail;refine RL hS ?_;clear hS;refine MV ?_;refine MV ?_;refine MW ?_ (v:=.bool true) (hv:=by intro W;go_simp;omega);refine MZ fun W hS=> ?_
    by_cases hz:kb c m=0
    ·
     go_upto_region 8 with fail;refine RL hS ?_;clear hS;refine MV ?_;refine MC (v:=.agg (J1 .u8 32 (J4 c))) (fun W hS=>(hk▸Z46 hf W (hS.tt (i:=0) rfl))) ?_;refine MW ?_ (v:=.int .i64 ((m:Nat):Int)) (hv:=by intro W;go_simp;(try omega));refine MC (v:=.int .i64 ((kb c m:Nat):Int)) (fun W hS=>J7b c m (by omega) W) ?_;refine MW ?_ (v:=.bool true) (hv:=by intro W;go_simp;(try simp[hz]));refine MZ fun W hS=> ?_;go_upto_region 9 with fail;refine RL hS ?_;clear hS;refine MW ?_ (v:=.int .i64 ((m:Nat):Int)) (hv:=by intro W;go_simp;(try omega));refine MV ?_;refine ME (fun W hS=>J4r hS (J8a m (by simp only[cnt];omega) W (J0f hG hS.ext) (hS.tt (i:=0) rfl) (show TA W .nil nlp from rfl)) rfl) ?_;intro M;refine MV ?_;refine MZ fun W hS=> ?_;go_upto_region 7 with fail;refine RL hS ?_;clear hS;refine MV ?_;refine MW ?_ (v:=.int .i64 ((m:Int)-1)) (hv:=by intro W;go_simp;(try simp only[IntKind.wrap_i64]);(try omega));refine MV ?_;refine MZ fun W hS=> ?_;go_wp2;go_roundw
     case rel=>exact⟨(.node m T1 .nil),M,m,by omega,(by rw[←D,Q2f (by omega),if_pos hz]),(by rw[Z1g (Q2e hf)];exact hf),(by rw[Z1f (Q2e hf)];exact hk),(by show cnt T1+0=2;omega),rfl,by go_num,(hS.pick [0])⟩
     case measure=>first|(simp[intOf];done)|(simp[intOf];omega)
    go_upto_region 8 with fail;refine RL hS ?_;clear hS;refine MV ?_;refine MC (v:=.agg (J1 .u8 32 (J4 c))) (fun W hS=>(hk▸Z46 hf W (hS.tt (i:=0) rfl))) ?_;refine MW ?_ (v:=.int .i64 ((m:Nat):Int)) (hv:=by intro W;go_simp;(try omega));refine MC (v:=.int .i64 ((kb c m:Nat):Int)) (fun W hS=>J7b c m (by omega) W) ?_;refine MW ?_ (v:=.bool false) (hv:=by intro W;go_simp;(try omega));refine MZ fun W hS=> ?_;go_upto_region 10 with fail;refine RL hS ?_;clear hS;refine MW ?_ (v:=.int .i64 ((m:Nat):Int)) (hv:=by intro W;go_simp;(try omega));refine MV ?_;refine ME (fun W hS=>J4r hS (J8a m (by simp only[cnt];omega) W (J0f hG hS.ext) (show TA W .nil nlp from rfl) (hS.tt (i:=0) rfl)) rfl) ?_;intro S;refine MV ?_;refine MZ fun W hS=> ?_;go_upto_region 7 with fail;refine RL hS ?_;clear hS;refine MV ?_;refine MW ?_ (v:=.int .i64 ((m:Int)-1)) (hv:=by intro W;go_simp;(try simp only[IntKind.wrap_i64]);(try omega));refine MV ?_;refine MZ fun W hS=> ?_;go_wp2;go_roundw
    case rel=>exact⟨(.node m .nil T1),S,m,by omega,(by rw[←D,Q2f (by omega),if_neg hz]),hf,hk,(by show 0+cnt T1=2;omega),rfl,by go_num,(hS.pick [0])⟩
    case measure=>first|(simp[intOf];done)|(simp[intOf];omega)
   go_upto_region 6 with fail;refine RL hS ?_;clear hS;refine MV ?_;refine MV ?_;refine MW ?_ (v:=.bool false) (hv:=by intro W;go_simp;omega);refine MZ fun W hS=> ?_;go_wp2;exact bodyPost_ret (v:=u) (by simp only[results,Tryz.results171];go_simp) rfl ⟨_,rfl,hS.ext,(by have h_:=hS.tt (i:=0) rfl;rw[show J5m a x c y d=T1 from(by unfold J5m;rw[if_pos hb];rw[←D,Z47 (by omega)])];exact h_)⟩
 go_upto_region 2 with fail;refine RL hS ?_;clear hS;(iterate 4 refine MV ?_);refine MF (v:=.agg (J1 .u8 32 (J4 a))) (fun W hS=>J0d (vs:=(J1 .u8 32 (J4 a)).toList) rfl rfl (fun i v hv=>by rw[J3 (J2 hB1 hS.ext)];exact J77 i v (by simpa using hv)) (by kernel_rfl) (by first|kernel_rfl|(simp only[Array.length_toList];rw[J0];kernel_rfl))) ?_;refine MV ?_;refine MC (v:=.int .i64 ((kb a (J36 (J4 a) (J4 c)):Nat):Int)) (fun W hS=>J7b a (J36 (J4 a) (J4 c)) (by omega) W) ?_;refine MW ?_ (v:=.bool false) (hv:=by intro W;go_simp;(try omega));refine MZ fun W hS=> ?_;go_upto_region 4 with fail;refine RL hS ?_;clear hS;(iterate 3 refine MV ?_);refine ME (fun W hS=>J4r hS (J8a (J36 (J4 a) (J4 c)) (by simp only[cnt];omega) W (J0f hG hS.ext) (TA.ext hA hS.ext) (TA.ext hC hS.ext)) rfl) ?_;intro N;refine MV ?_;refine MZ fun W hS=> ?_;go_upto_region 5 with fail;refine RL hS ?_;clear hS;refine MV ?_;refine MW ?_ (v:=.int .i64 (((J36 (J4 a) (J4 c):Nat):Int)-1)) (hv:=by intro W;go_simp;(try simp only[IntKind.wrap_i64]);(try omega));refine MV ?_;refine MZ fun W hS=> ?_
 go_wp2_with fail
 go_loopw [8,9] (fun uv ii wr=> ∃(T1:TR)(u:Value)(m:Nat),(m≤J36 (J4 a) (J4 c))∧(J52 a d m T1=J52 a d (J36 (J4 a) (J4 c)) (.node (J36 (J4 a) (J4 c)) (.leaf a x) (.leaf c y)))∧(full T1)∧(Q78 T1=a)∧(cnt T1=2)∧(u=uv)∧(ii=.int .i64 ((m:Int)-1))∧SH [] w wr [.t 181 (fun W=>TA W T1 u)])
  (fun uv ii _=>(intOf ii+1).toNat)
 case atStart=>exact⟨(.node (J36 (J4 a) (J4 c)) (.leaf a x) (.leaf c y)),N,J36 (J4 a) (J4 c),Nat.le_refl _,rfl,trivial,rfl,rfl,rfl,by go_num,hS⟩
 clear hS
 case round=>
  obtain⟨T1,u,m,hm,D,hf,hk,U,rfl,rfl,hS⟩:=hrel
  by_cases G:d<m
  ·
   obtain⟨m,rfl⟩:∃m1,m=m1+1:=⟨m-1,by omega⟩
   go_upto_region 6 with fail;refine RL hS ?_;clear hS;refine MV ?_;refine MV ?_;refine MW ?_ (v:=.bool true) (hv:=by intro W;go_simp;omega);refine MZ fun W hS=> ?_
   by_cases hz:kb a m=0
   ·
    go_upto_region 8 with fail;refine RL hS ?_;clear hS;refine MV ?_;refine MC (v:=.agg (J1 .u8 32 (J4 a))) (fun W hS=>(hk▸Z46 hf W (hS.tt (i:=0) rfl))) ?_;refine MW ?_ (v:=.int .i64 ((m:Nat):Int)) (hv:=by intro W;go_simp;(try omega));refine MC (v:=.int .i64 ((kb a m:Nat):Int)) (fun W hS=>J7b a m (by omega) W) ?_;refine MW ?_ (v:=.bool true) (hv:=by intro W;go_simp;(try simp[hz]));refine MZ fun W hS=> ?_;go_upto_region 9 with fail;refine RL hS ?_;clear hS;refine MW ?_ (v:=.int .i64 ((m:Nat):Int)) (hv:=by intro W;go_simp;(try omega));refine MV ?_;refine ME (fun W hS=>J4r hS (J8a m (by simp only[cnt];omega) W (J0f hG hS.ext) (hS.tt (i:=0) rfl) (show TA W .nil nlp from rfl)) rfl) ?_;intro J;refine MV ?_;refine MZ fun W hS=> ?_;go_upto_region 7 with fail;refine RL hS ?_;clear hS;refine MV ?_;refine MW ?_ (v:=.int .i64 ((m:Int)-1)) (hv:=by intro W;go_simp;(try simp only[IntKind.wrap_i64]);(try omega));refine MV ?_;refine MZ fun W hS=> ?_;go_wp2;go_roundw
    case rel=>exact⟨(.node m T1 .nil),J,m,by omega,(by rw[←D,Q2f (by omega),if_pos hz]),(by rw[Z1g (Q2e hf)];exact hf),(by rw[Z1f (Q2e hf)];exact hk),(by show cnt T1+0=2;omega),rfl,by go_num,(hS.pick [0])⟩
    case measure=>first|(simp[intOf];done)|(simp[intOf];omega)
   go_upto_region 8 with fail;refine RL hS ?_;clear hS;refine MV ?_;refine MC (v:=.agg (J1 .u8 32 (J4 a))) (fun W hS=>(hk▸Z46 hf W (hS.tt (i:=0) rfl))) ?_;refine MW ?_ (v:=.int .i64 ((m:Nat):Int)) (hv:=by intro W;go_simp;(try omega));refine MC (v:=.int .i64 ((kb a m:Nat):Int)) (fun W hS=>J7b a m (by omega) W) ?_;refine MW ?_ (v:=.bool false) (hv:=by intro W;go_simp;(try omega));refine MZ fun W hS=> ?_;go_upto_region 10 with fail;refine RL hS ?_;clear hS;refine MW ?_ (v:=.int .i64 ((m:Nat):Int)) (hv:=by intro W;go_simp;(try omega));refine MV ?_;refine ME (fun W hS=>J4r hS (J8a m (by simp only[cnt];omega) W (J0f hG hS.ext) (show TA W .nil nlp from rfl) (hS.tt (i:=0) rfl)) rfl) ?_;intro R;refine MV ?_;refine MZ fun W hS=> ?_;go_upto_region 7 with fail;refine RL hS ?_;clear hS;refine MV ?_;refine MW ?_ (v:=.int .i64 ((m:Int)-1)) (hv:=by intro W;go_simp;(try simp only[IntKind.wrap_i64]);(try omega));refine MV ?_;refine MZ fun W hS=> ?_;go_wp2;go_roundw
   case rel=>exact⟨(.node m .nil T1),R,m,by omega,(by rw[←D,Q2f (by omega),if_neg hz]),hf,hk,(by show 0+cnt T1=2;omega),rfl,by go_num,(hS.pick [0])⟩
   case measure=>first|(simp[intOf];done)|(simp[intOf];omega)
  go_upto_region 6 with fail;refine RL hS ?_;clear hS;refine MV ?_;refine MV ?_;refine MW ?_ (v:=.bool false) (hv:=by intro W;go_simp;omega);refine MZ fun W hS=> ?_;go_wp2;exact bodyPost_ret (v:=u) (by simp only[results,Tryz.results171];go_simp) rfl ⟨_,rfl,hS.ext,(by have h_:=hS.tt (i:=0) rfl;rw[show J5m a x c y d=T1 from(by unfold J5m;rw[if_neg hb];rw[←D,Z47 (by omega)])];exact h_)⟩
end

section
set_option maxHeartbeats 3000000
attribute [local irreducible] wpList Y5 wpX
theorem Z48 (A B:Nat)(hA:A<2^256)(hB:B<2^256)(w:World):(Op.equalIn 10000 42 (.agg (J1 .u8 32 (J4 A))) (.agg (J1 .u8 32 (J4 B)))).run Tryz.prog w=.ok (decide (A=B)) w:=by
 have h:=J31 (P:=Tryz.prog) w 9998 42 5 32 .u8 (J1 .u8 32 (J4 A)) (J1 .u8 32 (J4 B)) (J4 A) (J4 B) Tryz.underlying42 Tryz.underlying5 (by kernel_rfl)
  (fun i hi=>V3 _ _ _ _ hi) (fun i hi=>V3 _ _ _ _ hi)
 rw[h]
 congr 1
 rw[Bool.eq_iff_iff,J6s,decide_eq_true_iff];exact⟨Z2v hA hB,fun h=>by subst h;intro _ _;rfl⟩
theorem V3k {q:Prop}{a x c y:Nat}{u1 u2:Value}(d:Nat)(hd_:d<4611686018427387904)(w:World)(hG:GT q w)(h1:TA w (.leaf a x) u1)(h2:TA w (.leaf c y) u2):
  Calls Tryz.prog 171 #[u1,u2,.int .i64 (d:Int)] w fun e w' =>J9e (J5m a x c y d) w w' e:=by
 obtain⟨b1,rfl,D,ha,hx⟩:=h1;obtain⟨b2,rfl,G,hc,hy⟩:=h2;exact V3j ha hx hc hy d hd_ w hG D G
attribute [local irreducible] hs4 sE sL sN

theorem Y6m {q:Prop}{k v:Nat}(hk:k<2^256)(hv:v<2^256)(d:Nat)(w:World)(hG:GT q w):
  Calls Tryz.prog 130 #[nlp,.agg (lf k v),.int .i64 (d:Int)] w fun e w' =>J9e (J2m k v .nil d) w w' e:=by
 have hS:=SH.nil [] w
 go_enter Tryz.func130,Tryz.ntmps130
 go_upto_region 0 with fail;refine RL hS ?_;clear hS;refine MN (z:=lf k v) (t:=44) ?_;intro G;refine MV ?_;refine MZ fun W hS=> ?_;go_upto_region 3 with fail;refine RL hS ?_;clear hS;refine ML 0 ?_ (hs:=by rw[J0c];kernel_rfl);refine ME (fun W hS=>J4r hS (Y28 hk hv W (J0f hG hS.ext)) rfl) ?_;intro D;refine MV ?_;refine MZ fun W hS=> ?_;go_wp2;exact bodyPost_ret (v:=D) (by simp only[results,Tryz.results130];go_simp) rfl ⟨_,rfl,hS.ext,(by exact hS.tt (i:=0) rfl)⟩
theorem V3l {q:Prop}{k v:Nat}(hk:k<2^256)(hv:v<2^256){a x b1:Nat}(ha:a<2^256)(hx:x<2^256)(hak:a=k)(d:Nat)(w:World)(hG:GT q w)(hB1:Blk w b1 (ndc a x nlp nlp false (sL a x) 1) 181):
  Calls Tryz.prog 130 #[ptr b1,.agg (lf k v),.int .i64 (d:Int)] w fun e w' =>J9e (J2m k v (.leaf a x) d) w w' e:=by
 have hS:=SH.nil [] w;have hA:TA w (.leaf a x) (ptr b1):=TA.leaf' hB1 ha hx
 go_enter Tryz.func130,Tryz.ntmps130
 go_upto_region 0 with fail;refine RL hS ?_;clear hS;refine MN (z:=lf k v) (t:=44) ?_;intro G;refine MV ?_;refine MZ fun W hS=> ?_;go_upto_region 2 with fail;refine RTh (.q 0 (.q 1 (.q 2 (.q 3 (.q 4 (.q 5 (.q 6 (.q 7 (.q 8 (.q 9 (.q 10 (.q 11 (.q 12 (.q 13 (.q 14 (.q 15 .z)))))))))))))))) hS ?_;clear hS;(iterate 3 refine TV ?_);refine TF (v:=.bool false) rfl (fun W hS=>Q5 rfl rfl (by rw[J3 (J2 hB1 hS.ext)];exact J6k) (by kernel_rfl)) ?_;refine Tt ?_;refine Tt ?_;(iterate 4 refine TV ?_);refine TF (v:=.agg (J1 .u8 32 (J4 a))) rfl (fun W hS=>J0d (vs:=(J1 .u8 32 (J4 a)).toList) rfl rfl (fun i v hv=>by rw[J3 (J2 hB1 hS.ext)];exact J77 i v (by simpa using hv)) (by kernel_rfl) (by first|kernel_rfl|(simp only[Array.length_toList];rw[J0];kernel_rfl))) ?_;refine TV ?_;refine Tl 0 Z4y ?_;refine TW ?_ (v:=.bool true) (hv:=fun _=>J7r ((fun w=>(Z48 a k ha hk w).trans (by rw[decide_eq_true hak])) _) (by kernel_rfl) rfl rfl rfl);refine Tt ?_;refine Tt ?_;refine TZ (fun _ h=>h) fun W hS=> ?_;go_upto_region 3 with fail;refine RL hS ?_;clear hS;refine ML 0 ?_ (hs:=by rw[J0c];kernel_rfl);refine ME (fun W hS=>J4r hS (Y28 hk hv W (J0f hG hS.ext)) rfl) ?_;intro D;refine MV ?_;refine MZ fun W hS=> ?_;go_wp2;exact bodyPost_ret (v:=D) (by simp only[results,Tryz.results130];go_simp) rfl ⟨_,rfl,hS.ext,(by rw[show J2m k v (.leaf a x) d=.leaf k v from if_pos hak];exact hS.tt (i:=0) rfl)⟩
theorem V3m {q:Prop}{k v:Nat}(hk:k<2^256)(hv:v<2^256){a x b1:Nat}(ha:a<2^256)(hx:x<2^256)(hak:¬a=k)(d:Nat)(hdl:d<4611686018427387904)(w:World)(hG:GT q w)(hB1:Blk w b1 (ndc a x nlp nlp false (sL a x) 1) 181):
  Calls Tryz.prog 130 #[ptr b1,.agg (lf k v),.int .i64 (d:Int)] w fun e w' =>J9e (J2m k v (.leaf a x) d) w w' e:=by
 have hS:=SH.nil [] w;have hA:TA w (.leaf a x) (ptr b1):=TA.leaf' hB1 ha hx
 go_enter Tryz.func130,Tryz.ntmps130
 go_upto_region 0 with fail;refine RL hS ?_;clear hS;refine MN (z:=lf k v) (t:=44) ?_;intro J;refine MV ?_;refine MZ fun W hS=> ?_;go_upto_region 2 with fail;refine RTh (.q 0 (.q 1 (.q 2 (.q 3 (.q 4 (.q 5 (.q 6 (.q 7 (.q 8 (.q 9 (.q 10 (.q 11 (.q 12 (.q 13 (.q 14 (.q 15 .z)))))))))))))))) hS ?_;clear hS;(iterate 3 refine TV ?_);refine TF (v:=.bool false) rfl (fun W hS=>Q5 rfl rfl (by rw[J3 (J2 hB1 hS.ext)];exact J6k) (by kernel_rfl)) ?_;refine Tt ?_;refine Tt ?_;(iterate 4 refine TV ?_);refine TF (v:=.agg (J1 .u8 32 (J4 a))) rfl (fun W hS=>J0d (vs:=(J1 .u8 32 (J4 a)).toList) rfl rfl (fun i v hv=>by rw[J3 (J2 hB1 hS.ext)];exact J77 i v (by simpa using hv)) (by kernel_rfl) (by first|kernel_rfl|(simp only[Array.length_toList];rw[J0];kernel_rfl))) ?_;refine TV ?_;refine Tl 0 Z4y ?_;refine TW ?_ (v:=.bool false) (hv:=fun _=>J7r ((fun w=>(Z48 a k ha hk w).trans (by rw[decide_eq_false hak])) _) (by kernel_rfl) rfl rfl rfl);refine Tf ?_;refine Tf ?_;refine TZ (fun _ h=>h) fun W hS=> ?_;go_upto_region 4 with fail;refine RL hS ?_;clear hS;(iterate 3 refine MV ?_);refine MF (v:=.bool false) (fun W hS=>Q5 rfl rfl (by rw[J3 (J2 hB1 hS.ext)];exact J6k) (by kernel_rfl)) ?_;refine Wt ?_;refine Wt ?_;refine MZ fun W hS=> ?_;go_upto_region 5 with fail;refine RL hS ?_;clear hS;refine MV ?_;refine ML 0 ?_ (hs:=by rw[J0c];kernel_rfl);refine ME (fun W hS=>J4r hS (Y28 hk hv W (J0f hG hS.ext)) rfl) ?_;intro G;refine MV ?_;refine ME (fun W hS=>J4r hS (V3k d hdl W (J0f hG hS.ext) (TA.ext hA hS.ext) (hS.tt (i:=0) rfl)) rfl) ?_;intro D;refine MV ?_;refine MZ fun W hS=> ?_;go_wp2;exact bodyPost_ret (v:=D) (by simp only[results,Tryz.results130];go_simp) rfl ⟨_,rfl,hS.ext,(by rw[show J2m k v (.leaf a x) d=J5m a x k v d from if_neg hak];exact hS.tt (i:=0) rfl)⟩
theorem V84 {q:Prop}{k v:Nat}(hk:k<2^256)(hv:v<2^256){e0 b:Nat}{l r:TR}{p0 p1:Option Addr}(d:Nat)(hdl:d<4611686018427387904)(hn:cnt l+cnt r<2305843009213693952)(hb:kb k d=0)(w:World)(hG:GT q w)(hB:Blk w b (ndc 0 0 (.pointer p0) (.pointer p1) true (rs (.node e0 l r)) (cnt l+cnt r)) 181)(hl:TA w l (.pointer p0))(hr:TA w r (.pointer p1))(ih:∀W,GT q W→TA W l (.pointer p0)→Calls Tryz.prog 130 #[.pointer p0,.agg (lf k v),.int .i64 ((d+1:Nat):Int)] W fun e w' =>J9e (J2m k v l (d+1)) W w' e):
  Calls Tryz.prog 130 #[ptr b,.agg (lf k v),.int .i64 (d:Int)] w fun e w' =>J9e (J2m k v (.node e0 l r) d) w w' e:=by
 have hS:=SH.nil [] w
 go_enter Tryz.func130,Tryz.ntmps130
 go_upto_region 0 with fail;refine RL hS ?_;clear hS;refine MN (z:=lf k v) (t:=44) ?_;intro N;refine MV ?_;refine MZ fun W hS=> ?_;go_upto_region 2 with fail;refine RTh (.q 0 (.q 1 (.q 2 (.q 3 (.q 4 (.q 5 (.q 6 (.q 7 (.q 8 (.q 9 (.q 10 (.q 11 (.q 12 (.q 13 (.q 14 (.q 15 .z)))))))))))))))) hS ?_;clear hS;(iterate 3 refine TV ?_);refine TF (v:=.bool true) rfl (fun W hS=>Q5 rfl rfl (by rw[J3 (J2 hB hS.ext)];exact J6k) (by kernel_rfl)) ?_;refine Tf ?_;refine Tf ?_;(iterate 8 refine TS ?_);refine Tf ?_;refine Tf ?_;refine TZ (fun _ h=>h) fun W hS=> ?_;go_upto_region 4 with fail;refine RL hS ?_;clear hS;(iterate 3 refine MV ?_);refine MF (v:=.bool true) (fun W hS=>Q5 rfl rfl (by rw[J3 (J2 hB hS.ext)];exact J6k) (by kernel_rfl)) ?_;refine Wf ?_;refine Wf ?_;refine MZ fun W hS=> ?_;go_upto_region 6 with fail;refine RL hS ?_;clear hS;(iterate 3 refine MV ?_);refine MF (v:=.agg #[(.pointer p0),(.pointer p1)]) (fun W hS=>J0d (vs:=(#[(.pointer p0),(.pointer p1)]).toList) rfl rfl (fun i v hv=>by rw[J3 (J2 hB hS.ext)];exact Q9e i v (by simpa using hv)) (by kernel_rfl) (by kernel_rfl)) ?_;refine MN (z:= #[.pointer none,.pointer none]) (t:=179) ?_;intro D;refine MR 0 ?_;refine MZ fun W hS=> ?_;go_upto_region 7 with fail;refine RL hS ?_;clear hS;refine MV ?_;refine Ml 1 Z4y ?_;refine MV ?_;refine MC (v:=.int .i64 0) (fun W hS=>(hb▸J7b k d hdl W)) ?_;refine W0 ?_;refine MZ fun W hS=> ?_;go_upto_region 8 with fail;refine RTp [1] (.q 0 (.q 1 (.q 2 (.q 4 (.q 5 (.q 6 (.e 3 (.e 7 (.q 8 (.e 9 .z)))))))))) hS ?_;clear hS;refine T0 ?_;refine T0 ?_;refine TW ?_ (v:=.pointer (some ⟨D,0,none⟩)) (hv:=fun _=>J0a (m:=2) (k:=1) (j:=0) (off:=0) (by decide) Tryz.underlying179 (by kernel_rfl) rfl rfl rfl);refine TL 0 ?_ (hs:=by rw[J0c];kernel_rfl);refine TV ?_;refine TW ?_ (v:=.int .i64 ((d+1:Nat):Int)) (hv:=by intro W;go_simp;(try simp only[IntKind.wrap_i64]);omega);refine TE (fun _ h=>h.pick [1]) ?_;refine MG 0 ?_ (v:=.pointer p0);refine V8 [1] [0] ?_;refine TE (fun _ h=>h.pick [1]) ?_;refine ME (fun W hS=>J4r hS (ih W (J0f hG hS.ext) (TA.ext hl hS.ext)) rfl) ?_;intro G;refine V8 [0,2] [1] ?_;refine TW ?_ (v:=.pointer (some ⟨D,0,none⟩)) (hv:=fun _=>J0a (m:=2) (k:=1) (j:=0) (off:=0) (by decide) Tryz.underlying179 (by kernel_rfl) rfl rfl rfl);refine TE (fun _ h=>h.pick [0,2]) ?_;refine MP 1 (v:=G) ?_ (hv:=fun W hS=>TA.one (hS.tt (i:=0) rfl));refine V8 [0,2] [0,1] ?_;refine TZ (fun _ h=>h.pick [0,2]) fun W hS=> ?_;go_upto_region 9 with fail;refine RL hS ?_;clear hS;refine MV ?_;refine MW ?_ (v:=.pointer (some ⟨D,0,none⟩)) (hv:=fun _=>J0a (m:=2) (k:=1) (j:=0) (off:=0) (by decide) Tryz.underlying179 (by kernel_rfl) rfl rfl rfl);refine MG 1 ?_ (v:=G);refine MW ?_ (v:=.pointer (some ⟨D,1,none⟩)) (hv:=fun _=>J0a (m:=2) (k:=1) (j:=1) (off:=0) (by decide) Tryz.underlying179 (by kernel_rfl) rfl rfl rfl);refine MG 1 ?_ (v:=.pointer p1);refine ME (fun W hS=>J4r hS (J8a d (by have M:=J5c k v l (d+1);have R:=J5c k v r (d+1);omega) W (J0f hG hS.ext) (hS.tt (i:=0) rfl) (TA.ext hr hS.ext)) rfl) ?_;intro J;refine MV ?_;refine MZ fun W hS=> ?_;go_wp2;exact bodyPost_ret (v:=J) (by simp only[results,Tryz.results130];go_simp) rfl ⟨_,rfl,hS.ext,(by rw[show J2m k v (.node e0 l r) d=.node d (J2m k v l (d+1)) r from if_pos hb];exact hS.tt (i:=0) rfl)⟩
theorem V85 {q:Prop}{k v:Nat}(hk:k<2^256)(hv:v<2^256){e0 b:Nat}{l r:TR}{p0 p1:Option Addr}(d:Nat)(hdl:d<4611686018427387904)(hn:cnt l+cnt r<2305843009213693952)(hb:kb k d=1)(w:World)(hG:GT q w)(hB:Blk w b (ndc 0 0 (.pointer p0) (.pointer p1) true (rs (.node e0 l r)) (cnt l+cnt r)) 181)(hl:TA w l (.pointer p0))(hr:TA w r (.pointer p1))(ih:∀W,GT q W→TA W r (.pointer p1)→Calls Tryz.prog 130 #[.pointer p1,.agg (lf k v),.int .i64 ((d+1:Nat):Int)] W fun e w' =>J9e (J2m k v r (d+1)) W w' e):
  Calls Tryz.prog 130 #[ptr b,.agg (lf k v),.int .i64 (d:Int)] w fun e w' =>J9e (J2m k v (.node e0 l r) d) w w' e:=by
 have hS:=SH.nil [] w
 go_enter Tryz.func130,Tryz.ntmps130
 go_upto_region 0 with fail;refine RL hS ?_;clear hS;refine MN (z:=lf k v) (t:=44) ?_;intro N;refine MV ?_;refine MZ fun W hS=> ?_;go_upto_region 2 with fail;refine RTh (.q 0 (.q 1 (.q 2 (.q 3 (.q 4 (.q 5 (.q 6 (.q 7 (.q 8 (.q 9 (.q 10 (.q 11 (.q 12 (.q 13 (.q 14 (.q 15 .z)))))))))))))))) hS ?_;clear hS;(iterate 3 refine TV ?_);refine TF (v:=.bool true) rfl (fun W hS=>Q5 rfl rfl (by rw[J3 (J2 hB hS.ext)];exact J6k) (by kernel_rfl)) ?_;refine Tf ?_;refine Tf ?_;(iterate 8 refine TS ?_);refine Tf ?_;refine Tf ?_;refine TZ (fun _ h=>h) fun W hS=> ?_;go_upto_region 4 with fail;refine RL hS ?_;clear hS;(iterate 3 refine MV ?_);refine MF (v:=.bool true) (fun W hS=>Q5 rfl rfl (by rw[J3 (J2 hB hS.ext)];exact J6k) (by kernel_rfl)) ?_;refine Wf ?_;refine Wf ?_;refine MZ fun W hS=> ?_;go_upto_region 6 with fail;refine RL hS ?_;clear hS;(iterate 3 refine MV ?_);refine MF (v:=.agg #[(.pointer p0),(.pointer p1)]) (fun W hS=>J0d (vs:=(#[(.pointer p0),(.pointer p1)]).toList) rfl rfl (fun i v hv=>by rw[J3 (J2 hB hS.ext)];exact Q9e i v (by simpa using hv)) (by kernel_rfl) (by kernel_rfl)) ?_;refine MN (z:= #[.pointer none,.pointer none]) (t:=179) ?_;intro D;refine MR 0 ?_;refine MZ fun W hS=> ?_;go_upto_region 7 with fail;refine RL hS ?_;clear hS;refine MV ?_;refine Ml 1 Z4y ?_;refine MV ?_;refine MC (v:=.int .i64 1) (fun W hS=>(hb▸J7b k d hdl W)) ?_;refine MW ?_ (v:=.int .i64 1);refine MZ fun W hS=> ?_;go_upto_region 8 with fail;refine RTp [1] (.q 0 (.q 1 (.q 2 (.q 4 (.q 5 (.q 6 (.e 3 (.e 7 (.q 8 (.e 9 .z)))))))))) hS ?_;clear hS;refine TW ?_ (v:=.int .i64 1);refine TW ?_ (v:=.int .i64 1);refine TW ?_ (v:=.pointer (some ⟨D,1,none⟩)) (hv:=fun _=>J0a (m:=2) (k:=1) (j:=1) (off:=0) (by decide) Tryz.underlying179 (by kernel_rfl) rfl rfl rfl);refine TL 0 ?_ (hs:=by rw[J0c];kernel_rfl);refine TV ?_;refine TW ?_ (v:=.int .i64 ((d+1:Nat):Int)) (hv:=by intro W;go_simp;(try simp only[IntKind.wrap_i64]);omega);refine TE (fun _ h=>h.pick [1]) ?_;refine MG 0 ?_ (v:=.pointer p1);refine V8 [1] [0] ?_;refine TE (fun _ h=>h.pick [1]) ?_;refine ME (fun W hS=>J4r hS (ih W (J0f hG hS.ext) (TA.ext hr hS.ext)) rfl) ?_;intro G;refine V8 [0,2] [1] ?_;refine TW ?_ (v:=.pointer (some ⟨D,1,none⟩)) (hv:=fun _=>J0a (m:=2) (k:=1) (j:=1) (off:=0) (by decide) Tryz.underlying179 (by kernel_rfl) rfl rfl rfl);refine TE (fun _ h=>h.pick [0,2]) ?_;refine MP 1 (v:=G) ?_ (hv:=fun W hS=>TA.one (hS.tt (i:=0) rfl));refine V8 [0,2] [0,1] ?_;refine TZ (fun _ h=>h.pick [0,2]) fun W hS=> ?_;go_upto_region 9 with fail;refine RL hS ?_;clear hS;refine MV ?_;refine MW ?_ (v:=.pointer (some ⟨D,0,none⟩)) (hv:=fun _=>J0a (m:=2) (k:=1) (j:=0) (off:=0) (by decide) Tryz.underlying179 (by kernel_rfl) rfl rfl rfl);refine MG 1 ?_ (v:=.pointer p0);refine MW ?_ (v:=.pointer (some ⟨D,1,none⟩)) (hv:=fun _=>J0a (m:=2) (k:=1) (j:=1) (off:=0) (by decide) Tryz.underlying179 (by kernel_rfl) rfl rfl rfl);refine MG 1 ?_ (v:=G);refine ME (fun W hS=>J4r hS (J8a d (by have M:=J5c k v l (d+1);have R:=J5c k v r (d+1);omega) W (J0f hG hS.ext) (TA.ext hl hS.ext) (hS.tt (i:=0) rfl)) rfl) ?_;intro J;refine MV ?_;refine MZ fun W hS=> ?_;go_wp2;exact bodyPost_ret (v:=J) (by simp only[results,Tryz.results130];go_simp) rfl ⟨_,rfl,hS.ext,(by rw[show J2m k v (.node e0 l r) d=.node d l (J2m k v r (d+1)) from if_neg (by rw[hb];decide)];exact hS.tt (i:=0) rfl)⟩
theorem Y2c {q:Prop}{k v:Nat}(hk:k<2^256)(hv:v<2^256):∀{T:TR} {u:Value} (d:Nat),d+tsz T<4611686018427387904→cnt T<2305843009213693952→∀(w:World),GT q w→TA w T u→Calls Tryz.prog 130 #[u,.agg (lf k v),.int .i64 (d:Int)] w fun e w' =>J9e (J2m k v T d) w w' e
 | .nil,_,d,_,_,w,hG,h=>by rw[show _=nlp from h];exact Y6m hk hv d w hG
 | .leaf a x,_,d,hd_,_,w,hG,⟨b1,h1,hB1,ha,hx⟩=>by
  subst h1
  by_cases hak:a=k
  ·
   exact V3l hk hv ha hx hak d w hG hB1
  ·
   exact V3m hk hv ha hx hak d (by omega) w hG hB1
 | .node e l r,_,d,hd_,hn,w,hG,⟨b,s0,s1,h1,hB,hl,hr⟩=>by
  subst h1;obtain⟨p0,rfl⟩:=hl.pt;obtain⟨p1,rfl⟩:=hr.pt;have hd2:d+(1+tsz l+tsz r)<4611686018427387904:=hd_;have hn2:cnt l+cnt r<2305843009213693952:=hn;have hb2:=Y8i k d;rcases Nat.lt_or_ge 0 (kb k d) with hb|hb
  ·
   exact V85 hk hv d (by omega) hn2 (by omega) w hG hB hl hr fun W hG' h' =>Y2c hk hv (T:=r) (d+1) (by omega) (by omega) W hG' h'
  ·
   exact V84 hk hv d (by omega) hn2 (by omega) w hG hB hl hr fun W hG' h' =>Y2c hk hv (T:=l) (d+1) (by omega) (by omega) W hG' h'
end

section
set_option maxHeartbeats 3000000
attribute [local irreducible] wpList Y5 wpX
abbrev lfl (x:Nat×Nat):List Value:=(lf x.1 x.2).toList
def ofT (ls:List (Nat×Nat)):TR:=ls.foldl (fun T x=>J2m x.1 x.2 T 0) .nil
theorem Q7v (ls:List (Nat×Nat))(x:Nat×Nat):ofT (ls++[x])=J2m x.1 x.2 (ofT ls) 0:=by unfold ofT;rw[List.foldl_append];rfl
theorem Y2d {ls:List (Nat×Nat)}{i:Nat}{x:Nat×Nat}(h:ls[i]?=some x):ofT (ls.take (i+1))=J2m x.1 x.2 (ofT (ls.take i)) 0:=by
 rw[List.take_add_one,h];exact Q7v _ _
theorem Q17 (K d:Nat):∀(m:Nat) (T:TR),tsz (J52 K d m T)≤m+tsz T
 |0,T=>by show tsz T≤0+tsz T;omega
 |m+1,T=>by
  unfold J52
  split
  ·
   refine Nat.le_trans (Q17 K d m _) ?_
   split
   ·
    show m+(1+tsz T+0)≤_;omega
   ·
    show m+(1+0+tsz T)≤_;omega
  ·
   omega
theorem Z6b (a x b y d:Nat):tsz (J5m a x b y d)≤259:=by
 have h:=Z45 (J4 a) (J4 b);unfold J5m
 split
 ·
  refine Nat.le_trans (Q17 _ _ _ _) ?_;show _+(1+1+1)≤259;omega
 refine Nat.le_trans (Q17 _ _ _ _) ?_;show _+(1+1+1)≤259;omega
theorem Q46 (k v:Nat):∀(T:TR) (d:Nat),tsz (J2m k v T d)≤tsz T+260
 | .nil,_=>by show 1≤0+260;omega
 | .leaf a x,d=>by
  show tsz (if a=k then TR.leaf k v else J5m a x k v d)≤1+260
  split
  ·
   show 1≤261;omega
  ·
   have:=Z6b a x k v d;omega
 | .node e l r,d=>by
  have h1:=Q46 k v l (d+1);have h2:=Q46 k v r (d+1);show tsz (if kb k d=0 then TR.node d (J2m k v l (d+1)) r else TR.node d l (J2m k v r (d+1)))≤1+tsz l+tsz r+260
  split
  ·
   show 1+tsz (J2m k v l (d+1))+tsz r≤_;omega
  ·
   show 1+tsz l+tsz (J2m k v r (d+1))≤_;omega
theorem Q79:∀(n:Nat) (ls:List (Nat×Nat)),tsz (ofT (ls.take n))≤260*n∧cnt (ofT (ls.take n))≤n
 |0,ls=>by rw[List.take_zero];exact⟨Nat.le_refl _,Nat.le_refl _⟩
 |n+1,ls=>by
  have ih:=Q79 n ls;cases h:ls[n]? with
  |none=>rw[List.take_add_one,h];simp only[Option.toList_none,List.append_nil];omega
  |some x=>
   rw[Y2d h];have h1:=Q46 x.1 x.2 (ofT (ls.take n)) 0;have h2:=J5c x.1 x.2 (ofT (ls.take n)) 0;omega
attribute [local irreducible] hs4 sE sL sN

theorem V4v {q:Prop}{k v:Nat}(hk:k<2^256)(hv:v<2^256){T:TR}{u:Value}(hz:tsz T<4611686018427387904)(hcn:cnt T<2305843009213693952)(w:World)(hG:GT q w)(h:TA w T u):
  Calls Tryz.prog 87 #[u,.agg (lf k v)] w fun e w' =>J9e (J2m k v T 0) w w' e:=by
 have hS:=SH.nil [] w
 go_enter Tryz.func87,Tryz.ntmps87
 go_upto_region 0 with fail;refine RL hS ?_;clear hS;refine MN (z:=lf k v) (t:=44) ?_;intro G;refine MV ?_;refine MZ fun W hS=> ?_;go_upto_region 1 with fail;refine RL hS ?_;clear hS;refine MV ?_;refine ML 0 ?_ (hs:=by rw[J0c];kernel_rfl);refine ME (fun W hS=>J4r hS (Y2c hk hv 0 (by omega) hcn W (J0f hG hS.ext) (TA.ext h hS.ext)) rfl) ?_;intro D;refine MV ?_;refine MZ fun W hS=> ?_;go_wp2;exact bodyPost_ret (v:=D) (by simp only[results,Tryz.results87];go_simp) rfl ⟨_,rfl,hS.ext,(by exact hS.tt (i:=0) rfl)⟩
end

section
set_option maxHeartbeats 3000000
attribute [local irreducible] wpList Y5 wpX
def eI (n:Int):List UInt8:=be8 (n % 18446744073709551616).toNat
theorem Y9 (n:Int):(eI n).length=8:=rfl
def by8 (X j:Nat):UInt8:=u8 (X / 2^(8*(7-j)))
theorem Q7g (X:Nat):∀{j:Nat},j<8→(be8 X).take (j+1)=(be8 X).take j++[by8 X j]
 |0,_=>rfl
 |1,_=>rfl
 |2,_=>rfl
 |3,_=>rfl
 |4,_=>rfl
 |5,_=>rfl
 |6,_=>rfl
 |7,_=>by unfold by8;rw[show 2^(8*(7-7))=1 from rfl,Nat.div_one];rfl
 |j+8,h=>absurd h (by omega)
theorem Q7i {a:Act}{o:Oper}{x y:Operand}{t t' :TypeId}{W:World}{p n:Nat}{k:IntKind}(hn:n≤64)(ho:o.op=.binOp .shr t x y t')(hx:a.eval x=.int .u64 (p:Int))(hy:a.eval y=.int k (n:Int)):(execOp a.eval o).run Tryz.prog W=.ok (.value (.int .u64 ((p / 2^n:Nat):Int))) W:=by
 have h2:min ((n:Int)).toNat IntKind.u64.bits=n:=by rw[Int.toNat_natCast];exact Nat.min_eq_left hn
 have e:(p:Int) / 2^n=((p / 2^n:Nat):Int):=by rw[Int.natCast_ediv,Int.natCast_pow];rfl
 have:(execOp a.eval o).run Tryz.prog W=.ok (.value (.int .u64 ((p:Int) / 2^n))) W:=by
  simp only[execOp,ho,hx,hy,eqGuard,binOp,Sem.run_bind];simp[Op.shift,h2,go_sem,Sem.run_bind]
 rw[this,e]
theorem Z1l {a:Act}{o:Oper}{x:Operand}{s t:TypeId}{W:World}{p:Nat}(ho:o.op=.convert s t x)(hx:a.eval x=.int .u64 (p:Int))(hs:Tryz.prog.underlying s=some (.int .u64))(ht:Tryz.prog.underlying t=some (.int .u8)):(execOp a.eval o).run Tryz.prog W=.ok (.value (.int .u8 ((u8 p).toNat:Int))) W:=by
 rw[J6n,←IntKind.wrap_u8];simp only[execOp,ho,hx,Sem.run_bind];simp[hs,ht,go_sem,Sem.run_bind]
theorem lA {α:Type}{l m:List α}:(l++m).length=l.length+m.length:=List.length_append
theorem lM {α β:Type}{f:α→β}{l:List α}:(l.map f).length=l.length:=List.length_map _
theorem lT {α:Type}{i:Nat}{l:List α}:(l.take i).length=min i l.length:=List.length_take
theorem lD {α:Type}{i:Nat}{l:List α}:(l.drop i).length=l.length-i:=List.length_drop
theorem lC {α:Type}{a:α}{l:List α}:(a::l).length=l.length+1:=rfl
theorem lN {α:Type}:([]:List α).length=0:=rfl
def kTx (l:List UInt8):List UInt8:=[5]++l
def sTx (e:Int)(r:Nat):List UInt8:=[8]++eI e++lb 32 r
theorem Z0 (l:List UInt8):(kTx l).length=1+l.length:=by unfold kTx;simp;omega
theorem Z5 (e:Int)(r:Nat):(sTx e r).length=41:=by unfold sTx;simp[Y9,J8]
attribute [local irreducible] eI be8 hs4 lb
end

section
theorem Q6d:∀l:List UInt8,(l.map fun c=>[Value.int .u8 (c.toNat:Int)]).flatten=bs8 l
  |[]=>rfl
  |c::l=>by rw[List.map_cons,List.flatten_cons,Q6d l];rfl
theorem V0n {W:World}{v:Value}{l:List UInt8}(h:Own W v l):Row 5 1 W v (l.map fun c=>[Value.int .u8 (c.toNat:Int)]):=
  ⟨by rw[List.length_map,Q6d];exact h,fun e he=>by obtain⟨_,_,rfl⟩:=List.mem_map.1 he;rfl⟩
theorem V0o {W:World}{v:Value}{l:List UInt8}(h:Row 5 1 W v (l.map fun c=>[Value.int .u8 (c.toNat:Int)])):Own W v l:=by
  have h1:=h.1;rw[List.length_map,Q6d] at h1;exact h1
theorem Z99 {W:World}{v:Value}{l:List UInt8}(h:Own W v l)(hp:0<l.length):∃g c cur,v=.slice (some ⟨g,0,none⟩) l.length c∧Blk W g cur 5∧cur.toList.take l.length=bs8 l∧l.length≤cur.size:=by
  rcases h.2 with⟨_,h0⟩|⟨g,c,cur,hv,_,hh,hc,_,hs,ht⟩
  · omega
  exact⟨g,c,cur,hv,hh,by rwa [Nat.mul_one] at ht,by omega⟩
theorem Z6k {W:World}{v:Value}{l:List UInt8}{g n c j:Nat}{b:UInt8}(h:Own W v l)(hv:v=.slice (some ⟨g,0,none⟩) n c)(hj:l[j]?=some b):W.cell? ⟨g,0+j,none⟩=some (.int .u8 (b.toNat:Int)):=by
  have G:=(List.getElem?_eq_some_iff.1 hj).1;obtain⟨g',c',D,e,hB,ht,hs⟩:=Z99 h (by omega);rw[hv] at e;injection e with e1 _ _
  injection e1 with e1
  injection e1 with e1
  subst e1;rw[J3 hB,Nat.zero_add,←Array.getElem?_toList,←List.getElem?_take_of_lt (l:=D.toList) G,ht];unfold bs8;rw[List.getElem?_map,hj];rfl
section
variable {ops : Array Oper} {Q : Exit → Act → World → Prop} {w : World} {r : List Oper} {o : Oper} {a a' : Act} {F : List Nat} {H H' : List As} {k : Wk}
theorem MIo (i j:Nat){x y:Operand}{v:Value}{l:List UInt8}{kk:IntKind}{a' :Nat→Act}(hj:j<l.length)(h:∀g c,RowKit.Hid (v=.slice (some ⟨g,0,none⟩) l.length c)→wpM Tryz.prog ops k F w H r (a' g))(hi:H[i]?=some (.o v l):=by exact rfl)(hw:Region.wanted o (yielded ops a.tmps)=true:=by exact rfl)
    (ho:o.op=.indexAddr 22 x y:=by exact rfl) (hx:a.eval x=v:=by exact rfl) (hy:a.eval y=.int kk (j:Int):=by exact rfl)
    (hp:∀g,a.put o.dst (.pointer (some ⟨g,0+j,none⟩))=a' g:=by intro b;first|exact pl (by dsimp only[mB,mC];first|done|exact rfl)|exact pn|exact rfl):wpM Tryz.prog ops k F w H (o::r) a:=by
  intro W hS;obtain⟨g,G,cs,hv,_⟩:=Z99 (hS.own hi) (by omega);have D:∀W,(execOp a.eval o).run Tryz.prog W=.ok (.value (.pointer (some ⟨g,0+j,none⟩))) W:=fun W=>by rw[Q64 hj ho (hx.trans hv) hy,Addr.add_mid]
  cases k with
  |L Q=>exact J22 hw (D W) (by rw[hp];exact h g G (Lib.hid hv) W hS)
  |X E=>exact J3i hw (fun W' _=>D W') (by rw[hp];exact h g G (Lib.hid hv) W hS)
theorem MPo (i:Nat){ty:TypeId}{x y:Operand}{g j n c:Nat}{b:UInt8}{v:Value}{l:List UInt8}(hj:j<l.length)(hv:v=.slice (some ⟨g,0,none⟩) n c)(h:wpM Tryz.prog ops (.L Q) F w H' r a')(hi:H[i]?=some (.o v l):=by exact rfl)(hw:Region.wanted o (yielded ops a.tmps)=true:=by exact rfl)
    (ho:o.op=.store ty x y:=by exact rfl) (hx:a.eval x=.pointer (some ⟨g,0+j,none⟩):=by exact rfl) (hy:a.eval y=.int .u8 (b.toNat:Int):=by exact rfl) (hz:(Tryz.prog.info? ty).map (·.size)=some 1:=by kernel_rfl)
    (hH:H.set i (.o v (l.set j b))=H' :=by dsimp only[sB,sC];first|done|exact rfl) (hp:a.put o.dst undef=a' :=by first|exact pl (by dsimp only[mB,mC];first|done|exact rfl)|exact pn|exact rfl):wpM Tryz.prog ops (.L Q) F w H (o::r) a:=by
  subst hp hH;intro W hS;refine Z94 (j:=j) (q:=0) (e:=[.int .u8 ((l[j]).toNat:Int)]) ⟨rfl,rfl⟩ (V0n (hS.own hi)) hv (by rw[List.getElem?_map,List.getElem?_eq_getElem hj];rfl) (by decide) hw ho (hx.trans (by rw[Nat.zero_add,Nat.mul_one,Nat.add_zero])) hy hz fun W' h1 h2=>h W' (hS.seto hi h2 (V0o ?_) (fun k hk _=>by rw[hk];simp));rw[List.map_set];exact h1
theorem MCo (i:Nat){x y:Operand}{u v:Value}{l m:List UInt8}{a' :Act}(hs:∀W,SH F w W H→Sl W u m)(hm:m.length≤l.length)(hp0:0<m.length)(h:wpM Tryz.prog ops (.L Q) F w H' r a')(hi:H[i]?=some (.o v l):=by exact rfl)(hw:Region.wanted o (yielded ops a.tmps)=true:=by exact rfl)
    (ho:o.op=.call {callee:=.builtin .copy,args:= #[x,y],argTypes:= #[22,22]}:=by exact rfl) (hx:a.eval x=v:=by exact rfl) (hy:a.eval y=u:=by exact rfl)
    (hH:H.set i (.o v (m++l.drop m.length))=H' :=by dsimp only[sB,sC];first|done|exact rfl) (hp:a.put o.dst (goInt m.length)=a' :=by first|exact pl (by dsimp only[mB,mC];first|done|exact rfl)|exact pn|exact rfl):wpM Tryz.prog ops (.L Q) F w H (o::r) a:=by
  subst hp hH;intro W hS;obtain⟨A,cc,rfl,h1,h2,h0,h3⟩:=hs W hS;obtain⟨ad,rfl,_⟩:=h3 0 m[0] (List.getElem?_eq_getElem hp0);have hO:=hS.own hi;rcases hO.2 with⟨_,e0⟩|⟨g,c,D,hv,hb,hB,hc,N,M,ht⟩
  · omega
  rw[Nat.mul_one] at ht M;have S:l.length≤D.size:=by omega
  have J:=run_copy_row (P:=Tryz.prog) W 22 22 o.type 5 g 0 l.length c ad m.length cc D 5 (bs8 m) Tryz.underlying22 J8j hB (by rw[U0];exact(Nat.min_eq_left hm).symm) (fun j u hj=>by
    simp only[bs8,List.getElem?_map,Option.map_eq_some_iff] at hj;obtain⟨z,hz,rfl⟩:=hj;obtain⟨R,e,hc⟩:=h3 j z hz;obtain rfl:=Option.some.inj e
    exact hc) (by rw[U0];omega) (Q62 m)
  have e:(D.toList.take 0++bs8 m++D.toList.drop (0+(bs8 m).length))=bs8 m++D.toList.drop m.length:=by
    rw[List.take_zero,List.nil_append,Nat.zero_add,U0]
  rw[e] at J;have h4:Blk (W.setRow g (bs8 m++D.toList.drop m.length).toArray) g (bs8 m++D.toList.drop m.length).toArray 5:=V6 hB _;have G:(m++l.drop m.length).length=l.length:=by rw[List.length_append,List.length_drop];omega
  refine J5i hw (v:=goInt m.length) (W:=W.setRow g (bs8 m++D.toList.drop m.length).toArray) ?_ (h _ (hS.seto hi (by rw[hv];exact⟨rfl,rfl,rfl,by simp,fun k _ hk=>setRow_other W g k _ (fun e=>hk (by subst e;show k∈[k];simp))⟩) ⟨by rw[U0,Nat.mul_one],.inr ⟨g,c,_,by rw[G];exact hv,hb,h4,by rw[G];exact hc,N,?_,?_⟩⟩ (fun k hk _=>by rw[hk];simp)))
  · unfold execOp
    simp only[ho,resolve,invoke,builtin,Sem.run_bind,Sem.run_pure,Result.andThen_ok,List.map_toArray,List.map_cons,List.map_nil,hx,hv,hy,J,U0]
  · have e3:(bs8 m++D.toList.drop m.length).toArray.size=D.size:=by
      rw[show(bs8 m++D.toList.drop m.length).toArray.size=(bs8 m++D.toList.drop m.length).length from rfl,List.length_append,List.length_drop,U0,←Array.length_toList (xs:=D)];have:D.toList.length=D.size:=Array.length_toList;omega
    rw[Nat.mul_one,e3];exact M
  rw[Nat.mul_one,G];refine(show((bs8 m++D.toList.drop m.length).toArray.toList).take l.length=bs8 (m++l.drop m.length) from ?_)
  have e4:(bs8 m++D.toList.drop m.length).take l.length=bs8 m++(D.toList.drop m.length).take (l.length-m.length):=by
    rw[List.take_append,U0,List.take_of_length_le (by rw[U0];exact hm)]
  have e5:bs8 (m++l.drop m.length)=bs8 m++(bs8 l).drop m.length:=by unfold bs8;rw[List.map_append,List.map_drop]
  refine e4.trans (e5.trans ?_).symm;rw[←ht,List.drop_take]
end
end
end Go.Proofs.YteehbddkcnkhfaaGreatDoor

/- Contracts and plain laws for directPuts_holds. Conditions: the tables hold their numbers. -/
import Derived.Test.YteehbddkcnkhfaaGreatDoorJ18
open Go.RowKit
set_option maxRecDepth 100000
set_option linter.unusedSimpArgs false
set_option linter.unusedVariables false
namespace Go.Proofs.YteehbddkcnkhfaaGreatDoor
section
set_option maxHeartbeats 1500000
attribute [local irreducible] wpList Y8 wpX
def tsz:TR→Nat
 | .nil=>0
 | .leaf _ _=>1
 | .node _ l r=>1+tsz l+tsz r
def hd (w:World):Nat→Value→Nat
 |n+1,.pointer (some a)=>match w.cell? ⟨a.block,66,none⟩ with
  |some (.bool true)=>1+hd w n ((w.cell? ⟨a.block,64,none⟩).getD undef)+hd w n ((w.cell? ⟨a.block,65,none⟩).getD undef)
  |some (.bool false)=>1
  |_=>0
 |_,_=>0
theorem V6i (w:World)(n:Nat):hd w n nlp=0:=by cases n<;>rfl
theorem Q0a {w:World}:∀{T:TR} {u:Value} {n:Nat},TA w T u→tsz T≤n→hd w n u=tsz T
 | .nil,_,n,h,_=>by rw[show _=nlp from h];exact V6i w n
 | .leaf k v,_,0,_,hn=>absurd hn (by show ¬1≤0;omega)
 | .leaf k v,_,n+1,⟨b,h1,h2,_⟩,_=>by
  subst h1;have e:w.cell? ⟨b,66,none⟩=some (.bool false):=by rw[J3 h2];exact J7i
  show(match w.cell? ⟨b,66,none⟩ with
   |some (.bool true)=>_
   |some (.bool false)=>1
   |_=>0)=1
  rw[e]
 | .node d l r,_,0,_,hn=>absurd hn (by show ¬1+tsz l+tsz r≤0;omega)
 | .node d l r,_,n+1,⟨b,s0,s1,h1,h2,h3,h4⟩,hn=>by
  subst h1;have e:w.cell? ⟨b,66,none⟩=some (.bool true):=by rw[J3 h2];exact J7i
  have e0:w.cell? ⟨b,64,none⟩=some s0:=by rw[J3 h2];exact nd_s0
  have e1:w.cell? ⟨b,65,none⟩=some s1:=by rw[J3 h2];exact nd_s1
  have hn' :1+tsz l+tsz r≤n+1:=hn
  show(match w.cell? ⟨b,66,none⟩ with
   |some (.bool true)=>1+hd w n ((w.cell? ⟨b,64,none⟩).getD undef)+hd w n ((w.cell? ⟨b,65,none⟩).getD undef)
   |some (.bool false)=>1
   |_=>0)=1+tsz l+tsz r
  rw[e,e0,e1];show 1+hd w n s0+hd w n s1=_;rw[Q0a h3 (by omega),Q0a h4 (by omega)]
def Q8u:TR→Nat
 | .nil=>0
 | .leaf k _=>k
 | .node _ .nil r=>Q8u r
 | .node _ l _=>Q8u l
def full:TR→Prop
 | .nil=>False
 | .leaf _ _=>True
 | .node _ .nil r=>full r
 | .node _ l _=>full l
theorem Z3d {d:Nat}{l r:TR}(h:l≠ .nil):Q8u (.node d l r)=Q8u l:=by cases l<;>first|exact absurd rfl h|rfl
theorem Z3e {d:Nat}{l r:TR}(h:l≠ .nil):full (.node d l r)=full l:=by cases l<;>first|exact absurd rfl h|rfl
theorem Q3x {T:TR}(h:full T):T≠ .nil:=fun e=>by subst e;exact h
theorem TA.cases {w:World}{T:TR}{u:Value}(h:TA w T u)(hf:full T):(∃b k v,T=.leaf k v∧u=ptr b∧Blk w b (ndc k v nlp nlp false (sL k v) 1) 181)∨
  ∃b d l r s0 s1,T=.node d l r∧u=ptr b∧Blk w b (ndc 0 0 s0 s1 true (rs (.node d l r)) (cnt l+cnt r)) 181∧TA w l s0∧TA w r s1:=by
 cases T with
 |nil=>exact hf.elim
 |leaf k v=>obtain⟨b,h1,h2,_⟩:=h;exact .inl ⟨b,k,v,rfl,h1,h2⟩
 |node d l r=>obtain⟨b,s0,s1,h1,h2,h3,h4⟩:=h;exact .inr ⟨b,d,l,r,s0,s1,rfl,h1,h2,h3,h4⟩
theorem TA.side {w:World}{T:TR}{u:Value}(h:TA w T u):(T=.nil∧u=nlp)∨∃b,T≠ .nil∧u=ptr b:=by
 cases T with
 |nil=>exact .inl ⟨rfl,h⟩
 |leaf k v=>obtain⟨b,h1,_⟩:=h;exact .inr ⟨b,fun e=>(by cases e),h1⟩
 |node d l r=>obtain⟨b,s0,s1,h1,_⟩:=h;exact .inr ⟨b,fun e=>(by cases e),h1⟩
attribute [local irreducible] hs4 sE sL sN

theorem Z6c {T:TR}{u:Value}(hf0:full T)(w:World)(h:TA w T u):
  Calls Tryz.prog 197 #[u] w fun e w' =>K7 (.agg (J0 .u8 32 (J7 (Q8u T)))) w w' e:=by
 have hS:=SH.nil [] w
 go_enter Tryz.func197,Tryz.ntmps197
 go_upto_region 0 with fail;refine RL hS ?_;clear hS;refine MN (z:=J0 .u8 32 (J7 0)) (t:=42) ?_;intro V5;refine MZ fun W hS=> ?_
 go_wp2_with fail
 go_loopw [0] (fun u wr=> ∃(T1:TR),(TA w T1 u)∧(full T1)∧(Q8u T1=Q8u T)∧(tsz T1≤tsz T)∧SH [] w wr [.b V5 (J0 .u8 32 (J7 0)) 42])
  (fun u _=>hd w (tsz T) u)
 case atStart=>exact⟨T,h,hf0,rfl,Nat.le_refl _,hS⟩
 clear hS
 case round=>
  obtain⟨T1,hT,hf,hk,hz,hS⟩:=hrel;rcases hT.cases hf with⟨b,k,v,rfl,rfl,hB⟩|⟨b,d,l,r,s0,s1,rfl,rfl,hB,hl,hr⟩
  ·
   go_upto_region 1 with fail;refine RL hS ?_;clear hS;(iterate 3 refine MV ?_);refine MF (v:=.bool false) (fun W hS=>Q9 rfl rfl (by rw[J3 (J2 hB hS.ext)];exact J7i) (by kernel_rfl)) ?_;refine MZ fun W hS=> ?_;go_upto_region 5 with fail;refine RL hS ?_;clear hS;(iterate 4 refine MV ?_);refine MF (v:=.agg (J0 .u8 32 (J7 k))) (fun W hS=>J0g (vs:=(J0 .u8 32 (J7 k)).toList) rfl rfl (fun i v hv=>by rw[J3 (J2 hB hS.ext)];exact J84 i v (by simpa using hv)) (by kernel_rfl) (by first|kernel_rfl|(simp only[Array.length_toList];rw[J1];kernel_rfl))) ?_;refine MR 0 ?_;refine MZ fun W hS=> ?_;go_wp2;exact bodyPost_ret (Z7 rfl rfl (hS.blk (i:=0) rfl) (by kernel_rfl) (by rw[J1];kernel_rfl)) rfl ⟨by rw[←hk];rfl,hS.ext⟩
  have D:TA w (.node d l r) (ptr b):=hT;go_upto_region 1 with fail;refine RL hS ?_;clear hS;(iterate 3 refine MV ?_);refine MF (v:=.bool true) (fun W hS=>Q9 rfl rfl (by rw[J3 (J2 hB hS.ext)];exact J7i) (by kernel_rfl)) ?_;refine MZ fun W hS=> ?_;rcases hl.side with⟨rfl,rfl⟩|⟨c,G,rfl⟩
  ·
   go_upto_region 2 with fail;refine RL hS ?_;clear hS;(iterate 3 refine MV ?_);refine MW ?_ (v:=.pointer (some ⟨b,64,none⟩)) (hv:=fun _=>J0c (m:=2) (k:=1) (j:=0) (off:=64) (by decide) Tryz.underlying179 (by kernel_rfl) rfl rfl rfl);refine MF (v:=.pointer none) (fun W hS=>Q9 rfl rfl (by rw[J3 (J2 hB hS.ext)];exact nd_s0) (by kernel_rfl)) ?_;refine Wf ?_;refine MZ fun W hS=> ?_;go_upto_region 4 with fail;refine RL hS ?_;clear hS;(iterate 3 refine MV ?_);refine MW ?_ (v:=.pointer (some ⟨b,65,none⟩)) (hv:=fun _=>J0c (m:=2) (k:=1) (j:=1) (off:=64) (by decide) Tryz.underlying179 (by kernel_rfl) rfl rfl rfl);refine MF (v:=s1) (fun W hS=>Q9 rfl rfl (by rw[J3 (J2 hB hS.ext)];exact nd_s1) (by kernel_rfl)) ?_;refine MV ?_;refine MZ fun W hS=> ?_;go_wp2;go_roundw
   case rel=>exact⟨r,hr,hf,hk,(by have h_:1+tsz .nil+tsz r≤tsz T:=hz;omega),hS⟩
   case measure=>rw[Q0a D hz,Q0a hr (by have h_:1+tsz .nil+tsz r≤tsz T:=hz;omega)];show _<1+tsz .nil+tsz r;omega
  go_upto_region 2 with fail;refine RL hS ?_;clear hS;(iterate 3 refine MV ?_);refine MW ?_ (v:=.pointer (some ⟨b,64,none⟩)) (hv:=fun _=>J0c (m:=2) (k:=1) (j:=0) (off:=64) (by decide) Tryz.underlying179 (by kernel_rfl) rfl rfl rfl);refine MF (v:=.pointer (some ⟨c,0,none⟩)) (fun W hS=>Q9 rfl rfl (by rw[J3 (J2 hB hS.ext)];exact nd_s0) (by kernel_rfl)) ?_;refine Wt ?_;refine MZ fun W hS=> ?_;go_upto_region 3 with fail;refine RL hS ?_;clear hS;(iterate 3 refine MV ?_);refine MW ?_ (v:=.pointer (some ⟨b,64,none⟩)) (hv:=fun _=>J0c (m:=2) (k:=1) (j:=0) (off:=64) (by decide) Tryz.underlying179 (by kernel_rfl) rfl rfl rfl);refine MF (v:=.pointer (some ⟨c,0,none⟩)) (fun W hS=>Q9 rfl rfl (by rw[J3 (J2 hB hS.ext)];exact nd_s0) (by kernel_rfl)) ?_;refine MV ?_;refine MZ fun W hS=> ?_;go_wp2;go_roundw
  case rel=>exact⟨l,hl,(by rw[Z3e G] at hf;exact hf),(by rw[Z3d G] at hk;exact hk),(by have h_:1+tsz l+tsz r≤tsz T:=hz;omega),hS⟩
  case measure=>rw[Q0a D hz,Q0a hl (by have h_:1+tsz l+tsz r≤tsz T:=hz;omega)];show _<1+tsz l+tsz r;omega
end

section
set_option maxHeartbeats 3000000
attribute [local irreducible] wpList Y8 wpX
def J6k (K:Nat)(d:Nat):Nat→TR→TR
 |0,T=>T
 |m+1,T=>if d≤m then J6k K d m (if kb K m=0 then .node m T .nil else .node m .nil T) else T
def J6l (a x b y d:Nat):TR:=
 if kb a (J3o (J7 a) (J7 b))=1 then J6k b d (J3o (J7 a) (J7 b)) (.node (J3o (J7 a) (J7 b)) (.leaf b y) (.leaf a x))
 else J6k a d (J3o (J7 a) (J7 b)) (.node (J3o (J7 a) (J7 b)) (.leaf a x) (.leaf b y))
def J33 (k v:Nat):TR→Nat→TR
 | .nil,_=> .leaf k v
 | .leaf a x,d=>if a=k then .leaf k v else J6l a x k v d
 | .node _ l r,d=>if kb k d=0 then .node d (J33 k v l (d+1)) r else .node d l (J33 k v r (d+1))
theorem Q3y {K d m:Nat}{T:TR}(h:d≤m):J6k K d (m+1) T=J6k K d m (if kb K m=0 then .node m T .nil else .node m .nil T):=by
 show(if d≤m then _ else _)=_;rw[if_pos h]
theorem Z6d {K d m:Nat}{T:TR}(h:m≤d):J6k K d m T=T:=by
 cases m with
 |zero=>rfl
 |succ m=>show(if d≤m then _ else _)=_;rw[if_neg (by omega)]
theorem Q72 (K d:Nat):∀(m:Nat) (T:TR),cnt (J6k K d m T)=cnt T
 |0,_=>rfl
 |m+1,T=>by
  unfold J6k
  split
  ·
   rw[Q72];split<;>simp[cnt]
  ·
   rfl
theorem Z8j (a x b y d:Nat):cnt (J6l a x b y d)=2:=by unfold J6l;split<;>rw[Q72]<;>rfl
theorem J67 (k v:Nat):∀(T:TR) (d:Nat),cnt (J33 k v T d)≤cnt T+1
 | .nil,_=>by show 1≤0+1;omega
 | .leaf a x,d=>by
  show cnt (if a=k then TR.leaf k v else J6l a x k v d)≤1+1
  split
  ·
   show 1≤2;omega
  ·
   rw[Z8j];omega
 | .node e l r,d=>by
  have h1:=J67 k v l (d+1);have h2:=J67 k v r (d+1);show cnt (if kb k d=0 then TR.node d (J33 k v l (d+1)) r else TR.node d l (J33 k v r (d+1)))≤cnt l+cnt r+1
  split
  ·
   show cnt (J33 k v l (d+1))+cnt r≤_;omega
  ·
   show cnt l+cnt (J33 k v r (d+1))≤_;omega
theorem TA.leaf' {w:World}{k v b:Nat}(h:Blk w b (ndc k v nlp nlp false (sL k v) 1) 181)(hk:k<2^256)(hv:v<2^256):TA w (.leaf k v) (ptr b):=⟨b,rfl,h,hk,hv⟩
attribute [local irreducible] hs4 sE sL sN

theorem V6j {q:Prop}{a x c y b1 b2:Nat}(ha:a<2^256)(hx:x<2^256)(hc:c<2^256)(hy:y<2^256)(d:Nat)(hd_:d<4611686018427387904)(w:World)(hG:GT q w)(hB1:Blk w b1 (ndc a x nlp nlp false (sL a x) 1) 181)(hB2:Blk w b2 (ndc c y nlp nlp false (sL c y) 1) 181):
  Calls Tryz.prog 171 #[ptr b1,ptr b2,.int .i64 (d:Int)] w fun e w' =>Q0q (J6l a x c y d) w w' e:=by
 have hS:=SH.nil [] w;have h3:=Z6b (J7 a) (J7 c);have hA:TA w (.leaf a x) (ptr b1):=TA.leaf' hB1 ha hx;have hC:TA w (.leaf c y) (ptr b2):=TA.leaf' hB2 hc hy
 go_enter Tryz.func171,Tryz.ntmps171
 go_upto_region 1 with fail;refine RTh (.q 0 (.q 1 (.q 2 (.q 3 (.q 4 (.q 5 (.q 6 (.q 7 (.q 8 (.q 9 (.e 10 (.q 11 .z)))))))))))) hS ?_;clear hS;(iterate 4 refine TV ?_);refine TF (v:=.agg (J0 .u8 32 (J7 a))) rfl (fun W hS=>J0g (vs:=(J0 .u8 32 (J7 a)).toList) rfl rfl (fun i v hv=>by rw[J3 (J2 hB1 hS.ext)];exact J84 i v (by simpa using hv)) (by kernel_rfl) (by first|kernel_rfl|(simp only[Array.length_toList];rw[J1];kernel_rfl))) ?_;(iterate 4 refine TV ?_);refine TF (v:=.agg (J0 .u8 32 (J7 c))) rfl (fun W hS=>J0g (vs:=(J0 .u8 32 (J7 c)).toList) rfl rfl (fun i v hv=>by rw[J3 (J2 hB2 hS.ext)];exact J84 i v (by simpa using hv)) (by kernel_rfl) (by first|kernel_rfl|(simp only[Array.length_toList];rw[J1];kernel_rfl))) ?_;refine TE (fun _ h=>h) ?_;refine MC (v:=.int .i64 ((J3o (J7 a) (J7 c):Nat):Int)) (fun W hS=>Z8i a c W) ?_;refine TNh (fun W hS=>hS) ?_;refine TV ?_;refine TZ (fun _ h=>h) fun W hS=> ?_
 by_cases hb:kb a (J3o (J7 a) (J7 c))=1
 ·
  go_upto_region 2 with fail;refine RL hS ?_;clear hS;(iterate 4 refine MV ?_);refine MF (v:=.agg (J0 .u8 32 (J7 a))) (fun W hS=>J0g (vs:=(J0 .u8 32 (J7 a)).toList) rfl rfl (fun i v hv=>by rw[J3 (J2 hB1 hS.ext)];exact J84 i v (by simpa using hv)) (by kernel_rfl) (by first|kernel_rfl|(simp only[Array.length_toList];rw[J1];kernel_rfl))) ?_;refine MV ?_;refine MC (v:=.int .i64 ((kb a (J3o (J7 a) (J7 c)):Nat):Int)) (fun W hS=>J88 a (J3o (J7 a) (J7 c)) (by omega) W) ?_;refine MW ?_ (v:=.bool true) (hv:=by intro W;go_simp;(try simp[hb]));refine MZ fun W hS=> ?_;go_upto_region 4 with fail;refine RL hS ?_;clear hS;(iterate 3 refine MV ?_);refine ME (fun W hS=>J5i hS (J9f (J3o (J7 a) (J7 c)) (by simp only[cnt];omega) W (J05 hG hS.ext) (TA.ext hC hS.ext) (TA.ext hA hS.ext)) rfl) ?_;intro T;refine MV ?_;refine MZ fun W hS=> ?_;go_upto_region 5 with fail;refine RL hS ?_;clear hS;refine MV ?_;refine MW ?_ (v:=.int .i64 (((J3o (J7 a) (J7 c):Nat):Int)-1)) (hv:=by intro W;go_simp;(try simp only[IntKind.wrap_i64]);(try omega));refine MV ?_;refine MZ fun W hS=> ?_
  go_wp2_with fail
  go_loopw [8,9] (fun uv ii wr=> ∃(T1:TR)(u:Value)(m:Nat),(m≤J3o (J7 a) (J7 c))∧(J6k c d m T1=J6k c d (J3o (J7 a) (J7 c)) (.node (J3o (J7 a) (J7 c)) (.leaf c y) (.leaf a x)))∧(full T1)∧(Q8u T1=c)∧(cnt T1=2)∧(u=uv)∧(ii=.int .i64 ((m:Int)-1))∧SH [] w wr [.t 181 (fun W=>TA W T1 u)])
   (fun uv ii _=>(intOf ii+1).toNat)
  case atStart=>exact⟨(.node (J3o (J7 a) (J7 c)) (.leaf c y) (.leaf a x)),T,J3o (J7 a) (J7 c),Nat.le_refl _,rfl,trivial,rfl,rfl,rfl,by go_num,hS⟩
  clear hS
  case round=>
   obtain⟨T1,u,m,hm,D,hf,hk,U,rfl,rfl,hS⟩:=hrel
   by_cases G:d<m
   ·
    obtain⟨m,rfl⟩:∃m1,m=m1+1:=⟨m-1,by omega⟩
    go_upto_region 6 with fail;refine RL hS ?_;clear hS;refine MV ?_;refine MV ?_;refine MW ?_ (v:=.bool true) (hv:=by intro W;go_simp;omega);refine MZ fun W hS=> ?_
    by_cases hz:kb c m=0
    ·
     go_upto_region 8 with fail;refine RL hS ?_;clear hS;refine MV ?_;refine MC (v:=.agg (J0 .u8 32 (J7 c))) (fun W hS=>(hk▸Z6c hf W (hS.tt (i:=0) rfl))) ?_;refine MW ?_ (v:=.int .i64 ((m:Nat):Int)) (hv:=by intro W;go_simp;(try omega));refine MC (v:=.int .i64 ((kb c m:Nat):Int)) (fun W hS=>J88 c m (by omega) W) ?_;refine MW ?_ (v:=.bool true) (hv:=by intro W;go_simp;(try simp[hz]));refine MZ fun W hS=> ?_;go_upto_region 9 with fail;refine RL hS ?_;clear hS;refine MW ?_ (v:=.int .i64 ((m:Nat):Int)) (hv:=by intro W;go_simp;(try omega));refine MV ?_;refine ME (fun W hS=>J5i hS (J9f m (by simp only[cnt];omega) W (J05 hG hS.ext) (hS.tt (i:=0) rfl) (show TA W .nil nlp from rfl)) rfl) ?_;intro M;refine MV ?_;refine MZ fun W hS=> ?_;go_upto_region 7 with fail;refine RL hS ?_;clear hS;refine MV ?_;refine MW ?_ (v:=.int .i64 ((m:Int)-1)) (hv:=by intro W;go_simp;(try simp only[IntKind.wrap_i64]);(try omega));refine MV ?_;refine MZ fun W hS=> ?_;go_wp2;go_roundw
     case rel=>exact⟨(.node m T1 .nil),M,m,by omega,(by rw[←D,Q3y (by omega),if_pos hz]),(by rw[Z3e (Q3x hf)];exact hf),(by rw[Z3d (Q3x hf)];exact hk),(by show cnt T1+0=2;omega),rfl,by go_num,(hS.pick [0])⟩
     case measure=>first|(simp[intOf];done)|(simp[intOf];omega)
    go_upto_region 8 with fail;refine RL hS ?_;clear hS;refine MV ?_;refine MC (v:=.agg (J0 .u8 32 (J7 c))) (fun W hS=>(hk▸Z6c hf W (hS.tt (i:=0) rfl))) ?_;refine MW ?_ (v:=.int .i64 ((m:Nat):Int)) (hv:=by intro W;go_simp;(try omega));refine MC (v:=.int .i64 ((kb c m:Nat):Int)) (fun W hS=>J88 c m (by omega) W) ?_;refine MW ?_ (v:=.bool false) (hv:=by intro W;go_simp;(try omega));refine MZ fun W hS=> ?_;go_upto_region 10 with fail;refine RL hS ?_;clear hS;refine MW ?_ (v:=.int .i64 ((m:Nat):Int)) (hv:=by intro W;go_simp;(try omega));refine MV ?_;refine ME (fun W hS=>J5i hS (J9f m (by simp only[cnt];omega) W (J05 hG hS.ext) (show TA W .nil nlp from rfl) (hS.tt (i:=0) rfl)) rfl) ?_;intro S;refine MV ?_;refine MZ fun W hS=> ?_;go_upto_region 7 with fail;refine RL hS ?_;clear hS;refine MV ?_;refine MW ?_ (v:=.int .i64 ((m:Int)-1)) (hv:=by intro W;go_simp;(try simp only[IntKind.wrap_i64]);(try omega));refine MV ?_;refine MZ fun W hS=> ?_;go_wp2;go_roundw
    case rel=>exact⟨(.node m .nil T1),S,m,by omega,(by rw[←D,Q3y (by omega),if_neg hz]),hf,hk,(by show 0+cnt T1=2;omega),rfl,by go_num,(hS.pick [0])⟩
    case measure=>first|(simp[intOf];done)|(simp[intOf];omega)
   go_upto_region 6 with fail;refine RL hS ?_;clear hS;refine MV ?_;refine MV ?_;refine MW ?_ (v:=.bool false) (hv:=by intro W;go_simp;omega);refine MZ fun W hS=> ?_;go_wp2;exact bodyPost_ret (v:=u) (by simp only[results,Tryz.results171];go_simp) rfl ⟨_,rfl,hS.ext,(by have h_:=hS.tt (i:=0) rfl;rw[show J6l a x c y d=T1 from(by unfold J6l;rw[if_pos hb];rw[←D,Z6d (by omega)])];exact h_)⟩
 go_upto_region 2 with fail;refine RL hS ?_;clear hS;(iterate 4 refine MV ?_);refine MF (v:=.agg (J0 .u8 32 (J7 a))) (fun W hS=>J0g (vs:=(J0 .u8 32 (J7 a)).toList) rfl rfl (fun i v hv=>by rw[J3 (J2 hB1 hS.ext)];exact J84 i v (by simpa using hv)) (by kernel_rfl) (by first|kernel_rfl|(simp only[Array.length_toList];rw[J1];kernel_rfl))) ?_;refine MV ?_;refine MC (v:=.int .i64 ((kb a (J3o (J7 a) (J7 c)):Nat):Int)) (fun W hS=>J88 a (J3o (J7 a) (J7 c)) (by omega) W) ?_;refine MW ?_ (v:=.bool false) (hv:=by intro W;go_simp;(try omega));refine MZ fun W hS=> ?_;go_upto_region 4 with fail;refine RL hS ?_;clear hS;(iterate 3 refine MV ?_);refine ME (fun W hS=>J5i hS (J9f (J3o (J7 a) (J7 c)) (by simp only[cnt];omega) W (J05 hG hS.ext) (TA.ext hA hS.ext) (TA.ext hC hS.ext)) rfl) ?_;intro N;refine MV ?_;refine MZ fun W hS=> ?_;go_upto_region 5 with fail;refine RL hS ?_;clear hS;refine MV ?_;refine MW ?_ (v:=.int .i64 (((J3o (J7 a) (J7 c):Nat):Int)-1)) (hv:=by intro W;go_simp;(try simp only[IntKind.wrap_i64]);(try omega));refine MV ?_;refine MZ fun W hS=> ?_
 go_wp2_with fail
 go_loopw [8,9] (fun uv ii wr=> ∃(T1:TR)(u:Value)(m:Nat),(m≤J3o (J7 a) (J7 c))∧(J6k a d m T1=J6k a d (J3o (J7 a) (J7 c)) (.node (J3o (J7 a) (J7 c)) (.leaf a x) (.leaf c y)))∧(full T1)∧(Q8u T1=a)∧(cnt T1=2)∧(u=uv)∧(ii=.int .i64 ((m:Int)-1))∧SH [] w wr [.t 181 (fun W=>TA W T1 u)])
  (fun uv ii _=>(intOf ii+1).toNat)
 case atStart=>exact⟨(.node (J3o (J7 a) (J7 c)) (.leaf a x) (.leaf c y)),N,J3o (J7 a) (J7 c),Nat.le_refl _,rfl,trivial,rfl,rfl,rfl,by go_num,hS⟩
 clear hS
 case round=>
  obtain⟨T1,u,m,hm,D,hf,hk,U,rfl,rfl,hS⟩:=hrel
  by_cases G:d<m
  ·
   obtain⟨m,rfl⟩:∃m1,m=m1+1:=⟨m-1,by omega⟩
   go_upto_region 6 with fail;refine RL hS ?_;clear hS;refine MV ?_;refine MV ?_;refine MW ?_ (v:=.bool true) (hv:=by intro W;go_simp;omega);refine MZ fun W hS=> ?_
   by_cases hz:kb a m=0
   ·
    go_upto_region 8 with fail;refine RL hS ?_;clear hS;refine MV ?_;refine MC (v:=.agg (J0 .u8 32 (J7 a))) (fun W hS=>(hk▸Z6c hf W (hS.tt (i:=0) rfl))) ?_;refine MW ?_ (v:=.int .i64 ((m:Nat):Int)) (hv:=by intro W;go_simp;(try omega));refine MC (v:=.int .i64 ((kb a m:Nat):Int)) (fun W hS=>J88 a m (by omega) W) ?_;refine MW ?_ (v:=.bool true) (hv:=by intro W;go_simp;(try simp[hz]));refine MZ fun W hS=> ?_;go_upto_region 9 with fail;refine RL hS ?_;clear hS;refine MW ?_ (v:=.int .i64 ((m:Nat):Int)) (hv:=by intro W;go_simp;(try omega));refine MV ?_;refine ME (fun W hS=>J5i hS (J9f m (by simp only[cnt];omega) W (J05 hG hS.ext) (hS.tt (i:=0) rfl) (show TA W .nil nlp from rfl)) rfl) ?_;intro R;refine MV ?_;refine MZ fun W hS=> ?_;go_upto_region 7 with fail;refine RL hS ?_;clear hS;refine MV ?_;refine MW ?_ (v:=.int .i64 ((m:Int)-1)) (hv:=by intro W;go_simp;(try simp only[IntKind.wrap_i64]);(try omega));refine MV ?_;refine MZ fun W hS=> ?_;go_wp2;go_roundw
    case rel=>exact⟨(.node m T1 .nil),R,m,by omega,(by rw[←D,Q3y (by omega),if_pos hz]),(by rw[Z3e (Q3x hf)];exact hf),(by rw[Z3d (Q3x hf)];exact hk),(by show cnt T1+0=2;omega),rfl,by go_num,(hS.pick [0])⟩
    case measure=>first|(simp[intOf];done)|(simp[intOf];omega)
   go_upto_region 8 with fail;refine RL hS ?_;clear hS;refine MV ?_;refine MC (v:=.agg (J0 .u8 32 (J7 a))) (fun W hS=>(hk▸Z6c hf W (hS.tt (i:=0) rfl))) ?_;refine MW ?_ (v:=.int .i64 ((m:Nat):Int)) (hv:=by intro W;go_simp;(try omega));refine MC (v:=.int .i64 ((kb a m:Nat):Int)) (fun W hS=>J88 a m (by omega) W) ?_;refine MW ?_ (v:=.bool false) (hv:=by intro W;go_simp;(try omega));refine MZ fun W hS=> ?_;go_upto_region 10 with fail;refine RL hS ?_;clear hS;refine MW ?_ (v:=.int .i64 ((m:Nat):Int)) (hv:=by intro W;go_simp;(try omega));refine MV ?_;refine ME (fun W hS=>J5i hS (J9f m (by simp only[cnt];omega) W (J05 hG hS.ext) (show TA W .nil nlp from rfl) (hS.tt (i:=0) rfl)) rfl) ?_;intro J;refine MV ?_;refine MZ fun W hS=> ?_;go_upto_region 7 with fail;refine RL hS ?_;clear hS;refine MV ?_;refine MW ?_ (v:=.int .i64 ((m:Int)-1)) (hv:=by intro W;go_simp;(try simp only[IntKind.wrap_i64]);(try omega));refine MV ?_;refine MZ fun W hS=> ?_;go_wp2;go_roundw
   case rel=>exact⟨(.node m .nil T1),J,m,by omega,(by rw[←D,Q3y (by omega),if_neg hz]),hf,hk,(by show 0+cnt T1=2;omega),rfl,by go_num,(hS.pick [0])⟩
   case measure=>first|(simp[intOf];done)|(simp[intOf];omega)
  go_upto_region 6 with fail;refine RL hS ?_;clear hS;refine MV ?_;refine MV ?_;refine MW ?_ (v:=.bool false) (hv:=by intro W;go_simp;omega);refine MZ fun W hS=> ?_;go_wp2;exact bodyPost_ret (v:=u) (by simp only[results,Tryz.results171];go_simp) rfl ⟨_,rfl,hS.ext,(by have h_:=hS.tt (i:=0) rfl;rw[show J6l a x c y d=T1 from(by unfold J6l;rw[if_neg hb];rw[←D,Z6d (by omega)])];exact h_)⟩
end

section
set_option maxHeartbeats 3000000
attribute [local irreducible] wpList Y8 wpX
theorem Z6e (A B:Nat)(hA:A<2^256)(hB:B<2^256)(w:World):(Op.equalIn 10000 42 (.agg (J0 .u8 32 (J7 A))) (.agg (J0 .u8 32 (J7 B)))).run Tryz.prog w=.ok (decide (A=B)) w:=by
 have h:=J19 (P:=Tryz.prog) w 9998 42 5 32 .u8 (J0 .u8 32 (J7 A)) (J0 .u8 32 (J7 B)) (J7 A) (J7 B) Tryz.underlying42 Tryz.underlying5 (by kernel_rfl)
  (fun i hi=>V3 _ _ _ _ hi) (fun i hi=>V3 _ _ _ _ hi)
 rw[h]
 congr 1
 rw[Bool.eq_iff_iff,J3m,decide_eq_true_iff];exact⟨Z54 hA hB,fun h=>by subst h;intro _ _;rfl⟩
theorem V6k {q:Prop}{a x c y:Nat}{u1 u2:Value}(d:Nat)(hd_:d<4611686018427387904)(w:World)(hG:GT q w)(h1:TA w (.leaf a x) u1)(h2:TA w (.leaf c y) u2):
  Calls Tryz.prog 171 #[u1,u2,.int .i64 (d:Int)] w fun e w' =>Q0q (J6l a x c y d) w w' e:=by
 obtain⟨b1,rfl,G,ha,hx⟩:=h1;obtain⟨b2,rfl,D,hc,hy⟩:=h2;exact V6j ha hx hc hy d hd_ w hG G D
attribute [local irreducible] hs4 sE sL sN

theorem Y91 {q:Prop}{k v:Nat}(hk:k<2^256)(hv:v<2^256)(d:Nat)(w:World)(hG:GT q w):
  Calls Tryz.prog 130 #[nlp,.agg (lf k v),.int .i64 (d:Int)] w fun e w' =>Q0q (J33 k v .nil d) w w' e:=by
 have hS:=SH.nil [] w
 go_enter Tryz.func130,Tryz.ntmps130
 go_upto_region 0 with fail;refine RL hS ?_;clear hS;refine MN (z:=lf k v) (t:=44) ?_;intro G;refine MV ?_;refine MZ fun W hS=> ?_;go_upto_region 3 with fail;refine RL hS ?_;clear hS;refine ML 0 ?_ (hs:=by rw[J0d];kernel_rfl);refine ME (fun W hS=>J5i hS (Y4j hk hv W (J05 hG hS.ext)) rfl) ?_;intro D;refine MV ?_;refine MZ fun W hS=> ?_;go_wp2;exact bodyPost_ret (v:=D) (by simp only[results,Tryz.results130];go_simp) rfl ⟨_,rfl,hS.ext,(by exact hS.tt (i:=0) rfl)⟩
theorem V6l {q:Prop}{k v:Nat}(hk:k<2^256)(hv:v<2^256){a x b1:Nat}(ha:a<2^256)(hx:x<2^256)(hak:a=k)(d:Nat)(w:World)(hG:GT q w)(hB1:Blk w b1 (ndc a x nlp nlp false (sL a x) 1) 181):
  Calls Tryz.prog 130 #[ptr b1,.agg (lf k v),.int .i64 (d:Int)] w fun e w' =>Q0q (J33 k v (.leaf a x) d) w w' e:=by
 have hS:=SH.nil [] w;have hA:TA w (.leaf a x) (ptr b1):=TA.leaf' hB1 ha hx
 go_enter Tryz.func130,Tryz.ntmps130
 go_upto_region 0 with fail;refine RL hS ?_;clear hS;refine MN (z:=lf k v) (t:=44) ?_;intro G;refine MV ?_;refine MZ fun W hS=> ?_;go_upto_region 2 with fail;refine RTh (.q 0 (.q 1 (.q 2 (.q 3 (.q 4 (.q 5 (.q 6 (.q 7 (.q 8 (.q 9 (.q 10 (.q 11 (.q 12 (.q 13 (.q 14 (.q 15 .z)))))))))))))))) hS ?_;clear hS;(iterate 3 refine TV ?_);refine TF (v:=.bool false) rfl (fun W hS=>Q9 rfl rfl (by rw[J3 (J2 hB1 hS.ext)];exact J7i) (by kernel_rfl)) ?_;refine Tt ?_;refine Tt ?_;(iterate 4 refine TV ?_);refine TF (v:=.agg (J0 .u8 32 (J7 a))) rfl (fun W hS=>J0g (vs:=(J0 .u8 32 (J7 a)).toList) rfl rfl (fun i v hv=>by rw[J3 (J2 hB1 hS.ext)];exact J84 i v (by simpa using hv)) (by kernel_rfl) (by first|kernel_rfl|(simp only[Array.length_toList];rw[J1];kernel_rfl))) ?_;refine TV ?_;refine Tl 0 Z78 ?_;refine TW ?_ (v:=.bool true) (hv:=fun _=>J8x ((fun w=>(Z6e a k ha hk w).trans (by rw[decide_eq_true hak])) _) (by kernel_rfl) rfl rfl rfl);refine Tt ?_;refine Tt ?_;refine TZ (fun _ h=>h) fun W hS=> ?_;go_upto_region 3 with fail;refine RL hS ?_;clear hS;refine ML 0 ?_ (hs:=by rw[J0d];kernel_rfl);refine ME (fun W hS=>J5i hS (Y4j hk hv W (J05 hG hS.ext)) rfl) ?_;intro D;refine MV ?_;refine MZ fun W hS=> ?_;go_wp2;exact bodyPost_ret (v:=D) (by simp only[results,Tryz.results130];go_simp) rfl ⟨_,rfl,hS.ext,(by rw[show J33 k v (.leaf a x) d=.leaf k v from if_pos hak];exact hS.tt (i:=0) rfl)⟩
theorem V6m {q:Prop}{k v:Nat}(hk:k<2^256)(hv:v<2^256){a x b1:Nat}(ha:a<2^256)(hx:x<2^256)(hak:¬a=k)(d:Nat)(hdl:d<4611686018427387904)(w:World)(hG:GT q w)(hB1:Blk w b1 (ndc a x nlp nlp false (sL a x) 1) 181):
  Calls Tryz.prog 130 #[ptr b1,.agg (lf k v),.int .i64 (d:Int)] w fun e w' =>Q0q (J33 k v (.leaf a x) d) w w' e:=by
 have hS:=SH.nil [] w;have hA:TA w (.leaf a x) (ptr b1):=TA.leaf' hB1 ha hx
 go_enter Tryz.func130,Tryz.ntmps130
 go_upto_region 0 with fail;refine RL hS ?_;clear hS;refine MN (z:=lf k v) (t:=44) ?_;intro J;refine MV ?_;refine MZ fun W hS=> ?_;go_upto_region 2 with fail;refine RTh (.q 0 (.q 1 (.q 2 (.q 3 (.q 4 (.q 5 (.q 6 (.q 7 (.q 8 (.q 9 (.q 10 (.q 11 (.q 12 (.q 13 (.q 14 (.q 15 .z)))))))))))))))) hS ?_;clear hS;(iterate 3 refine TV ?_);refine TF (v:=.bool false) rfl (fun W hS=>Q9 rfl rfl (by rw[J3 (J2 hB1 hS.ext)];exact J7i) (by kernel_rfl)) ?_;refine Tt ?_;refine Tt ?_;(iterate 4 refine TV ?_);refine TF (v:=.agg (J0 .u8 32 (J7 a))) rfl (fun W hS=>J0g (vs:=(J0 .u8 32 (J7 a)).toList) rfl rfl (fun i v hv=>by rw[J3 (J2 hB1 hS.ext)];exact J84 i v (by simpa using hv)) (by kernel_rfl) (by first|kernel_rfl|(simp only[Array.length_toList];rw[J1];kernel_rfl))) ?_;refine TV ?_;refine Tl 0 Z78 ?_;refine TW ?_ (v:=.bool false) (hv:=fun _=>J8x ((fun w=>(Z6e a k ha hk w).trans (by rw[decide_eq_false hak])) _) (by kernel_rfl) rfl rfl rfl);refine Tf ?_;refine Tf ?_;refine TZ (fun _ h=>h) fun W hS=> ?_;go_upto_region 4 with fail;refine RL hS ?_;clear hS;(iterate 3 refine MV ?_);refine MF (v:=.bool false) (fun W hS=>Q9 rfl rfl (by rw[J3 (J2 hB1 hS.ext)];exact J7i) (by kernel_rfl)) ?_;refine Wt ?_;refine Wt ?_;refine MZ fun W hS=> ?_;go_upto_region 5 with fail;refine RL hS ?_;clear hS;refine MV ?_;refine ML 0 ?_ (hs:=by rw[J0d];kernel_rfl);refine ME (fun W hS=>J5i hS (Y4j hk hv W (J05 hG hS.ext)) rfl) ?_;intro G;refine MV ?_;refine ME (fun W hS=>J5i hS (V6k d hdl W (J05 hG hS.ext) (TA.ext hA hS.ext) (hS.tt (i:=0) rfl)) rfl) ?_;intro D;refine MV ?_;refine MZ fun W hS=> ?_;go_wp2;exact bodyPost_ret (v:=D) (by simp only[results,Tryz.results130];go_simp) rfl ⟨_,rfl,hS.ext,(by rw[show J33 k v (.leaf a x) d=J6l a x k v d from if_neg hak];exact hS.tt (i:=0) rfl)⟩
theorem K1y {q:Prop}{k v:Nat}(hk:k<2^256)(hv:v<2^256){e0 b:Nat}{l r:TR}{p0 p1:Option Addr}(d:Nat)(hdl:d<4611686018427387904)(hn:cnt l+cnt r<2305843009213693952)(hb:kb k d=0)(w:World)(hG:GT q w)(hB:Blk w b (ndc 0 0 (.pointer p0) (.pointer p1) true (rs (.node e0 l r)) (cnt l+cnt r)) 181)(hl:TA w l (.pointer p0))(hr:TA w r (.pointer p1))(ih:∀W,GT q W→TA W l (.pointer p0)→Calls Tryz.prog 130 #[.pointer p0,.agg (lf k v),.int .i64 ((d+1:Nat):Int)] W fun e w' =>Q0q (J33 k v l (d+1)) W w' e):
  Calls Tryz.prog 130 #[ptr b,.agg (lf k v),.int .i64 (d:Int)] w fun e w' =>Q0q (J33 k v (.node e0 l r) d) w w' e:=by
 have hS:=SH.nil [] w
 go_enter Tryz.func130,Tryz.ntmps130
 go_upto_region 0 with fail;refine RL hS ?_;clear hS;refine MN (z:=lf k v) (t:=44) ?_;intro R;refine MV ?_;refine MZ fun W hS=> ?_;go_upto_region 2 with fail;refine RTh (.q 0 (.q 1 (.q 2 (.q 3 (.q 4 (.q 5 (.q 6 (.q 7 (.q 8 (.q 9 (.q 10 (.q 11 (.q 12 (.q 13 (.q 14 (.q 15 .z)))))))))))))))) hS ?_;clear hS;(iterate 3 refine TV ?_);refine TF (v:=.bool true) rfl (fun W hS=>Q9 rfl rfl (by rw[J3 (J2 hB hS.ext)];exact J7i) (by kernel_rfl)) ?_;refine Tf ?_;refine Tf ?_;(iterate 8 refine TS ?_);refine Tf ?_;refine Tf ?_;refine TZ (fun _ h=>h) fun W hS=> ?_;go_upto_region 4 with fail;refine RL hS ?_;clear hS;(iterate 3 refine MV ?_);refine MF (v:=.bool true) (fun W hS=>Q9 rfl rfl (by rw[J3 (J2 hB hS.ext)];exact J7i) (by kernel_rfl)) ?_;refine Wf ?_;refine Wf ?_;refine MZ fun W hS=> ?_;go_upto_region 6 with fail;refine RL hS ?_;clear hS;(iterate 3 refine MV ?_);refine MF (v:=.agg #[(.pointer p0),(.pointer p1)]) (fun W hS=>J0g (vs:=(#[(.pointer p0),(.pointer p1)]).toList) rfl rfl (fun i v hv=>by rw[J3 (J2 hB hS.ext)];exact Z16 i v (by simpa using hv)) (by kernel_rfl) (by kernel_rfl)) ?_;refine MN (z:= #[.pointer none,.pointer none]) (t:=179) ?_;intro G;refine MR 0 ?_;refine MZ fun W hS=> ?_;go_upto_region 7 with fail;refine RL hS ?_;clear hS;refine MV ?_;refine Ml 1 Z78 ?_;refine MV ?_;refine MC (v:=.int .i64 0) (fun W hS=>(hb▸J88 k d hdl W)) ?_;refine W0 ?_;refine MZ fun W hS=> ?_;go_upto_region 8 with fail;refine RTp [1] (.q 0 (.q 1 (.q 2 (.q 4 (.q 5 (.q 6 (.e 3 (.e 7 (.q 8 (.e 9 .z)))))))))) hS ?_;clear hS;refine T0 ?_;refine T0 ?_;refine TW ?_ (v:=.pointer (some ⟨G,0,none⟩)) (hv:=fun _=>J0c (m:=2) (k:=1) (j:=0) (off:=0) (by decide) Tryz.underlying179 (by kernel_rfl) rfl rfl rfl);refine TL 0 ?_ (hs:=by rw[J0d];kernel_rfl);refine TV ?_;refine TW ?_ (v:=.int .i64 ((d+1:Nat):Int)) (hv:=by intro W;go_simp;(try simp only[IntKind.wrap_i64]);omega);refine TE (fun _ h=>h.pick [1]) ?_;refine MG 0 ?_ (v:=.pointer p0);refine X6 [1] [0] ?_;refine TE (fun _ h=>h.pick [1]) ?_;refine ME (fun W hS=>J5i hS (ih W (J05 hG hS.ext) (TA.ext hl hS.ext)) rfl) ?_;intro D;refine X6 [0,2] [1] ?_;refine TW ?_ (v:=.pointer (some ⟨G,0,none⟩)) (hv:=fun _=>J0c (m:=2) (k:=1) (j:=0) (off:=0) (by decide) Tryz.underlying179 (by kernel_rfl) rfl rfl rfl);refine TE (fun _ h=>h.pick [0,2]) ?_;refine MP 1 (v:=D) ?_ (hv:=fun W hS=>TA.one (hS.tt (i:=0) rfl));refine X6 [0,2] [0,1] ?_;refine TZ (fun _ h=>h.pick [0,2]) fun W hS=> ?_;go_upto_region 9 with fail;refine RL hS ?_;clear hS;refine MV ?_;refine MW ?_ (v:=.pointer (some ⟨G,0,none⟩)) (hv:=fun _=>J0c (m:=2) (k:=1) (j:=0) (off:=0) (by decide) Tryz.underlying179 (by kernel_rfl) rfl rfl rfl);refine MG 1 ?_ (v:=D);refine MW ?_ (v:=.pointer (some ⟨G,1,none⟩)) (hv:=fun _=>J0c (m:=2) (k:=1) (j:=1) (off:=0) (by decide) Tryz.underlying179 (by kernel_rfl) rfl rfl rfl);refine MG 1 ?_ (v:=.pointer p1);refine ME (fun W hS=>J5i hS (J9f d (by have M:=J67 k v l (d+1);have N:=J67 k v r (d+1);omega) W (J05 hG hS.ext) (hS.tt (i:=0) rfl) (TA.ext hr hS.ext)) rfl) ?_;intro J;refine MV ?_;refine MZ fun W hS=> ?_;go_wp2;exact bodyPost_ret (v:=J) (by simp only[results,Tryz.results130];go_simp) rfl ⟨_,rfl,hS.ext,(by rw[show J33 k v (.node e0 l r) d=.node d (J33 k v l (d+1)) r from if_pos hb];exact hS.tt (i:=0) rfl)⟩
theorem K1z {q:Prop}{k v:Nat}(hk:k<2^256)(hv:v<2^256){e0 b:Nat}{l r:TR}{p0 p1:Option Addr}(d:Nat)(hdl:d<4611686018427387904)(hn:cnt l+cnt r<2305843009213693952)(hb:kb k d=1)(w:World)(hG:GT q w)(hB:Blk w b (ndc 0 0 (.pointer p0) (.pointer p1) true (rs (.node e0 l r)) (cnt l+cnt r)) 181)(hl:TA w l (.pointer p0))(hr:TA w r (.pointer p1))(ih:∀W,GT q W→TA W r (.pointer p1)→Calls Tryz.prog 130 #[.pointer p1,.agg (lf k v),.int .i64 ((d+1:Nat):Int)] W fun e w' =>Q0q (J33 k v r (d+1)) W w' e):
  Calls Tryz.prog 130 #[ptr b,.agg (lf k v),.int .i64 (d:Int)] w fun e w' =>Q0q (J33 k v (.node e0 l r) d) w w' e:=by
 have hS:=SH.nil [] w
 go_enter Tryz.func130,Tryz.ntmps130
 go_upto_region 0 with fail;refine RL hS ?_;clear hS;refine MN (z:=lf k v) (t:=44) ?_;intro R;refine MV ?_;refine MZ fun W hS=> ?_;go_upto_region 2 with fail;refine RTh (.q 0 (.q 1 (.q 2 (.q 3 (.q 4 (.q 5 (.q 6 (.q 7 (.q 8 (.q 9 (.q 10 (.q 11 (.q 12 (.q 13 (.q 14 (.q 15 .z)))))))))))))))) hS ?_;clear hS;(iterate 3 refine TV ?_);refine TF (v:=.bool true) rfl (fun W hS=>Q9 rfl rfl (by rw[J3 (J2 hB hS.ext)];exact J7i) (by kernel_rfl)) ?_;refine Tf ?_;refine Tf ?_;(iterate 8 refine TS ?_);refine Tf ?_;refine Tf ?_;refine TZ (fun _ h=>h) fun W hS=> ?_;go_upto_region 4 with fail;refine RL hS ?_;clear hS;(iterate 3 refine MV ?_);refine MF (v:=.bool true) (fun W hS=>Q9 rfl rfl (by rw[J3 (J2 hB hS.ext)];exact J7i) (by kernel_rfl)) ?_;refine Wf ?_;refine Wf ?_;refine MZ fun W hS=> ?_;go_upto_region 6 with fail;refine RL hS ?_;clear hS;(iterate 3 refine MV ?_);refine MF (v:=.agg #[(.pointer p0),(.pointer p1)]) (fun W hS=>J0g (vs:=(#[(.pointer p0),(.pointer p1)]).toList) rfl rfl (fun i v hv=>by rw[J3 (J2 hB hS.ext)];exact Z16 i v (by simpa using hv)) (by kernel_rfl) (by kernel_rfl)) ?_;refine MN (z:= #[.pointer none,.pointer none]) (t:=179) ?_;intro G;refine MR 0 ?_;refine MZ fun W hS=> ?_;go_upto_region 7 with fail;refine RL hS ?_;clear hS;refine MV ?_;refine Ml 1 Z78 ?_;refine MV ?_;refine MC (v:=.int .i64 1) (fun W hS=>(hb▸J88 k d hdl W)) ?_;refine MW ?_ (v:=.int .i64 1);refine MZ fun W hS=> ?_;go_upto_region 8 with fail;refine RTp [1] (.q 0 (.q 1 (.q 2 (.q 4 (.q 5 (.q 6 (.e 3 (.e 7 (.q 8 (.e 9 .z)))))))))) hS ?_;clear hS;refine TW ?_ (v:=.int .i64 1);refine TW ?_ (v:=.int .i64 1);refine TW ?_ (v:=.pointer (some ⟨G,1,none⟩)) (hv:=fun _=>J0c (m:=2) (k:=1) (j:=1) (off:=0) (by decide) Tryz.underlying179 (by kernel_rfl) rfl rfl rfl);refine TL 0 ?_ (hs:=by rw[J0d];kernel_rfl);refine TV ?_;refine TW ?_ (v:=.int .i64 ((d+1:Nat):Int)) (hv:=by intro W;go_simp;(try simp only[IntKind.wrap_i64]);omega);refine TE (fun _ h=>h.pick [1]) ?_;refine MG 0 ?_ (v:=.pointer p1);refine X6 [1] [0] ?_;refine TE (fun _ h=>h.pick [1]) ?_;refine ME (fun W hS=>J5i hS (ih W (J05 hG hS.ext) (TA.ext hr hS.ext)) rfl) ?_;intro D;refine X6 [0,2] [1] ?_;refine TW ?_ (v:=.pointer (some ⟨G,1,none⟩)) (hv:=fun _=>J0c (m:=2) (k:=1) (j:=1) (off:=0) (by decide) Tryz.underlying179 (by kernel_rfl) rfl rfl rfl);refine TE (fun _ h=>h.pick [0,2]) ?_;refine MP 1 (v:=D) ?_ (hv:=fun W hS=>TA.one (hS.tt (i:=0) rfl));refine X6 [0,2] [0,1] ?_;refine TZ (fun _ h=>h.pick [0,2]) fun W hS=> ?_;go_upto_region 9 with fail;refine RL hS ?_;clear hS;refine MV ?_;refine MW ?_ (v:=.pointer (some ⟨G,0,none⟩)) (hv:=fun _=>J0c (m:=2) (k:=1) (j:=0) (off:=0) (by decide) Tryz.underlying179 (by kernel_rfl) rfl rfl rfl);refine MG 1 ?_ (v:=.pointer p0);refine MW ?_ (v:=.pointer (some ⟨G,1,none⟩)) (hv:=fun _=>J0c (m:=2) (k:=1) (j:=1) (off:=0) (by decide) Tryz.underlying179 (by kernel_rfl) rfl rfl rfl);refine MG 1 ?_ (v:=D);refine ME (fun W hS=>J5i hS (J9f d (by have M:=J67 k v l (d+1);have N:=J67 k v r (d+1);omega) W (J05 hG hS.ext) (TA.ext hl hS.ext) (hS.tt (i:=0) rfl)) rfl) ?_;intro J;refine MV ?_;refine MZ fun W hS=> ?_;go_wp2;exact bodyPost_ret (v:=J) (by simp only[results,Tryz.results130];go_simp) rfl ⟨_,rfl,hS.ext,(by rw[show J33 k v (.node e0 l r) d=.node d l (J33 k v r (d+1)) from if_neg (by rw[hb];decide)];exact hS.tt (i:=0) rfl)⟩
theorem Y4n {q:Prop}{k v:Nat}(hk:k<2^256)(hv:v<2^256):∀{T:TR} {u:Value} (d:Nat),d+tsz T<4611686018427387904→cnt T<2305843009213693952→∀(w:World),GT q w→TA w T u→Calls Tryz.prog 130 #[u,.agg (lf k v),.int .i64 (d:Int)] w fun e w' =>Q0q (J33 k v T d) w w' e
 | .nil,_,d,_,_,w,hG,h=>by rw[show _=nlp from h];exact Y91 hk hv d w hG
 | .leaf a x,_,d,hd_,_,w,hG,⟨b1,h1,hB1,ha,hx⟩=>by
  subst h1
  by_cases hak:a=k
  ·
   exact V6l hk hv ha hx hak d w hG hB1
  ·
   exact V6m hk hv ha hx hak d (by omega) w hG hB1
 | .node e l r,_,d,hd_,hn,w,hG,⟨b,s0,s1,h1,hB,hl,hr⟩=>by
  subst h1;obtain⟨p0,rfl⟩:=hl.pt;obtain⟨p1,rfl⟩:=hr.pt;have hd2:d+(1+tsz l+tsz r)<4611686018427387904:=hd_;have hn2:cnt l+cnt r<2305843009213693952:=hn;have hb2:=V12 k d;rcases Nat.lt_or_ge 0 (kb k d) with hb|hb
  ·
   exact K1z hk hv d (by omega) hn2 (by omega) w hG hB hl hr fun W hG' h' =>Y4n hk hv (T:=r) (d+1) (by omega) (by omega) W hG' h'
  ·
   exact K1y hk hv d (by omega) hn2 (by omega) w hG hB hl hr fun W hG' h' =>Y4n hk hv (T:=l) (d+1) (by omega) (by omega) W hG' h'
end

section
set_option maxHeartbeats 3000000
attribute [local irreducible] wpList Y8 wpX
abbrev lfl (x:Nat×Nat):List Value:=(lf x.1 x.2).toList
def ofT (ls:List (Nat×Nat)):TR:=ls.foldl (fun T x=>J33 x.1 x.2 T 0) .nil
theorem Q9p (ls:List (Nat×Nat))(x:Nat×Nat):ofT (ls++[x])=J33 x.1 x.2 (ofT ls) 0:=by unfold ofT;rw[List.foldl_append];rfl
theorem Y4o {ls:List (Nat×Nat)}{i:Nat}{x:Nat×Nat}(h:ls[i]?=some x):ofT (ls.take (i+1))=J33 x.1 x.2 (ofT (ls.take i)) 0:=by
 rw[List.take_add_one,h];exact Q9p _ _
theorem Q2k (K d:Nat):∀(m:Nat) (T:TR),tsz (J6k K d m T)≤m+tsz T
 |0,T=>by show tsz T≤0+tsz T;omega
 |m+1,T=>by
  unfold J6k
  split
  ·
   refine Nat.le_trans (Q2k K d m _) ?_
   split
   ·
    show m+(1+tsz T+0)≤_;omega
   ·
    show m+(1+0+tsz T)≤_;omega
  ·
   omega
theorem Z8k (a x b y d:Nat):tsz (J6l a x b y d)≤259:=by
 have h:=Z6b (J7 a) (J7 b);unfold J6l
 split
 ·
  refine Nat.le_trans (Q2k _ _ _ _) ?_;show _+(1+1+1)≤259;omega
 refine Nat.le_trans (Q2k _ _ _ _) ?_;show _+(1+1+1)≤259;omega
theorem Q5o (k v:Nat):∀(T:TR) (d:Nat),tsz (J33 k v T d)≤tsz T+260
 | .nil,_=>by show 1≤0+260;omega
 | .leaf a x,d=>by
  show tsz (if a=k then TR.leaf k v else J6l a x k v d)≤1+260
  split
  ·
   show 1≤261;omega
  ·
   have:=Z8k a x k v d;omega
 | .node e l r,d=>by
  have h1:=Q5o k v l (d+1);have h2:=Q5o k v r (d+1);show tsz (if kb k d=0 then TR.node d (J33 k v l (d+1)) r else TR.node d l (J33 k v r (d+1)))≤1+tsz l+tsz r+260
  split
  ·
   show 1+tsz (J33 k v l (d+1))+tsz r≤_;omega
  ·
   show 1+tsz l+tsz (J33 k v r (d+1))≤_;omega
theorem Q8v:∀(n:Nat) (ls:List (Nat×Nat)),tsz (ofT (ls.take n))≤260*n∧cnt (ofT (ls.take n))≤n
 |0,ls=>by rw[List.take_zero];exact⟨Nat.le_refl _,Nat.le_refl _⟩
 |n+1,ls=>by
  have ih:=Q8v n ls;cases h:ls[n]? with
  |none=>rw[List.take_add_one,h];simp only[Option.toList_none,List.append_nil];omega
  |some x=>
   rw[Y4o h];have h1:=Q5o x.1 x.2 (ofT (ls.take n)) 0;have h2:=J67 x.1 x.2 (ofT (ls.take n)) 0;omega
attribute [local irreducible] hs4 sE sL sN

theorem V82 {q:Prop}{k v:Nat}(hk:k<2^256)(hv:v<2^256){T:TR}{u:Value}(hz:tsz T<4611686018427387904)(hcn:cnt T<2305843009213693952)(w:World)(hG:GT q w)(h:TA w T u):
  Calls Tryz.prog 87 #[u,.agg (lf k v)] w fun e w' =>Q0q (J33 k v T 0) w w' e:=by
 have hS:=SH.nil [] w
 go_enter Tryz.func87,Tryz.ntmps87
 go_upto_region 0 with fail;refine RL hS ?_;clear hS;refine MN (z:=lf k v) (t:=44) ?_;intro G;refine MV ?_;refine MZ fun W hS=> ?_;go_upto_region 1 with fail;refine RL hS ?_;clear hS;refine MV ?_;refine ML 0 ?_ (hs:=by rw[J0d];kernel_rfl);refine ME (fun W hS=>J5i hS (Y4n hk hv 0 (by omega) hcn W (J05 hG hS.ext) (TA.ext h hS.ext)) rfl) ?_;intro D;refine MV ?_;refine MZ fun W hS=> ?_;go_wp2;exact bodyPost_ret (v:=D) (by simp only[results,Tryz.results87];go_simp) rfl ⟨_,rfl,hS.ext,(by exact hS.tt (i:=0) rfl)⟩
end

section
/-! ### Lists of leaves, by the document -/
end

section
/-! ### The leaves of a tree -/
def lvs:TR→List Lf
  | .nil=>[]
  | .leaf k v=>[(k,v)]
  | .node _ l r=>lvs l++lvs r
/-! ### Lists, step by step -/
end

section
set_option maxHeartbeats 3000000
attribute [local irreducible] wpList Y8 wpX
def eI (n:Int):List UInt8:=be8 (n % 18446744073709551616).toNat
theorem V1 (n:Int):(eI n).length=8:=rfl
def by8 (X j:Nat):UInt8:=u8 (X / 2^(8*(7-j)))
theorem Q95 (X:Nat):∀{j:Nat},j<8→(be8 X).take (j+1)=(be8 X).take j++[by8 X j]
 |0,_=>rfl
 |1,_=>rfl
 |2,_=>rfl
 |3,_=>rfl
 |4,_=>rfl
 |5,_=>rfl
 |6,_=>rfl
 |7,_=>by unfold by8;rw[show 2^(8*(7-7))=1 from rfl,Nat.div_one];rfl
 |j+8,h=>absurd h (by omega)
theorem Q9g {a:Act}{o:Oper}{x y:Operand}{t t' :TypeId}{W:World}{p n:Nat}{k:IntKind}(hn:n≤64)(ho:o.op=.binOp .shr t x y t')(hx:a.eval x=.int .u64 (p:Int))(hy:a.eval y=.int k (n:Int)):(execOp a.eval o).run Tryz.prog W=.ok (.value (.int .u64 ((p / 2^n:Nat):Int))) W:=by
 have h2:min ((n:Int)).toNat IntKind.u64.bits=n:=by rw[Int.toNat_natCast];exact Nat.min_eq_left hn
 have e:(p:Int) / 2^n=((p / 2^n:Nat):Int):=by rw[Int.natCast_ediv,Int.natCast_pow];rfl
 have:(execOp a.eval o).run Tryz.prog W=.ok (.value (.int .u64 ((p:Int) / 2^n))) W:=by
  simp only[execOp,ho,hx,hy,eqGuard,binOp,Sem.run_bind];simp[Op.shift,h2,go_sem,Sem.run_bind]
 rw[this,e]
theorem Z3u {a:Act}{o:Oper}{x:Operand}{s t:TypeId}{W:World}{p:Nat}(ho:o.op=.convert s t x)(hx:a.eval x=.int .u64 (p:Int))(hs:Tryz.prog.underlying s=some (.int .u64))(ht:Tryz.prog.underlying t=some (.int .u8)):(execOp a.eval o).run Tryz.prog W=.ok (.value (.int .u8 ((u8 p).toNat:Int))) W:=by
 rw[J5l,←IntKind.wrap_u8];simp only[execOp,ho,hx,Sem.run_bind];simp[hs,ht,go_sem,Sem.run_bind]
theorem lA {α:Type}{l m:List α}:(l++m).length=l.length+m.length:=List.length_append
theorem lM {α β:Type}{f:α→β}{l:List α}:(l.map f).length=l.length:=List.length_map _
theorem lT {α:Type}{i:Nat}{l:List α}:(l.take i).length=min i l.length:=List.length_take
theorem lD {α:Type}{i:Nat}{l:List α}:(l.drop i).length=l.length-i:=List.length_drop
theorem lC {α:Type}{a:α}{l:List α}:(a::l).length=l.length+1:=rfl
theorem lN {α:Type}:([]:List α).length=0:=rfl
def kTx (l:List UInt8):List UInt8:=[5]++l
def sTx (e:Int)(r:Nat):List UInt8:=[8]++eI e++lb 32 r
theorem Z5 (l:List UInt8):(kTx l).length=1+l.length:=by unfold kTx;simp;omega
theorem Z6 (e:Int)(r:Nat):(sTx e r).length=41:=by unfold sTx;simp[V1,Q0]
attribute [local irreducible] eI be8 hs4 lb
end

section
abbrev J5u:=List UInt8×List UInt8
structure Md where
  l:List UInt8
  x:List UInt8
  ep:Nat
  ver:Nat
def vct (ms:List Md)(l:List UInt8):Nat:=(ms.filter fun m=>decide (m.l=l)).length
def mdp (ms:List Md)(e:Nat)(ps:List J5u):List Md:=ps.foldl (fun ms p=>ms++[⟨p.1,p.2,e,vct ms p.1+1⟩]) ms
def mdS:List Md→Nat→List (List J5u)→List Md
  |ms,_,[]=>ms
  |ms,e,ps::r=>mdS (mdp ms e ps) (e+1) r
theorem Y01 (ms:List Md)(e:Nat)(ps:List J5u)(p:J5u):mdp ms e (ps++[p])=mdp ms e ps++[⟨p.1,p.2,e,vct (mdp ms e ps) p.1+1⟩]:=by
  unfold mdp;rw[List.foldl_append];rfl
theorem Q9q:∀(r:List (List J5u)) (ms:List Md) (e:Nat) (ps:List J5u),mdS ms e (r++[ps])=mdp (mdS ms e r) (e+r.length) ps
  |[],_,_,_=>rfl
  |q::r,ms,e,ps=>by
    show mdS (mdp ms e q) (e+1) (r++[ps])=mdp (mdS (mdp ms e q) (e+1) r) _ ps;rw[Q9q r,show e+1+r.length=e+(q::r).length by rw[List.length_cons];omega]
def nub (acc:List (List UInt8)):List (List UInt8)→List (List UInt8)
  |[]=>acc
  |l::r=>nub (if l∈acc then acc else acc++[l]) r
theorem Q9r:∀(r:List (List UInt8)) (acc:List (List UInt8)) (l:List UInt8),nub acc (r++[l])=if l∈nub acc r then nub acc r else nub acc r++[l]
  |[],_,_=>rfl
  |x::r,acc,l=>by
    show nub (if x∈acc then acc else acc++[x]) (r++[l])=_;rw[Q9r r];rfl
theorem Z46:∀{r acc:List (List UInt8)} {l:List UInt8},l∈nub acc r↔l∈acc∨l∈r
  |[],acc,l=>by simp[nub]
  |x::r,acc,l=>by
    show l∈nub (if x∈acc then acc else acc++[x]) r↔_;rw[Z46,List.mem_cons]
    split
    · exact⟨fun h=>h.elim .inl fun h=> .inr (.inr h),fun h=>h.elim .inl fun h=>h.elim (fun h=> .inl (by rw[h];assumption)) .inr⟩
    · rw[List.mem_append,List.mem_singleton];exact or_assoc
theorem Q6c:∀{r acc:List (List UInt8)},acc.Nodup→(nub acc r).Nodup
  |[],_,h=>h
  |x::r,acc,h=>by
    refine Q6c (r:=r) ?_
    split
    · exact h
    · rename_i hx
      refine List.nodup_append.2 ⟨h,List.nodup_cons.2 ⟨by simp,.nil⟩,fun a ha b hb=> ?_⟩;rw[List.mem_singleton.1 hb];exact fun e=>hx (e▸ha)
theorem Z3q:∀{r acc:List (List UInt8)},acc<+:nub acc r
  |[],acc=>List.prefix_rfl
  |x::r,acc=>by
    refine List.IsPrefix.trans ?_ (Z3q (r:=r))
    split
    · exact List.prefix_rfl
    · exact List.prefix_append _ _
theorem Z3p:∀(r s acc:List (List UInt8)),nub acc (r++s)=nub (nub acc r) s
  |[],_,_=>rfl
  |x::r,s,acc=>Z3p r s _
structure DD where
  id:List UInt8
  vk:Nat
  bk:Nat
  L:Nat
  P:Nat
  E:Nat
  puts:List (List J5u)
  waits:List J5u
namespace DD
def made (D:DD):List Md:=mdS [] 0 D.puts
def labs (D:DD):List (List UInt8):=nub [] ((D.puts.flatten++D.waits).map (·.1))
def put (D:DD)(l x:List UInt8):DD:={D with waits:=D.waits++[(l,x)]}
def nxt (D:DD):DD:={D with puts:=D.puts++[D.waits],waits:=[]}
theorem made_put (D:DD)(l x:List UInt8):(D.put l x).made=D.made:=rfl
theorem made_nxt (D:DD):D.nxt.made=mdp D.made D.puts.length D.waits:=by
  unfold made nxt;rw[Q9q,Nat.zero_add]
theorem labs_put (D:DD)(l x:List UInt8):(D.put l x).labs=if l∈D.labs then D.labs else D.labs++[l]:=by
  unfold labs put;show nub [] ((D.puts.flatten++(D.waits++[(l,x)])).map _)=_;rw[←List.append_assoc,List.map_append,List.map_cons,List.map_nil,Q9r]
theorem labs_nxt (D:DD):D.nxt.labs=D.labs:=by
  unfold labs nxt;show nub [] (((D.puts++[D.waits]).flatten++[]).map _)=_;rw[List.append_nil,List.flatten_append,List.flatten_cons,List.flatten_nil,List.append_nil]
theorem labs_nodup (D:DD):D.labs.Nodup:=Q6c .nil
theorem mem_labs {D:DD}{l:List UInt8}:l∈D.labs↔∃p∈D.puts.flatten++D.waits,p.1=l:=by
  unfold labs;rw[Z46,List.mem_map];simp
end DD
theorem Z47 {e:Nat}:∀{ps:List J5u} {ms:List Md} {m:Md},m∈mdp ms e ps→m∈ms∨m.ep=e∧(m.l,m.x)∈ps
  |[],ms,m,h=> .inl h
  |p::ps,ms,m,h=>by
    rcases Z47 (ps:=ps) (ms:=ms++[⟨p.1,p.2,e,vct ms p.1+1⟩]) h with h|⟨h1,h2⟩
    · rcases List.mem_append.1 h with h|h
      · exact .inl h
      · rw[List.mem_singleton.1 h];exact .inr ⟨rfl,by simp⟩
    · exact .inr ⟨h1,by simp[h2]⟩
theorem Z48:∀{r:List (List J5u)} {ms:List Md} {e:Nat} {m:Md},m∈mdS ms e r→m∈ms∨e≤m.ep∧m.ep<e+r.length∧(m.l,m.x)∈r.flatten
  |[],_,_,_,h=> .inl h
  |q::r,ms,e,m,h=>by
    rcases Z48 (r:=r) (ms:=mdp ms e q) h with h|⟨h1,h2,h3⟩
    · rcases Z47 h with h|⟨h1,h2⟩
      · exact .inl h
      · exact .inr ⟨by omega,by rw[List.length_cons];omega,by rw[List.flatten_cons];exact List.mem_append.2 (.inl h2)⟩
    · exact .inr ⟨by omega,by rw[List.length_cons];omega,by rw[List.flatten_cons];exact List.mem_append.2 (.inr h3)⟩
theorem Z49 {e:Nat}:∀{ps:List J5u} {ms:List Md},∃t,mdp ms e ps=ms++t∧(∀m∈t,m.ep=e)∧t.length=ps.length
  |[],ms=>⟨[],by simp[mdp],by simp,rfl⟩
  |p::ps,ms=>by
    obtain⟨t,h1,h2,h3⟩:=Z49 (e:=e) (ps:=ps) (ms:=ms++[⟨p.1,p.2,e,vct ms p.1+1⟩]);refine⟨_::t,by show mdp (ms++_) e ps=_;rw[h1,List.append_assoc];rfl,fun m hm=> ?_,by rw[List.length_cons,List.length_cons,h3]⟩;rcases List.mem_cons.1 hm with rfl|hm
    · rfl
    · exact h2 m hm
namespace DD
theorem made_mem {D:DD}{m:Md}(h:m∈D.made):m.ep<D.puts.length∧(m.l,m.x)∈D.puts.flatten:=by
  rcases Z48 h with h|⟨_,h1,h2⟩
  · cases h
  exact⟨by omega,h2⟩
def upto (D:DD)(e:Nat):List Md:=D.made.filter fun m=>decide (m.ep≤e)
theorem upto_nxt_lt {D:DD}{e:Nat}(h:e<D.puts.length):D.nxt.upto e=D.upto e:=by
  unfold upto;rw[made_nxt];obtain⟨t,h1,h2,_⟩:=Z49 (e:=D.puts.length) (ps:=D.waits) (ms:=D.made);rw[h1,List.filter_append];have e2:t.filter (fun m=>decide (m.ep≤e))=[]:=List.filter_eq_nil_iff.2 fun m hm=>by rw[h2 m hm];simp;omega
  rw[e2,List.append_nil]
theorem upto_all {D:DD}{e:Nat}(h:D.puts.length≤e+1):D.upto e=D.made:=by
  unfold upto;exact List.filter_eq_self.2 fun m hm=>by have:=(made_mem hm).1;simp;omega
end DD
end
end Go.Proofs.YteehbddkcnkhfaaGreatDoor

namespace Go.Proofs.YteehbddkcnkhfaaGreatDoor.S8
open Sc (LL J0v)
attribute [local irreducible] hs
def J5w (V:Nat)(L:List UInt8)(c:Nat):Nat:=lo (hs ([3,1]++lb 32 V++L++[u8 c,0]))
def J43 (V:Nat)(L:List UInt8)(c:Nat):Pr:=pm (dPt (J5w V L c)) 8
def candOk (V:Nat)(L:List UInt8)(c:Nat):Bool:=dOk (J5w V L c) && !decide (J43 V L c=p0)
def Z84 (V:Nat)(L:List UInt8):Nat→Nat→Option Nat
  |0,_=>none
  |f+1,c=>if candOk V L c=true then some c else Z84 V L f (c+1)
def vpt (V:Nat)(L:List UInt8):Option Nat:=Z84 V L 256 0
theorem Q1l (V:Nat)(L:List UInt8)(c:Nat):J5w V L c<2^256:=lo_lt _
theorem Q6w {V:Nat}{L:List UInt8}{r:Nat}:∀f c,Z84 V L f c=some r→r<c+f∧candOk V L r=true∧∀i,c≤i→i<r→candOk V L i=false
  |0,c,h=>by cases h
  |f+1,c,h=>by
    unfold Z84 at h
    by_cases e:candOk V L c=true
    · rw[if_pos e] at h
      obtain rfl:=Option.some.inj h;exact⟨by omega,e,fun i h1 h2=>by omega⟩
    · rw[if_neg e] at h
      obtain⟨h1,h2,h3⟩:=Q6w f (c+1) h;refine⟨by omega,h2,fun i h4 h5=> ?_⟩
      by_cases e2:i=c
      · subst e2;simpa using e
      · exact h3 i (by omega) h5
theorem Q6x {V:Nat}{L:List UInt8}:∀f c,Z84 V L f c=none→∀i,c≤i→i<c+f→candOk V L i=false
  |0,c,_,i,h1,h2=>by omega
  |f+1,c,h,i,h1,h2=>by
    unfold Z84 at h
    by_cases e:candOk V L c=true
    · rw[if_pos e] at h;cases h
    · rw[if_neg e] at h
      by_cases e2:i=c
      · subst e2;simpa using e
      · exact Q6x f (c+1) h i (by omega) (by omega)
theorem vpt_some {V r:Nat}{L:List UInt8}(h:vpt V L=some r):r<256∧candOk V L r=true∧∀i,i<r→candOk V L i=false:=by
  obtain⟨h1,h2,h3⟩:=Q6w 256 0 h;exact⟨by omega,h2,fun i hi=>h3 i (Nat.zero_le _) hi⟩
theorem vpt_none {V:Nat}{L:List UInt8}(h:vpt V L=none):∀i,i<256→candOk V L i=false:=fun i hi=>Q6x 256 0 h i (Nat.zero_le _) (by omega)
theorem candOk_iff {V c:Nat}{L:List UInt8}:candOk V L c=true↔dOk (J5w V L c)=true∧¬J43 V L c=p0:=by
  unfold candOk;simp
theorem Z0q {V c:Nat}{L:List UInt8}(h:candOk V L c=false)(hd:dOk (J5w V L c)=true):J43 V L c=p0:=by
  unfold candOk at h;rw[hd] at h;simpa using h
def chH (V:Nat)(a b c d:Pr):Nat:=hs ([3,2]++lb 32 V++lb 32 (enc a)++lb 32 (enc b)++lb 32 (enc c)++lb 32 (enc d)++[0])
def J3z:Nat:=340282366920938463463374607431768211456
def ch (V:Nat)(a b c d:Pr):Nat:=chH V a b c d % J3z
def pG (P:Nat):Nat:=P % 2^256
def pC (P:Nat):Nat:=P / 2^256 % J3z
def pN (P:Nat):Nat:=P / 2^256 / J3z
def vK' (S:Nat)(h:Pr):Nat:=hs (lb 32 (kD S)++lb 32 (enc h)) % LL
def vC (S:Nat)(h:Pr):Nat:=ch (kP S) h (pm h (kN S)) (pm BP (vK' S h)) (pm h (vK' S h))
def vN (S:Nat)(h:Pr):Nat:=(vK' S h+vC S h % LL*(kN S % LL) % LL) % LL
def vPr (S:Nat)(h:Pr):Nat:=enc (pm h (kN S))+2^256*(vC S h+J3z*vN S h)
def Y86 (P:Nat):Nat:=hs ([3,3]++lb 32 (enc (pm (dPt (pG P)) 8))++[0])
end Go.Proofs.YteehbddkcnkhfaaGreatDoor.S8

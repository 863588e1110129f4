/- Contracts and plain laws for superSeals_holds. Conditions: the tables hold their numbers. -/
import Derived.Test.YtdjacgmmidbieaaGreatDoorS8Ec
import Derived.Test.YtdjacgmmidbieaaGreatDoorJ9
open Go renaming World->AA,Value->AB,bodyPost_ret->BH,execOp->AV,Oper->AF,IntKind->AI
open _root_.Nat renaming mod_eq_of_lt->AL,le_refl->AM,lt_trans->BL,mod_lt->AO,zero_add->AP,div_eq_of_lt->AR
open _root_.Array renaming size_append->BS
open Go.RowKit
set_option maxRecDepth 100000
set_option linter.unusedSimpArgs false
set_option linter.unusedVariables false
namespace Go.Proofs.YtdjacgmmidbieaaGreatDoor.S8
section
set_option maxHeartbeats 3000000
attribute [local irreducible] wpList K1 wpX

theorem Q8y (n q r:Nat)(hr:r<64):(K3 n q / 2^r) % 2=((n / 2^(64*q+r) % 2:Nat):Int):=by
 rw[←Q1y n q r hr];obtain⟨l0,l1⟩:=J0l n q;obtain⟨X,hX⟩:=Int.eq_ofNat_of_zero_le l0;rw[hX] at l1⊢;have e:((X:Int) / 2^r)=((X / 2^r:Nat):Int):=by push_cast;rfl
 have hl:X / 2^r≤X:=Nat.div_le_self _ _
 have e2:bits .and .u64 (((X / 2^r:Nat):Int)) ((1:Nat):Int)=((X / 2^r % 2:Nat):Int):=by
  rw[bits_and_u64_nat _ _ (by omega) (by omega),Nat.and_one_is_mod]
 rw[e];exact(Eq.trans e2 (by omega)).symm
theorem Z95 (n q r:Nat):0≤K3 n q / 2^r∧(K3 n q / 2^r).tmod 2=(K3 n q / 2^r) % 2:=by
 have h:0≤K3 n q / 2^r:=Int.ediv_nonneg (J0l n q).1 (Int.le_of_lt (Int.pow_pos (by decide)));exact⟨h,Int.tmod_eq_emod_of_nonneg h⟩
def mp (A n:Nat):Nat→Nat
 |0=>1
 |c+1=>if n / 2^(255-c) % 2=1 then(mp A n c*mp A n c % PP)*A % PP else mp A n c*mp A n c % PP
theorem Y6w (A n:Nat)(hn:n<J8):∀c,c≤256→mp A n c=pw A (n / 2^(256-c))
 |0,_=>by rw[show 256-0=256 by decide,AR (show n<2^256 from hn),Q6u];rfl
 |c+1,h=>by
  have ih:=Y6w A n hn c (by omega);rw[show 256-c=(255-c)+1 by omega] at ih;rw[show 256-(c+1)=255-c by omega];unfold mp;rw[ih]
  split
  ·
   rename_i h1;exact Q3c A n _ h1
  ·
   rename_i h1;exact Q6v A n _ (by omega)
theorem V46 (A n:Nat)(hn:n<J8):pw A n=mp A n 256:=by
 rw[Y6w A n hn 256 (by omega),show 256-256=0 by decide,Nat.pow_zero,Nat.div_one]
theorem V00 (X n:Nat)(hX:X<J8)(hn:n<J8)(w:AA):
  Calls Tryz.prog 117 #[A16 X,L4 n] w fun e w' =>V4 (A16 (pw X n)) w w' e:=by
 have hS:=SH.nil [] w
 go_enter Tryz.func117,Tryz.ntmps117
 go_upto_region 0 with fail;refine RL hS ?_;clear hS;refine MN (z:=J0 .i64 16 (Q9 X)) (t:=87) ?_;intro K9;refine MN (z:=c4 n) (t:=106) ?_;intro V;refine MN (z:=J0 .i64 16 (Q9 0)) (t:=87) ?_;intro U;refine MZ fun W hS=> ?_;go_upto_region 1 with fail;refine RL hS ?_;clear hS;refine MW ?_ (v:=.agg (J0 .i64 16 (Q9 1))) (hv:=by intro W;kernel_rfl);refine MN (z:=J0 .i64 16 (Q9 0)) (t:=87) ?_;intro Y;refine MR 0 ?_;refine MZ fun W hS=> ?_
 go_wp2_with fail
 go_loopw [6] (fun ii wr=> ∃(k:Nat)(R:Nat),(k≤256)∧(RowKit.Hid (R=pw X (n / 2^k)))∧(ii=.int .i64 ((k:Int)-1))∧SH [] w wr [.b Y (J0 .i64 16 (Q9 R)) 87,.b U (J0 .i64 16 (Q9 0)) 87,.b V (c4 n) 106,.b K9 (J0 .i64 16 (Q9 X)) 87])
  (fun ii _=>(intOf ii+1).toNat)
 case atStart=>exact⟨256,1,AM _,Lib.hid (by rw[AR (show n<2^256 from hn),Q6u]),rfl,hS⟩
 clear hS
 case round=>
  obtain⟨k,R,hk,hR,rfl,hS⟩:=hrel;have bR:R<J8:=by rw[hR.out];exact Q8r _ _
  by_cases M:k=0
  ·
   subst M;go_upto_region 3 with fail;refine RL hS ?_;clear hS;refine MV ?_;refine Wfo ?_;refine MZ fun W hS=> ?_;go_upto_region 8 with fail;refine RL hS ?_;clear hS;refine ML 0 ?_;refine MR 1 ?_;refine MZ fun W hS=> ?_;go_wp2;exact BH (Z5 rfl rfl (hS.blk (i:=1) rfl) (by kernel_rfl) (by kernel_rfl)) rfl ⟨by rw[hR.out,Nat.pow_zero,Nat.div_one];rfl,hS.ext⟩
  obtain⟨q,r,hr,rfl⟩:∃q r,r<64∧k=64*q+r+1:=⟨(k-1) / 64,(k-1) % 64,by omega,by omega⟩
  rw[show((64*q+r+1:Nat):Int)-1=64*(q:Int)+(r:Int) by omega];have d1:(64*(q:Int)+(r:Int)) / 64=(q:Int):=by omega
  have d2:(64*(q:Int)+(r:Int)) % 64=(r:Int):=by omega
  have β:(q:Int)<4:=by omega
  have γ:(r:Int)<64:=by omega
  have δ:(0:Int)≤64*(q:Int)+(r:Int):=by omega
  go_upto_region 3 with fail;refine RL hS ?_;clear hS;refine MV ?_;refine Wto ?_;refine MZ fun W hS=> ?_;go_upto_region 5 with fail;refine RL hS ?_;clear hS;refine ML 0 ?_;refine ML 0 ?_;obtain⟨U1,J⟩:=exh (R*R % PP);have Z:U1<J8:=by rw[J.out];exact J0i _
  refine MC (v:=.agg (J0 .i64 16 (Q9 U1))) (fun W hS=>(by rw[J.out];exact J2n R R bR bR W)) ?_;refine MR 0 ?_;refine MZ fun W hS=> ?_;rcases Nat.mod_two_eq_zero_or_one (n / 2^(64*q+r)) with D|D
  ·
   have c3:=(J5 (hS.blk (i:=2) rfl) q).trans (J3b n q (by omega));have HB:=Lib.hid D;have G:=Q8y n q r hr;rw[D] at G;obtain⟨T,S⟩:=Z95 n q r;rw[G] at S;go_wp2;go_roundw
   case rel=>exact⟨(64*q+r),U1,by omega,Lib.hid (by rw[J.out,hR.out];exact Q6v X n _ HB.out),by go_num,hS⟩
   case measure=>simp[intOf];omega
  have c3:=(J5 (hS.blk (i:=2) rfl) q).trans (J3b n q (by omega));have HB:=Lib.hid D;have G:=Q8y n q r hr;rw[D] at G;obtain⟨T,S⟩:=Z95 n q r;rw[G] at S;go_upto_region 7 with fail;refine RL hS ?_;clear hS;refine ML 0 ?_;refine ML 3 ?_;obtain⟨U2,N⟩:=exh (U1*X % PP);have α:U2<J8:=by rw[N.out];exact J0i _
  refine MC (v:=.agg (J0 .i64 16 (Q9 U2))) (fun W hS=>(by rw[N.out];exact J2n U1 X Z hX W)) ?_;refine MR 0 ?_;refine MZ fun W hS=> ?_;go_wp2;go_roundw
  case rel=>exact⟨(64*q+r),U2,by omega,Lib.hid (by rw[N.out,J.out,hR.out];exact Q3c X n _ HB.out),by go_num,hS⟩
  case measure=>simp[intOf];omega
theorem Y9w (X:Nat)(hX:X<J8)(w:AA):
  Calls Tryz.prog 72 #[A16 X] w fun e w' =>V4 (A16 (pw X (PP-2))) w w' e:=by
 have hS:=SH.nil [] w
 go_enter Tryz.func72,Tryz.ntmps72
 go_upto_region 0 with fail;refine RL hS ?_;clear hS;refine MN (z:=J0 .i64 16 (Q9 X)) (t:=87) ?_;intro J;refine MN (z:=J0 .i64 16 (Q9 0)) (t:=87) ?_;intro M;refine MZ fun W hS=> ?_;go_upto_region 2 with fail;refine RL hS ?_;clear hS;refine ML 1 ?_;refine MW ?_ (v:=.int .u64 18446744073709551615);refine MW ?_ (v:=.int .u64 18446744073709551595);(iterate 3 refine MW ?_ (v:=.int .u64 18446744073709551615));refine MW ?_ (v:=.int .u64 (sr 18446744073709551615 1)) (hv:=fun _=>J38 (n:=1) (by decide) rfl rfl rfl);refine MW ?_ (v:=.agg (c4 (PP-2))) (hv:=by intro W;kernel_rfl);obtain⟨U1,D⟩:=exh (pw X (PP-2));have G:U1<J8:=by rw[D.out];exact Q8r _ _
 refine MC (v:=.agg (J0 .i64 16 (Q9 U1))) (fun W hS=>(by rw[D.out];exact V00 X (PP-2) hX (by decide) W)) ?_;refine MR 0 ?_;refine MZ fun W hS=> ?_;go_wp2;exact BH (Z5 rfl rfl (hS.blk (i:=0) rfl) (by kernel_rfl) (by kernel_rfl)) rfl ⟨by rw[D.out];rfl,hS.ext⟩
end

section
set_option maxHeartbeats 3000000

theorem Q3k {A:Nat}(h:A<PP):A<J8:=BL h J67

end

section
set_option maxHeartbeats 3000000

theorem Q74 (X k:Nat):AI.u8.wrap (Q9 X k)=J6 X (2*k)∧AI.u8.wrap (Q9 X k / 256)=J6 X (2*k+1):=by
 unfold Q9 J6;rw[AI.wrap_u8,AI.wrap_u8,show 8*(2*k)=16*k by omega,show 8*(2*k+1)=16*k+8 by omega,Nat.pow_add,←Nat.div_div_eq_div_mul];generalize X / 2^(16*k)=x;constructor<;>omega

theorem rbytes_c (X:Nat)(w:AA):Calls Tryz.prog 74 #[A16 X] w fun e w' =>V4 (J9p 32 (J6 X)) w w' e:=by
 obtain⟨i0,hi,U,T,V⟩:=info_parts Q8a;unfold A16
 go_enter Tryz.func74,Tryz.ntmps74
 go_wp2
 go_loopw [3,4] (fun v ii wr=> ∃k:Nat,k≤16∧ii=.int .i64 k∧Below w.heap.size w wr∧wr.ownsRow (w.heap.size+1) 5 1 v (2*k) (J5g .u8 (2*k) (J6 X))∧
   Blk wr w.heap.size (J0 .i64 16 (Q9 X)) 87)
  (fun _ ii _=>(16-intOf ii).toNat)
 case atStart=>
  refine⟨0,by omega,rfl,?_,?_,Z6 (Y4 _ _ rfl) _⟩
  ·
   exact bz
  exact⟨rfl,.inr ⟨w.heap.size+1,0,#[],rfl,AM _,Y4 _ _ (by simp),AM _,by decide,rfl,rfl⟩⟩
 case round=>
  obtain⟨k,hk,rfl,G,D,b1⟩:=hrel
  by_cases S:k=16
  ·
   subst S;have hc:=J7h Tryz.underlying45 Tryz.underlying5 D 9 Tryz.underlying9;go_wp2
   go_ret
   exact⟨rfl,G⟩
  have hk' :(k:Int)<16:=by omega
  have c1:=(J5 b1 k).trans (Q6 _ _ _ _ (by omega));have r1:=X7 X k;obtain⟨α,β⟩:=Q74 X k;have R.size:=G.size;have HB:=Lib.hid G.size;have ag:u3.ownBlock≠some w.heap.size:=fun h=>by have:=(D.lt _ h).1;omega
  have M:∀k,u3.ownBlock=some k→w.heap.size+1≤k:=fun k hk=>(D.lt k hk).1;have HO:=Lib.hid M;clear M
  go_wp2_with fail
  go_region_held3 (fun W=>W.cell? ⟨w.heap.size,k,none⟩=some (.int .i64 (Q9 X k)))
   (first
    |go_keep
    |(rw[J.cell_far _ (by simp;omega) (Ne.symm ag)];first|assumption|(simp[*];done)))
   ((refine step_append_lies _ (by rfl) (.tmp 10) (.tmp 20) 45 (by rfl) (w.heap.size+1) 5 i0 (.int .u8 0) 1 1 Tryz.underlying45 hi U T V rfl (by omega) u3 (2*k) (J5g .u8 (2*k) (J6 X)) (by rfl) (by first|exact(D.alloc _).drew|exact(D.drew).alloc _)
       ⟨wr.heap.size,0,none⟩ 2 2 [.int .u8 (J6 X (2*k)),.int .u8 (J6 X (2*k+1))] (by rfl) (by rfl) (AA.news_of_block (cs:= #[.int .u8 (J6 X (2*k)),.int .u8 (J6 X (2*k+1))]) (t:=5) (fr:=(0,0)) (heap_alloc_new wr _)) (by simp[AB.oneCell'])
       (by omega) (by unfold maxLen;omega) (by omega) (by simp;omega) (wr.heap.size+1) (by simp) ?_;intro gg Y w1 N J γ Z))
  have M:=HO.out;rw[List.append_cons,←J89,←J89] at N;have hbel' :=Q56 ((G.alloc R.size (.cells #[.int .u8 (J6 X (2*k)),.int .u8 (J6 X (2*k+1))] 5)).drew) J (by simp;omega) (fun k hk=>by have:=M k hk;omega);have b1' :=Q57 (Y3 (Z6 b1 _)) J (fun k hk=>by have:=M k hk;omega);go_wp2;go_roundw
  case rel=>
   exact⟨k+1,by omega,by go_num,hbel',N,b1'⟩
  case measure=>simp[intOf];omega
end

section
set_option maxHeartbeats 3000000

end

section

def DD:Nat:=37095705934669439343138083508754565189542113879843219016388785533085940283555
def dd:Fp:=fp DD
def ii:Fp:=fp II
theorem Y71:ii*ii= -1:=Y70
theorem V06:pw DD ((PP-1) / 2)=PP-1:=by rw[V46 _ _ (by decide)];decide+kernel
theorem Y72 (s:Fp):s*s≠dd:=by
  intro h;have h1:fp (s.val*s.val)=fp DD:=by rw[J1g,J47];exact h
  obtain⟨E,hE⟩:∃E,E=(PP-1) / 2:=⟨_,rfl⟩
  have D:2*E=PP-1:=by rw[hE];decide+kernel
  have hp:=V06;rw[←hE] at hp;unfold pw at hp;obtain⟨M,hM⟩:∃M,M=PP-1:=⟨_,rfl⟩
  have hf:¬s.val % PP=0→s.val^M % PP=1:=fun h0=>by rw[hM];exact genP.fermat h0
  have G:0<M:=by rw[hM];decide+kernel
  have J:M≠1:=by rw[hM];decide+kernel
  rw[←hM] at D hp;clear hM hE
  have h2:(s.val*s.val)^E % PP=M:=by
    rw[Nat.pow_mod,fp_eq.1 h1,←Nat.pow_mod];exact hp
  have h3:(s.val*s.val)^E=s.val^M:=by
    rw[show s.val*s.val=s.val^2 by rw[Nat.pow_succ,Nat.pow_one],←Nat.pow_mul,D]
  rw[h3] at h2
  by_cases h0:s.val % PP=0
  · rw[Nat.pow_mod,h0,Nat.zero_pow G,Nat.zero_mod] at h2
    omega
  rw[hf h0] at h2;omega
abbrev Pr:=Fp×Fp
def OnC (p:Pr):Prop:=p.2*p.2-p.1*p.1=1+dd*(p.1*p.1)*(p.2*p.2)
theorem X9 {x y:Fp}(hx:x≠0)(hy:y≠0):x*y≠0:=fun h=>(J3t h).elim hx hy
theorem Q77 {a b:Fp}(hb:b≠0):a*a≠dd*(b*b):=by
  intro h;have hi:=J0m hb;exact Y72 (a*J3k b) (by grind)
theorem V4i:dd≠0:=fun h=>Y72 0 (by grind)
theorem Q8z {x1 y1 x2 y2 s:Fp}(h1:y1*y1-x1*x1=1+dd*(x1*x1)*(y1*y1))(h2:y2*y2-x2*x2=1+dd*(x2*x2)*(y2*y2))(hs:s*s=1)(he:dd*(x1*x2*y1*y2)=s):False:=by
  have hi:=Y71;have k1:(ii*x1+s*y1)*(ii*x1+s*y1)=dd*((x1*y1*(ii*x2+y2))*(x1*y1*(ii*x2+y2))):=by grind
  have k2:(ii*x1-s*y1)*(ii*x1-s*y1)=dd*((x1*y1*(ii*x2-y2))*(x1*y1*(ii*x2-y2))):=by grind
  have e1:x1*y1*(ii*x2+y2)=0:=Classical.byContradiction fun h=>Q77 h k1;have e2:x1*y1*(ii*x2-y2)=0:=Classical.byContradiction fun h=>Q77 h k2
  have n1:x1*y1≠0:=by
    intro h;have:s=0:=by grind
    rw[this] at hs;have:(1:Fp)=0:=by grind
    revert this;decide+kernel
  rcases J3t e1 with h|h
  · exact n1 h
  rcases J3t e2 with h' |h'
  · exact n1 h'
  have hx:x2+x2=0:=by
    have:ii*(x2+x2)=0:=by grind
    exact(J3t this).resolve_left fun h=>by rw[h] at hi;revert hi;decide+kernel
  have D:s+s=0:=by rw[←he];clear he hs k1 k2 e1 e2 h h' h1 h2 n1 hi;grind
  have h4:(4:Fp)=(s+s)*(s+s):=by
    have:(s+s)*(s+s)=4*(s*s):=by clear he k1 k2 e1 e2 h h' h1 h2 n1 hi hx hs D;grind
    rw[this,hs];decide+kernel
  rw[D] at h4;exact absurd h4 (by decide+kernel)
theorem Q1a {p q:Pr}(hp:OnC p)(hq:OnC q):1+dd*(p.1*q.1*p.2*q.2)≠0:=fun h=>
  Q8z (s:= -1) hp hq (by grind) (by grind)
theorem Q06 {p q:Pr}(hp:OnC p)(hq:OnC q):1-dd*(p.1*q.1*p.2*q.2)≠0:=fun h=>
  Q8z (s:=1) hp hq (by grind) (by grind)
def J15 (p q:Pr):Pr:=((p.1*q.2+q.1*p.2)*J3k (1+dd*(p.1*q.1*p.2*q.2)),(p.2*q.2+p.1*q.1)*J3k (1-dd*(p.1*q.1*p.2*q.2)))
def J6o (p:Pr):Pr:=(-p.1,p.2)
def p0:Pr:=(0,1)
theorem Z9a:OnC p0:=by unfold OnC p0;grind
theorem Q78 {p:Pr}(h:OnC p):OnC (J6o p):=by unfold OnC J6o at*;grind
theorem Z5g (p q:Pr):J15 p q=J15 q p:=by
  unfold J15;rw[show p.1*q.1*p.2*q.2=q.1*p.1*q.2*p.2 by grind,show p.1*q.2+q.1*p.2=q.1*p.2+p.1*q.2 by grind,show p.2*q.2+p.1*q.1=q.2*p.2+q.1*p.1 by grind]
theorem Q90:J3k 1=1:=by
  have:=J0m (x:=1) (by decide+kernel)
  grind
theorem V7g (a b:Fp):(1:Fp)+dd*(0*a*1*b)=1:=by
  have:dd*((0:Fp)*a*1*b)=0:=by grind
  rw[this];exact Fin.add_zero 1
theorem V4j (a b:Fp):(1:Fp)-dd*(0*a*1*b)=1:=by
  have:dd*((0:Fp)*a*1*b)=0:=by grind
  rw[this];show(1:Fp)-0=1;decide+kernel
theorem Q79 (p:Pr):J15 p0 p=p:=by
  unfold J15 p0;refine Prod.ext ?_ ?_
  · show(0*p.2+p.1*1)*J3k (1+dd*(0*p.1*1*p.2))=p.1
    rw[V7g,Q90];grind
  show(1*p.2+0*p.1)*J3k (1-dd*(0*p.1*1*p.2))=p.2;rw[V4j,Q90];grind
theorem Z5h {x1 y1 x2 y2 u v d:Fp}(h1:y1*y1-x1*x1=1+d*(x1*x1)*(y1*y1))(h2:y2*y2-x2*x2=1+d*(x2*x2)*(y2*y2))
    (hu:(1+d*(x1*x2*y1*y2))*u=1) (hv:(1-d*(x1*x2*y1*y2))*v=1):
    (y1*y2+x1*x2)*v*((y1*y2+x1*x2)*v)-(x1*y2+x2*y1)*u*((x1*y2+x2*y1)*u)=1+d*((x1*y2+x2*y1)*u*((x1*y2+x2*y1)*u))*((y1*y2+x1*x2)*v*((y1*y2+x1*x2)*v)):=by
  have e:∀D M:Fp,D=d*(x1*x2*y1*y2)→(y1*y2+x1*x2)*(y1*y2+x1*x2)*((1+D)*(1+D))-(x1*y2+x2*y1)*(x1*y2+x2*y1)*((1-D)*(1-D))=(1+D)*(1+D)*((1-D)*(1-D))+d*((x1*y2+x2*y1)*(x1*y2+x2*y1))*((y1*y2+x1*x2)*(y1*y2+x1*x2)):=by
    intro D M hD
    grind
  have e' :=e _ 0 rfl;generalize (y1*y2+x1*x2)=B at*;generalize (x1*y2+x2*y1)=A at*;generalize d*(x1*x2*y1*y2)=D at*;clear h1 h2 e
  grind
theorem J8e {p q:Pr}(hp:OnC p)(hq:OnC q):OnC (J15 p q):=
  Z5h hp hq (J0m (Q1a hp hq)) (J0m (Q06 hp hq))
theorem Z3f {a b c d:Fp}(hb:b≠0)(hd:d≠0)(h:a*d=c*b):a*J3k b=c*J3k d:=by
  have h1:=J0m hb;have h2:=J0m hd;have:a*J3k b=a*d*(J3k b*J3k d):=by grind
  rw[this,h]
  grind
theorem Y3k {c x1 y1 x2 y2 x3 y3 A B S M A' B' S' M' :Fp}(h1:x1*x1*(y1*y1)=c*(y1*y1-x1*x1-1))(h2:x2*x2*(y2*y2)=c*(y2*y2-x2*x2-1))(h3:x3*x3*(y3*y3)=c*(y3*y3-x3*x3-1))
    (hA:A=x1*y2+x2*y1) (hB:B=y1*y2+x1*x2) (hS:S=c+x1*x2*y1*y2) (hM:M=c-x1*x2*y1*y2)
    (hA' :A' =x2*y3+x3*y2) (hB' :B' =y2*y3+x2*x3) (hS' :S' =c+x2*x3*y2*y3) (hM' :M' =c-x2*x3*y2*y3):
    (A*M*y3+x3*B*S)*(S' *M' +c*x1*A' *y1*B')=(x1*B' *S' +A' *M' *y1)*(S*M+c*A*x3*B*y3):=by
  subst hA hB hS hM hA' hB' hS' hM'
  grind
theorem Y3l {c x1 y1 x2 y2 x3 y3 A B S M A' B' S' M' :Fp}(h1:x1*x1*(y1*y1)=c*(y1*y1-x1*x1-1))(h2:x2*x2*(y2*y2)=c*(y2*y2-x2*x2-1))(h3:x3*x3*(y3*y3)=c*(y3*y3-x3*x3-1))
    (hA:A=x1*y2+x2*y1) (hB:B=y1*y2+x1*x2) (hS:S=c+x1*x2*y1*y2) (hM:M=c-x1*x2*y1*y2)
    (hA' :A' =x2*y3+x3*y2) (hB' :B' =y2*y3+x2*x3) (hS' :S' =c+x2*x3*y2*y3) (hM' :M' =c-x2*x3*y2*y3):
    (B*S*y3+A*M*x3)*(S' *M' -c*x1*A' *y1*B')=(y1*B' *S' +x1*A' *M')*(S*M-c*A*x3*B*y3):=by
  subst hA hB hS hM hA' hB' hS' hM'
  grind
theorem Z5i {c x y:Fp}(hc:dd*c=1)(h:y*y-x*x=1+dd*(x*x)*(y*y)):x*x*(y*y)=c*(y*y-x*x-1):=by grind
theorem Q7a {k a b:Fp}(hk:k≠0)(h:k*a=k*b):a=b:=by
  have h1:=J0m hk
  grind
theorem V4k {c d D1 D2 E1 E2 A B A' B' S M S' M' X Y X' Y' :Fp}(hc:d*c=1)(hS:S=c*D1)(hM:M=c*D2)(hS' :S' =c*E1)(hM' :M' =c*E2)(hA:A=X*D1)(hB:B=Y*D2)(hA' :A' =X' *E1)(hB' :B' =Y' *E2)(x1 y1 x3 y3:Fp)
    (h:(A*M*y3+x3*B*S)*(S' *M' +c*x1*A' *y1*B')=(x1*B' *S' +A' *M' *y1)*(S*M+c*A*x3*B*y3)):
    (c*c*c*(D1*D2)*(E1*E2))*((X*y3+x3*Y)*(1+d*(x1*X' *y1*Y')))=(c*c*c*(D1*D2)*(E1*E2))*((x1*Y' +X' *y1)*(1+d*(X*x3*Y*y3))):=by
  have e1:A*M*y3+x3*B*S=c*(D1*D2)*(X*y3+x3*Y):=by rw[hA,hM,hB,hS];clear h;grind
  have e2:S' *M' +c*x1*A' *y1*B' =c*c*(E1*E2)*(1+d*(x1*X' *y1*Y')):=by rw[hS',hM',hA',hB'];clear h e1;grind
  have e3:x1*B' *S' +A' *M' *y1=c*(E1*E2)*(x1*Y' +X' *y1):=by rw[hS',hM',hA',hB'];clear h e1 e2;grind
  have e4:S*M+c*A*x3*B*y3=c*c*(D1*D2)*(1+d*(X*x3*Y*y3)):=by rw[hS,hM,hA,hB];clear h e1 e2 e3;grind
  rw[e1,e2,e3,e4] at h;generalize X*y3+x3*Y=a at*;generalize 1+d*(x1*X' *y1*Y')=b at*;generalize x1*Y' +X' *y1=e at*;generalize 1+d*(X*x3*Y*y3)=f at*;clear e1 e2 e3 e4 hS hM hS' hM' hA hB hA' hB'
  grind
theorem V07 {c d D1 D2 E1 E2 A B A' B' S M S' M' X Y X' Y' :Fp}(hc:d*c=1)(hS:S=c*D1)(hM:M=c*D2)(hS' :S' =c*E1)(hM' :M' =c*E2)(hA:A=X*D1)(hB:B=Y*D2)(hA' :A' =X' *E1)(hB' :B' =Y' *E2)(x1 y1 x3 y3:Fp)
    (h:(B*S*y3+A*M*x3)*(S' *M' -c*x1*A' *y1*B')=(y1*B' *S' +x1*A' *M')*(S*M-c*A*x3*B*y3)):
    (c*c*c*(D1*D2)*(E1*E2))*((Y*y3+X*x3)*(1-d*(x1*X' *y1*Y')))=(c*c*c*(D1*D2)*(E1*E2))*((y1*Y' +x1*X')*(1-d*(X*x3*Y*y3))):=by
  have e1:B*S*y3+A*M*x3=c*(D1*D2)*(Y*y3+X*x3):=by rw[hA,hM,hB,hS];clear h;grind
  have e2:S' *M' -c*x1*A' *y1*B' =c*c*(E1*E2)*(1-d*(x1*X' *y1*Y')):=by rw[hS',hM',hA',hB'];clear h e1;grind
  have e3:y1*B' *S' +x1*A' *M' =c*(E1*E2)*(y1*Y' +x1*X'):=by rw[hS',hM',hA',hB'];clear h e1 e2;grind
  have e4:S*M-c*A*x3*B*y3=c*c*(D1*D2)*(1-d*(X*x3*Y*y3)):=by rw[hS,hM,hA,hB];clear h e1 e2 e3;grind
  rw[e1,e2,e3,e4] at h;generalize Y*y3+X*x3=a at*;generalize 1-d*(x1*X' *y1*Y')=b at*;generalize y1*Y' +x1*X' =e at*;generalize 1-d*(X*x3*Y*y3)=f at*;clear e1 e2 e3 e4 hS hM hS' hM' hA hB hA' hB'
  grind
theorem Q7b {a b x:Fp}(hb:b≠0)(hx:x=a*J3k b):a=x*b:=by
  have:=J0m hb
  grind
theorem sS {c d:Fp}(hc:d*c=1)(t:Fp):c+t=c*(1+d*t):=by grind
theorem sM {c d:Fp}(hc:d*c=1)(t:Fp):c-t=c*(1-d*t):=by grind
theorem Q3l {p q r:Pr}(hp:OnC p)(hq:OnC q)(hr:OnC r):J15 (J15 p q) r=J15 p (J15 q r):=by
  have hc:=J0m V4i;have pq:=J8e hp hq;have qr:=J8e hq hr;have d1:=Q1a hp hq;have d2:=Q06 hp hq;have e1:=Q1a hq hr;have e2:=Q06 hq hr;have b1:=Q1a pq hr;have b2:=Q06 pq hr;have b3:=Q1a hp qr;have b4:=Q06 hp qr
  have hk:J3k dd*J3k dd*J3k dd*((1+dd*(p.1*q.1*p.2*q.2))*(1-dd*(p.1*q.1*p.2*q.2)))*((1+dd*(q.1*r.1*q.2*r.2))*(1-dd*(q.1*r.1*q.2*r.2)))≠0:=by
    have D:J3k dd≠0:=fun h=>by
      rw[h] at hc;revert hc;generalize dd=z;intro hc;have:(1:Fp)=0:=by rw[←hc];exact Fin.mul_zero z
      revert this;decide+kernel
    exact X9 (X9 (X9 (X9 D D) D) (X9 d1 d2)) (X9 e1 e2)
  obtain⟨X,hX⟩:∃X,X=(J15 p q).1:=⟨_,rfl⟩
  obtain⟨Y,hY⟩:∃X,X=(J15 p q).2:=⟨_,rfl⟩
  obtain⟨X',J⟩:∃X,X=(J15 q r).1:=⟨_,rfl⟩
  obtain⟨Y',G⟩:∃X,X=(J15 q r).2:=⟨_,rfl⟩
  have kA:=Q7b d1 hX;have kB:=Q7b d2 hY;have kA' :=Q7b e1 J;have kB' :=Q7b e2 G;have hS:=sS hc;have hM:=sM hc
  have f1:=V4k hc (hS (p.1*q.1*p.2*q.2)) (hM _) (hS (q.1*r.1*q.2*r.2)) (hM _) kA kB kA' kB' p.1 p.2 r.1 r.2
    (Y3k (Z5i hc hp) (Z5i hc hq) (Z5i hc hr) rfl rfl rfl rfl rfl rfl rfl rfl)
  have f2:=V07 hc (hS (p.1*q.1*p.2*q.2)) (hM _) (hS (q.1*r.1*q.2*r.2)) (hM _) kA kB kA' kB' p.1 p.2 r.1 r.2
    (Y3l (Z5i hc hp) (Z5i hc hq) (Z5i hc hr) rfl rfl rfl rfl rfl rfl rfl rfl)
  have g1:=Q7a hk f1;have g2:=Q7a hk f2;rw[hX,hY,J,G] at g1 g2;refine Prod.ext ?_ ?_
  · exact Z3f b1 b3 g1
  exact Z3f b2 b4 g2
theorem Z9b {p:Pr}(hp:OnC p):J15 p (J6o p)=p0:=by
  have d2:=Q06 hp (Q78 hp);have h2:=J0m d2;unfold J15 J6o p0 at*;refine Prod.ext ?_ ?_
  · show(p.1*p.2+ -p.1*p.2)*_=0
    have:p.1*p.2+ -p.1*p.2=0:=by grind
    rw[this];exact Fin.zero_mul _
  have e:p.2*p.2+p.1* -p.1=1-dd*(p.1* -p.1*p.2*p.2):=by unfold OnC at hp;grind
  show(p.2*p.2+p.1* -p.1)*J3k (1-dd*(p.1* -p.1*p.2*p.2))=1;rw[e];exact h2
theorem Z3g (p:Pr):J15 p p0=p:=by rw[Z5g,Q79]
def pm (p:Pr):Nat→Pr
  |0=>p0
  |n+1=>J15 (pm p n) p
theorem Q1b {p:Pr}(hp:OnC p):∀n,OnC (pm p n)
  |0=>Z9a
  |n+1=>J8e (Q1b hp n) hp
theorem Q3m {p:Pr}(hp:OnC p)(m:Nat):∀n,pm p (m+n)=J15 (pm p m) (pm p n)
  |0=>(Z3g _).symm
  |n+1=>by
    show J15 (pm p (m+n)) p=J15 (pm p m) (J15 (pm p n) p);rw[Q3m hp m n,Q3l (Q1b hp m) (Q1b hp n) hp]
theorem Q3i {p:Pr}(hp:OnC p)(m:Nat):pm p (2*m)=J15 (pm p m) (pm p m):=by rw[Nat.two_mul,Q3m hp]
theorem Y9o {p:Pr}(hp:OnC p)(m:Nat):pm p (2*m+1)=J15 (J15 (pm p m) (pm p m)) p:=by rw[←Q3i hp];rfl
theorem Y73:∀n,pm p0 n=p0
  |0=>rfl
  |n+1=>by show J15 (pm p0 n) p0=p0;rw[Y73 n,Q79]
theorem Z11 {p:Pr}(hp:OnC p)(m:Nat):∀n,pm p (m*n)=pm (pm p m) n
  |0=>rfl
  |n+1=>by rw[Nat.mul_succ,Q3m hp,Z11 hp m n];rfl
theorem Z5j {p q:Pr}:J6o (J15 p q)=J15 (J6o p) (J6o q):=by
  unfold J15 J6o;refine Prod.ext ?_ ?_
  · show-((p.1*q.2+q.1*p.2)*J3k (1+dd*(p.1*q.1*p.2*q.2)))=(-p.1*q.2+ -q.1*p.2)*J3k (1+dd*(-p.1* -q.1*p.2*q.2))
    rw[show-p.1* -q.1*p.2*q.2=p.1*q.1*p.2*q.2 by grind];grind
  show(p.2*q.2+p.1*q.1)*J3k (1-dd*(p.1*q.1*p.2*q.2))=(p.2*q.2+ -p.1* -q.1)*J3k (1-dd*(-p.1* -q.1*p.2*q.2));rw[show-p.1* -q.1*p.2*q.2=p.1*q.1*p.2*q.2 by grind,show-p.1* -q.1=p.1*q.1 by grind]
theorem pneg_p0:J6o p0=p0:=by
  unfold J6o p0;refine Prod.ext ?_ rfl;show-(0:Fp)=0;decide+kernel
theorem Z3h (p:Pr):∀n,pm (J6o p) n=J6o (pm p n)
  |0=>pneg_p0.symm
  |n+1=>by show J15 (pm (J6o p) n) (J6o p)=J6o (J15 (pm p n) p);rw[Z3h p n,Z5j]
/-! ### the formulas of the code: a point is (X : Y : Z : T) -/
def Rc (X Y Z T:Fp)(a:Pr):Prop:=Z≠0∧X=a.1*Z∧Y=a.2*Z∧T=a.1*a.2*Z
def Rr (X Y Z:Fp)(a:Pr):Prop:=Z≠0∧X=a.1*Z∧Y=a.2*Z
theorem Rc.rr {X Y Z T:Fp}{a:Pr}(h:Rc X Y Z T a):Rr X Y Z a:=⟨h.1,h.2.1,h.2.2.1⟩
theorem V08:(2:Fp)≠0:=by decide+kernel
theorem Y74 {E F G H:Fp}{x y:Fp}(hF:F≠0)(hG:G≠0)(hx:E=x*G)(hy:H=y*F):Rc (E*F) (G*H) (F*G) (E*H) (x,y):=
  ⟨X9 hF hG,by subst hx hy;show x*G*F=x*(F*G);grind,by subst hx hy;show G*(y*F)=y*(F*G);grind,by subst hx hy;show x*G*(y*F)=x*y*(F*G);grind⟩
theorem V09 {X1 Y1 Z1 T1 X2 Y2 Z2 T2:Fp}{a b:Pr}(ha:OnC a)(hb:OnC b)(h1:Rc X1 Y1 Z1 T1 a)(h2:Rc X2 Y2 Z2 T2 b){A B C D:Fp}
    (hA:A=(Y1-X1)*(Y2-X2)) (hB:B=(Y1+X1)*(Y2+X2)) (hC:C=T1*(2*dd)*T2) (hD:D=(Z1+Z1)*Z2):
    Rc ((B-A)*(D-C)) ((D+C)*(B+A)) ((D-C)*(D+C)) ((B-A)*(B+A)) (J15 a b):=by
  obtain⟨z1,x1,y1,t1⟩:=h1;obtain⟨z2,x2,y2,t2⟩:=h2;have dp:=Q1a ha hb;have dm:=Q06 ha hb;have eF:D-C=2*Z1*Z2*(1-dd*(a.1*b.1*a.2*b.2)):=by subst hC hD t1 t2;grind
  have eG:D+C=2*Z1*Z2*(1+dd*(a.1*b.1*a.2*b.2)):=by subst hC hD t1 t2;clear eF;grind
  have nz:2*Z1*Z2≠0:=X9 (X9 V08 z1) z2;refine Y74 (by rw[eF];exact X9 nz dm) (by rw[eG];exact X9 nz dp) ?_ ?_
  · have k:=J0m dp
    rw[eG];have e:B-A=2*Z1*Z2*(a.1*b.2+b.1*a.2):=by subst hA hB x1 x2 y1 y2;clear eF eG k;grind
    rw[e];generalize 1+dd*(a.1*b.1*a.2*b.2)=u at*;generalize a.1*b.2+b.1*a.2=s at*;clear eF eG e hA hB hC hD x1 x2 y1 y2 t1 t2 nz z1 z2 dm dp ha hb
    grind
  have k:=J0m dm;rw[eF];have e:B+A=2*Z1*Z2*(a.2*b.2+a.1*b.1):=by subst hA hB x1 x2 y1 y2;clear eF eG k;grind
  rw[e];generalize 1-dd*(a.1*b.1*a.2*b.2)=u at*;generalize a.2*b.2+a.1*b.1=s at*;clear eF eG e hA hB hC hD x1 x2 y1 y2 t1 t2 nz z1 z2 dm dp ha hb
  grind
theorem Z9c {X Y Z T:Fp}{a:Pr}(ha:OnC a)(h:Rc X Y Z T a){A B C E G H F:Fp}(hA:A=X*X)(hB:B=Y*Y)(hC:C=Z*Z+Z*Z)(hH:H=A+B)(hE:E=H-(X+Y)*(X+Y))(hG:G=A-B)(hF:F=C+G):
    Rc (E*F) (G*H) (F*G) (E*H) (J15 a a):=by
  obtain⟨z,x,y,t⟩:=h;have dp:=Q1a ha ha;have dm:=Q06 ha ha;unfold OnC at ha;have eG:G= -(Z*Z)*(1+dd*(a.1*a.1*a.2*a.2)):=by subst hG hA hB x y;clear hE hH hF hC;grind
  have eF:F=Z*Z*(1-dd*(a.1*a.1*a.2*a.2)):=by rw[hF,eG,hC];clear hE hH hF hC hG eG;grind
  have zz:=X9 z z;have D: -(Z*Z)≠0:=fun h=>zz (by grind);refine Y74 (by rw[eF];exact X9 zz dm) (by rw[eG];exact X9 D dp) ?_ ?_
  · have k:=J0m dp
    have e:E= -(Z*Z)*(a.1*a.2+a.1*a.2):=by subst hE hH hA hB x y;clear eF eG k hG hF hC;grind
    rw[eG,e];generalize 1+dd*(a.1*a.1*a.2*a.2)=u at*;generalize a.1*a.2+a.1*a.2=s at*;clear eF eG e hA hB hC hE hG hF hH x y t D zz z dm dp ha
    grind
  have k:=J0m dm;have e:H=Z*Z*(a.2*a.2+a.1*a.1):=by subst hH hA hB x y;clear eF eG k hG hF hC hE;grind
  rw[eF,e];generalize 1-dd*(a.1*a.1*a.2*a.2)=u at*;generalize a.2*a.2+a.1*a.1=s at*;clear eF eG e hA hB hC hE hG hF hH x y t D zz z dm dp ha
  grind
theorem V0a {X1 Y1 Z1 X2 Y2 Z2:Fp}{a b:Pr}(ha:OnC a)(hb:OnC b)(h1:Rr X1 Y1 Z1 a)(h2:Rr X2 Y2 Z2 b){A B C D E F G S:Fp}
    (hA:A=Z1*Z2) (hB:B=A*A) (hC:C=X1*X2) (hD:D=Y1*Y2) (hE:E=dd*(C*D)) (hF:F=B-E) (hG:G=B+E) (hS:S=(X1+Y1)*(X2+Y2)):
    Rr (A*F*(S-(C+D))) (A*G*(C+D)) (F*G) (J15 a b):=by
  obtain⟨z1,x1,y1⟩:=h1;obtain⟨z2,x2,y2⟩:=h2;have dp:=Q1a ha hb;have dm:=Q06 ha hb;have zz:=X9 z1 z2;rw[←hA] at zz;have eE:E=A*A*(dd*(a.1*b.1*a.2*b.2)):=by subst hE hC hD hA x1 x2 y1 y2;clear hB hF hG hS;grind
  have eF:F=A*A*(1-dd*(a.1*b.1*a.2*b.2)):=by rw[hF,hB,eE];clear hA hB hF hG hS hC hD hE eE;grind
  have eG:G=A*A*(1+dd*(a.1*b.1*a.2*b.2)):=by rw[hG,hB,eE];clear hA hB hF hG hS hC hD hE eE eF;grind
  have hS' :S-(C+D)=A*(a.1*b.2+b.1*a.2):=by subst hS hC hD hA x1 x2 y1 y2;clear hB hF hG hE eE eF eG;grind
  have hT' :C+D=A*(a.2*b.2+a.1*b.1):=by subst hC hD hA x1 x2 y1 y2;clear hB hF hG hE eE eF eG hS hS';grind
  have kp:=J0m dp;have km:=J0m dm;refine⟨by rw[eF,eG];exact X9 (X9 (X9 zz zz) dm) (X9 (X9 zz zz) dp),?_,?_⟩
  · show A*F*(S-(C+D))=((a.1*b.2+b.1*a.2)*J3k (1+dd*(a.1*b.1*a.2*b.2)))*(F*G)
    rw[hS',eF,eG];generalize 1+dd*(a.1*b.1*a.2*b.2)=u at*;generalize 1-dd*(a.1*b.1*a.2*b.2)=v at*;generalize a.1*b.2+b.1*a.2=s at*;clear hS' hT' eF eG eE hA hB hC hD hE hF hG hS x1 x2 y1 y2 z1 z2 km ha hb dp dm zz
    grind
  show A*G*(C+D)=((a.2*b.2+a.1*b.1)*J3k (1-dd*(a.1*b.1*a.2*b.2)))*(F*G);rw[hT',eF,eG];generalize 1+dd*(a.1*b.1*a.2*b.2)=u at*;generalize 1-dd*(a.1*b.1*a.2*b.2)=v at*;generalize a.2*b.2+a.1*b.1=s at*;clear hS' hT' eF eG eE hA hB hC hD hE hF hG hS x1 x2 y1 y2 z1 z2 kp ha hb dp dm zz
  grind
theorem V0b {X Y Z:Fp}{a:Pr}(h:Rr X Y Z a):X*J3k Z=a.1∧Y*J3k Z=a.2:=by
  obtain⟨z,x,y⟩:=h;have:=J0m z;subst x y;constructor<;>grind
end

section

/-! ### The root of a quotient -/
theorem Z12 (A n:Nat):fp (pw (A % PP) n)=fp (A^n):=by
  unfold pw;rw[J0v];exact fp_eq.2 (by rw[←Nat.pow_mod])
theorem Z9d (u v E:Nat)(hE:E=7237005577332262213973186563042994240829374041602535252466099000494570602493):fp (rtX u v)=fp u*(fp v*fp v*fp v)*fp ((u*v7 v)^E):=by
  unfold rtX;rw[←hE,J0v,J1g,J0v,J1g,Y6z,Z12]
theorem Y3m (V X E:Nat)(hE:8*E+4=PP-1)(hV:V % PP≠0)(hX:X % PP≠0):fp ((V*V*(V*V)*(V*V*(V*V))*(X*X))^(2*E+1))*fp ((V*V*(V*V)*(V*V*(V*V))*(X*X))^(2*E+1))=1:=by
  rw[←J1g,←Q0u];refine fp_eq.2 ?_;obtain⟨M,hM⟩:∃M,M=PP-1:=⟨_,rfl⟩
  have f1:V^M % PP=1:=by rw[hM];exact genP.fermat hV
  have f2:X^M % PP=1:=by rw[hM];exact genP.fermat hX
  rw[←hM] at hE;clear hM
  have e:(V*V*(V*V)*(V*V*(V*V))*(X*X))^(2*E+1)*(V*V*(V*V)*(V*V*(V*V))*(X*X))^(2*E+1)=(V^M*V^M*(V^M*V^M))*X^M:=by
    have a1:V*V*(V*V)*(V*V*(V*V))=V^8:=by simp only[Nat.pow_succ,Nat.pow_zero,Nat.one_mul,Nat.mul_assoc]
    have a2:X*X=X^2:=by simp only[Nat.pow_succ,Nat.pow_zero,Nat.one_mul]
    rw[a1,a2];simp only[←Nat.pow_add,Nat.mul_pow,←Nat.pow_mul];rw[Nat.mul_mul_mul_comm,←Nat.pow_add,←Nat.pow_add,show 8*(2*E+1)+8*(2*E+1)=M+M+(M+M) by omega,show 2*(2*E+1)+2*(2*E+1)=M by omega]
  rw[e];have g1:V^M*V^M % PP=1:=by rw[Nat.mul_mod,f1];decide+kernel
  have g2:V^M*V^M*(V^M*V^M) % PP=1:=by rw[Nat.mul_mod,g1];decide+kernel
  rw[Nat.mul_mod,g2,f2]
theorem V0c (v:Nat):fp (v7 v)=fp (v*v*v*(v*v*v)*v):=by rw[V4g,Y6z];simp only[J1g]
theorem Q7c {A B:Nat}(h:fp A=fp B)(n:Nat):fp (A^n)=fp (B^n):=fp_eq.2 (by rw[Nat.pow_mod,fp_eq.1 h,←Nat.pow_mod])
theorem Y3n {u v X:Nat}(hv:fp v≠0)(h:fp u=fp v*(fp X*fp X)):rtB u v=true:=by
  unfold rtB
  by_cases hx:fp X=0
  · have hu:fp u=0:=by rw[h,hx];grind
    have:rtW u v=u % PP:=Q76 (AO _ J4q) (AO _ J4q) (by
      rw[V05,J0v,Z9d u v _ rfl,hu];generalize fp _=z;grind)
    rw[decide_eq_true this,Bool.true_or]
  obtain⟨E,hE⟩:∃E,E=7237005577332262213973186563042994240829374041602535252466099000494570602493:=⟨_,rfl⟩
  have D:8*E+4=PP-1:=by rw[hE];decide+kernel
  have hk:=Y3m v X E D (Z98 hv) (Z98 hx)
  have hW:fp (rtW u v)=fp u*fp ((v*v*(v*v)*(v*v*(v*v))*(X*X))^(2*E+1)):=by
    rw[V05,Z9d u v E hE];have e1:fp (u*v7 v)=fp (v*v*(v*v)*(v*v*(v*v))*(X*X)):=by rw[J1g,V0c,h];simp only[J1g];grind
    rw[Q7c e1 E];generalize hA:v*v*(v*v)*(v*v*(v*v))*(X*X)=A;have hA' :fp A=fp v*fp v*(fp v*fp v)*(fp v*fp v*(fp v*fp v))*(fp X*fp X):=by rw[←hA];simp only[J1g]
    rw[show A^(2*E+1)=A^E*A^E*A by rw[←Nat.pow_add,←Nat.pow_succ];congr 1;omega,J1g,J1g,hA',h];generalize fp (A^E)=z;clear hA' hA e1 hk D
    grind
  rcases Z10 hk with hs|hs
  · have:rtW u v=u % PP:=Q76 (AO _ J4q) (AO _ J4q) (by rw[hW,hs,J0v];grind)
    rw[decide_eq_true this,Bool.true_or]
  have:rtW u v=(PP-u % PP) % PP:=Q76 (AO _ J4q) (AO _ J4q) (by rw[hW,hs,J0v,J7s];grind);rw[decide_eq_true this,Bool.or_true]
theorem Q73 (u v:Nat):rtR u v<PP:=by
  unfold rtR
  split
  · exact V04 _ _
  split
  · exact AO _ J4q
  exact J4q
/-! ### A point's bytes -/
def dU (y:Nat):Nat:=(y*y % PP+(PP-1 % PP)) % PP
def dV (y:Nat):Nat:=(DD*(y*y % PP) % PP+1) % PP
def dX (y:Nat):Nat:=rtR (dU y) (dV y)
def dB (y:Nat):Bool:=rtB (dU y) (dV y)
def top (V:Nat):Bool:=decide (2^255≤V)
def Z5e (x:Nat):Bool:=decide (x % PP % 2=1)
def dXf (y:Nat)(o:Bool):Nat:=if Z5e (dX y)=o then dX y else(PP-dX y % PP) % PP
def dOk (V:Nat):Bool:=decide (V % 2^255<PP) && dB (V % 2^255) && !(top V && decide (dX (V % 2^255)=0))
def dPt (V:Nat):Pr:=(fp (dXf (V % 2^255) (top V)),fp (V % 2^255))
def enc (a:Pr):Nat:=a.2.val+2^255*(a.1.val % 2)
theorem Y75 (y:Nat):fp (dU y)=fp y*fp y-1:=by unfold dU;rw[J0v,J99,J0v,J7s,J1g,Q0u];grind
theorem Z9e (y:Nat):fp (dV y)=dd*(fp y*fp y)+1:=by unfold dV;rw[J0v,J99,J0v,J1g,J0v,J1g,Q0u];rfl
theorem V4l (y:Nat):fp (dV y)≠0:=by
  rw[Z9e];intro h
  by_cases hy:fp y=0
  · rw[hy] at h
    have e:dd*(0*0)+1=(1:Fp):=by
      have:dd*(0*0)=0:=by rw[Fin.mul_zero,Fin.mul_zero]
      rw[this];decide+kernel
    rw[e] at h;exact absurd h (by decide+kernel)
  exact Q77 (a:=ii) hy (by have:=Y71;grind)
theorem Y76 {y:Nat}(h:dB y=true):fp (dV y)*(fp (dX y)*fp (dX y))=fp (dU y):=V4h h
theorem Z9f (y:Nat)(o:Bool):fp (dXf y o)*fp (dXf y o)=fp (dX y)*fp (dX y):=by
  unfold dXf
  split
  · rfl
  rw[J0v,J7s];grind
theorem Y9q {V:Nat}(h:dOk V=true):OnC (dPt V):=by
  unfold dOk at h;simp only[Bool.and_eq_true] at h;have h1:=Y76 h.1.2;have h2:=Z9f (V % 2^255) (top V);rw[Z9e,Y75] at h1;unfold OnC dPt;show fp (V % 2^255)*fp (V % 2^255)-fp (dXf (V % 2^255) (top V))*fp (dXf (V % 2^255) (top V))=1+dd*(fp (dXf (V % 2^255) (top V))*fp (dXf (V % 2^255) (top V)))*(fp (V % 2^255)*fp (V % 2^255));rw[h2];generalize fp (V % 2^255)=y at*;generalize fp (dX (V % 2^255))=x at*;clear h2 h
  grind
theorem Z0x (y:Nat):dX y<PP:=Q73 _ _
theorem V0d:PP % 2=1:=by decide+kernel
theorem Q71:PP<2^255:=by decide+kernel
theorem Z3i {x:Nat}(h0:x≠0)(hx:x<PP):(PP-x) % 2=1-x % 2:=by
  have:=V0d;omega
theorem Y3o {y:Nat}{o:Bool}(h:¬(o=true∧dX y=0)):dXf y o<PP∧decide (dXf y o % 2=1)=o:=by
  have hl:=Z0x y;unfold dXf Z5e;rw[AL hl]
  split
  · rename_i h1;exact⟨hl,h1⟩
  rename_i h1
  by_cases h0:dX y=0
  · rw[h0] at h1
    have:o=false:=by
      cases o
      · rfl
      exact absurd ⟨rfl,h0⟩ h
    rw[this] at h1;exact absurd (by decide) h1
  have h2:=Z3i h0 hl;have hP:(PP-dX y) % PP=PP-dX y:=AL (by omega);rw[hP,h2];refine⟨by omega,?_⟩;have hp:=Nat.mod_two_eq_zero_or_one (dX y);rcases hp with hp|hp<;>rw[hp] at h1⊢ <;>cases o<;>simp_all
theorem Y3p (a:Pr):enc a % 2^255=a.2.val∧top (enc a)=decide (a.1.val % 2=1)∧enc a<2^256:=by
  have h1:=a.2.isLt;have h2:=Q71;unfold enc top;refine⟨by omega,?_,by omega⟩
  by_cases h:a.1.val % 2=1
  · rw[decide_eq_true h,h];exact decide_eq_true (by omega)
  rw[decide_eq_false h];exact decide_eq_false (by omega)
theorem Y3q {a:Pr}(h:OnC a):dOk (enc a)=true∧dPt (enc a)=a:=by
  obtain⟨e1,e2,e3⟩:=Y3p a;have hv:=V4l a.2.val
  have hu:fp (dU a.2.val)=fp (dV a.2.val)*(fp a.1.val*fp a.1.val):=by
    rw[Y75,Z9e,J47,J47];unfold OnC at h
    grind
  have hb:dB a.2.val=true:=Y3n hv hu;have hs:=Y76 hb;rw[hu] at hs
  have hx:fp (dX a.2.val)=a.1∨fp (dX a.2.val)= -a.1:=by
    have:=Q7a hv hs;rw[J47] at this;exact Z99 this
  have hl:=Z0x a.2.val
  have G:dX a.2.val=0→a.1.val=0:=by
    intro h0;rw[h0,Q75] at hx;have:a.1=0:=by rcases hx with h|h<;>grind
    rw[this];rfl
  have hn:¬(top (enc a)=true∧dX a.2.val=0):=by
    rintro⟨p1,p2⟩;rw[e2,G p2] at p1;cases p1
  refine⟨?_,?_⟩
  · unfold dOk
    rw[e1,hb,decide_eq_true a.2.isLt];cases ht:top (enc a)
    · rfl
    have:¬dX a.2.val=0:=fun h0=>hn ⟨ht,h0⟩;simp[this]
  unfold dPt;rw[e1];refine Prod.ext ?_ (J47 _);show fp (dXf a.2.val (top (enc a)))=a.1;obtain⟨p1,p2⟩:=Y3o hn
  have hz:fp (dXf a.2.val (top (enc a)))=a.1∨fp (dXf a.2.val (top (enc a)))= -a.1:=by
    have:=Z9f a.2.val (top (enc a));have h3:=Q7a hv hs;rw[J47] at h3;exact Z99 (by rw[this,h3])
  rcases hz with hz|hz
  · exact hz
  rw[e2] at p1 p2 hz⊢;generalize dXf a.2.val (decide (a.1.val % 2=1))=z at*;have D:z=(PP-a.1.val % PP) % PP:=Q76 p1 (AO _ J4q) (by rw[hz,J0v,J7s,J47]);rw[AL a.1.isLt] at D
  by_cases h0:a.1.val=0
  · have:a.1=0:=Fin.ext h0
    rw[hz,this];decide+kernel
  exfalso;rw[AL (by omega:PP-a.1.val<PP)] at D;have h4:=Z3i h0 a.1.isLt;rw[←D] at h4;have h5:=Nat.mod_two_eq_zero_or_one a.1.val;rcases h5 with h5|h5<;>rw[h5] at h4 p2<;>rw[h4] at p2<;>cases p2
end

section

def D2:Nat:=16295367250680780974490674513165176452449235426866156013048779062215315747161
def BX:Nat:=15112221349535400772501151409588531511454012693041857206046113283949847762202
def BY:Nat:=46316835694926478169428394003475163141307993866256225615783033603165251855960
def BP:Pr:=(fp BX,fp BY)
theorem Q02:OnC BP:=by unfold OnC;decide+kernel
theorem V4m:fp D2=2*dd:=by decide+kernel
theorem Z8y:DD<J8:=by decide
theorem V3y:D2<J8:=by decide
theorem Q5 {A:Nat}(h:A<PP):A<J8:=BL h (by decide)
theorem J1y (A:Nat):A % PP<PP:=AO _ J4q
theorem bpp {X n:Nat}(h:X=n % PP):X<PP:=h▸J1y n
def p4 (X Y Z T:Nat):Array AB:=c4 X++c4 Y++c4 Z++c4 T
def p3 (X Y Z:Nat):Array AB:=J0 .i64 16 (Q9 X)++J0 .i64 16 (Q9 Y)++J0 .i64 16 (Q9 Z)
section
variable {X Y Z T : Nat}
theorem Q4m:∀i v,(c4 X)[i]?=some v→(p4 X Y Z T)[0+i]?=some v:=fun i v h=>by rw[AP];exact J3l (J3l (J3l h))
theorem Q6y:∀i v,(c4 Y)[i]?=some v→(p4 X Y Z T)[4+i]?=some v:=fun i v h=>J3l (J3l (J6x rfl h))
theorem Q6x:∀i v,(c4 Z)[i]?=some v→(p4 X Y Z T)[8+i]?=some v:=fun i v h=>J3l (J6x rfl h)
theorem Y9i:∀i v,(c4 T)[i]?=some v→(p4 X Y Z T)[12+i]?=some v:=fun i v h=>J6x rfl h
theorem s16 {f:Nat→Int}:(J0 .i64 16 f).size=16:=J1 _ _ _
theorem Z91:∀i v,(J0 .i64 16 (Q9 X))[i]?=some v→(p3 X Y Z)[0+i]?=some v:=fun i v h=>by rw[AP];exact J3l (J3l h)
theorem Z92:∀i v,(J0 .i64 16 (Q9 Y))[i]?=some v→(p3 X Y Z)[16+i]?=some v:=fun i v h=>J3l (J6x s16 h)
theorem Y9x:∀i v,(J0 .i64 16 (Q9 Z))[i]?=some v→(p3 X Y Z)[32+i]?=some v:=fun i v h=>J6x (by rw[BS,s16,s16]) h
theorem J0r:(p3 X Y Z).size=48:=by unfold p3;rw[BS,BS,s16,s16,s16]
theorem Q3j:(p3 X Y Z).all (·.oneCell')=true:=by
  unfold p3;rw[Array.all_append,Array.all_append,Z8,Z8,Z8];rfl
end
structure RN (X Y Z T:Nat)(a:Pr):Prop where
  x:X<PP
  y:Y<PP
  z:Z<PP
  t:T<PP
  on:OnC a
  rc:Rc (fp X) (fp Y) (fp Z) (fp T) a
def RW (X Y Z T:Nat)(a:Pr):Prop:=RN X Y Z T a∨(X=0∧Y=0∧Z=0∧T=0∧a=p0)
structure RD (X Y Z:Nat)(a:Pr):Prop where
  x:X<PP
  y:Y<PP
  z:Z<PP
  on:OnC a
  rr:Rr (fp X) (fp Y) (fp Z) a
section
variable {X Y Z T : Nat} {a : Pr}
theorem RN.rw (h:RN X Y Z T a):RW X Y Z T a:=.inl h
theorem RW.on (h:RW X Y Z T a):OnC a:=by
  rcases h with h|h
  · exact h.on
  rw[h.2.2.2.2];exact Z9a
theorem Y3g:RW 0 0 0 0 p0:=.inr ⟨rfl,rfl,rfl,rfl,rfl⟩
theorem RW.x (h:RW X Y Z T a):X<J8:=by
  rcases h with h|h
  · exact Q5 h.x
  rw[h.1];decide
theorem RW.y (h:RW X Y Z T a):Y<J8:=by
  rcases h with h|h
  · exact Q5 h.y
  rw[h.2.1];decide
theorem RW.z (h:RW X Y Z T a):Z<J8:=by
  rcases h with h|h
  · exact Q5 h.z
  rw[h.2.2.1];decide
theorem RW.t (h:RW X Y Z T a):T<J8:=by
  rcases h with h|h
  · exact Q5 h.t
  rw[h.2.2.2.1];decide
theorem RN.nz (h:RN X Y Z T a):Z≠0:=fun e=>h.rc.1 (by rw[e];rfl)
theorem RW.cases (h:RW X Y Z T a):(Z≠0∧RN X Y Z T a)∨(Z=0∧a=p0):=by
  rcases h with h|h
  · exact .inl ⟨h.nz,h⟩
  exact .inr ⟨h.2.2.1,h.2.2.2.2⟩
theorem rn_p0:RN 0 1 1 0 p0:=⟨by decide,by decide,by decide,by decide,Z9a,by
  refine⟨by decide+kernel,?_,?_,?_⟩<;>decide+kernel⟩
theorem RN.rr (h:RN X Y Z T a):RD X Y Z a:=⟨h.x,h.y,h.z,h.on,h.rc.rr⟩
theorem J8f (A B:Nat):fp ((A+(PP-B % PP)) % PP)=fp A-fp B:=by rw[J0v,J99,J7s];grind
theorem J2k (A B:Nat):fp ((A+B) % PP)=fp A+fp B:=by rw[J0v,J99]
theorem J04 (A B:Nat):fp (A*B % PP)=fp A*fp B:=by rw[J0v,J1g]
theorem Z3j (A:Nat):fp ((PP-A % PP) % PP)= -fp A:=by rw[J0v,J7s]
theorem Z8w {X1 Y1 Z1 T1 X2 Y2 Z2 T2 s1 s2 A a1 a2 B m C zz D E F G H x y z t:Nat}{p q:Pr}(r1:RN X1 Y1 Z1 T1 p)(r2:RN X2 Y2 Z2 T2 q)
    (e1:s1=(Y1+(PP-X1 % PP)) % PP) (e2:s2=(Y2+(PP-X2 % PP)) % PP) (eA:A=s1*s2 % PP) (e3:a1=(Y1+X1) % PP) (e4:a2=(Y2+X2) % PP) (eB:B=a1*a2 % PP)
    (e5:m=T1*D2 % PP) (eC:C=m*T2 % PP) (e6:zz=(Z1+Z1) % PP) (eD:D=zz*Z2 % PP) (eE:E=(B+(PP-A % PP)) % PP) (eF:F=(D+(PP-C % PP)) % PP) (eG:G=(D+C) % PP) (eH:H=(B+A) % PP)
    (ex:x=E*F % PP) (ey:y=G*H % PP) (ez:z=F*G % PP) (et:t=E*H % PP):RN x y z t (J15 p q):=by
  have k:=V09 (A:=fp A) (B:=fp B) (C:=fp C) (D:=fp D) r1.on r2.on r1.rc r2.rc (by rw[eA,J04,e1,e2,J8f,J8f]) (by rw[eB,J04,e3,e4,J2k,J2k])
    (by rw[eC,J04,e5,J04,V4m]) (by rw[eD,J04,e6,J2k])
  refine⟨ex▸J1y _,ey▸J1y _,ez▸J1y _,et▸J1y _,J8e r1.on r2.on,?_⟩;rw[ex,ey,ez,et,J04,J04,J04,J04,eE,eF,eG,eH,J8f,J8f,J2k,J2k];exact k
theorem Q8s {A B c C H S q E G F x y z t:Nat}(r:RN X Y Z T a)(eA:A=X*X % PP)(eB:B=Y*Y % PP)(e1:c=Z*Z % PP)(eC:C=(c+c) % PP)(eH:H=(A+B) % PP)(eS:S=(X+Y) % PP)(e2:q=S*S % PP)
    (eE:E=(H+(PP-q % PP)) % PP) (eG:G=(A+(PP-B % PP)) % PP) (eF:F=(C+G) % PP) (ex:x=E*F % PP) (ey:y=G*H % PP) (ez:z=F*G % PP) (et:t=E*H % PP):RN x y z t (J15 a a):=by
  have k:=Z9c (A:=fp A) (B:=fp B) (C:=fp C) (E:=fp E) (G:=fp G) (H:=fp H) (F:=fp F) r.on r.rc (by rw[eA,J04]) (by rw[eB,J04]) (by rw[eC,J2k,e1,J04]) (by rw[eH,J2k])
    (by rw[eE,J8f,e2,J04,eS,J2k]) (by rw[eG,J8f]) (by rw[eF,J2k])
  refine⟨ex▸J1y _,ey▸J1y _,ez▸J1y _,et▸J1y _,J8e r.on r.on,?_⟩;rw[ex,ey,ez,et,J04,J04,J04,J04];exact k
theorem Y9k {x t:Nat}(r:RN X Y Z T a)(ex:x=(PP-X % PP) % PP)(et:t=(PP-T % PP) % PP):RN x Y Z t (J6o a):=by
  refine⟨ex▸J1y _,r.y,r.z,et▸J1y _,Q78 r.on,?_⟩;obtain⟨h1,h2,h3,h4⟩:=r.rc;rw[ex,et,Z3j,Z3j];refine⟨h1,?_,h3,?_⟩
  · show-fp X= -a.1*fp Z
    rw[h2];grind
  show-fp T= -a.1*a.2*fp Z;rw[h4];grind
theorem Z8r {t:Nat}(hX:X<PP)(hY:Y<PP)(on:OnC (fp X,fp Y))(et:t=X*Y % PP):RN X Y 1 t (fp X,fp Y):=by
  refine⟨hX,hY,by decide,et▸J1y _,on,?_⟩;rw[et,J04,Q0u];refine⟨by decide+kernel,?_,?_,?_⟩
  · show fp X=fp X*1
    grind
  · show fp Y=fp Y*1
    grind
  show fp X*fp Y=fp X*fp Y*1
  grind
theorem Y9z {X1 Y1 Z1 X2 Y2 Z2 A B C D q E F G s1 s2 S af cd u x ag y z:Nat}{p q' :Pr}(r1:RD X1 Y1 Z1 p)(r2:RD X2 Y2 Z2 q')
    (eA:A=Z1*Z2 % PP) (eB:B=A*A % PP) (eC:C=X1*X2 % PP) (eD:D=Y1*Y2 % PP) (e1:q=C*D % PP) (eE:E=DD*q % PP) (eF:F=(B+(PP-E) % PP) % PP) (eG:G=(B+E) % PP)
    (e2:s1=(X1+Y1) % PP) (e3:s2=(X2+Y2) % PP) (eS:S=s1*s2 % PP) (e4:af=A*F % PP) (e5:cd=(C+D) % PP) (e6:u=(S+(PP-cd) % PP) % PP) (ex:x=af*u % PP) (e7:ag=A*G % PP) (ey:y=ag*cd % PP) (ez:z=F*G % PP):RD x y z (J15 p q'):=by
  have hE:E % PP=E:=AL (eE▸J1y _);have hc:cd % PP=cd:=AL (e5▸J1y _);rw[←hE] at eF;rw[←hc] at e6;have fs:∀U V:Nat,fp ((U+(PP-V % PP) % PP) % PP)=fp U-fp V:=fun U V=>by rw[J0v,J99,J0v,J7s];grind
  have k:=V0a (A:=fp A) (B:=fp B) (C:=fp C) (D:=fp D) (E:=fp E) (F:=fp F) (G:=fp G) (S:=fp S) r1.on r2.on r1.rr r2.rr (by rw[eA,J04]) (by rw[eB,J04]) (by rw[eC,J04]) (by rw[eD,J04])
    (by rw[eE,J04,e1,J04];rfl) (by rw[eF,fs]) (by rw[eG,J2k]) (by rw[eS,J04,e2,e3,J2k,J2k])
  refine⟨ex▸J1y _,ey▸J1y _,ez▸J1y _,J8e r1.on r2.on,?_⟩;rw[ex,ey,ez,J04,J04,J04,e4,e6,e7,J04,fs,J04,e5,J2k];exact k
theorem Y9y (hX:X<PP)(hY:Y<PP)(on:OnC (fp X,fp Y)):RD X Y 1 (fp X,fp Y):=(Z8r hX hY on rfl).rr
theorem Q70 {i x y:Nat}(r:RD X Y Z a)(ei:i=pw Z (PP-2))(ex:x=X*i % PP)(ey:y=Y*i % PP):x=a.1.val∧y=a.2.val:=by
  have k:=V0b r.rr
  have hi:fp i=J3k (fp Z):=by
    rw[ei,V4f];show _=fp ((fp Z).val^(PP-2));rw[V03,AL r.z]
  rw[←hi,←J1g,←J1g] at k;rw[ex,ey];exact⟨congrArg Fin.val k.1,congrArg Fin.val k.2⟩
end
theorem V0e {w W:AA}(h:GI w)(e:Ext w W):GI W:=Rd.ext (show Rd w 12 imaC from h) e
structure Kn where
  d:Prop
  b:Prop
  c:Prop
  r:Prop
abbrev GE (kn:Kn)(w:AA):Prop:=GF w∧(kn.c→GI w)∧(kn.c→Rd w 8 (c4 DD))∧(kn.d→Rd w 9 (c4 D2))∧(kn.b→Rd w 5 (c4 BX))∧(kn.b→Rd w 6 (c4 BY))
theorem J9 {kn:Kn}{w W:AA}(h:GE kn w)(k:Ext w W):GE kn W:=⟨K7 h.1 k,fun x=>V0e (h.2.1 x) k,fun x=>(h.2.2.1 x).ext k,fun x=>(h.2.2.2.1 x).ext k,fun x=>(h.2.2.2.2.1 x).ext k,fun x=>(h.2.2.2.2.2 x).ext k⟩
end

section

theorem Z9g:∀a,a<256→a &&& 128=if 128≤a then 128 else 0:=by decide+kernel
theorem V4n:∀a,a<128→a |||128=a+128:=by decide+kernel
theorem Y3r:∀a,a<256→a &&&(255-128)=a % 128:=by decide+kernel
section
variable {P : Program} {w : AA} {o : AF} {a : Act} {x y : Operand} {t t' : TypeId} {p q r : Int}
theorem J69 (h:bits .and .u8 p q=r)(ho:o.op=.binOp .and t x y t')(hx:a.eval x=.int .u8 p)(hy:a.eval y=.int .u8 q):(AV a.eval o).run P w=.ok (.value (.int .u8 r)) w:=by
  subst h;simp only[AV,ho,hx,hy];rfl
theorem Z35 (h:bits .or .u8 p q=r)(ho:o.op=.binOp .or t x y t')(hx:a.eval x=.int .u8 p)(hy:a.eval y=.int .u8 q):(AV a.eval o).run P w=.ok (.value (.int .u8 r)) w:=by
  subst h;simp only[AV,ho,hx,hy];rfl
theorem J8d (h:bits .andNot .u8 p q=r)(ho:o.op=.binOp .andNot t x y t')(hx:a.eval x=.int .u8 p)(hy:a.eval y=.int .u8 q):(AV a.eval o).run P w=.ok (.value (.int .u8 r)) w:=by
  subst h;simp only[AV,ho,hx,hy];rfl
end
theorem Q91 {V:Nat}(hV:V<2^256):J6 V 31=((V / 2^248:Nat):Int)∧V / 2^248<256:=by
  have h:V / 2^248<256:=Nat.div_lt_of_lt_mul (by rw[←show(2:Nat)^256=2^248*256 by decide];exact hV);unfold J6;rw[show 8*31=248 by decide,AL h];exact⟨rfl,h⟩
theorem Z3k (V:Nat):top V=true↔128≤V / 2^248:=by
  unfold top;rw[decide_eq_true_iff];generalize hP:(2:Nat)^248=P;have e:(2:Nat)^255=128*P:=by rw[←hP]
  rw[e,Nat.le_div_iff_mul_le (by subst hP;decide)]
theorem Z37 {V:Nat}(hV:V<2^256)(ht:top V=true):bits .and .u8 (J6 V 31) 128=128:=by
  obtain⟨h1,h2⟩:=Q91 hV;rw[h1];refine(u8_and_nat _ 128 h2 (by decide)).trans ?_;rw[Z9g _ h2,if_pos ((Z3k V).1 ht)];rfl
theorem Z39 {V:Nat}(hV:V<2^256)(ht:¬top V=true):bits .and .u8 (J6 V 31) 128=0:=by
  obtain⟨h1,h2⟩:=Q91 hV;rw[h1];refine(u8_and_nat _ 128 h2 (by decide)).trans ?_;rw[Z9g _ h2,if_neg fun h=>ht ((Z3k V).2 h)];rfl
theorem Z3l {V j:Nat}(hj:j<31):J6 (V % 2^255) j=J6 V j:=by
  unfold J6
  congr 1
  obtain⟨d,hd⟩:∃d,255=8*j+(8+d):=⟨247-8*j,by omega⟩
  rw[hd,Nat.pow_add 2 (8*j),Nat.mod_mul_right_div_self,Nat.pow_add 2 8 d,Nat.mod_mul_right_mod]
theorem Y3s (V:Nat):J6 (V % 2^255) 31=((V / 2^248 % 128:Nat):Int):=by
  unfold J6
  congr 1
  rw[show 8*31=248 by decide,show(2:Nat)^255=2^248*128 by decide,Nat.mod_mul_right_div_self];omega
theorem Z38 {V:Nat}{r:Int}(hr:r=((V / 2^248 % 128:Nat):Int)):J0 .u8 32 (upd (J6 V) 31 r)=J0 .u8 32 (J6 (V % 2^255)):=by
  apply K6;intro j hj
  by_cases h:j=31
  · subst h;rw[J21,Y3s];exact hr
  rw[J0h _ _ _ _ h,Z3l (by omega)]
theorem Q20 {V:Nat}(hV:V<2^256):bits .andNot .u8 (J6 V 31) 128=((V / 2^248 % 128:Nat):Int):=by
  obtain⟨h1,h2⟩:=Q91 hV;rw[h1];refine(u8_andNot_nat _ 128 h2 (by decide)).trans ?_;rw[Y3r _ h2]
theorem Y3t {V:Nat}(hV:V<2^255):bits .or .u8 (J6 V 31) 128=J6 (V+2^255) 31:=by
  obtain⟨h1,h2⟩:=Q91 (V:=V) (BL hV (by decide));obtain⟨h3,h4⟩:=Q91 (V:=V+2^255) (by omega);have h5:V / 2^248<128:=Nat.div_lt_of_lt_mul (by rw[←show(2:Nat)^255=2^248*128 by decide];exact hV);rw[h1,h3];refine(u8_or_nat _ 128 h2 (by decide)).trans ?_;rw[V4n _ h5,show(2:Nat)^255=2^248*128 by decide,Nat.add_mul_div_left _ _ (by decide)]
theorem Y6u {V:Nat}(hV:V<2^255):J0 .u8 32 (upd (J6 V) 31 (bits .or .u8 (J6 V 31) 128))=J0 .u8 32 (J6 (V+2^255)):=by
  apply K6;intro j hj
  by_cases h:j=31
  · subst h;rw[J21,Y3t hV]
  rw[J0h _ _ _ _ h,←Z3l (V:=V+2^255) (by omega),Nat.add_mod_right,AL hV]
end

section
section
variable {w : AA} {o : AF} {a : Act} {x y : Operand} {t t' : TypeId}
theorem Q04 {l:List UInt8}{i:Nat}{c:UInt8}(h:l[i]?=some c)(ho:o.op=.index 9 x y)(hx:a.eval x=Z9 l)(hy:a.eval y=.int .i64 (i:Int)):(AV a.eval o).run Tryz.prog w=.ok (.value (.int .u8 (c.toNat:Int))) w:=by
  have hs:=J4w l;have hi:=(List.getElem?_eq_some_iff.1 h).1;have hg:=(List.getElem?_eq_some_iff.1 h).2
  have D : (⟨l.toArray⟩ : ByteArray)[i]'(by rw [hs]; exact hi) = c := by
    show l.toArray[i]'(by simpa using hi) = c
    simpa using hg
  simp only[AV,ho,hx,hy,Z9,Sem.run_bind];simp[Instr.index,asIntOf,run_underlying Tryz.underlying9,hs,hi,D,Sem.run_bind]
theorem Z93 {i:Nat}(hi:i<9223372036854775808)(ho:o.op=.binOp .sub t x y t')(hx:a.eval x=.int .i64 (i:Int))(hy:a.eval y=.int .i64 1):(AV a.eval o).run Tryz.prog w=.ok (.value (.int .i64 ((i:Int)-1))) w:=by
  have h:=IntWalk.i64_in ((i:Int)-1) (by omega);simp only[AV,ho,hx,hy,eqGuard,binOp,Sem.run_bind];simp[go_sem,Sem.run_bind,h]
theorem Q8x {p:Nat}{k:AI}{n:Nat}(hn:n≤8)(ho:o.op=.binOp .shr t x y t')(hx:a.eval x=.int .u8 (p:Int))(hy:a.eval y=.int k (n:Int)):(AV a.eval o).run Tryz.prog w=.ok (.value (.int .u8 ((p / 2^n:Nat):Int))) w:=by
  have e:(p:Int) / 2^n=((p / 2^n:Nat):Int):=by rw[Int.natCast_ediv,Int.natCast_pow];rfl
  rw[Q2y hn ho hx hy,e]
theorem Q5d {N r:Nat}(h:N % 2=r)(ho:o.op=.binOp .rem t x y t')(hx:a.eval x=.int .i64 (Q9 N 0))(hy:a.eval y=.int .i64 2):(AV a.eval o).run Tryz.prog w=.ok (.value (.int .i64 (r:Int))) w:=by
  have:=Q2x (P:=Tryz.prog) (w:=w) (i:=N / 2^(16*0) % 65536) (m:=2) (by decide) (BL (AO _ (by decide)) (by decide)) ho hx hy;rw[this,Nat.mul_zero,Nat.pow_zero,Nat.div_one,show N % 65536 % 2=r by omega]
end
section
variable {ops : Array AF} {w : AA} {r : List AF} {o : AF} {a : Act} {E : Act → Prop}
end
theorem take_set {cs:Array AB}{V V' :Nat}{v:AB}(h:cs.toList.take 32=bs8 (lb 32 V))(he:(J0 .u8 32 (J6 V)).setIfInBounds 31 v=J0 .u8 32 (J6 V')):(cs.setIfInBounds 31 v).toList.take 32=bs8 (lb 32 V'):=by
  rw[Array.toList_setIfInBounds,List.take_set,h,J79,J79,←J25,←J25,←he,Array.toList_setIfInBounds]
theorem Z94 {l:List UInt8}{i k:Nat}{c:UInt8}(h:l[i]?=some c)(hk:k<8):c.toNat / 2^k % 2=le l / 2^(8*i+k) % 2:=by
  rw[←Z2n h,Nat.pow_add,←Nat.div_div_eq_div_mul];generalize le l / 2^(8*i)=x;obtain⟨d,hd⟩:∃d,8=k+(1+d):=⟨7-k,by omega⟩
  rw[show 256=2^8 by decide,hd,Nat.pow_add 2 k,Nat.mod_mul_right_div_self,Nat.pow_add 2 1 d,Nat.pow_one,Nat.mod_mul_right_mod]
end
end Go.Proofs.YtdjacgmmidbieaaGreatDoor.S8

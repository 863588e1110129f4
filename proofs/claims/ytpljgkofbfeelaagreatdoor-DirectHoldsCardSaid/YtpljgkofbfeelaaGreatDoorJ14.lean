/- Contracts and plain laws for directHolds_holds. Conditions: the tables hold their numbers. -/
import Derived.Test.YtpljgkofbfeelaaGreatDoorJ13
open Go renaming World->AA,Value->AB,bodyPost_ret->BC,Calls->Az
open Go.Lib renaming hid->BF
open _root_.List renaming length_append->Ai,forall_mem_cons->BJ
open _root_.Nat renaming mod_eq_of_lt->AI,le_refl->AJ,zero_le->Ah,lt_trans->BG,mod_lt->BH,zero_add->AL
open _root_.Array renaming size_append->BL
open Go.RowKit
set_option maxRecDepth 100000
set_option linter.unusedSimpArgs false
set_option linter.unusedVariables false
namespace Go.Proofs.YtpljgkofbfeelaaGreatDoor.S8
section
set_option maxHeartbeats 1500000
attribute [local irreducible] wpList Z9 wpX
variable {kn : Kn}
theorem Y2e {p:Int}{x:Nat}(h:p=(x:Int))(hx:x<256):bits .and .u8 p 1=((x % 2:Nat):Int):=by
 subst h;refine(u8_and_nat x 1 hx (by decide)).trans ?_;rw[Nat.and_one_is_mod]
theorem Z5x (n q r:Nat)(hr:r<8):bits .and .u8 (J2 n q / 2^r) 1=((n / 2^(8*q+r) % 2:Nat):Int):=by
 have h0:n / 2^(8*q) % 256 / 2^r % 2=n / 2^(8*q+r) % 2:=by
  rw[Nat.pow_add,←Nat.div_div_eq_div_mul];generalize n / 2^(8*q)=x;obtain⟨d,hd⟩:∃d,8=r+(1+d):=⟨7-r,by omega⟩
  rw[show 256=2^8 by decide,hd,Nat.pow_add 2 r,Nat.mod_mul_right_div_self,Nat.pow_add 2 1 d,Nat.pow_one,Nat.mod_mul_right_mod]
 have e:J2 n q / 2^r=((n / 2^(8*q) % 256 / 2^r:Nat):Int):=by
  unfold J2;rw[Int.natCast_ediv,Int.natCast_pow];rfl
 rw[Y2e e (Nat.lt_of_le_of_lt (Nat.div_le_self _ _) (BH _ (by decide))),h0]
theorem Y6r {a:Pr}(ha:OnC a){n i:Nat}(h:n / 2^i % 2=0):pm a (n / 2^i)=V9 (pm a (n / 2^(i+1))) (pm a (n / 2^(i+1))):=by
 rw[←J6y ha]
 congr 1
 rw[Nat.pow_succ,←Nat.div_div_eq_div_mul];omega
theorem Y2f {a:Pr}(ha:OnC a){n i:Nat}(h:n / 2^i % 2=1):pm a (n / 2^i)=V9 (V9 (pm a (n / 2^(i+1))) (pm a (n / 2^(i+1)))) a:=by
 rw[←V47 ha]
 congr 1
 rw[Nat.pow_succ,←Nat.div_div_eq_div_mul];omega
abbrev T4:=Nat×Nat×Nat×Nat
def pc (s:T4):Array AB:=p4 s.1 s.2.1 s.2.2.1 s.2.2.2
def RT (s:T4)(a:Pr):Prop:=RN s.1 s.2.1 s.2.2.1 s.2.2.2 a
structure TStep (kn:Kn)(P:T4)(n j:Nat)(s g s' :T4):Prop where
 tw:∀w,GE kn w→Az Tryz.prog 102 #[.agg (pc s)] w fun e w' =>V5 (.agg (pc g)) w w' e
 ad:n / 2^j % 2=1→∀w,GE kn w→Az Tryz.prog 56 #[.agg (pc g),.agg (pc P)] w fun e w' =>V5 (.agg (pc s')) w w' e
 no:¬n / 2^j % 2=1→s' =g
theorem V9j (hd:kn.d){P s:T4}{a:Pr}{n j:Nat}(hP:RT P a)(hs:RT s (pm a (n / 2^(j+1)))):∃g s',TStep kn P n j s g s' ∧RT s' (pm a (n / 2^j)):=by
 obtain⟨x,y,z,t,r,c⟩:=Q13 (kn:=kn) hs
 by_cases h:n / 2^j % 2=1
 ·
  obtain⟨x',y',z',t',r',c'⟩:=Z2r hd r.rw hP.rw;exact⟨(x,y,z,t),(x',y',z',t'),⟨c,fun _=>c',fun h0=>absurd h h0⟩,by rw[Y2f hP.on h];exact r'⟩
 exact⟨(x,y,z,t),(x,y,z,t),⟨c,fun h0=>absurd h0 h,fun _=>rfl⟩,by rw[Y6r hP.on (by omega)];exact r⟩
theorem V9k (hd:kn.d){P s0:T4}{a:Pr}{n:Nat}(hP:RT P a)(h0:RT s0 (pm a (n / 2^256))):∀m,m≤256→∃f g:Nat→T4,f 256=s0∧(∀j,256-m≤j→j≤256→RT (f j) (pm a (n / 2^j)))∧∀j,256-m≤j→j<256→TStep kn P n j (f (j+1)) (g j) (f j)
 |0,_=>⟨fun _=>s0,fun _=>s0,rfl,fun j h1 h2=>by rw[show j=256 by omega];exact h0,fun j h1 h2=>by omega⟩
 |m+1,hm=>by
  obtain⟨f,g,e0,e1,e2⟩:=V9k hd hP h0 m (by omega);obtain⟨k,hk⟩:∃k,k=255-m:=⟨_,rfl⟩
  obtain⟨x,s',st,hr⟩:=V9j hd (j:=k) hP (e1 (k+1) (by omega) (by omega));refine⟨fun j=>if j=k then s' else f j,fun j=>if j=k then x else g j,?_,fun j h1 h2=> ?_,fun j h1 h2=> ?_⟩
  ·
   show(if 256=k then s' else f 256)=s0;rw[if_neg (by omega)];exact e0
  ·
   show RT (if j=k then s' else f j) _
   by_cases h:j=k
   ·
    rw[if_pos h,h];exact hr
   ·
    rw[if_neg h];exact e1 j (by omega) h2
  ·
   show TStep kn P n j (if j+1=k then s' else f (j+1)) (if j=k then x else g j) (if j=k then s' else f j);rw[if_neg (by omega)]
   by_cases h:j=k
   ·
    rw[if_pos h,if_pos h,h];exact st
   ·
    rw[if_neg h,if_neg h];exact e2 j (by omega) h2

theorem J4s (hd:kn.d){X1 Y1 Z1 T1:Nat}{p1:Pr}(h1:RW X1 Y1 Z1 T1 p1){N:Nat}(hN:N<2^256):
  ∃X Y Z T,RN X Y Z T (pm p1 N)∧∀w,GE kn w→Az Tryz.prog 55 #[.agg (p4 X1 Y1 Z1 T1),.agg (J0 .u8 32 (J2 N))] w fun e w' =>V5 (.agg (p4 X Y Z T)) w w' e:=by
 obtain⟨x1,y2,z3,t4,r5,c6⟩:=J3v (kn:=kn) J9a;obtain⟨x7,y8,z9,M,γ,β⟩:=J3v (kn:=kn) h1;obtain⟨f,gg,U,V,δ⟩:=V9k hd (P:=(x7,y8,z9,M)) (s0:=(x1,y2,z3,t4)) (n:=N) γ (by rw[Nat.div_eq_of_lt hN];exact r5) 256 (AJ _);have α:=BF U;clear U;refine⟨(f 0).1,(f 0).2.1,(f 0).2.2.1,(f 0).2.2.2,(by have:=V 0 (Ah _) (Ah _);rw[Nat.pow_zero,Nat.div_one] at this;exact this),fun w hG=> ?_⟩;have hS:=SH.nil [] w
 go_enter Tryz.func55,Tryz.ntmps55
 go_upto_region 0 with fail;refine RL hS ?_;clear hS;refine MN (z:=p4 X1 Y1 Z1 T1) (t:=140) ?_;intro K9;refine MN (z:=J0 .u8 32 (J2 N)) (t:=23) ?_;intro R;refine MN (z:=p4 0 0 0 0) (t:=140) ?_;intro ε;refine MZ fun W hS=> ?_;go_upto_region 1 with fail;refine RL hS ?_;clear hS;refine MW ?_ (v:=.agg (p4 0 0 0 0)) (hv:=by intro W;kernel_rfl);refine MC (v:=.agg (p4 x1 y2 z3 t4)) (fun W hS=>c6 W (J8 hG hS.ext)) ?_;refine MN (z:=p4 0 0 0 0) (t:=140) ?_;intro ζ;refine MR 0 ?_;refine MZ fun W hS=> ?_;go_upto_region 2 with fail;refine RL hS ?_;clear hS;refine ML 3 ?_;refine MC (v:=.agg (p4 x7 y8 z9 M)) (fun W hS=>β W (J8 hG hS.ext)) ?_;refine MR 3 ?_;refine MZ fun W hS=> ?_
 go_wp2_with fail
 go_loopw [6] (fun si wr=> ∃(j:Nat),(j≤256)∧(si=.int .i64 ((j:Int)-1))∧SH [] w wr [.b ζ (pc (f j)) 140,.b ε (p4 0 0 0 0) 140,.b R (J0 .u8 32 (J2 N)) 23,.b K9 (p4 x7 y8 z9 M) 140])
  (fun si _=>(intOf si+1).toNat)
 case atStart=>exact⟨256,AJ _,rfl,(by rw[α.out];exact hS)⟩
 clear hS
 case round=>
  obtain⟨j,hj,rfl,hS⟩:=hrel
  by_cases hz:j=0
  ·
   subst hz;go_upto_region 4 with fail;refine RL hS ?_;clear hS;refine MV ?_;refine Wf ?_;refine MZ fun W hS=> ?_;go_upto_region 9 with fail;refine RL hS ?_;clear hS;refine ML 0 ?_;refine MR 1 ?_;refine MZ fun W hS=> ?_;go_wp2;exact BC (Z6 rfl rfl (hS.blk (i:=1) rfl) (by kernel_rfl) (by kernel_rfl)) rfl ⟨rfl,hS.ext⟩
  obtain⟨i,rfl⟩:∃i,j=i+1:=⟨j-1,by omega⟩
  have S:=δ i (by omega) (by omega);rw[show((i+1:Nat):Int)-1=(i:Int) by omega];go_upto_region 4 with fail;refine RL hS ?_;clear hS;refine MV ?_;refine Wt ?_;refine MZ fun W hS=> ?_;go_upto_region 6 with fail;refine RL hS ?_;clear hS;refine ML 0 ?_;refine MC (v:=.agg (pc (gg i))) (fun W hS=>S.tw W (J8 hG hS.ext)) ?_;refine MR 0 ?_;refine MZ fun W hS=> ?_
  by_cases D:N / 2^i % 2=1
  ·
   have _f:=D;have J:bits .and .u8 (J2 N (i / 8) / 2^(i % 8)) 1=1:=by rw[Z5x _ _ _ (by omega),show 8*(i / 8)+i % 8=i by omega,D];rfl
   clear _f;have G:=BF D;clear D;go_upto_region 7 with fail;refine RL hS ?_;clear hS;refine MV ?_;refine MW ?_ (v:=.int .i64 ((i / 8:Nat):Int)) (hv:=by intro W;exact Q9u (m:=8) (by decide) (by omega) rfl rfl rfl);refine MW ?_ (v:=.pointer (some ⟨R,0+(i / 8),none⟩)) (hv:=fun _=>rxa Tryz.underlying23 (by omega));refine MG 2 ?_ (j:=0+(i / 8)) (v:=.int .u8 ((J2 N) (i / 8))) (hj:=ag0 (by omega));refine MV ?_;refine MW ?_ (v:=.int .i64 ((i % 8:Nat):Int)) (hv:=by intro W;exact Q9v (m:=8) (by decide) (by omega) rfl rfl rfl);refine MW ?_ (v:=.int .u8 (J2 N (i / 8) / 2^(i % 8))) (hv:=by intro W;exact Q9w (by omega) rfl rfl rfl);refine MW ?_ (v:=.int .u8 1) (hv:=by intro W;exact J70 J rfl rfl rfl);refine Wt ?_;refine MZ fun W hS=> ?_;go_upto_region 8 with fail;refine RL hS ?_;clear hS;refine ML 0 ?_;refine ML 3 ?_;refine MC (v:=.agg (pc (f i))) (fun W hS=>S.ad G.out W (J8 hG hS.ext)) ?_;refine MR 0 ?_;refine MZ fun W hS=> ?_;go_wp2;go_roundw
   case rel=>exact⟨i,by omega,by go_num,hS⟩
   case measure=>first|(simp[intOf];done)|(simp[intOf];omega)
  have _f:=D;have J:bits .and .u8 (J2 N (i / 8) / 2^(i % 8)) 1=0:=by rw[Z5x _ _ _ (by omega),show 8*(i / 8)+i % 8=i by omega,show N / 2^i % 2=0 by omega];rfl
  clear _f;have G:=BF D;clear D;go_upto_region 7 with fail;refine RL hS ?_;clear hS;refine MV ?_;refine MW ?_ (v:=.int .i64 ((i / 8:Nat):Int)) (hv:=by intro W;exact Q9u (m:=8) (by decide) (by omega) rfl rfl rfl);refine MW ?_ (v:=.pointer (some ⟨R,0+(i / 8),none⟩)) (hv:=fun _=>rxa Tryz.underlying23 (by omega));refine MG 2 ?_ (j:=0+(i / 8)) (v:=.int .u8 ((J2 N) (i / 8))) (hj:=ag0 (by omega));refine MV ?_;refine MW ?_ (v:=.int .i64 ((i % 8:Nat):Int)) (hv:=by intro W;exact Q9v (m:=8) (by decide) (by omega) rfl rfl rfl);refine MW ?_ (v:=.int .u8 (J2 N (i / 8) / 2^(i % 8))) (hv:=by intro W;exact Q9w (by omega) rfl rfl rfl);refine MW ?_ (v:=.int .u8 0) (hv:=by intro W;exact J70 J rfl rfl rfl);refine Wf ?_;refine MZ fun W hS=> ?_;go_wp2;go_roundw
  case rel=>exact⟨i,by omega,by go_num,(by rw[S.no G.out];exact hS)⟩
  case measure=>first|(simp[intOf];done)|(simp[intOf];omega)
end

section
set_option maxHeartbeats 1000000
attribute [local irreducible] wpList Z9 wpX
variable {kn : Kn}
open Sc (LL J0k)
def GA (kn:Kn)(w:AA):Prop:=GE kn w∧GS w∧Sc.GL w∧(kn.r→GR w)
theorem V4n {w W:AA}(h:Sc.GL w)(k:Ext w W):Sc.GL W:=⟨J19 h.1 k,J19 h.2.1 k,J19 h.2.2.1 k,J19 h.2.2.2.1 k,Nat.lt_of_lt_of_le h.2.2.2.2 k.size⟩
theorem GA_ext {w W:AA}(h:GA kn w)(k:Ext w W):GA kn W:=⟨J8 h.1 k,Q7w h.2.1 k,V4n h.2.2.1 k,fun x=>V4k (h.2.2.2 x) k⟩
def s3 (N D P:Nat):Array AB:=J0 .u8 32 (J2 N)++J0 .u8 32 (J2 D)++J0 .u8 32 (J2 P)
section
variable {N D P : Nat}
theorem V4o:∀i v,(J0 .u8 32 (J2 N))[i]?=some v→(s3 N D P)[0+i]?=some v:=fun i v h=>by rw[AL];exact J2p (J2p h)
theorem Y2w:∀i v,(J0 .u8 32 (J2 D))[i]?=some v→(s3 N D P)[32+i]?=some v:=fun i v h=>J2p (J69 (J1 _ _ _) h)
theorem V4p:∀i v,(J0 .u8 32 (J2 P))[i]?=some v→(s3 N D P)[64+i]?=some v:=fun i v h=>J69 (by rw[BL,J1,J1]) h
theorem J1f:(s3 N D P).size=96:=by unfold s3;rw[BL,BL,J1,J1,J1]
theorem Q8n:(s3 N D P).all (·.oneCell')=true:=by unfold s3;rw[Array.all_append,Array.all_append,J0b,J0b,J0b];rfl
end
theorem Y2x (a:List AB):∀(vs b:List AB),b.length=vs.length→spl (a++b).toArray a.length vs=(a++vs).toArray
 |[],b,h=>by rw[List.eq_nil_of_length_eq_zero h];rfl
 |v::vs,[],h=>by simp at h
 |v::vs,x::b,h=>by
  show spl ((a++x::b).toArray.setIfInBounds a.length v) (a.length+1) vs=_;rw[List.setIfInBounds_toArray,List.set_append_right _ _ (AJ _),Nat.sub_self,List.set_cons_zero];have:=Y2x (a++[v]) vs b (by simpa using h)
  simpa using this
theorem V4q (N D P Q:Nat):spl (s3 N D Q) 64 (J0 .u8 32 (J2 P)).toList=s3 N D P:=by
 have h:=Y2x (Q32 .u8 32 (J2 N)++Q32 .u8 32 (J2 D)) (Q32 .u8 32 (J2 P)) (Q32 .u8 32 (J2 Q)) (by rw[J6a,J6a]);rw[Ai,J6a,J6a] at h
 have e:∀X,s3 N D X=(Q32 .u8 32 (J2 N)++Q32 .u8 32 (J2 D)++Q32 .u8 32 (J2 X)).toArray:=fun X=>by
  unfold s3;apply Array.ext';simp only[Array.toList_append,J2v]
 rw[e,e,J2v];exact h
theorem J7m {H:Nat}{F:List UInt8}(hH:H=hs F)(ps:List (List UInt8))(A:Option Addr)(c:Nat)(hF:ps.flatten=F)(hlen:F.length≤70368744177664)(hpn:ps.length≤9223372036854775000)(w:AA)(hps:∀i l,ps[i]?=some l→∃ad u,A=some ad∧w.cell? (ad.add i)=some u∧Sl w u l)(hG:GS w):
  Az Tryz.prog 74 #[.slice A ps.length c] w fun e w' =>V5 (.agg (J0 .u8 64 (J2 H))) w w' e:=by
 rw[hH,←K07];exact K08 ps A c F hF hlen hpn w hps hG
theorem Y2y {X:Nat}{w:AA}{b off n c V:Nat}{cs:Array AB}{t:TypeId}(hX:X=V % LL)(hB:Blk w b cs t)(hc:∀i v,(J0 .u8 n (J2 V))[i]?=some v→cs[off+i]?=some v)(hn:n≤700)(hV:V<2^(8*n))(hG:Sc.GL w):
  Az Tryz.prog 115 #[.slice (some ⟨b,off,none⟩) n c] w fun e w' =>V5 (L4 X) w w' e:=by
 have h:=Sc.of_c (J2 V) (J4x V) b off n c w hG hn (fun j hj=>by rw[J3 hB];exact hc j _ (Z8 _ _ _ _ hj)) (V8 hB);rw[J4r,AI hV,←hX] at h;exact h
theorem Q18 {V:Nat}(hV:V<LL)(w:AA)(hG:Sc.GL w):Az Tryz.prog 53 #[L4 V] w fun e w' =>V5 (.agg (J0 .u8 32 (J2 V))) w w' e:=by
 have h:=Sc.bytes_c V (BG hV J32) w hG;rw[AI hV] at h;exact h
theorem V4r {X A B:Nat}(hX:X=A*B % LL)(hA:A<Q3)(hB:B<Q3)(w:AA)(hG:Sc.GL w):Az Tryz.prog 117 #[L4 A,L4 B] w fun e w' =>V5 (L4 X) w w' e:=hX▸Sc.mul_c A B hA hB w hG
theorem V4s {X A B:Nat}(hX:X=(A+B) % LL)(hA:A<Q3)(hB:B<Q3)(w:AA)(hG:Sc.GL w):Az Tryz.prog 116 #[L4 A,L4 B] w fun e w' =>V5 (L4 X) w w' e:=hX▸Sc.add_c A B hA hB w hG
theorem Y2z {X V:Nat}(hX:X=clN V)(w:AA):Az Tryz.prog 75 #[.agg (J0 .u8 32 (J2 V))] w fun e w' =>V5 (.agg (J0 .u8 32 (J2 X))) w w' e:=by
 have h:=Sc.clamp_c (J2 V) (J4x V) w;rw[Y79,←hX] at h;exact h
theorem Q59 {X X1 Y1 Z1 T1:Nat}{p1:Pr}(h1:RW X1 Y1 Z1 T1 p1)(hX:X=enc p1)(w:AA)(hG:GE kn w):Az Tryz.prog 76 #[.agg (p4 X1 Y1 Z1 T1)] w fun e w' =>V5 (.agg (J0 .u8 32 (J2 X))) w w' e:=hX▸V45 h1 w hG

theorem Z84 (hd:kn.d)(hb:kn.b)(S:Nat):
  ∀w,GA kn w→Az Tryz.prog 37 #[.agg (J0 .u8 32 (J2 S))] w fun e w' =>V5 (.agg (s3 (kN S) (kD S) (kP S))) w w' e:=by
 obtain⟨U1,T⟩:=exh (hs ((lb 32 S)));obtain⟨U2,G⟩:=exn (clN (lo U1));have Z:U2<2^256:=by rw[G];exact Z31 _
 have M:=BF G;clear G;obtain⟨x1,y2,z3,t4,r5,c6⟩:=Q8d hb;obtain⟨x7,y8,z9,U,Y,X⟩:=J4s hd r5.rw (N:=U2) Z;obtain⟨U3,J⟩:=exn (enc (pm BP U2));have γ:U3<2^256:=by rw[J];exact J8k _
 have R:=BF J;clear J;intro w hG;have hS:=SH.nil [] w
 go_enter Tryz.func37,Tryz.ntmps37
 go_upto_region 0 with fail;refine RL hS ?_;clear hS;refine MN (z:=J0 .u8 32 (J2 S)) (t:=23) ?_;intro U0;refine MN (z:=s3 0 0 0) (t:=109) ?_;intro β;refine MZ fun W hS=> ?_;go_upto_region 1 with fail;refine RL hS ?_;clear hS;refine MW ?_ (v:=.slice (some ⟨U0,0,none⟩) 32 32);refine MB (z:= #[.slice (some ⟨U0,0,none⟩) 32 32]) (t:=22) (n:=1) (c:=1) ?_ (hr:=fun W hS=>Y0 [.slice (some ⟨U0,0,none⟩) 32 32] rfl rfl (vsc (J6 (Q7 (V:=S) (n:=32) (off:=0) (c:=32) (hS.blk (i:=1) rfl) ap0 (by decide) (by decide))).1 vs0) Tryz.underlying155 (by kernel_rfl) (by kernel_rfl) rfl (by decide) (by decide));intro α;refine MC (v:=.agg (J0 .u8 64 (J2 U1))) (fun W hS=>J7m T.out [lb 32 S] (some ⟨α,0,none⟩) 1 (by simp only[List.flatten_cons,List.flatten_nil,List.append_nil,List.nil_append,List.append_assoc,List.cons_append]) (by first|omega|(simp only[Ai,List.length_cons,List.length_nil,J7];omega)) (by simp) W (J0c (hS.blk (i:=0) rfl) (pvc (Q7 (V:=S) (n:=32) (off:=0) (c:=32) (hS.blk (i:=2) rfl) ap0 (by decide) (by decide)) pv0)) (GA_ext hG hS.ext).2.1) ?_;refine MN (z:=J0 .u8 64 (J2 0)) (t:=67) ?_;intro D;refine MR 0 ?_;refine MZ fun W hS=> ?_;go_upto_region 2 with fail;refine RXn 8 [⟨8,4,s3 0 0 0,109⟩] hS ?_ (by simp only[BJ];exact⟨⟨_,rfl,rfl,rfl,fun _ _=>by kernel_rfl⟩,fun _ h=>by cases h⟩);clear hS;refine MW ?_ (v:=.slice (some ⟨D,0,none⟩) 32 64);refine MW ?_ (v:=.pointer (some ⟨D,0,none⟩)) (hv:=by intro W;first|rfl|(go_simp;done)|(go_simp;with_reducible rfl));refine Ml 0 Z32 ?_;refine MC (v:=.agg (J0 .u8 32 (J2 U2))) (fun W hS=>Y2z M.out W) ?_;refine MW ?_ (v:=.slice (some ⟨D,32,none⟩) 32 32);refine MW ?_ (v:=.pointer (some ⟨D,32,none⟩)) (hv:=by intro W;first|rfl|(go_simp;done)|(go_simp;with_reducible rfl));refine Ml 0 K31 ?_;refine MW ?_ (v:=.agg (s3 U2 (hi U1) 0)) (hv:=by intro W;kernel_rfl);refine MZB fun δ=> ?_;refine MR 0 ?_ (hz:=by rw[J1f];kernel_rfl) (hs:=by first|rw[J1f,J1f]|rw[J1f]|kernel_rfl) (h1:=Q8n);refine MZn fun W hS=> ?_;go_upto_region 3 with fail;refine RX 6 hS ?_;clear hS;refine MC (v:=.agg (p4 x1 y2 z3 t4)) (fun W hS=>c6 W (GA_ext hG hS.ext).1) ?_;refine MV ?_;refine Ml 0 V4o ?_;refine MC (v:=.agg (p4 x7 y8 z9 U)) (fun W hS=>X W (GA_ext hG hS.ext).1) ?_;refine MC (v:=.agg (J0 .u8 32 (J2 U3))) (fun W hS=>Q59 Y.rw R.out W (GA_ext hG hS.ext).1) ?_;refine MV ?_;refine MZt ?_;refine Mr 0 (off:=64) (V4q _ _ _ _) ?_ (hs:=by rw[J1,J1f];decide);refine MZn fun W hS=> ?_;go_upto_region 4 with fail;refine RL hS ?_;clear hS;refine ML 0 ?_ (hs:=by rw[J1f];kernel_rfl);refine MR 3 ?_ (hz:=by rw[J1f];kernel_rfl) (hs:=by first|rw[J1f,J1f]|rw[J1f]|kernel_rfl) (h1:=Q8n);refine MZ fun W hS=> ?_;go_wp2;rw[show s3 U2 (hi U1) U3=s3 (kN S) (kD S) (kP S) by rw[R.out,M.out,T.out];rfl] at hS;exact BC (Z6 rfl rfl (hS.blk (i:=3) rfl) (by kernel_rfl) (by rw[J1f];kernel_rfl)) rfl ⟨rfl,hS.ext⟩
end

section
attribute [local irreducible] wpList Z9 wpX
variable {kn : Kn}
open Sc (LL J0k)
theorem spreadN_c (hd:kn.d)(hb:kn.b){N D P S:Nat}(hN:N=kN S)(hD:D=kD S)(hP:P=kP S)(w:AA)(hG:GA kn w):
  Az Tryz.prog 37 #[.agg (J0 .u8 32 (J2 S))] w fun e w' =>V5 (.agg (s3 N D P)) w w' e:=by
 rw[hN,hD,hP];exact Z84 hd hb S w hG
theorem Z0l {w:AA}{v:AB}{l:List UInt8}(h:Own w v l)(hp:0<l.length):∃g c cur,v=.slice (some ⟨g,0,none⟩) l.length c∧Blk w g cur 5∧cur.toList.take l.length=bs8 l:=by
 rcases h.2 with⟨_,h0⟩|⟨g,c,cur,hv,_,hh,_,_,_,ht⟩
 ·
  omega
 exact⟨g,c,cur,hv,hh,by rwa [Nat.mul_one] at ht⟩
theorem Y7a {P:Program}{W:AA}{o:Oper}{a:Act}{x:Operand}{arr e:TypeId}{n c:Nat}{ad:Addr}(ho:o.op=.sliceToArrayPointer arr x)(hx:a.eval x=.slice (some ad) n c)(hu:P.underlying arr=some (.array n e)):(execOp a.eval o).run P W=.ok (.value (.pointer (some ad))) W:=by
 simp[execOp,ho,hx,Instr.arrayAt,run_underlying hu,Sem.run_bind]
theorem V4t {W:AA}{v:AB}{l:List UInt8}{g c m n V:Nat}(h:Own W v l)(ez:v=.slice (some ⟨g,0,none⟩) m c)(hn:l.length=n)(hp:0<n)(hl:l=lb n V):∀i x,(J0 .u8 n (J2 V)).toList[i]?=some x→W.cell? ⟨g,0+i,none⟩=some x:=fun i x hx=>by
 obtain⟨g',c',D,e',hB,ht⟩:=Z0l h (by omega);rw[ez] at e';injection e' with e1 _ _
 injection e1 with e1
 injection e1 with e1 _ _
 subst e1;have hi:i<n:=by have:=(List.getElem?_eq_some_iff.1 hx).1;rwa [Array.length_toList,J1] at this
 rw[J3 hB,AL,←Array.getElem?_toList,←List.getElem?_take_of_lt (l:=D.toList) (show i<l.length by rw[hn];exact hi),ht,hl,J9s,←J2v];exact hx
end

section
set_option maxHeartbeats 1500000
attribute [local irreducible] wpList Z9 wpX
variable {kn : Kn}
theorem Y2d {V:Nat}(h:dOk V=true):V % 2^255<PP:=by
 unfold dOk at h;simp only[Bool.and_eq_true,decide_eq_true_eq] at h;exact h.1.1
theorem Y9r {V:Nat}(h:dOk V=true):dB (V % 2^255)=true:=by
 unfold dOk at h;simp only[Bool.and_eq_true] at h;exact h.1.2
theorem V9i {V:Nat}(h:dOk V=true)(ht:top V=true):¬dX (V % 2^255)=0:=by
 unfold dOk at h;intro h0;simp[ht,h0] at h
theorem Z5t {V:Nat}(h1:V % 2^255<PP)(h2:dB (V % 2^255)=true)(h3:¬(top V=true∧dX (V % 2^255)=0)):dOk V=true:=by
 unfold dOk;rw[decide_eq_true h1,h2];cases ht:top V
 ·
  rfl
 have:¬dX (V % 2^255)=0:=fun h0=>h3 ⟨ht,h0⟩;simp[this]
theorem Z0e (V:Nat):V % 2^255<2^256:=BG (BH _ (by decide)) (by decide)

theorem V46 (y:Nat)(o:Bool):dXf y o<PP:=by
 unfold dXf
 split
 ·
  exact Z2u y
 exact J3w _
theorem Q26 (hc:kn.c){V:Nat}(hV:V<2^256)(hok:dOk V=false):
  ∀w,GE kn w→Az Tryz.prog 95 #[.agg (J0 .u8 32 (J2 V))] w fun e w' =>V5 (.tuple #[.agg (p4 0 0 0 0),.int .i64 15]) w w' e:=by
 have ε:=Y9o (J2 V) (J4x V);rw[J4r,show 8*32=256 by decide,AI hV] at ε;obtain⟨Y,hY⟩:=exn (V % 2^255 % PP);rw[←hY] at ε;have lY:=bpp hY;have HY:=BF hY;clear hY;have β:=Q52 Y (Q5 lY);rw[AI lY] at β;have M:=Y9e Y (V % 2^255) (Z5s lY) (Z0e V);have γ:=K5 Y Y (Q5 lY) (Q5 lY);obtain⟨N2,ζ⟩:=exn (Y*Y % PP);rw[←ζ] at γ;have Δ:=bpp ζ;have τ:=Q5 Δ;have μ:=BF ζ;clear ζ;have T:=J8f N2 1 τ (by decide);obtain⟨N3,ξ⟩:=exn ((N2+(PP-1 % PP)) % PP);rw[←ξ] at T;have ψ:=bpp ξ;have Θ:=Q5 ψ;have δ:=BF ξ;clear ξ;have N:=K5 DD N2 Y9s τ;obtain⟨N4,η⟩:=exn (DD*N2 % PP);rw[←η] at N;have φ:=bpp η;have Γ:=Q5 φ;have ν:=BF η;clear η;have S:=J4y N4 1 Γ (by decide);obtain⟨N5,θ⟩:=exn ((N4+1) % PP);rw[←θ] at S;have χ:=bpp θ;have ω:=Q5 χ;have κ:=BF θ;clear θ;have J:=Z5r N3 N5 Θ ω;obtain⟨R,hR⟩:=exn (rtR N3 N5);rw[←hR] at J;have lR:R<PP:=by rw[hR];exact Q8e _ _
 have HR:=BF hR;clear hR;obtain⟨B,hB⟩:=exn (rtB N3 N5);rw[←hB] at J;have HB:=BF hB;clear hB;have α:=J6d R 0 (Q5 lR) (by decide);rw[AI lR,AI (by decide)] at α;intro w hG;have hS:=SH.nil [] w
 go_enter Tryz.func95,Tryz.ntmps95
 go_upto_region 0 with fail;refine RL hS ?_;clear hS;refine MN (z:=J0 .u8 32 (J2 V)) (t:=23) ?_;intro U0;refine MN (z:=p4 0 0 0 0) (t:=140) ?_;intro D1;refine W0 ?_;refine MZ fun W hS=> ?_
 by_cases ht:top V=true
 ·
  go_upto_region 1 with fail;refine RL hS ?_;clear hS;refine MW ?_ (v:=.pointer (some ⟨U0,0+31,none⟩)) (hv:=fun _=>rxa Tryz.underlying23 (by decide));refine MG 1 ?_ (j:=0+31) (v:=.int .u8 ((J2 V) 31)) (hj:=ag0 (by decide));refine MW ?_ (v:=.int .u8 128) (hv:=by intro W;exact J70 (Z5u hV ht) rfl rfl rfl);refine Wt ?_;refine Wt ?_;refine MZ fun W hS=> ?_;go_upto_region 2 with fail;refine RL hS ?_;clear hS;refine ML 1 ?_;refine MC (v:=.agg (c4 Y)) (fun W hS=>ε W (J8 hG hS.ext).1) ?_;refine MN (z:=c4 0) (t:=138) ?_;intro Ξ;refine MR 0 ?_;refine MZ fun W hS=> ?_;go_upto_region 3 with fail;refine RL hS ?_;clear hS;refine MW ?_ (v:=.pointer (some ⟨U0,0+31,none⟩)) (hv:=fun _=>rxa Tryz.underlying23 (by decide));refine MG 2 ?_ (j:=0+31) (v:=.int .u8 ((J2 V) 31)) (hj:=ag0 (by decide));refine MW ?_ (v:=.int .u8 (bits .andNot .u8 (J2 V 31) 128)) (hv:=by intro W;exact J99 rfl rfl rfl rfl);refine MW ?_ (v:=.pointer (some ⟨U0,0+31,none⟩)) (hv:=fun _=>rxa Tryz.underlying23 (by decide));refine MP 2 (v:=.int .u8 (bits .andNot .u8 (J2 V 31) 128)) (cs' :=J0 .u8 32 (upd (J2 V) 31 (bits .andNot .u8 (J2 V 31) 128))) ?_ (hs:=by rw[J1,AL];decide) (hc:=by rw[AL];exact V1 _ _ _ _ _);refine MT (fun W hS=>by rw[Z5v (Q3m hV)] at hS;exact hS) ?_;refine MZ fun W hS=> ?_
  by_cases hy:Y=V % 2^255
  ·
   have D:=BF hy;clear hy;go_upto_region 4 with fail;refine RS hS ?_;clear hS;refine ML 0 ?_;refine MC (v:=.agg (J0 .u8 32 (J2 Y))) (fun W hS=>β W (J8 hG hS.ext).1) ?_;refine ML 2 ?_;rw[decide_eq_true D.out] at M;refine MW ?_ (v:=.bool false) (hv:=fun _=>J1a ((M) _) (by kernel_rfl) rfl rfl rfl);refine MZx fun W hS=> ?_;go_upto_region 6 with fail;refine RL hS ?_;clear hS;refine ML 0 ?_;refine ML 0 ?_;refine MC (v:=.agg (c4 N2)) (fun W hS=>γ W (J8 hG hS.ext).1) ?_;refine MN (z:=c4 0) (t:=138) ?_;intro D0;refine MR 0 ?_;refine MZ fun W hS=> ?_;have X:R=dX Y:=by unfold dX dU dV;rw[HR.out,δ.out,κ.out,ν.out,μ.out]
   have Z:B=dB Y:=by unfold dB dU dV;rw[HB.out,δ.out,κ.out,ν.out,μ.out]
   have σ:=BF X;have ρ:=BF Z;clear X Z
   by_cases hb:B=true
   ·
    have G:=BF hb;clear hb;go_upto_region 7 with fail;refine RXn 12 [⟨12,7,c4 0,138⟩] hS ?_ (by simp only[BJ];exact⟨⟨_,rfl,rfl,rfl,fun _ _=>by kernel_rfl⟩,fun _ h=>by cases h⟩);clear hS;refine ML 0 ?_;refine MC (v:=.agg (c4 1)) (fun W hS=>J3e W) ?_;refine MC (v:=.agg (c4 N3)) (fun W hS=>T W (J8 hG hS.ext).1) ?_;refine MF (v:=.agg (c4 DD)) (fun W hS=>J0a rfl rfl ((J8 hG hS.ext).2.2.1 hc) (by kernel_rfl) (by kernel_rfl)) ?_;refine ML 0 ?_;refine MC (v:=.agg (c4 N4)) (fun W hS=>N W (J8 hG hS.ext).1) ?_;refine MC (v:=.agg (c4 1)) (fun W hS=>J3e W) ?_;refine MC (v:=.agg (c4 N5)) (fun W hS=>S W (J8 hG hS.ext).1) ?_;rw[G.out] at J;refine MC (v:=.tuple #[.agg (c4 R),.bool true]) (fun W hS=>J W (J8 hG hS.ext).1 ((J8 hG hS.ext).2.1 hc)) ?_;refine MV ?_;refine MV ?_;refine Wt ?_;refine MZB fun D4=> ?_;refine MR 0 ?_;refine Wt ?_;refine MZn fun W hS=> ?_
    by_cases h0:R=0
    ·
     have U:=BF h0;clear h0;go_upto_region 8 with fail;refine RL hS ?_;clear hS;refine Wt ?_;refine Wf ?_;refine Wf ?_;refine Wt ?_;refine Wt ?_;refine ML 0 ?_;refine MW ?_ (v:=.agg (c4 0)) (hv:=by intro W;kernel_rfl);rw[decide_eq_true U.out] at α;refine MC (v:=.bool true) (fun W hS=>α W (J8 hG hS.ext).1) ?_;refine Wt ?_;refine Wt ?_;refine MZ fun W hS=> ?_;go_upto_region 9 with fail;refine RL hS ?_;clear hS;refine MW ?_ (v:=.agg (p4 0 0 0 0)) (hv:=by intro W;kernel_rfl);refine MR 3 ?_;refine MW ?_ (v:=.int .i64 15);refine MZ fun W hS=> ?_;go_wp2;exact BC (Y7 rfl rfl rfl (hS.blk (i:=3) rfl) (by kernel_rfl) (by kernel_rfl)) rfl ⟨rfl,hS.ext⟩
    have U:=BF h0;clear h0;go_upto_region 8 with fail;refine RL hS ?_;clear hS;refine Wt ?_;refine Wf ?_;refine Wf ?_;refine Wt ?_;refine Wt ?_;refine ML 0 ?_;refine MW ?_ (v:=.agg (c4 0)) (hv:=by intro W;kernel_rfl);rw[decide_eq_false U.out] at α;refine MC (v:=.bool false) (fun W hS=>α W (J8 hG hS.ext).1) ?_;refine Wf ?_;refine Wf ?_;refine MZ fun W hS=> ?_;exact absurd (Z5t (D.out▸lY) (by rw[←D.out,←ρ.out];exact G.out) (fun h=>U.out (by rw[σ.out,D.out];exact h.2))) (by rw[hok];decide)
   rw[Bool.not_eq_true] at hb;have G:=BF hb;clear hb;go_upto_region 7 with fail;refine RXn 12 [⟨12,7,c4 0,138⟩] hS ?_ (by simp only[BJ];exact⟨⟨_,rfl,rfl,rfl,fun _ _=>by kernel_rfl⟩,fun _ h=>by cases h⟩);clear hS;refine ML 0 ?_;refine MC (v:=.agg (c4 1)) (fun W hS=>J3e W) ?_;refine MC (v:=.agg (c4 N3)) (fun W hS=>T W (J8 hG hS.ext).1) ?_;refine MF (v:=.agg (c4 DD)) (fun W hS=>J0a rfl rfl ((J8 hG hS.ext).2.2.1 hc) (by kernel_rfl) (by kernel_rfl)) ?_;refine ML 0 ?_;refine MC (v:=.agg (c4 N4)) (fun W hS=>N W (J8 hG hS.ext).1) ?_;refine MC (v:=.agg (c4 1)) (fun W hS=>J3e W) ?_;refine MC (v:=.agg (c4 N5)) (fun W hS=>S W (J8 hG hS.ext).1) ?_;rw[G.out] at J;refine MC (v:=.tuple #[.agg (c4 R),.bool false]) (fun W hS=>J W (J8 hG hS.ext).1 ((J8 hG hS.ext).2.1 hc)) ?_;refine MV ?_;refine MV ?_;refine Wf ?_;refine MZB fun D5=> ?_;refine MR 0 ?_;refine Wf ?_;refine MZn fun W hS=> ?_;go_upto_region 8 with fail;refine RL hS ?_;clear hS;refine Wf ?_;refine Wt ?_;refine Wt ?_;(iterate 6 refine MS ?_);refine Wt ?_;refine MZ fun W hS=> ?_;go_upto_region 9 with fail;refine RL hS ?_;clear hS;refine MW ?_ (v:=.agg (p4 0 0 0 0)) (hv:=by intro W;kernel_rfl);refine MR 3 ?_;refine MW ?_ (v:=.int .i64 15);refine MZ fun W hS=> ?_;go_wp2;exact BC (Y7 rfl rfl rfl (hS.blk (i:=3) rfl) (by kernel_rfl) (by kernel_rfl)) rfl ⟨rfl,hS.ext⟩
  have D:=BF hy;clear hy;go_upto_region 4 with fail;refine RS hS ?_;clear hS;refine ML 0 ?_;refine MC (v:=.agg (J0 .u8 32 (J2 Y))) (fun W hS=>β W (J8 hG hS.ext).1) ?_;refine ML 2 ?_;rw[decide_eq_false D.out] at M;refine MW ?_ (v:=.bool true) (hv:=fun _=>J1a ((M) _) (by kernel_rfl) rfl rfl rfl);refine MZx fun W hS=> ?_;go_upto_region 5 with fail;refine RL hS ?_;clear hS;refine MW ?_ (v:=.agg (p4 0 0 0 0)) (hv:=by intro W;kernel_rfl);refine MR 1 ?_;refine MW ?_ (v:=.int .i64 15);refine MZ fun W hS=> ?_;go_wp2;exact BC (Y7 rfl rfl rfl (hS.blk (i:=1) rfl) (by kernel_rfl) (by kernel_rfl)) rfl ⟨rfl,hS.ext⟩
 go_upto_region 1 with fail;refine RL hS ?_;clear hS;refine MW ?_ (v:=.pointer (some ⟨U0,0+31,none⟩)) (hv:=fun _=>rxa Tryz.underlying23 (by decide));refine MG 1 ?_ (j:=0+31) (v:=.int .u8 ((J2 V) 31)) (hj:=ag0 (by decide));refine MW ?_ (v:=.int .u8 0) (hv:=by intro W;exact J70 (Z5w hV ht) rfl rfl rfl);refine Wf ?_;refine Wf ?_;refine MZ fun W hS=> ?_;go_upto_region 2 with fail;refine RL hS ?_;clear hS;refine ML 1 ?_;refine MC (v:=.agg (c4 Y)) (fun W hS=>ε W (J8 hG hS.ext).1) ?_;refine MN (z:=c4 0) (t:=138) ?_;intro Ω;refine MR 0 ?_;refine MZ fun W hS=> ?_;go_upto_region 3 with fail;refine RL hS ?_;clear hS;refine MW ?_ (v:=.pointer (some ⟨U0,0+31,none⟩)) (hv:=fun _=>rxa Tryz.underlying23 (by decide));refine MG 2 ?_ (j:=0+31) (v:=.int .u8 ((J2 V) 31)) (hj:=ag0 (by decide));refine MW ?_ (v:=.int .u8 (bits .andNot .u8 (J2 V 31) 128)) (hv:=by intro W;exact J99 rfl rfl rfl rfl);refine MW ?_ (v:=.pointer (some ⟨U0,0+31,none⟩)) (hv:=fun _=>rxa Tryz.underlying23 (by decide));refine MP 2 (v:=.int .u8 (bits .andNot .u8 (J2 V 31) 128)) (cs' :=J0 .u8 32 (upd (J2 V) 31 (bits .andNot .u8 (J2 V 31) 128))) ?_ (hs:=by rw[J1,AL];decide) (hc:=by rw[AL];exact V1 _ _ _ _ _);refine MT (fun W hS=>by rw[Z5v (Q3m hV)] at hS;exact hS) ?_;refine MZ fun W hS=> ?_
 by_cases hy:Y=V % 2^255
 ·
  have D:=BF hy;clear hy;go_upto_region 4 with fail;refine RS hS ?_;clear hS;refine ML 0 ?_;refine MC (v:=.agg (J0 .u8 32 (J2 Y))) (fun W hS=>β W (J8 hG hS.ext).1) ?_;refine ML 2 ?_;rw[decide_eq_true D.out] at M;refine MW ?_ (v:=.bool false) (hv:=fun _=>J1a ((M) _) (by kernel_rfl) rfl rfl rfl);refine MZx fun W hS=> ?_;go_upto_region 6 with fail;refine RL hS ?_;clear hS;refine ML 0 ?_;refine ML 0 ?_;refine MC (v:=.agg (c4 N2)) (fun W hS=>γ W (J8 hG hS.ext).1) ?_;refine MN (z:=c4 0) (t:=138) ?_;intro Ψ;refine MR 0 ?_;refine MZ fun W hS=> ?_;have X:R=dX Y:=by unfold dX dU dV;rw[HR.out,δ.out,κ.out,ν.out,μ.out]
  have Z:B=dB Y:=by unfold dB dU dV;rw[HB.out,δ.out,κ.out,ν.out,μ.out]
  have σ:=BF X;have ρ:=BF Z;clear X Z
  by_cases hb:B=true
  ·
   have G:=BF hb;clear hb;go_upto_region 7 with fail;refine RXn 12 [⟨12,7,c4 0,138⟩] hS ?_ (by simp only[BJ];exact⟨⟨_,rfl,rfl,rfl,fun _ _=>by kernel_rfl⟩,fun _ h=>by cases h⟩);clear hS;refine ML 0 ?_;refine MC (v:=.agg (c4 1)) (fun W hS=>J3e W) ?_;refine MC (v:=.agg (c4 N3)) (fun W hS=>T W (J8 hG hS.ext).1) ?_;refine MF (v:=.agg (c4 DD)) (fun W hS=>J0a rfl rfl ((J8 hG hS.ext).2.2.1 hc) (by kernel_rfl) (by kernel_rfl)) ?_;refine ML 0 ?_;refine MC (v:=.agg (c4 N4)) (fun W hS=>N W (J8 hG hS.ext).1) ?_;refine MC (v:=.agg (c4 1)) (fun W hS=>J3e W) ?_;refine MC (v:=.agg (c4 N5)) (fun W hS=>S W (J8 hG hS.ext).1) ?_;rw[G.out] at J;refine MC (v:=.tuple #[.agg (c4 R),.bool true]) (fun W hS=>J W (J8 hG hS.ext).1 ((J8 hG hS.ext).2.1 hc)) ?_;refine MV ?_;refine MV ?_;refine Wt ?_;refine MZB fun D6=> ?_;refine MR 0 ?_;refine Wt ?_;refine MZn fun W hS=> ?_;go_upto_region 8 with fail;refine RL hS ?_;clear hS;refine Wt ?_;(iterate 4 refine Wf ?_);(iterate 3 refine MS ?_);refine Wf ?_;refine Wf ?_;refine MZ fun W hS=> ?_;exact absurd (Z5t (D.out▸lY) (by rw[←D.out,←ρ.out];exact G.out) (fun h=>ht h.1)) (by rw[hok];decide)
  rw[Bool.not_eq_true] at hb;have G:=BF hb;clear hb;go_upto_region 7 with fail;refine RXn 12 [⟨12,7,c4 0,138⟩] hS ?_ (by simp only[BJ];exact⟨⟨_,rfl,rfl,rfl,fun _ _=>by kernel_rfl⟩,fun _ h=>by cases h⟩);clear hS;refine ML 0 ?_;refine MC (v:=.agg (c4 1)) (fun W hS=>J3e W) ?_;refine MC (v:=.agg (c4 N3)) (fun W hS=>T W (J8 hG hS.ext).1) ?_;refine MF (v:=.agg (c4 DD)) (fun W hS=>J0a rfl rfl ((J8 hG hS.ext).2.2.1 hc) (by kernel_rfl) (by kernel_rfl)) ?_;refine ML 0 ?_;refine MC (v:=.agg (c4 N4)) (fun W hS=>N W (J8 hG hS.ext).1) ?_;refine MC (v:=.agg (c4 1)) (fun W hS=>J3e W) ?_;refine MC (v:=.agg (c4 N5)) (fun W hS=>S W (J8 hG hS.ext).1) ?_;rw[G.out] at J;refine MC (v:=.tuple #[.agg (c4 R),.bool false]) (fun W hS=>J W (J8 hG hS.ext).1 ((J8 hG hS.ext).2.1 hc)) ?_;refine MV ?_;refine MV ?_;refine Wf ?_;refine MZB fun D3=> ?_;refine MR 0 ?_;refine Wf ?_;refine MZn fun W hS=> ?_;go_upto_region 8 with fail;refine RL hS ?_;clear hS;refine Wf ?_;refine Wt ?_;refine Wt ?_;(iterate 6 refine MS ?_);refine Wt ?_;refine MZ fun W hS=> ?_;go_upto_region 9 with fail;refine RL hS ?_;clear hS;refine MW ?_ (v:=.agg (p4 0 0 0 0)) (hv:=by intro W;kernel_rfl);refine MR 3 ?_;refine MW ?_ (v:=.int .i64 15);refine MZ fun W hS=> ?_;go_wp2;exact BC (Y7 rfl rfl rfl (hS.blk (i:=3) rfl) (by kernel_rfl) (by kernel_rfl)) rfl ⟨rfl,hS.ext⟩
 have D:=BF hy;clear hy;go_upto_region 4 with fail;refine RS hS ?_;clear hS;refine ML 0 ?_;refine MC (v:=.agg (J0 .u8 32 (J2 Y))) (fun W hS=>β W (J8 hG hS.ext).1) ?_;refine ML 2 ?_;rw[decide_eq_false D.out] at M;refine MW ?_ (v:=.bool true) (hv:=fun _=>J1a ((M) _) (by kernel_rfl) rfl rfl rfl);refine MZx fun W hS=> ?_;go_upto_region 5 with fail;refine RL hS ?_;clear hS;refine MW ?_ (v:=.agg (p4 0 0 0 0)) (hv:=by intro W;kernel_rfl);refine MR 1 ?_;refine MW ?_ (v:=.int .i64 15);refine MZ fun W hS=> ?_;go_wp2;exact BC (Y7 rfl rfl rfl (hS.blk (i:=1) rfl) (by kernel_rfl) (by kernel_rfl)) rfl ⟨rfl,hS.ext⟩
end

section
set_option maxHeartbeats 1500000
attribute [local irreducible] wpList Z9 wpX
variable {kn : Kn}

theorem J8g (hc:kn.c){V:Nat}(hV:V<2^256)(hok:dOk V=true):
  ∃X T,RN X (V % 2^255) 1 T (dPt V)∧∀w,GE kn w→Az Tryz.prog 95 #[.agg (J0 .u8 32 (J2 V))] w fun e w' =>V5 (.tuple #[.agg (p4 X (V % 2^255) 1 T),.int .i64 0]) w w' e:=by
 have ν:=Y9o (J2 V) (J4x V);rw[J4r,show 8*32=256 by decide,AI hV] at ν;obtain⟨Y,hY⟩:=exn (V % 2^255 % PP);rw[←hY] at ν;have lY:=bpp hY;have HY:=BF hY;clear hY;have Ψ:=Q52 Y (Q5 lY);rw[AI lY] at Ψ;have Δ:=Y9e Y (V % 2^255) (Z5s lY) (Z0e V);have θ:=K5 Y Y (Q5 lY) (Q5 lY);obtain⟨N2,ω⟩:=exn (Y*Y % PP);rw[←ω] at θ;have G8:=bpp ω;have D5:=Q5 G8;have ξ:=BF ω;clear ω;have ζ:=J8f N2 1 D5 (by decide);obtain⟨N3,ρ⟩:=exn ((N2+(PP-1 % PP)) % PP);rw[←ρ] at ζ;have G0:=bpp ρ;have G2:=Q5 G0;have ψ:=BF ρ;clear ρ;have ε:=K5 DD N2 Y9s D5;obtain⟨N4,σ⟩:=exn (DD*N2 % PP);rw[←σ] at ε;have G7:=bpp σ;have G1:=Q5 G7;have φ:=BF σ;clear σ;have δ:=J4y N4 1 G1 (by decide);obtain⟨N5,Γ⟩:=exn ((N4+1) % PP);rw[←Γ] at δ;have D7:=bpp Γ;have G3:=Q5 D7;have κ:=BF Γ;clear Γ;have M:=Z5r N3 N5 G2 G3;obtain⟨R,hR⟩:=exn (rtR N3 N5);rw[←hR] at M;have lR:R<PP:=by rw[hR];exact Q8e _ _
 have HR:=BF hR;clear hR;obtain⟨B,hB⟩:=exn (rtB N3 N5);rw[←hB] at M;have HB:=BF hB;clear hB;have Ξ:=J6d R 0 (Q5 lR) (by decide);rw[AI lR,AI (by decide)] at Ξ;have α:=Z2p R (Q5 lR);rw[AI lR] at α;have U:=Q54 hok;have D3:V % 2^255=Y:=by rw[HY.out];exact(AI (Y2d hok)).symm
 unfold dPt at U;rw[D3] at U;have D4:=BF D3;clear D3;obtain⟨X0,τ⟩:=exn (dXf Y (top V));have G5:X0<PP:=by rw[τ];exact V46 _ _
 rw[←τ] at U;have Z:=BF τ;clear τ;obtain⟨T,rT,μ⟩:=Y9p (kn:=kn) G5 lY U;have D0:=Q04 R (Q5 lR);obtain⟨N8,χ⟩:=exn ((PP-R % PP) % PP);rw[←χ] at D0;have G4:=bpp χ;have M5:=Q5 G4;have D8:=BF χ;clear χ;have S:=Z2p R (Q5 lR);rw[AI lR] at S;have D1:=Q04 R (Q5 lR);obtain⟨N7,Θ⟩:=exn ((PP-R % PP) % PP);rw[←Θ] at D1;have D9:=bpp Θ;have M2:=Q5 D9;have G6:=BF Θ;clear Θ;refine⟨X0,T,by unfold dPt;rw[D4.out,←Z.out];exact rT,?_⟩;rw[D4.out];clear U;intro w hG;have hS:=SH.nil [] w
 go_enter Tryz.func95,Tryz.ntmps95
 go_upto_region 0 with fail;refine RL hS ?_;clear hS;refine MN (z:=J0 .u8 32 (J2 V)) (t:=23) ?_;intro U0;refine MN (z:=p4 0 0 0 0) (t:=140) ?_;intro G9;refine W0 ?_;refine MZ fun W hS=> ?_
 by_cases ht:top V=true
 ·
  go_upto_region 1 with fail;refine RL hS ?_;clear hS;refine MW ?_ (v:=.pointer (some ⟨U0,0+31,none⟩)) (hv:=fun _=>rxa Tryz.underlying23 (by decide));refine MG 1 ?_ (j:=0+31) (v:=.int .u8 ((J2 V) 31)) (hj:=ag0 (by decide));refine MW ?_ (v:=.int .u8 128) (hv:=by intro W;exact J70 (Z5u hV ht) rfl rfl rfl);refine Wt ?_;refine Wt ?_;refine MZ fun W hS=> ?_;go_upto_region 2 with fail;refine RL hS ?_;clear hS;refine ML 1 ?_;refine MC (v:=.agg (c4 Y)) (fun W hS=>ν W (J8 hG hS.ext).1) ?_;refine MN (z:=c4 0) (t:=138) ?_;intro M0;refine MR 0 ?_;refine MZ fun W hS=> ?_;go_upto_region 3 with fail;refine RL hS ?_;clear hS;refine MW ?_ (v:=.pointer (some ⟨U0,0+31,none⟩)) (hv:=fun _=>rxa Tryz.underlying23 (by decide));refine MG 2 ?_ (j:=0+31) (v:=.int .u8 ((J2 V) 31)) (hj:=ag0 (by decide));refine MW ?_ (v:=.int .u8 (bits .andNot .u8 (J2 V 31) 128)) (hv:=by intro W;exact J99 rfl rfl rfl rfl);refine MW ?_ (v:=.pointer (some ⟨U0,0+31,none⟩)) (hv:=fun _=>rxa Tryz.underlying23 (by decide));refine MP 2 (v:=.int .u8 (bits .andNot .u8 (J2 V 31) 128)) (cs' :=J0 .u8 32 (upd (J2 V) 31 (bits .andNot .u8 (J2 V 31) 128))) ?_ (hs:=by rw[J1,AL];decide) (hc:=by rw[AL];exact V1 _ _ _ _ _);refine MT (fun W hS=>by rw[Z5v (Q3m hV)] at hS;exact hS) ?_;refine MZ fun W hS=> ?_
  by_cases hy:Y=V % 2^255
  ·
   have J:=BF hy;clear hy;go_upto_region 4 with fail;refine RS hS ?_;clear hS;refine ML 0 ?_;refine MC (v:=.agg (J0 .u8 32 (J2 Y))) (fun W hS=>Ψ W (J8 hG hS.ext).1) ?_;refine ML 2 ?_;rw[decide_eq_true J.out] at Δ;refine MW ?_ (v:=.bool false) (hv:=fun _=>J1a ((Δ) _) (by kernel_rfl) rfl rfl rfl);refine MZx fun W hS=> ?_;go_upto_region 6 with fail;refine RL hS ?_;clear hS;refine ML 0 ?_;refine ML 0 ?_;refine MC (v:=.agg (c4 N2)) (fun W hS=>θ W (J8 hG hS.ext).1) ?_;refine MN (z:=c4 0) (t:=138) ?_;intro M1;refine MR 0 ?_;refine MZ fun W hS=> ?_;have β:R=dX Y:=by unfold dX dU dV;rw[HR.out,ψ.out,κ.out,φ.out,ξ.out]
   have γ:B=dB Y:=by unfold dB dU dV;rw[HB.out,ψ.out,κ.out,φ.out,ξ.out]
   have N:=BF β;have Ω:=BF γ;clear β γ
   by_cases hb:B=true
   ·
    have η:=BF hb;clear hb;go_upto_region 7 with fail;refine RXn 12 [⟨12,7,c4 0,138⟩] hS ?_ (by simp only[BJ];exact⟨⟨_,rfl,rfl,rfl,fun _ _=>by kernel_rfl⟩,fun _ h=>by cases h⟩);clear hS;refine ML 0 ?_;refine MC (v:=.agg (c4 1)) (fun W hS=>J3e W) ?_;refine MC (v:=.agg (c4 N3)) (fun W hS=>ζ W (J8 hG hS.ext).1) ?_;refine MF (v:=.agg (c4 DD)) (fun W hS=>J0a rfl rfl ((J8 hG hS.ext).2.2.1 hc) (by kernel_rfl) (by kernel_rfl)) ?_;refine ML 0 ?_;refine MC (v:=.agg (c4 N4)) (fun W hS=>ε W (J8 hG hS.ext).1) ?_;refine MC (v:=.agg (c4 1)) (fun W hS=>J3e W) ?_;refine MC (v:=.agg (c4 N5)) (fun W hS=>δ W (J8 hG hS.ext).1) ?_;rw[η.out] at M;refine MC (v:=.tuple #[.agg (c4 R),.bool true]) (fun W hS=>M W (J8 hG hS.ext).1 ((J8 hG hS.ext).2.1 hc)) ?_;refine MV ?_;refine MV ?_;refine Wt ?_;refine MZB fun M7=> ?_;refine MR 0 ?_;refine Wt ?_;refine MZn fun W hS=> ?_
    by_cases h0:R=0
    ·
     exact absurd (by rw[←J.out,←N.out];exact h0) (V9i hok ht)
    have D6:=BF h0;clear h0;go_upto_region 8 with fail;refine RL hS ?_;clear hS;refine Wt ?_;refine Wf ?_;refine Wf ?_;refine Wt ?_;refine Wt ?_;refine ML 0 ?_;refine MW ?_ (v:=.agg (c4 0)) (hv:=by intro W;kernel_rfl);rw[decide_eq_false D6.out] at Ξ;refine MC (v:=.bool false) (fun W hS=>Ξ W (J8 hG hS.ext).1) ?_;refine Wf ?_;refine Wf ?_;refine MZ fun W hS=> ?_
    by_cases ho:R % 2=1
    ·
     have D:=BF ho;clear ho;go_upto_region 10 with fail;refine RL hS ?_;clear hS;refine ML 0 ?_;rw[decide_eq_true D.out] at α;refine MC (v:=.bool true) (fun W hS=>α W (J8 hG hS.ext).1) ?_;refine Wt ?_;refine MW ?_ (v:=.bool false) (hv:=by intro W;first|rfl|(go_simp;done));refine MZ fun W hS=> ?_;have G:R=X0:=Z.out.trans (by unfold dXf Z7s;rw[←N.out,AI lR,decide_eq_true D.out,ht];exact if_pos rfl) |>.symm;rw[G] at hS;clear G;go_upto_region 12 with fail;refine RL hS ?_;clear hS;refine ML 0 ?_;refine ML 2 ?_;refine MC (v:=.agg (p4 X0 Y 1 T)) (fun W hS=>μ W (J8 hG hS.ext)) ?_;refine MR 3 ?_;refine W0 ?_;refine MZ fun W hS=> ?_;go_wp2;exact BC (Y7 rfl rfl rfl (hS.blk (i:=3) rfl) (by kernel_rfl) (by kernel_rfl)) rfl ⟨rfl,hS.ext⟩
    have D:=BF ho;clear ho;go_upto_region 10 with fail;refine RL hS ?_;clear hS;refine ML 0 ?_;rw[decide_eq_false D.out] at α;refine MC (v:=.bool false) (fun W hS=>α W (J8 hG hS.ext).1) ?_;refine Wt ?_;refine MW ?_ (v:=.bool true) (hv:=by intro W;first|rfl|(go_simp;done));refine MZ fun W hS=> ?_;go_upto_region 11 with fail;refine RL hS ?_;clear hS;refine ML 0 ?_;refine MC (v:=.agg (c4 N8)) (fun W hS=>D0 W (J8 hG hS.ext).1) ?_;refine MR 0 ?_;refine MZ fun W hS=> ?_;have G:N8=X0:=Z.out.trans (by unfold dXf Z7s;rw[←N.out,AI lR,decide_eq_false D.out,ht,D8.out,AI lR];exact if_neg (by decide)) |>.symm;rw[G] at hS;clear G;go_upto_region 12 with fail;refine RL hS ?_;clear hS;refine ML 0 ?_;refine ML 2 ?_;refine MC (v:=.agg (p4 X0 Y 1 T)) (fun W hS=>μ W (J8 hG hS.ext)) ?_;refine MR 3 ?_;refine W0 ?_;refine MZ fun W hS=> ?_;go_wp2;exact BC (Y7 rfl rfl rfl (hS.blk (i:=3) rfl) (by kernel_rfl) (by kernel_rfl)) rfl ⟨rfl,hS.ext⟩
   exact absurd (by rw[Ω.out,J.out];exact Y9r hok) hb
  exact absurd (HY.out.trans (AI (Y2d hok))) hy
 go_upto_region 1 with fail;refine RL hS ?_;clear hS;refine MW ?_ (v:=.pointer (some ⟨U0,0+31,none⟩)) (hv:=fun _=>rxa Tryz.underlying23 (by decide));refine MG 1 ?_ (j:=0+31) (v:=.int .u8 ((J2 V) 31)) (hj:=ag0 (by decide));refine MW ?_ (v:=.int .u8 0) (hv:=by intro W;exact J70 (Z5w hV ht) rfl rfl rfl);refine Wf ?_;refine Wf ?_;refine MZ fun W hS=> ?_;go_upto_region 2 with fail;refine RL hS ?_;clear hS;refine ML 1 ?_;refine MC (v:=.agg (c4 Y)) (fun W hS=>ν W (J8 hG hS.ext).1) ?_;refine MN (z:=c4 0) (t:=138) ?_;intro M4;refine MR 0 ?_;refine MZ fun W hS=> ?_;go_upto_region 3 with fail;refine RL hS ?_;clear hS;refine MW ?_ (v:=.pointer (some ⟨U0,0+31,none⟩)) (hv:=fun _=>rxa Tryz.underlying23 (by decide));refine MG 2 ?_ (j:=0+31) (v:=.int .u8 ((J2 V) 31)) (hj:=ag0 (by decide));refine MW ?_ (v:=.int .u8 (bits .andNot .u8 (J2 V 31) 128)) (hv:=by intro W;exact J99 rfl rfl rfl rfl);refine MW ?_ (v:=.pointer (some ⟨U0,0+31,none⟩)) (hv:=fun _=>rxa Tryz.underlying23 (by decide));refine MP 2 (v:=.int .u8 (bits .andNot .u8 (J2 V 31) 128)) (cs' :=J0 .u8 32 (upd (J2 V) 31 (bits .andNot .u8 (J2 V 31) 128))) ?_ (hs:=by rw[J1,AL];decide) (hc:=by rw[AL];exact V1 _ _ _ _ _);refine MT (fun W hS=>by rw[Z5v (Q3m hV)] at hS;exact hS) ?_;refine MZ fun W hS=> ?_
 by_cases hy:Y=V % 2^255
 ·
  have J:=BF hy;clear hy;go_upto_region 4 with fail;refine RS hS ?_;clear hS;refine ML 0 ?_;refine MC (v:=.agg (J0 .u8 32 (J2 Y))) (fun W hS=>Ψ W (J8 hG hS.ext).1) ?_;refine ML 2 ?_;rw[decide_eq_true J.out] at Δ;refine MW ?_ (v:=.bool false) (hv:=fun _=>J1a ((Δ) _) (by kernel_rfl) rfl rfl rfl);refine MZx fun W hS=> ?_;go_upto_region 6 with fail;refine RL hS ?_;clear hS;refine ML 0 ?_;refine ML 0 ?_;refine MC (v:=.agg (c4 N2)) (fun W hS=>θ W (J8 hG hS.ext).1) ?_;refine MN (z:=c4 0) (t:=138) ?_;intro M3;refine MR 0 ?_;refine MZ fun W hS=> ?_;have β:R=dX Y:=by unfold dX dU dV;rw[HR.out,ψ.out,κ.out,φ.out,ξ.out]
  have γ:B=dB Y:=by unfold dB dU dV;rw[HB.out,ψ.out,κ.out,φ.out,ξ.out]
  have N:=BF β;have Ω:=BF γ;clear β γ
  by_cases hb:B=true
  ·
   have η:=BF hb;clear hb;go_upto_region 7 with fail;refine RXn 12 [⟨12,7,c4 0,138⟩] hS ?_ (by simp only[BJ];exact⟨⟨_,rfl,rfl,rfl,fun _ _=>by kernel_rfl⟩,fun _ h=>by cases h⟩);clear hS;refine ML 0 ?_;refine MC (v:=.agg (c4 1)) (fun W hS=>J3e W) ?_;refine MC (v:=.agg (c4 N3)) (fun W hS=>ζ W (J8 hG hS.ext).1) ?_;refine MF (v:=.agg (c4 DD)) (fun W hS=>J0a rfl rfl ((J8 hG hS.ext).2.2.1 hc) (by kernel_rfl) (by kernel_rfl)) ?_;refine ML 0 ?_;refine MC (v:=.agg (c4 N4)) (fun W hS=>ε W (J8 hG hS.ext).1) ?_;refine MC (v:=.agg (c4 1)) (fun W hS=>J3e W) ?_;refine MC (v:=.agg (c4 N5)) (fun W hS=>δ W (J8 hG hS.ext).1) ?_;rw[η.out] at M;refine MC (v:=.tuple #[.agg (c4 R),.bool true]) (fun W hS=>M W (J8 hG hS.ext).1 ((J8 hG hS.ext).2.1 hc)) ?_;refine MV ?_;refine MV ?_;refine Wt ?_;refine MZB fun M6=> ?_;refine MR 0 ?_;refine Wt ?_;refine MZn fun W hS=> ?_;go_upto_region 8 with fail;refine RL hS ?_;clear hS;refine Wt ?_;(iterate 4 refine Wf ?_);(iterate 3 refine MS ?_);refine Wf ?_;refine Wf ?_;refine MZ fun W hS=> ?_
   by_cases ho:R % 2=1
   ·
    have D:=BF ho;clear ho;go_upto_region 10 with fail;refine RL hS ?_;clear hS;refine ML 0 ?_;rw[decide_eq_true D.out] at S;refine MC (v:=.bool true) (fun W hS=>S W (J8 hG hS.ext).1) ?_;refine Wf ?_;refine MW ?_ (v:=.bool true) (hv:=by intro W;first|rfl|(go_simp;done));refine MZ fun W hS=> ?_;go_upto_region 11 with fail;refine RL hS ?_;clear hS;refine ML 0 ?_;refine MC (v:=.agg (c4 N7)) (fun W hS=>D1 W (J8 hG hS.ext).1) ?_;refine MR 0 ?_;refine MZ fun W hS=> ?_;have G:N7=X0:=Z.out.trans (by unfold dXf Z7s;rw[←N.out,AI lR,decide_eq_true D.out,Bool.eq_false_iff.2 ht,G6.out,AI lR];exact if_neg (by decide)) |>.symm;rw[G] at hS;clear G;go_upto_region 12 with fail;refine RL hS ?_;clear hS;refine ML 0 ?_;refine ML 2 ?_;refine MC (v:=.agg (p4 X0 Y 1 T)) (fun W hS=>μ W (J8 hG hS.ext)) ?_;refine MR 3 ?_;refine W0 ?_;refine MZ fun W hS=> ?_;go_wp2;exact BC (Y7 rfl rfl rfl (hS.blk (i:=3) rfl) (by kernel_rfl) (by kernel_rfl)) rfl ⟨rfl,hS.ext⟩
   have D:=BF ho;clear ho;go_upto_region 10 with fail;refine RL hS ?_;clear hS;refine ML 0 ?_;rw[decide_eq_false D.out] at S;refine MC (v:=.bool false) (fun W hS=>S W (J8 hG hS.ext).1) ?_;refine Wf ?_;refine MW ?_ (v:=.bool false) (hv:=by intro W;first|rfl|(go_simp;done));refine MZ fun W hS=> ?_;have G:R=X0:=Z.out.trans (by unfold dXf Z7s;rw[←N.out,AI lR,decide_eq_false D.out,Bool.eq_false_iff.2 ht];exact if_pos rfl) |>.symm;rw[G] at hS;clear G;go_upto_region 12 with fail;refine RL hS ?_;clear hS;refine ML 0 ?_;refine ML 2 ?_;refine MC (v:=.agg (p4 X0 Y 1 T)) (fun W hS=>μ W (J8 hG hS.ext)) ?_;refine MR 3 ?_;refine W0 ?_;refine MZ fun W hS=> ?_;go_wp2;exact BC (Y7 rfl rfl rfl (hS.blk (i:=3) rfl) (by kernel_rfl) (by kernel_rfl)) rfl ⟨rfl,hS.ext⟩
  exact absurd (by rw[Ω.out,J.out];exact Y9r hok) hb
 exact absurd (HY.out.trans (AI (Y2d hok))) hy
end

section
attribute [local irreducible] wpList Z9 wpX
variable {kn : Kn}
open Sc (LL J0k)
theorem Z0m {V:Nat}(hV:V<LL)(w:AA)(hG:Sc.GL w):Az Tryz.prog 98 #[.agg (J0 .u8 32 (J2 V))] w fun e w' =>V5 (.tuple #[L4 V,.bool true]) w w' e:=by
 have h:=Sc.canon_c (J2 V) (J4x V) w hG;rw[J4r,show 8*32=256 from rfl,AI (BG hV J32),Sc.canonV,if_pos hV] at h;exact h
theorem Z0n {V:Nat}(hV:LL≤V)(h2:V<2^256)(w:AA)(hG:Sc.GL w):Az Tryz.prog 98 #[.agg (J0 .u8 32 (J2 V))] w fun e w' =>V5 (.tuple #[L4 0,.bool false]) w w' e:=by
 have h:=Sc.canon_c (J2 V) (J4x V) w hG;rw[J4r,show 8*32=256 from rfl,AI h2,Sc.canonV,if_neg (Nat.not_lt.2 hV)] at h;exact h

end

section
set_option maxHeartbeats 3000000
attribute [local irreducible] wpList Z9 wpX
end
end Go.Proofs.YtpljgkofbfeelaaGreatDoor.S8

namespace Go.Proofs.YtpljgkofbfeelaaGreatDoor.S8.Sc
section
set_option maxHeartbeats 4000000

end

section
set_option maxHeartbeats 4000000

end

section
set_option maxHeartbeats 1000000

end

section
set_option maxHeartbeats 1000000

end

section
set_option maxHeartbeats 1000000

end

section
set_option maxHeartbeats 4000000

end
end Go.Proofs.YtpljgkofbfeelaaGreatDoor.S8.Sc

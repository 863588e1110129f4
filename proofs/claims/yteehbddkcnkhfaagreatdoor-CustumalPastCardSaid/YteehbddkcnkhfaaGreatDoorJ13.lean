/- Contracts and plain laws for custumalPast_holds. Conditions: the tables hold their numbers. -/
import Derived.Test.YteehbddkcnkhfaaGreatDoorJ12
open Go.RowKit
set_option maxRecDepth 100000
set_option linter.unusedSimpArgs false
set_option linter.unusedVariables false
namespace Go.Proofs.YteehbddkcnkhfaaGreatDoor.S8
section
set_option maxHeartbeats 1500000
attribute [local irreducible] wpList Y5 wpX
variable {kn : Kn}
theorem Z9v {p:Int}{x:Nat}(h:p=(x:Int))(hx:x<256):bits .and .u8 p 1=((x % 2:Nat):Int):=by
 subst h;refine(u8_and_nat x 1 hx (by decide)).trans ?_;rw[Nat.and_one_is_mod]
theorem Z3d (n q r:Nat)(hr:r<8):bits .and .u8 (J4 n q / 2^r) 1=((n / 2^(8*q+r) % 2:Nat):Int):=by
 have h0:n / 2^(8*q) % 256 / 2^r % 2=n / 2^(8*q+r) % 2:=by
  rw[Nat.pow_add,←Nat.div_div_eq_div_mul];generalize n / 2^(8*q)=x;obtain⟨d,hd⟩:∃d,8=r+(1+d):=⟨7-r,by omega⟩
  rw[show 256=2^8 by decide,hd,Nat.pow_add 2 r,Nat.mod_mul_right_div_self,Nat.pow_add 2 1 d,Nat.pow_one,Nat.mod_mul_right_mod]
 have e:J4 n q / 2^r=((n / 2^(8*q) % 256 / 2^r:Nat):Int):=by
  unfold J4;rw[Int.natCast_ediv,Int.natCast_pow];rfl
 rw[Z9v e (Nat.lt_of_le_of_lt (Nat.div_le_self _ _) (Nat.mod_lt _ (by decide))),h0]
theorem Y4z {a:Pr}(ha:OnC a){n i:Nat}(h:n / 2^i % 2=0):pm a (n / 2^i)=J1k (pm a (n / 2^(i+1))) (pm a (n / 2^(i+1))):=by
 rw[←J6b ha]
 congr 1
 rw[Nat.pow_succ,←Nat.div_div_eq_div_mul];omega
theorem Z9w {a:Pr}(ha:OnC a){n i:Nat}(h:n / 2^i % 2=1):pm a (n / 2^i)=J1k (J1k (pm a (n / 2^(i+1))) (pm a (n / 2^(i+1)))) a:=by
 rw[←V1c ha]
 congr 1
 rw[Nat.pow_succ,←Nat.div_div_eq_div_mul];omega
abbrev T4:=Nat×Nat×Nat×Nat
def pc (s:T4):Array Value:=p4 s.1 s.2.1 s.2.2.1 s.2.2.2
def RT (s:T4)(a:Pr):Prop:=RN s.1 s.2.1 s.2.2.1 s.2.2.2 a
structure TStep (kn:Kn)(P:T4)(n j:Nat)(s g s' :T4):Prop where
 tw:∀w,GE kn w→Calls Tryz.prog 114 #[.agg (pc s)] w fun e w' =>X5 (.agg (pc g)) w w' e
 ad:n / 2^j % 2=1→∀w,GE kn w→Calls Tryz.prog 71 #[.agg (pc g),.agg (pc P)] w fun e w' =>X5 (.agg (pc s')) w w' e
 no:¬n / 2^j % 2=1→s' =g
theorem V5z (hd:kn.d){P s:T4}{a:Pr}{n j:Nat}(hP:RT P a)(hs:RT s (pm a (n / 2^(j+1)))):∃g s',TStep kn P n j s g s' ∧RT s' (pm a (n / 2^j)):=by
 obtain⟨x,y,z,t,r,c⟩:=Q02 (kn:=kn) hs
 by_cases h:n / 2^j % 2=1
 ·
  obtain⟨x',y',z',t',r',c'⟩:=V17 hd r.rw hP.rw;exact⟨(x,y,z,t),(x',y',z',t'),⟨c,fun _=>c',fun h0=>absurd h h0⟩,by rw[Z9w hP.on h];exact r'⟩
 exact⟨(x,y,z,t),(x,y,z,t),⟨c,fun h0=>absurd h0 h,fun _=>rfl⟩,by rw[Y4z hP.on (by omega)];exact r⟩
theorem V60 (hd:kn.d){P s0:T4}{a:Pr}{n:Nat}(hP:RT P a)(h0:RT s0 (pm a (n / 2^256))):∀m,m≤256→∃f g:Nat→T4,f 256=s0∧(∀j,256-m≤j→j≤256→RT (f j) (pm a (n / 2^j)))∧∀j,256-m≤j→j<256→TStep kn P n j (f (j+1)) (g j) (f j)
 |0,_=>⟨fun _=>s0,fun _=>s0,rfl,fun j h1 h2=>by rw[show j=256 by omega];exact h0,fun j h1 h2=>by omega⟩
 |m+1,hm=>by
  obtain⟨f,g,e0,e1,e2⟩:=V60 hd hP h0 m (by omega);obtain⟨k,hk⟩:∃k,k=255-m:=⟨_,rfl⟩
  obtain⟨x,s',st,hr⟩:=V5z hd (j:=k) hP (e1 (k+1) (by omega) (by omega));refine⟨fun j=>if j=k then s' else f j,fun j=>if j=k then x else g j,?_,fun j h1 h2=> ?_,fun j h1 h2=> ?_⟩
  ·
   show(if 256=k then s' else f 256)=s0;rw[if_neg (by omega)];exact e0
  ·
   show RT (if j=k then s' else f j) _
   by_cases h:j=k
   ·
    rw[if_pos h,h];exact hr
   ·
    rw[if_neg h];exact e1 j (by omega) h2
  ·
   show TStep kn P n j (if j+1=k then s' else f (j+1)) (if j=k then x else g j) (if j=k then s' else f j);rw[if_neg (by omega)]
   by_cases h:j=k
   ·
    rw[if_pos h,if_pos h,h];exact st
   ·
    rw[if_neg h,if_neg h];exact e2 j (by omega) h2

theorem Q04 (hd:kn.d){X1 Y1 Z1 T1:Nat}{p1:Pr}(h1:RW X1 Y1 Z1 T1 p1){N:Nat}(hN:N<2^256):
  ∃X Y Z T,RN X Y Z T (pm p1 N)∧∀w,GE kn w→Calls Tryz.prog 70 #[.agg (p4 X1 Y1 Z1 T1),.agg (J1 .u8 32 (J4 N))] w fun e w' =>X5 (.agg (p4 X Y Z T)) w w' e:=by
 obtain⟨x1,y2,z3,t4,r5,c6⟩:=J4a (kn:=kn) Q29;obtain⟨x7,y8,z9,S,α,ε⟩:=J4a (kn:=kn) h1;obtain⟨f,gg,U,δ,β⟩:=V60 hd (P:=(x7,y8,z9,S)) (s0:=(x1,y2,z3,t4)) (n:=N) α (by rw[Nat.div_eq_of_lt hN];exact r5) 256 (Nat.le_refl _);have ζ:=Lib.hid U;clear U;refine⟨(f 0).1,(f 0).2.1,(f 0).2.2.1,(f 0).2.2.2,(by have:=δ 0 (Nat.zero_le _) (Nat.zero_le _);rw[Nat.pow_zero,Nat.div_one] at this;exact this),fun w hG=> ?_⟩;have hS:=SH.nil [] w
 go_enter Tryz.func70,Tryz.ntmps70
 go_upto_region 0 with fail;refine RL hS ?_;clear hS;refine MN (z:=p4 X1 Y1 Z1 T1) (t:=154) ?_;intro K1;refine MN (z:=J1 .u8 32 (J4 N)) (t:=23) ?_;intro R;refine MN (z:=p4 0 0 0 0) (t:=154) ?_;intro γ;refine MZ fun W hS=> ?_;go_upto_region 1 with fail;refine RL hS ?_;clear hS;refine MW ?_ (v:=.agg (p4 0 0 0 0)) (hv:=by intro W;kernel_rfl);refine MC (v:=.agg (p4 x1 y2 z3 t4)) (fun W hS=>c6 W (J6 hG hS.ext)) ?_;refine MN (z:=p4 0 0 0 0) (t:=154) ?_;intro V;refine MR 0 ?_;refine MZ fun W hS=> ?_;go_upto_region 2 with fail;refine RL hS ?_;clear hS;refine ML 3 ?_;refine MC (v:=.agg (p4 x7 y8 z9 S)) (fun W hS=>ε W (J6 hG hS.ext)) ?_;refine MR 3 ?_;refine MZ fun W hS=> ?_
 go_wp2_with fail
 go_loopw [6] (fun si wr=> ∃(j:Nat),(j≤256)∧(si=.int .i64 ((j:Int)-1))∧SH [] w wr [.b V (pc (f j)) 154,.b γ (p4 0 0 0 0) 154,.b R (J1 .u8 32 (J4 N)) 23,.b K1 (p4 x7 y8 z9 S) 154])
  (fun si _=>(intOf si+1).toNat)
 case atStart=>exact⟨256,Nat.le_refl _,rfl,(by rw[ζ.out];exact hS)⟩
 clear hS
 case round=>
  obtain⟨j,hj,rfl,hS⟩:=hrel
  by_cases hz:j=0
  ·
   subst hz;go_upto_region 4 with fail;refine RL hS ?_;clear hS;refine MV ?_;refine Wf ?_;refine MZ fun W hS=> ?_;go_upto_region 9 with fail;refine RL hS ?_;clear hS;refine ML 0 ?_;refine MR 1 ?_;refine MZ fun W hS=> ?_;go_wp2;exact bodyPost_ret (Z8 rfl rfl (hS.blk (i:=1) rfl) (by kernel_rfl) (by kernel_rfl)) rfl ⟨rfl,hS.ext⟩
  obtain⟨i,rfl⟩:∃i,j=i+1:=⟨j-1,by omega⟩
  have M:=β i (by omega) (by omega);rw[show((i+1:Nat):Int)-1=(i:Int) by omega];go_upto_region 4 with fail;refine RL hS ?_;clear hS;refine MV ?_;refine Wt ?_;refine MZ fun W hS=> ?_;go_upto_region 6 with fail;refine RL hS ?_;clear hS;refine ML 0 ?_;refine MC (v:=.agg (pc (gg i))) (fun W hS=>M.tw W (J6 hG hS.ext)) ?_;refine MR 0 ?_;refine MZ fun W hS=> ?_
  by_cases D:N / 2^i % 2=1
  ·
   have _f:=D;have G:bits .and .u8 (J4 N (i / 8) / 2^(i % 8)) 1=1:=by rw[Z3d _ _ _ (by omega),show 8*(i / 8)+i % 8=i by omega,D];rfl
   clear _f;have J:=Lib.hid D;clear D;go_upto_region 7 with fail;refine RL hS ?_;clear hS;refine MV ?_;refine MW ?_ (v:=.int .i64 ((i / 8:Nat):Int)) (hv:=by intro W;exact Q83 (m:=8) (by decide) (by omega) rfl rfl rfl);refine MW ?_ (v:=.pointer (some ⟨R,0+(i / 8),none⟩)) (hv:=fun _=>rxa Tryz.underlying23 (by omega));refine MG 2 ?_ (j:=0+(i / 8)) (v:=.int .u8 ((J4 N) (i / 8))) (hj:=ag0 (by omega));refine MV ?_;refine MW ?_ (v:=.int .i64 ((i % 8:Nat):Int)) (hv:=by intro W;exact Q84 (m:=8) (by decide) (by omega) rfl rfl rfl);refine MW ?_ (v:=.int .u8 (J4 N (i / 8) / 2^(i % 8))) (hv:=by intro W;exact Q85 (by omega) rfl rfl rfl);refine MW ?_ (v:=.int .u8 1) (hv:=by intro W;exact J6c G rfl rfl rfl);refine Wt ?_;refine MZ fun W hS=> ?_;go_upto_region 8 with fail;refine RL hS ?_;clear hS;refine ML 0 ?_;refine ML 3 ?_;refine MC (v:=.agg (pc (f i))) (fun W hS=>M.ad J.out W (J6 hG hS.ext)) ?_;refine MR 0 ?_;refine MZ fun W hS=> ?_;go_wp2;go_roundw
   case rel=>exact⟨i,by omega,by go_num,hS⟩
   case measure=>first|(simp[intOf];done)|(simp[intOf];omega)
  have _f:=D;have G:bits .and .u8 (J4 N (i / 8) / 2^(i % 8)) 1=0:=by rw[Z3d _ _ _ (by omega),show 8*(i / 8)+i % 8=i by omega,show N / 2^i % 2=0 by omega];rfl
  clear _f;have J:=Lib.hid D;clear D;go_upto_region 7 with fail;refine RL hS ?_;clear hS;refine MV ?_;refine MW ?_ (v:=.int .i64 ((i / 8:Nat):Int)) (hv:=by intro W;exact Q83 (m:=8) (by decide) (by omega) rfl rfl rfl);refine MW ?_ (v:=.pointer (some ⟨R,0+(i / 8),none⟩)) (hv:=fun _=>rxa Tryz.underlying23 (by omega));refine MG 2 ?_ (j:=0+(i / 8)) (v:=.int .u8 ((J4 N) (i / 8))) (hj:=ag0 (by omega));refine MV ?_;refine MW ?_ (v:=.int .i64 ((i % 8:Nat):Int)) (hv:=by intro W;exact Q84 (m:=8) (by decide) (by omega) rfl rfl rfl);refine MW ?_ (v:=.int .u8 (J4 N (i / 8) / 2^(i % 8))) (hv:=by intro W;exact Q85 (by omega) rfl rfl rfl);refine MW ?_ (v:=.int .u8 0) (hv:=by intro W;exact J6c G rfl rfl rfl);refine Wf ?_;refine MZ fun W hS=> ?_;go_wp2;go_roundw
  case rel=>exact⟨i,by omega,by go_num,(by rw[M.no J.out];exact hS)⟩
  case measure=>first|(simp[intOf];done)|(simp[intOf];omega)
end

section
set_option maxHeartbeats 1000000
attribute [local irreducible] wpList Y5 wpX
variable {kn : Kn}
open Sc (LL J0p)
def GA (kn:Kn)(w:World):Prop:=GE kn w∧GS w∧Sc.GL w∧(kn.r→GR w)
theorem V1t {w W:World}(h:Sc.GL w)(k:Ext w W):Sc.GL W:=⟨J0e h.1 k,J0e h.2.1 k,J0e h.2.2.1 k,J0e h.2.2.2.1 k,Nat.lt_of_lt_of_le h.2.2.2.2 k.size⟩
theorem GA_ext {w W:World}(h:GA kn w)(k:Ext w W):GA kn W:=⟨J6 h.1 k,Q66 h.2.1 k,V1t h.2.2.1 k,fun x=>V1p (h.2.2.2 x) k⟩
def s3 (N D P:Nat):Array Value:=J1 .u8 32 (J4 N)++J1 .u8 32 (J4 D)++J1 .u8 32 (J4 P)
section
variable {N D P : Nat}
theorem V1u:∀i v,(J1 .u8 32 (J4 N))[i]?=some v→(s3 N D P)[0+i]?=some v:=fun i v h=>by rw[Nat.zero_add];exact J2h (J2h h)
theorem V1v:∀i v,(J1 .u8 32 (J4 D))[i]?=some v→(s3 N D P)[32+i]?=some v:=fun i v h=>J2h (J69 (J0 _ _ _) h)
theorem V1w:∀i v,(J1 .u8 32 (J4 P))[i]?=some v→(s3 N D P)[64+i]?=some v:=fun i v h=>J69 (by rw[Array.size_append,J0,J0]) h
theorem J16:(s3 N D P).size=96:=by unfold s3;rw[Array.size_append,Array.size_append,J0,J0,J0]
theorem Q6y:(s3 N D P).all (·.oneCell')=true:=by unfold s3;rw[Array.all_append,Array.all_append,Y6,Y6,Y6];rfl
end
theorem Y0g (a:List Value):∀(vs b:List Value),b.length=vs.length→spl (a++b).toArray a.length vs=(a++vs).toArray
 |[],b,h=>by rw[List.eq_nil_of_length_eq_zero h];rfl
 |v::vs,[],h=>by simp at h
 |v::vs,x::b,h=>by
  show spl ((a++x::b).toArray.setIfInBounds a.length v) (a.length+1) vs=_;rw[List.setIfInBounds_toArray,List.set_append_right _ _ (Nat.le_refl _),Nat.sub_self,List.set_cons_zero];have:=Y0g (a++[v]) vs b (by simpa using h)
  simpa using this
theorem V1x (N D P Q:Nat):spl (s3 N D Q) 64 (J1 .u8 32 (J4 P)).toList=s3 N D P:=by
 have h:=Y0g (Q1n .u8 32 (J4 N)++Q1n .u8 32 (J4 D)) (Q1n .u8 32 (J4 P)) (Q1n .u8 32 (J4 Q)) (by rw[J5j,J5j]);rw[List.length_append,J5j,J5j] at h
 have e:∀X,s3 N D X=(Q1n .u8 32 (J4 N)++Q1n .u8 32 (J4 D)++Q1n .u8 32 (J4 X)).toArray:=fun X=>by
  unfold s3;apply Array.ext';simp only[Array.toList_append,J39]
 rw[e,e,J39];exact h
theorem J71 {H:Nat}{F:List UInt8}(hH:H=hs F)(ps:List (List UInt8))(A:Option Addr)(c:Nat)(hF:ps.flatten=F)(hlen:F.length≤70368744177664)(hpn:ps.length≤9223372036854775000)(w:World)(hps:∀i l,ps[i]?=some l→∃ad u,A=some ad∧w.cell? (ad.add i)=some u∧Sl w u l)(hG:GS w):
  Calls Tryz.prog 89 #[.slice A ps.length c] w fun e w' =>X5 (.agg (J1 .u8 64 (J4 H))) w w' e:=by
 rw[hH,←V6p];exact V6q ps A c F hF hlen hpn w hps hG
theorem Y0h {X:Nat}{w:World}{b off n c V:Nat}{cs:Array Value}{t:TypeId}(hX:X=V % LL)(hB:Blk w b cs t)(hc:∀i v,(J1 .u8 n (J4 V))[i]?=some v→cs[off+i]?=some v)(hn:n≤700)(hV:V<2^(8*n))(hG:Sc.GL w):
  Calls Tryz.prog 126 #[.slice (some ⟨b,off,none⟩) n c] w fun e w' =>X5 (L4 X) w w' e:=by
 have h:=Sc.of_c (J4 V) (J7j V) b off n c w hG hn (fun j hj=>by rw[J3 hB];exact hc j _ (V3 _ _ _ _ hj)) (Q2 hB);rw[J6a,Nat.mod_eq_of_lt hV,←hX] at h;exact h
theorem Q3p {V:Nat}(hV:V<LL)(w:World)(hG:Sc.GL w):Calls Tryz.prog 68 #[L4 V] w fun e w' =>X5 (.agg (J1 .u8 32 (J4 V))) w w' e:=by
 have h:=Sc.bytes_c V (Nat.lt_trans hV J4p) w hG;rw[Nat.mod_eq_of_lt hV] at h;exact h
theorem V1y {X A B:Nat}(hX:X=A*B % LL)(hA:A<Q3)(hB:B<Q3)(w:World)(hG:Sc.GL w):Calls Tryz.prog 128 #[L4 A,L4 B] w fun e w' =>X5 (L4 X) w w' e:=hX▸Sc.mul_c A B hA hB w hG
theorem V1z {X A B:Nat}(hX:X=(A+B) % LL)(hA:A<Q3)(hB:B<Q3)(w:World)(hG:Sc.GL w):Calls Tryz.prog 127 #[L4 A,L4 B] w fun e w' =>X5 (L4 X) w w' e:=hX▸Sc.add_c A B hA hB w hG
theorem Y0i {X V:Nat}(hX:X=clN V)(w:World):Calls Tryz.prog 90 #[.agg (J1 .u8 32 (J4 V))] w fun e w' =>X5 (.agg (J1 .u8 32 (J4 X))) w w' e:=by
 have h:=Sc.clamp_c (J4 V) (J7j V) w;rw[Y5i,←hX] at h;exact h
theorem Q3q {X X1 Y1 Z1 T1:Nat}{p1:Pr}(h1:RW X1 Y1 Z1 T1 p1)(hX:X=enc p1)(w:World)(hG:GE kn w):Calls Tryz.prog 91 #[.agg (p4 X1 Y1 Z1 T1)] w fun e w' =>X5 (.agg (J1 .u8 32 (J4 X))) w w' e:=hX▸V1a h1 w hG

theorem Z5h (hd:kn.d)(hb:kn.b)(S:Nat):
  ∀w,GA kn w→Calls Tryz.prog 54 #[.agg (J1 .u8 32 (J4 S))] w fun e w' =>X5 (.agg (s3 (kN S) (kD S) (kP S))) w w' e:=by
 obtain⟨U1,U⟩:=exh (hs ((lb 32 S)));obtain⟨U2,J⟩:=exn (clN (lo U1));have Y:U2<2^256:=by rw[J];exact Y0j _
 have R:=Lib.hid J;clear J;obtain⟨x1,y2,z3,t4,r5,c6⟩:=Z36 hb;obtain⟨x7,y8,z9,β,X,α⟩:=Q04 hd r5.rw (N:=U2) Y;obtain⟨U3,G⟩:=exn (enc (pm BP U2));have δ:U3<2^256:=by rw[G];exact J9d _
 have T:=Lib.hid G;clear G;intro w hG;have hS:=SH.nil [] w
 go_enter Tryz.func54,Tryz.ntmps54
 go_upto_region 0 with fail;refine RL hS ?_;clear hS;refine MN (z:=J1 .u8 32 (J4 S)) (t:=23) ?_;intro M;refine MN (z:=s3 0 0 0) (t:=131) ?_;intro γ;refine MZ fun W hS=> ?_;go_upto_region 1 with fail;refine RL hS ?_;clear hS;refine MW ?_ (v:=.slice (some ⟨M,0,none⟩) 32 32);refine MB (z:= #[.slice (some ⟨M,0,none⟩) 32 32]) (t:=22) (n:=1) (c:=1) ?_ (hr:=fun W hS=>X7 [.slice (some ⟨M,0,none⟩) 32 32] rfl rfl (vsc (Q1 (V1 (V:=S) (n:=32) (off:=0) (c:=32) (hS.blk (i:=1) rfl) ap0 (by decide) (by decide))).1 vs0) Tryz.underlying168 (by kernel_rfl) (by kernel_rfl) rfl (by decide) (by decide));intro Z;refine MC (v:=.agg (J1 .u8 64 (J4 U1))) (fun W hS=>J71 U.out [lb 32 S] (some ⟨Z,0,none⟩) 1 (by simp only[List.flatten_cons,List.flatten_nil,List.append_nil,List.nil_append,List.append_assoc,List.cons_append]) (by first|omega|(simp only[List.length_append,List.length_cons,List.length_nil,J8];omega)) (by simp) W (J15 (hS.blk (i:=0) rfl) (pvc (V1 (V:=S) (n:=32) (off:=0) (c:=32) (hS.blk (i:=2) rfl) ap0 (by decide) (by decide)) pv0)) (GA_ext hG hS.ext).2.1) ?_;refine MN (z:=J1 .u8 64 (J4 0)) (t:=89) ?_;intro D;refine MR 0 ?_;refine MZ fun W hS=> ?_;go_upto_region 2 with fail;refine RXn 8 [⟨8,4,s3 0 0 0,131⟩] hS ?_ (by simp only[List.forall_mem_cons];exact⟨⟨_,rfl,rfl,rfl,fun _ _=>by kernel_rfl⟩,fun _ h=>by cases h⟩);clear hS;refine MW ?_ (v:=.slice (some ⟨D,0,none⟩) 32 64);refine MW ?_ (v:=.pointer (some ⟨D,0,none⟩)) (hv:=by intro W;first|rfl|(go_simp;done)|(go_simp;with_reducible rfl));refine Ml 0 Z0r ?_;refine MC (v:=.agg (J1 .u8 32 (J4 U2))) (fun W hS=>Y0i R.out W) ?_;refine MW ?_ (v:=.slice (some ⟨D,32,none⟩) 32 32);refine MW ?_ (v:=.pointer (some ⟨D,32,none⟩)) (hv:=by intro W;first|rfl|(go_simp;done)|(go_simp;with_reducible rfl));refine Ml 0 V9h ?_;refine MW ?_ (v:=.agg (s3 U2 (hi U1) 0)) (hv:=by intro W;kernel_rfl);refine MZB fun ε=> ?_;refine MR 0 ?_ (hz:=by rw[J16];kernel_rfl) (hs:=by first|rw[J16,J16]|rw[J16]|kernel_rfl) (h1:=Q6y);refine MZn fun W hS=> ?_;go_upto_region 3 with fail;refine RX 6 hS ?_;clear hS;refine MC (v:=.agg (p4 x1 y2 z3 t4)) (fun W hS=>c6 W (GA_ext hG hS.ext).1) ?_;refine MV ?_;refine Ml 0 V1u ?_;refine MC (v:=.agg (p4 x7 y8 z9 β)) (fun W hS=>α W (GA_ext hG hS.ext).1) ?_;refine MC (v:=.agg (J1 .u8 32 (J4 U3))) (fun W hS=>Q3q X.rw T.out W (GA_ext hG hS.ext).1) ?_;refine MV ?_;refine MZt ?_;refine Mr 0 (off:=64) (V1x _ _ _ _) ?_ (hs:=by rw[J0,J16];decide);refine MZn fun W hS=> ?_;go_upto_region 4 with fail;refine RL hS ?_;clear hS;refine ML 0 ?_ (hs:=by rw[J16];kernel_rfl);refine MR 3 ?_ (hz:=by rw[J16];kernel_rfl) (hs:=by first|rw[J16,J16]|rw[J16]|kernel_rfl) (h1:=Q6y);refine MZ fun W hS=> ?_;go_wp2;rw[show s3 U2 (hi U1) U3=s3 (kN S) (kD S) (kP S) by rw[T.out,R.out,U.out];rfl] at hS;exact bodyPost_ret (Z8 rfl rfl (hS.blk (i:=3) rfl) (by kernel_rfl) (by rw[J16];kernel_rfl)) rfl ⟨rfl,hS.ext⟩
end

section
attribute [local irreducible] wpList Y5 wpX
variable {kn : Kn}
open Sc (LL J0p)
theorem Q56 (hd:kn.d)(hb:kn.b){N D P S:Nat}(hN:N=kN S)(hD:D=kD S)(hP:P=kP S)(w:World)(hG:GA kn w):
  Calls Tryz.prog 54 #[.agg (J1 .u8 32 (J4 S))] w fun e w' =>X5 (.agg (s3 N D P)) w w' e:=by
 rw[hN,hD,hP];exact Z5h hd hb S w hG
theorem Q8p {w:World}{v:Value}{l:List UInt8}(h:Own w v l)(hp:0<l.length):∃g c cur,v=.slice (some ⟨g,0,none⟩) l.length c∧Blk w g cur 5∧cur.toList.take l.length=bs8 l:=by
 rcases h.2 with⟨_,h0⟩|⟨g,c,cur,hv,_,hh,_,_,_,ht⟩
 ·
  omega
 exact⟨g,c,cur,hv,hh,by rwa [Nat.mul_one] at ht⟩
theorem Y5k {P:Program}{W:World}{o:Oper}{a:Act}{x:Operand}{arr e:TypeId}{n c:Nat}{ad:Addr}(ho:o.op=.sliceToArrayPointer arr x)(hx:a.eval x=.slice (some ad) n c)(hu:P.underlying arr=some (.array n e)):(execOp a.eval o).run P W=.ok (.value (.pointer (some ad))) W:=by
 simp[execOp,ho,hx,Instr.arrayAt,run_underlying hu,Sem.run_bind]
theorem V20 {W:World}{v:Value}{l:List UInt8}{g c m n V:Nat}(h:Own W v l)(ez:v=.slice (some ⟨g,0,none⟩) m c)(hn:l.length=n)(hp:0<n)(hl:l=lb n V):∀i x,(J1 .u8 n (J4 V)).toList[i]?=some x→W.cell? ⟨g,0+i,none⟩=some x:=fun i x hx=>by
 obtain⟨g',c',D,e',hB,ht⟩:=Q8p h (by omega);rw[ez] at e';injection e' with e1 _ _
 injection e1 with e1
 injection e1 with e1 _ _
 subst e1;have hi:i<n:=by have:=(List.getElem?_eq_some_iff.1 hx).1;rwa [Array.length_toList,J0] at this
 rw[J3 hB,Nat.zero_add,←Array.getElem?_toList,←List.getElem?_take_of_lt (l:=D.toList) (show i<l.length by rw[hn];exact hi),ht,hl,Q0f,←J39];exact hx
end

section
set_option maxHeartbeats 1500000
attribute [local irreducible] wpList Y5 wpX
variable {kn : Kn}
theorem Z9u {V:Nat}(h:dOk V=true):V % 2^255<PP:=by
 unfold dOk at h;simp only[Bool.and_eq_true,decide_eq_true_eq] at h;exact h.1.1
theorem Y7k {V:Nat}(h:dOk V=true):dB (V % 2^255)=true:=by
 unfold dOk at h;simp only[Bool.and_eq_true] at h;exact h.1.2
theorem V5y {V:Nat}(h:dOk V=true)(ht:top V=true):¬dX (V % 2^255)=0:=by
 unfold dOk at h;intro h0;simp[ht,h0] at h
theorem Z38 {V:Nat}(h1:V % 2^255<PP)(h2:dB (V % 2^255)=true)(h3:¬(top V=true∧dX (V % 2^255)=0)):dOk V=true:=by
 unfold dOk;rw[decide_eq_true h1,h2];cases ht:top V
 ·
  rfl
 have:¬dX (V % 2^255)=0:=fun h0=>h3 ⟨ht,h0⟩;simp[this]
theorem Q8j (V:Nat):V % 2^255<2^256:=Nat.lt_trans (Nat.mod_lt _ (by decide)) (by decide)

theorem V1b (y:Nat)(o:Bool):dXf y o<PP:=by
 unfold dXf
 split
 ·
  exact Z0j y
 exact J4n _
theorem Z0k (hc:kn.c){V:Nat}(hV:V<2^256)(hok:dOk V=false):
  ∀w,GE kn w→Calls Tryz.prog 107 #[.agg (J1 .u8 32 (J4 V))] w fun e w' =>X5 (.tuple #[.agg (p4 0 0 0 0),.int .i64 15]) w w' e:=by
 have ν:=Y7g (J4 V) (J7j V);rw[J6a,show 8*32=256 by decide,Nat.mod_eq_of_lt hV] at ν;obtain⟨Y,hY⟩:=exn (V % 2^255 % PP);rw[←hY] at ν;have lY:=bpp hY;have HY:=Lib.hid hY;clear hY;have α:=Q3i Y (Q8 lY);rw[Nat.mod_eq_of_lt lY] at α;have M:=Y78 Y (V % 2^255) (Z37 lY) (Q8j V);have δ:=K7 Y Y (Q8 lY) (Q8 lY);obtain⟨N2,ζ⟩:=exn (Y*Y % PP);rw[←ζ] at δ;have ω:=bpp ζ;have φ:=Q8 ω;have κ:=Lib.hid ζ;clear ζ;have T:=J7y N2 1 φ (by decide);obtain⟨N3,ε⟩:=exn ((N2+(PP-1 % PP)) % PP);rw[←ε] at T;have Γ:=bpp ε;have Δ:=Q8 Γ;have ρ:=Lib.hid ε;clear ε;have S:=K7 DD N2 Y7l φ;obtain⟨N4,θ⟩:=exn (DD*N2 % PP);rw[←θ] at S;have Θ:=bpp θ;have χ:=Q8 Θ;have μ:=Lib.hid θ;clear θ;have N:=J4l N4 1 χ (by decide);obtain⟨N5,η⟩:=exn ((N4+1) % PP);rw[←η] at N;have Ξ:=bpp η;have ψ:=Q8 Ξ;have ξ:=Lib.hid η;clear η;have J:=Z35 N3 N5 Δ ψ;obtain⟨R,hR⟩:=exn (rtR N3 N5);rw[←hR] at J;have lR:R<PP:=by rw[hR];exact Q6p _ _
 have HR:=Lib.hid hR;clear hR;obtain⟨B,hB⟩:=exn (rtB N3 N5);rw[←hB] at J;have HB:=Lib.hid hB;clear hB;have γ:=J5k R 0 (Q8 lR) (by decide);rw[Nat.mod_eq_of_lt lR,Nat.mod_eq_of_lt (by decide)] at γ;intro w hG;have hS:=SH.nil [] w
 go_enter Tryz.func107,Tryz.ntmps107
 go_upto_region 0 with fail;refine RL hS ?_;clear hS;refine MN (z:=J1 .u8 32 (J4 V)) (t:=23) ?_;intro U;refine MN (z:=p4 0 0 0 0) (t:=154) ?_;intro D4;refine W0 ?_;refine MZ fun W hS=> ?_
 by_cases ht:top V=true
 ·
  go_upto_region 1 with fail;refine RL hS ?_;clear hS;refine MW ?_ (v:=.pointer (some ⟨U,0+31,none⟩)) (hv:=fun _=>rxa Tryz.underlying23 (by decide));refine MG 1 ?_ (j:=0+31) (v:=.int .u8 ((J4 V) 31)) (hj:=ag0 (by decide));refine MW ?_ (v:=.int .u8 128) (hv:=by intro W;exact J6c (Z39 hV ht) rfl rfl rfl);refine Wt ?_;refine Wt ?_;refine MZ fun W hS=> ?_;go_upto_region 2 with fail;refine RL hS ?_;clear hS;refine ML 1 ?_;refine MC (v:=.agg (c4 Y)) (fun W hS=>ν W (J6 hG hS.ext).1) ?_;refine MN (z:=c4 0) (t:=152) ?_;intro Ψ;refine MR 0 ?_;refine MZ fun W hS=> ?_;go_upto_region 3 with fail;refine RL hS ?_;clear hS;refine MW ?_ (v:=.pointer (some ⟨U,0+31,none⟩)) (hv:=fun _=>rxa Tryz.underlying23 (by decide));refine MG 2 ?_ (j:=0+31) (v:=.int .u8 ((J4 V) 31)) (hj:=ag0 (by decide));refine MW ?_ (v:=.int .u8 (bits .andNot .u8 (J4 V 31) 128)) (hv:=by intro W;exact J8k rfl rfl rfl rfl);refine MW ?_ (v:=.pointer (some ⟨U,0+31,none⟩)) (hv:=fun _=>rxa Tryz.underlying23 (by decide));refine MP 2 (v:=.int .u8 (bits .andNot .u8 (J4 V 31) 128)) (cs' :=J1 .u8 32 (upd (J4 V) 31 (bits .andNot .u8 (J4 V 31) 128))) ?_ (hs:=by rw[J0,Nat.zero_add];decide) (hc:=by rw[Nat.zero_add];exact K3 _ _ _ _ _);refine MT (fun W hS=>by rw[Z3a (Q28 hV)] at hS;exact hS) ?_;refine MZ fun W hS=> ?_
  by_cases hy:Y=V % 2^255
  ·
   have D:=Lib.hid hy;clear hy;go_upto_region 4 with fail;refine RS hS ?_;clear hS;refine ML 0 ?_;refine MC (v:=.agg (J1 .u8 32 (J4 Y))) (fun W hS=>α W (J6 hG hS.ext).1) ?_;refine ML 2 ?_;rw[decide_eq_true D.out] at M;refine MW ?_ (v:=.bool false) (hv:=fun _=>J2g ((M) _) (by kernel_rfl) rfl rfl rfl);refine MZx fun W hS=> ?_;go_upto_region 6 with fail;refine RL hS ?_;clear hS;refine ML 0 ?_;refine ML 0 ?_;refine MC (v:=.agg (c4 N2)) (fun W hS=>δ W (J6 hG hS.ext).1) ?_;refine MN (z:=c4 0) (t:=152) ?_;intro Ω;refine MR 0 ?_;refine MZ fun W hS=> ?_;have β:R=dX Y:=by unfold dX dU dV;rw[HR.out,ρ.out,ξ.out,μ.out,κ.out]
   have Z:B=dB Y:=by unfold dB dU dV;rw[HB.out,ρ.out,ξ.out,μ.out,κ.out]
   have τ:=Lib.hid β;have σ:=Lib.hid Z;clear β Z
   by_cases hb:B=true
   ·
    have G:=Lib.hid hb;clear hb;go_upto_region 7 with fail;refine RXn 12 [⟨12,7,c4 0,152⟩] hS ?_ (by simp only[List.forall_mem_cons];exact⟨⟨_,rfl,rfl,rfl,fun _ _=>by kernel_rfl⟩,fun _ h=>by cases h⟩);clear hS;refine ML 0 ?_;refine MC (v:=.agg (c4 1)) (fun W hS=>J37 W) ?_;refine MC (v:=.agg (c4 N3)) (fun W hS=>T W (J6 hG hS.ext).1) ?_;refine MF (v:=.agg (c4 DD)) (fun W hS=>J28 rfl rfl ((J6 hG hS.ext).2.2.1 hc) (by kernel_rfl) (by kernel_rfl)) ?_;refine ML 0 ?_;refine MC (v:=.agg (c4 N4)) (fun W hS=>S W (J6 hG hS.ext).1) ?_;refine MC (v:=.agg (c4 1)) (fun W hS=>J37 W) ?_;refine MC (v:=.agg (c4 N5)) (fun W hS=>N W (J6 hG hS.ext).1) ?_;rw[G.out] at J;refine MC (v:=.tuple #[.agg (c4 R),.bool true]) (fun W hS=>J W (J6 hG hS.ext).1 ((J6 hG hS.ext).2.1 hc)) ?_;refine MV ?_;refine MV ?_;refine Wt ?_;refine MZB fun D7=> ?_;refine MR 0 ?_;refine Wt ?_;refine MZn fun W hS=> ?_
    by_cases h0:R=0
    ·
     have X:=Lib.hid h0;clear h0;go_upto_region 8 with fail;refine RL hS ?_;clear hS;refine Wt ?_;refine Wf ?_;refine Wf ?_;refine Wt ?_;refine Wt ?_;refine ML 0 ?_;refine MW ?_ (v:=.agg (c4 0)) (hv:=by intro W;kernel_rfl);rw[decide_eq_true X.out] at γ;refine MC (v:=.bool true) (fun W hS=>γ W (J6 hG hS.ext).1) ?_;refine Wt ?_;refine Wt ?_;refine MZ fun W hS=> ?_;go_upto_region 9 with fail;refine RL hS ?_;clear hS;refine MW ?_ (v:=.agg (p4 0 0 0 0)) (hv:=by intro W;kernel_rfl);refine MR 3 ?_;refine MW ?_ (v:=.int .i64 15);refine MZ fun W hS=> ?_;go_wp2;exact bodyPost_ret (X8 rfl rfl rfl (hS.blk (i:=3) rfl) (by kernel_rfl) (by kernel_rfl)) rfl ⟨rfl,hS.ext⟩
    have X:=Lib.hid h0;clear h0;go_upto_region 8 with fail;refine RL hS ?_;clear hS;refine Wt ?_;refine Wf ?_;refine Wf ?_;refine Wt ?_;refine Wt ?_;refine ML 0 ?_;refine MW ?_ (v:=.agg (c4 0)) (hv:=by intro W;kernel_rfl);rw[decide_eq_false X.out] at γ;refine MC (v:=.bool false) (fun W hS=>γ W (J6 hG hS.ext).1) ?_;refine Wf ?_;refine Wf ?_;refine MZ fun W hS=> ?_;exact absurd (Z38 (D.out▸lY) (by rw[←D.out,←σ.out];exact G.out) (fun h=>X.out (by rw[τ.out,D.out];exact h.2))) (by rw[hok];decide)
   rw[Bool.not_eq_true] at hb;have G:=Lib.hid hb;clear hb;go_upto_region 7 with fail;refine RXn 12 [⟨12,7,c4 0,152⟩] hS ?_ (by simp only[List.forall_mem_cons];exact⟨⟨_,rfl,rfl,rfl,fun _ _=>by kernel_rfl⟩,fun _ h=>by cases h⟩);clear hS;refine ML 0 ?_;refine MC (v:=.agg (c4 1)) (fun W hS=>J37 W) ?_;refine MC (v:=.agg (c4 N3)) (fun W hS=>T W (J6 hG hS.ext).1) ?_;refine MF (v:=.agg (c4 DD)) (fun W hS=>J28 rfl rfl ((J6 hG hS.ext).2.2.1 hc) (by kernel_rfl) (by kernel_rfl)) ?_;refine ML 0 ?_;refine MC (v:=.agg (c4 N4)) (fun W hS=>S W (J6 hG hS.ext).1) ?_;refine MC (v:=.agg (c4 1)) (fun W hS=>J37 W) ?_;refine MC (v:=.agg (c4 N5)) (fun W hS=>N W (J6 hG hS.ext).1) ?_;rw[G.out] at J;refine MC (v:=.tuple #[.agg (c4 R),.bool false]) (fun W hS=>J W (J6 hG hS.ext).1 ((J6 hG hS.ext).2.1 hc)) ?_;refine MV ?_;refine MV ?_;refine Wf ?_;refine MZB fun D6=> ?_;refine MR 0 ?_;refine Wf ?_;refine MZn fun W hS=> ?_;go_upto_region 8 with fail;refine RL hS ?_;clear hS;refine Wf ?_;refine Wt ?_;refine Wt ?_;(iterate 6 refine MS ?_);refine Wt ?_;refine MZ fun W hS=> ?_;go_upto_region 9 with fail;refine RL hS ?_;clear hS;refine MW ?_ (v:=.agg (p4 0 0 0 0)) (hv:=by intro W;kernel_rfl);refine MR 3 ?_;refine MW ?_ (v:=.int .i64 15);refine MZ fun W hS=> ?_;go_wp2;exact bodyPost_ret (X8 rfl rfl rfl (hS.blk (i:=3) rfl) (by kernel_rfl) (by kernel_rfl)) rfl ⟨rfl,hS.ext⟩
  have D:=Lib.hid hy;clear hy;go_upto_region 4 with fail;refine RS hS ?_;clear hS;refine ML 0 ?_;refine MC (v:=.agg (J1 .u8 32 (J4 Y))) (fun W hS=>α W (J6 hG hS.ext).1) ?_;refine ML 2 ?_;rw[decide_eq_false D.out] at M;refine MW ?_ (v:=.bool true) (hv:=fun _=>J2g ((M) _) (by kernel_rfl) rfl rfl rfl);refine MZx fun W hS=> ?_;go_upto_region 5 with fail;refine RL hS ?_;clear hS;refine MW ?_ (v:=.agg (p4 0 0 0 0)) (hv:=by intro W;kernel_rfl);refine MR 1 ?_;refine MW ?_ (v:=.int .i64 15);refine MZ fun W hS=> ?_;go_wp2;exact bodyPost_ret (X8 rfl rfl rfl (hS.blk (i:=1) rfl) (by kernel_rfl) (by kernel_rfl)) rfl ⟨rfl,hS.ext⟩
 go_upto_region 1 with fail;refine RL hS ?_;clear hS;refine MW ?_ (v:=.pointer (some ⟨U,0+31,none⟩)) (hv:=fun _=>rxa Tryz.underlying23 (by decide));refine MG 1 ?_ (j:=0+31) (v:=.int .u8 ((J4 V) 31)) (hj:=ag0 (by decide));refine MW ?_ (v:=.int .u8 0) (hv:=by intro W;exact J6c (Z3c hV ht) rfl rfl rfl);refine Wf ?_;refine Wf ?_;refine MZ fun W hS=> ?_;go_upto_region 2 with fail;refine RL hS ?_;clear hS;refine ML 1 ?_;refine MC (v:=.agg (c4 Y)) (fun W hS=>ν W (J6 hG hS.ext).1) ?_;refine MN (z:=c4 0) (t:=152) ?_;intro D1;refine MR 0 ?_;refine MZ fun W hS=> ?_;go_upto_region 3 with fail;refine RL hS ?_;clear hS;refine MW ?_ (v:=.pointer (some ⟨U,0+31,none⟩)) (hv:=fun _=>rxa Tryz.underlying23 (by decide));refine MG 2 ?_ (j:=0+31) (v:=.int .u8 ((J4 V) 31)) (hj:=ag0 (by decide));refine MW ?_ (v:=.int .u8 (bits .andNot .u8 (J4 V 31) 128)) (hv:=by intro W;exact J8k rfl rfl rfl rfl);refine MW ?_ (v:=.pointer (some ⟨U,0+31,none⟩)) (hv:=fun _=>rxa Tryz.underlying23 (by decide));refine MP 2 (v:=.int .u8 (bits .andNot .u8 (J4 V 31) 128)) (cs' :=J1 .u8 32 (upd (J4 V) 31 (bits .andNot .u8 (J4 V 31) 128))) ?_ (hs:=by rw[J0,Nat.zero_add];decide) (hc:=by rw[Nat.zero_add];exact K3 _ _ _ _ _);refine MT (fun W hS=>by rw[Z3a (Q28 hV)] at hS;exact hS) ?_;refine MZ fun W hS=> ?_
 by_cases hy:Y=V % 2^255
 ·
  have D:=Lib.hid hy;clear hy;go_upto_region 4 with fail;refine RS hS ?_;clear hS;refine ML 0 ?_;refine MC (v:=.agg (J1 .u8 32 (J4 Y))) (fun W hS=>α W (J6 hG hS.ext).1) ?_;refine ML 2 ?_;rw[decide_eq_true D.out] at M;refine MW ?_ (v:=.bool false) (hv:=fun _=>J2g ((M) _) (by kernel_rfl) rfl rfl rfl);refine MZx fun W hS=> ?_;go_upto_region 6 with fail;refine RL hS ?_;clear hS;refine ML 0 ?_;refine ML 0 ?_;refine MC (v:=.agg (c4 N2)) (fun W hS=>δ W (J6 hG hS.ext).1) ?_;refine MN (z:=c4 0) (t:=152) ?_;intro D3;refine MR 0 ?_;refine MZ fun W hS=> ?_;have β:R=dX Y:=by unfold dX dU dV;rw[HR.out,ρ.out,ξ.out,μ.out,κ.out]
  have Z:B=dB Y:=by unfold dB dU dV;rw[HB.out,ρ.out,ξ.out,μ.out,κ.out]
  have τ:=Lib.hid β;have σ:=Lib.hid Z;clear β Z
  by_cases hb:B=true
  ·
   have G:=Lib.hid hb;clear hb;go_upto_region 7 with fail;refine RXn 12 [⟨12,7,c4 0,152⟩] hS ?_ (by simp only[List.forall_mem_cons];exact⟨⟨_,rfl,rfl,rfl,fun _ _=>by kernel_rfl⟩,fun _ h=>by cases h⟩);clear hS;refine ML 0 ?_;refine MC (v:=.agg (c4 1)) (fun W hS=>J37 W) ?_;refine MC (v:=.agg (c4 N3)) (fun W hS=>T W (J6 hG hS.ext).1) ?_;refine MF (v:=.agg (c4 DD)) (fun W hS=>J28 rfl rfl ((J6 hG hS.ext).2.2.1 hc) (by kernel_rfl) (by kernel_rfl)) ?_;refine ML 0 ?_;refine MC (v:=.agg (c4 N4)) (fun W hS=>S W (J6 hG hS.ext).1) ?_;refine MC (v:=.agg (c4 1)) (fun W hS=>J37 W) ?_;refine MC (v:=.agg (c4 N5)) (fun W hS=>N W (J6 hG hS.ext).1) ?_;rw[G.out] at J;refine MC (v:=.tuple #[.agg (c4 R),.bool true]) (fun W hS=>J W (J6 hG hS.ext).1 ((J6 hG hS.ext).2.1 hc)) ?_;refine MV ?_;refine MV ?_;refine Wt ?_;refine MZB fun D5=> ?_;refine MR 0 ?_;refine Wt ?_;refine MZn fun W hS=> ?_;go_upto_region 8 with fail;refine RL hS ?_;clear hS;refine Wt ?_;(iterate 4 refine Wf ?_);(iterate 3 refine MS ?_);refine Wf ?_;refine Wf ?_;refine MZ fun W hS=> ?_;exact absurd (Z38 (D.out▸lY) (by rw[←D.out,←σ.out];exact G.out) (fun h=>ht h.1)) (by rw[hok];decide)
  rw[Bool.not_eq_true] at hb;have G:=Lib.hid hb;clear hb;go_upto_region 7 with fail;refine RXn 12 [⟨12,7,c4 0,152⟩] hS ?_ (by simp only[List.forall_mem_cons];exact⟨⟨_,rfl,rfl,rfl,fun _ _=>by kernel_rfl⟩,fun _ h=>by cases h⟩);clear hS;refine ML 0 ?_;refine MC (v:=.agg (c4 1)) (fun W hS=>J37 W) ?_;refine MC (v:=.agg (c4 N3)) (fun W hS=>T W (J6 hG hS.ext).1) ?_;refine MF (v:=.agg (c4 DD)) (fun W hS=>J28 rfl rfl ((J6 hG hS.ext).2.2.1 hc) (by kernel_rfl) (by kernel_rfl)) ?_;refine ML 0 ?_;refine MC (v:=.agg (c4 N4)) (fun W hS=>S W (J6 hG hS.ext).1) ?_;refine MC (v:=.agg (c4 1)) (fun W hS=>J37 W) ?_;refine MC (v:=.agg (c4 N5)) (fun W hS=>N W (J6 hG hS.ext).1) ?_;rw[G.out] at J;refine MC (v:=.tuple #[.agg (c4 R),.bool false]) (fun W hS=>J W (J6 hG hS.ext).1 ((J6 hG hS.ext).2.1 hc)) ?_;refine MV ?_;refine MV ?_;refine Wf ?_;refine MZB fun D0=> ?_;refine MR 0 ?_;refine Wf ?_;refine MZn fun W hS=> ?_;go_upto_region 8 with fail;refine RL hS ?_;clear hS;refine Wf ?_;refine Wt ?_;refine Wt ?_;(iterate 6 refine MS ?_);refine Wt ?_;refine MZ fun W hS=> ?_;go_upto_region 9 with fail;refine RL hS ?_;clear hS;refine MW ?_ (v:=.agg (p4 0 0 0 0)) (hv:=by intro W;kernel_rfl);refine MR 3 ?_;refine MW ?_ (v:=.int .i64 15);refine MZ fun W hS=> ?_;go_wp2;exact bodyPost_ret (X8 rfl rfl rfl (hS.blk (i:=3) rfl) (by kernel_rfl) (by kernel_rfl)) rfl ⟨rfl,hS.ext⟩
 have D:=Lib.hid hy;clear hy;go_upto_region 4 with fail;refine RS hS ?_;clear hS;refine ML 0 ?_;refine MC (v:=.agg (J1 .u8 32 (J4 Y))) (fun W hS=>α W (J6 hG hS.ext).1) ?_;refine ML 2 ?_;rw[decide_eq_false D.out] at M;refine MW ?_ (v:=.bool true) (hv:=fun _=>J2g ((M) _) (by kernel_rfl) rfl rfl rfl);refine MZx fun W hS=> ?_;go_upto_region 5 with fail;refine RL hS ?_;clear hS;refine MW ?_ (v:=.agg (p4 0 0 0 0)) (hv:=by intro W;kernel_rfl);refine MR 1 ?_;refine MW ?_ (v:=.int .i64 15);refine MZ fun W hS=> ?_;go_wp2;exact bodyPost_ret (X8 rfl rfl rfl (hS.blk (i:=1) rfl) (by kernel_rfl) (by kernel_rfl)) rfl ⟨rfl,hS.ext⟩
end

section
set_option maxHeartbeats 1500000
attribute [local irreducible] wpList Y5 wpX
variable {kn : Kn}

theorem Q6q (hc:kn.c){V:Nat}(hV:V<2^256)(hok:dOk V=true):
  ∃X T,RN X (V % 2^255) 1 T (dPt V)∧∀w,GE kn w→Calls Tryz.prog 107 #[.agg (J1 .u8 32 (J4 V))] w fun e w' =>X5 (.tuple #[.agg (p4 X (V % 2^255) 1 T),.int .i64 0]) w w' e:=by
 have ν:=Y7g (J4 V) (J7j V);rw[J6a,show 8*32=256 by decide,Nat.mod_eq_of_lt hV] at ν;obtain⟨Y,hY⟩:=exn (V % 2^255 % PP);rw[←hY] at ν;have lY:=bpp hY;have HY:=Lib.hid hY;clear hY;have D3:=Q3i Y (Q8 lY);rw[Nat.mod_eq_of_lt lY] at D3;have Γ:=Y78 Y (V % 2^255) (Z37 lY) (Q8j V);have θ:=K7 Y Y (Q8 lY) (Q8 lY);obtain⟨N2,μ⟩:=exn (Y*Y % PP);rw[←μ] at θ;have D9:=bpp μ;have D6:=Q8 D9;have τ:=Lib.hid μ;clear μ;have η:=J7y N2 1 D6 (by decide);obtain⟨N3,Δ⟩:=exn ((N2+(PP-1 % PP)) % PP);rw[←Δ] at η;have G0:=bpp Δ;have G7:=Q8 G0;have ρ:=Lib.hid Δ;clear Δ;have ζ:=K7 DD N2 Y7l D6;obtain⟨N4,ω⟩:=exn (DD*N2 % PP);rw[←ω] at ζ;have G4:=bpp ω;have G2:=Q8 G4;have χ:=Lib.hid ω;clear ω;have ε:=J4l N4 1 G2 (by decide);obtain⟨N5,ψ⟩:=exn ((N4+1) % PP);rw[←ψ] at ε;have G8:=bpp ψ;have D8:=Q8 G8;have σ:=Lib.hid ψ;clear ψ;have S:=Z35 N3 N5 G7 D8;obtain⟨R,hR⟩:=exn (rtR N3 N5);rw[←hR] at S;have lR:R<PP:=by rw[hR];exact Q6p _ _
 have HR:=Lib.hid hR;clear hR;obtain⟨B,hB⟩:=exn (rtB N3 N5);rw[←hB] at S;have HB:=Lib.hid hB;clear hB;have D4:=J5k R 0 (Q8 lR) (by decide);rw[Nat.mod_eq_of_lt lR,Nat.mod_eq_of_lt (by decide)] at D4;have U:=Z0g R (Q8 lR);rw[Nat.mod_eq_of_lt lR] at U;have α:=Z9x hok;have Ψ:V % 2^255=Y:=by rw[HY.out];exact(Nat.mod_eq_of_lt (Z9u hok)).symm
 unfold dPt at α;rw[Ψ] at α;have D5:=Lib.hid Ψ;clear Ψ;obtain⟨X0,ξ⟩:=exn (dXf Y (top V));have G9:X0<PP:=by rw[ξ];exact V1b _ _
 rw[←ξ] at α;have γ:=Lib.hid ξ;clear ξ;obtain⟨T,rT,Θ⟩:=Y7h (kn:=kn) G9 lY α;have D1:=Q3g R (Q8 lR);obtain⟨N8,Ξ⟩:=exn ((PP-R % PP) % PP);rw[←Ξ] at D1;have G1:=bpp Ξ;have M0:=Q8 G1;have G5:=Lib.hid Ξ;clear Ξ;have β:=Z0g R (Q8 lR);rw[Nat.mod_eq_of_lt lR] at β;have D0:=Q3g R (Q8 lR);obtain⟨N7,φ⟩:=exn ((PP-R % PP) % PP);rw[←φ] at D0;have G3:=bpp φ;have M2:=Q8 G3;have G6:=Lib.hid φ;clear φ;refine⟨X0,T,by unfold dPt;rw[D5.out,←γ.out];exact rT,?_⟩;rw[D5.out];clear α;intro w hG;have hS:=SH.nil [] w
 go_enter Tryz.func107,Tryz.ntmps107
 go_upto_region 0 with fail;refine RL hS ?_;clear hS;refine MN (z:=J1 .u8 32 (J4 V)) (t:=23) ?_;intro N;refine MN (z:=p4 0 0 0 0) (t:=154) ?_;intro M1;refine W0 ?_;refine MZ fun W hS=> ?_
 by_cases ht:top V=true
 ·
  go_upto_region 1 with fail;refine RL hS ?_;clear hS;refine MW ?_ (v:=.pointer (some ⟨N,0+31,none⟩)) (hv:=fun _=>rxa Tryz.underlying23 (by decide));refine MG 1 ?_ (j:=0+31) (v:=.int .u8 ((J4 V) 31)) (hj:=ag0 (by decide));refine MW ?_ (v:=.int .u8 128) (hv:=by intro W;exact J6c (Z39 hV ht) rfl rfl rfl);refine Wt ?_;refine Wt ?_;refine MZ fun W hS=> ?_;go_upto_region 2 with fail;refine RL hS ?_;clear hS;refine ML 1 ?_;refine MC (v:=.agg (c4 Y)) (fun W hS=>ν W (J6 hG hS.ext).1) ?_;refine MN (z:=c4 0) (t:=152) ?_;intro M3;refine MR 0 ?_;refine MZ fun W hS=> ?_;go_upto_region 3 with fail;refine RL hS ?_;clear hS;refine MW ?_ (v:=.pointer (some ⟨N,0+31,none⟩)) (hv:=fun _=>rxa Tryz.underlying23 (by decide));refine MG 2 ?_ (j:=0+31) (v:=.int .u8 ((J4 V) 31)) (hj:=ag0 (by decide));refine MW ?_ (v:=.int .u8 (bits .andNot .u8 (J4 V 31) 128)) (hv:=by intro W;exact J8k rfl rfl rfl rfl);refine MW ?_ (v:=.pointer (some ⟨N,0+31,none⟩)) (hv:=fun _=>rxa Tryz.underlying23 (by decide));refine MP 2 (v:=.int .u8 (bits .andNot .u8 (J4 V 31) 128)) (cs' :=J1 .u8 32 (upd (J4 V) 31 (bits .andNot .u8 (J4 V 31) 128))) ?_ (hs:=by rw[J0,Nat.zero_add];decide) (hc:=by rw[Nat.zero_add];exact K3 _ _ _ _ _);refine MT (fun W hS=>by rw[Z3a (Q28 hV)] at hS;exact hS) ?_;refine MZ fun W hS=> ?_
  by_cases hy:Y=V % 2^255
  ·
   have J:=Lib.hid hy;clear hy;go_upto_region 4 with fail;refine RS hS ?_;clear hS;refine ML 0 ?_;refine MC (v:=.agg (J1 .u8 32 (J4 Y))) (fun W hS=>D3 W (J6 hG hS.ext).1) ?_;refine ML 2 ?_;rw[decide_eq_true J.out] at Γ;refine MW ?_ (v:=.bool false) (hv:=fun _=>J2g ((Γ) _) (by kernel_rfl) rfl rfl rfl);refine MZx fun W hS=> ?_;go_upto_region 6 with fail;refine RL hS ?_;clear hS;refine ML 0 ?_;refine ML 0 ?_;refine MC (v:=.agg (c4 N2)) (fun W hS=>θ W (J6 hG hS.ext).1) ?_;refine MN (z:=c4 0) (t:=152) ?_;intro M4;refine MR 0 ?_;refine MZ fun W hS=> ?_;have δ:R=dX Y:=by unfold dX dU dV;rw[HR.out,ρ.out,σ.out,χ.out,τ.out]
   have Z:B=dB Y:=by unfold dB dU dV;rw[HB.out,ρ.out,σ.out,χ.out,τ.out]
   have M:=Lib.hid δ;have Ω:=Lib.hid Z;clear δ Z
   by_cases hb:B=true
   ·
    have κ:=Lib.hid hb;clear hb;go_upto_region 7 with fail;refine RXn 12 [⟨12,7,c4 0,152⟩] hS ?_ (by simp only[List.forall_mem_cons];exact⟨⟨_,rfl,rfl,rfl,fun _ _=>by kernel_rfl⟩,fun _ h=>by cases h⟩);clear hS;refine ML 0 ?_;refine MC (v:=.agg (c4 1)) (fun W hS=>J37 W) ?_;refine MC (v:=.agg (c4 N3)) (fun W hS=>η W (J6 hG hS.ext).1) ?_;refine MF (v:=.agg (c4 DD)) (fun W hS=>J28 rfl rfl ((J6 hG hS.ext).2.2.1 hc) (by kernel_rfl) (by kernel_rfl)) ?_;refine ML 0 ?_;refine MC (v:=.agg (c4 N4)) (fun W hS=>ζ W (J6 hG hS.ext).1) ?_;refine MC (v:=.agg (c4 1)) (fun W hS=>J37 W) ?_;refine MC (v:=.agg (c4 N5)) (fun W hS=>ε W (J6 hG hS.ext).1) ?_;rw[κ.out] at S;refine MC (v:=.tuple #[.agg (c4 R),.bool true]) (fun W hS=>S W (J6 hG hS.ext).1 ((J6 hG hS.ext).2.1 hc)) ?_;refine MV ?_;refine MV ?_;refine Wt ?_;refine MZB fun M8=> ?_;refine MR 0 ?_;refine Wt ?_;refine MZn fun W hS=> ?_
    by_cases h0:R=0
    ·
     exact absurd (by rw[←J.out,←M.out];exact h0) (V5y hok ht)
    have D7:=Lib.hid h0;clear h0;go_upto_region 8 with fail;refine RL hS ?_;clear hS;refine Wt ?_;refine Wf ?_;refine Wf ?_;refine Wt ?_;refine Wt ?_;refine ML 0 ?_;refine MW ?_ (v:=.agg (c4 0)) (hv:=by intro W;kernel_rfl);rw[decide_eq_false D7.out] at D4;refine MC (v:=.bool false) (fun W hS=>D4 W (J6 hG hS.ext).1) ?_;refine Wf ?_;refine Wf ?_;refine MZ fun W hS=> ?_
    by_cases ho:R % 2=1
    ·
     have D:=Lib.hid ho;clear ho;go_upto_region 10 with fail;refine RL hS ?_;clear hS;refine ML 0 ?_;rw[decide_eq_true D.out] at U;refine MC (v:=.bool true) (fun W hS=>U W (J6 hG hS.ext).1) ?_;refine Wt ?_;refine MW ?_ (v:=.bool false) (hv:=by intro W;first|rfl|(go_simp;done));refine MZ fun W hS=> ?_;have G:R=X0:=γ.out.trans (by unfold dXf Z55;rw[←M.out,Nat.mod_eq_of_lt lR,decide_eq_true D.out,ht];exact if_pos rfl) |>.symm;rw[G] at hS;clear G;go_upto_region 12 with fail;refine RL hS ?_;clear hS;refine ML 0 ?_;refine ML 2 ?_;refine MC (v:=.agg (p4 X0 Y 1 T)) (fun W hS=>Θ W (J6 hG hS.ext)) ?_;refine MR 3 ?_;refine W0 ?_;refine MZ fun W hS=> ?_;go_wp2;exact bodyPost_ret (X8 rfl rfl rfl (hS.blk (i:=3) rfl) (by kernel_rfl) (by kernel_rfl)) rfl ⟨rfl,hS.ext⟩
    have D:=Lib.hid ho;clear ho;go_upto_region 10 with fail;refine RL hS ?_;clear hS;refine ML 0 ?_;rw[decide_eq_false D.out] at U;refine MC (v:=.bool false) (fun W hS=>U W (J6 hG hS.ext).1) ?_;refine Wt ?_;refine MW ?_ (v:=.bool true) (hv:=by intro W;first|rfl|(go_simp;done));refine MZ fun W hS=> ?_;go_upto_region 11 with fail;refine RL hS ?_;clear hS;refine ML 0 ?_;refine MC (v:=.agg (c4 N8)) (fun W hS=>D1 W (J6 hG hS.ext).1) ?_;refine MR 0 ?_;refine MZ fun W hS=> ?_;have G:N8=X0:=γ.out.trans (by unfold dXf Z55;rw[←M.out,Nat.mod_eq_of_lt lR,decide_eq_false D.out,ht,G5.out,Nat.mod_eq_of_lt lR];exact if_neg (by decide)) |>.symm;rw[G] at hS;clear G;go_upto_region 12 with fail;refine RL hS ?_;clear hS;refine ML 0 ?_;refine ML 2 ?_;refine MC (v:=.agg (p4 X0 Y 1 T)) (fun W hS=>Θ W (J6 hG hS.ext)) ?_;refine MR 3 ?_;refine W0 ?_;refine MZ fun W hS=> ?_;go_wp2;exact bodyPost_ret (X8 rfl rfl rfl (hS.blk (i:=3) rfl) (by kernel_rfl) (by kernel_rfl)) rfl ⟨rfl,hS.ext⟩
   exact absurd (by rw[Ω.out,J.out];exact Y7k hok) hb
  exact absurd (HY.out.trans (Nat.mod_eq_of_lt (Z9u hok))) hy
 go_upto_region 1 with fail;refine RL hS ?_;clear hS;refine MW ?_ (v:=.pointer (some ⟨N,0+31,none⟩)) (hv:=fun _=>rxa Tryz.underlying23 (by decide));refine MG 1 ?_ (j:=0+31) (v:=.int .u8 ((J4 V) 31)) (hj:=ag0 (by decide));refine MW ?_ (v:=.int .u8 0) (hv:=by intro W;exact J6c (Z3c hV ht) rfl rfl rfl);refine Wf ?_;refine Wf ?_;refine MZ fun W hS=> ?_;go_upto_region 2 with fail;refine RL hS ?_;clear hS;refine ML 1 ?_;refine MC (v:=.agg (c4 Y)) (fun W hS=>ν W (J6 hG hS.ext).1) ?_;refine MN (z:=c4 0) (t:=152) ?_;intro M6;refine MR 0 ?_;refine MZ fun W hS=> ?_;go_upto_region 3 with fail;refine RL hS ?_;clear hS;refine MW ?_ (v:=.pointer (some ⟨N,0+31,none⟩)) (hv:=fun _=>rxa Tryz.underlying23 (by decide));refine MG 2 ?_ (j:=0+31) (v:=.int .u8 ((J4 V) 31)) (hj:=ag0 (by decide));refine MW ?_ (v:=.int .u8 (bits .andNot .u8 (J4 V 31) 128)) (hv:=by intro W;exact J8k rfl rfl rfl rfl);refine MW ?_ (v:=.pointer (some ⟨N,0+31,none⟩)) (hv:=fun _=>rxa Tryz.underlying23 (by decide));refine MP 2 (v:=.int .u8 (bits .andNot .u8 (J4 V 31) 128)) (cs' :=J1 .u8 32 (upd (J4 V) 31 (bits .andNot .u8 (J4 V 31) 128))) ?_ (hs:=by rw[J0,Nat.zero_add];decide) (hc:=by rw[Nat.zero_add];exact K3 _ _ _ _ _);refine MT (fun W hS=>by rw[Z3a (Q28 hV)] at hS;exact hS) ?_;refine MZ fun W hS=> ?_
 by_cases hy:Y=V % 2^255
 ·
  have J:=Lib.hid hy;clear hy;go_upto_region 4 with fail;refine RS hS ?_;clear hS;refine ML 0 ?_;refine MC (v:=.agg (J1 .u8 32 (J4 Y))) (fun W hS=>D3 W (J6 hG hS.ext).1) ?_;refine ML 2 ?_;rw[decide_eq_true J.out] at Γ;refine MW ?_ (v:=.bool false) (hv:=fun _=>J2g ((Γ) _) (by kernel_rfl) rfl rfl rfl);refine MZx fun W hS=> ?_;go_upto_region 6 with fail;refine RL hS ?_;clear hS;refine ML 0 ?_;refine ML 0 ?_;refine MC (v:=.agg (c4 N2)) (fun W hS=>θ W (J6 hG hS.ext).1) ?_;refine MN (z:=c4 0) (t:=152) ?_;intro M5;refine MR 0 ?_;refine MZ fun W hS=> ?_;have δ:R=dX Y:=by unfold dX dU dV;rw[HR.out,ρ.out,σ.out,χ.out,τ.out]
  have Z:B=dB Y:=by unfold dB dU dV;rw[HB.out,ρ.out,σ.out,χ.out,τ.out]
  have M:=Lib.hid δ;have Ω:=Lib.hid Z;clear δ Z
  by_cases hb:B=true
  ·
   have κ:=Lib.hid hb;clear hb;go_upto_region 7 with fail;refine RXn 12 [⟨12,7,c4 0,152⟩] hS ?_ (by simp only[List.forall_mem_cons];exact⟨⟨_,rfl,rfl,rfl,fun _ _=>by kernel_rfl⟩,fun _ h=>by cases h⟩);clear hS;refine ML 0 ?_;refine MC (v:=.agg (c4 1)) (fun W hS=>J37 W) ?_;refine MC (v:=.agg (c4 N3)) (fun W hS=>η W (J6 hG hS.ext).1) ?_;refine MF (v:=.agg (c4 DD)) (fun W hS=>J28 rfl rfl ((J6 hG hS.ext).2.2.1 hc) (by kernel_rfl) (by kernel_rfl)) ?_;refine ML 0 ?_;refine MC (v:=.agg (c4 N4)) (fun W hS=>ζ W (J6 hG hS.ext).1) ?_;refine MC (v:=.agg (c4 1)) (fun W hS=>J37 W) ?_;refine MC (v:=.agg (c4 N5)) (fun W hS=>ε W (J6 hG hS.ext).1) ?_;rw[κ.out] at S;refine MC (v:=.tuple #[.agg (c4 R),.bool true]) (fun W hS=>S W (J6 hG hS.ext).1 ((J6 hG hS.ext).2.1 hc)) ?_;refine MV ?_;refine MV ?_;refine Wt ?_;refine MZB fun M7=> ?_;refine MR 0 ?_;refine Wt ?_;refine MZn fun W hS=> ?_;go_upto_region 8 with fail;refine RL hS ?_;clear hS;refine Wt ?_;(iterate 4 refine Wf ?_);(iterate 3 refine MS ?_);refine Wf ?_;refine Wf ?_;refine MZ fun W hS=> ?_
   by_cases ho:R % 2=1
   ·
    have D:=Lib.hid ho;clear ho;go_upto_region 10 with fail;refine RL hS ?_;clear hS;refine ML 0 ?_;rw[decide_eq_true D.out] at β;refine MC (v:=.bool true) (fun W hS=>β W (J6 hG hS.ext).1) ?_;refine Wf ?_;refine MW ?_ (v:=.bool true) (hv:=by intro W;first|rfl|(go_simp;done));refine MZ fun W hS=> ?_;go_upto_region 11 with fail;refine RL hS ?_;clear hS;refine ML 0 ?_;refine MC (v:=.agg (c4 N7)) (fun W hS=>D0 W (J6 hG hS.ext).1) ?_;refine MR 0 ?_;refine MZ fun W hS=> ?_;have G:N7=X0:=γ.out.trans (by unfold dXf Z55;rw[←M.out,Nat.mod_eq_of_lt lR,decide_eq_true D.out,Bool.eq_false_iff.2 ht,G6.out,Nat.mod_eq_of_lt lR];exact if_neg (by decide)) |>.symm;rw[G] at hS;clear G;go_upto_region 12 with fail;refine RL hS ?_;clear hS;refine ML 0 ?_;refine ML 2 ?_;refine MC (v:=.agg (p4 X0 Y 1 T)) (fun W hS=>Θ W (J6 hG hS.ext)) ?_;refine MR 3 ?_;refine W0 ?_;refine MZ fun W hS=> ?_;go_wp2;exact bodyPost_ret (X8 rfl rfl rfl (hS.blk (i:=3) rfl) (by kernel_rfl) (by kernel_rfl)) rfl ⟨rfl,hS.ext⟩
   have D:=Lib.hid ho;clear ho;go_upto_region 10 with fail;refine RL hS ?_;clear hS;refine ML 0 ?_;rw[decide_eq_false D.out] at β;refine MC (v:=.bool false) (fun W hS=>β W (J6 hG hS.ext).1) ?_;refine Wf ?_;refine MW ?_ (v:=.bool false) (hv:=by intro W;first|rfl|(go_simp;done));refine MZ fun W hS=> ?_;have G:R=X0:=γ.out.trans (by unfold dXf Z55;rw[←M.out,Nat.mod_eq_of_lt lR,decide_eq_false D.out,Bool.eq_false_iff.2 ht];exact if_pos rfl) |>.symm;rw[G] at hS;clear G;go_upto_region 12 with fail;refine RL hS ?_;clear hS;refine ML 0 ?_;refine ML 2 ?_;refine MC (v:=.agg (p4 X0 Y 1 T)) (fun W hS=>Θ W (J6 hG hS.ext)) ?_;refine MR 3 ?_;refine W0 ?_;refine MZ fun W hS=> ?_;go_wp2;exact bodyPost_ret (X8 rfl rfl rfl (hS.blk (i:=3) rfl) (by kernel_rfl) (by kernel_rfl)) rfl ⟨rfl,hS.ext⟩
  exact absurd (by rw[Ω.out,J.out];exact Y7k hok) hb
 exact absurd (HY.out.trans (Nat.mod_eq_of_lt (Z9u hok))) hy
end

section
attribute [local irreducible] wpList Y5 wpX
variable {kn : Kn}
open Sc (LL J0p)
end

section
set_option maxHeartbeats 3000000
attribute [local irreducible] wpList Y5 wpX
end
end Go.Proofs.YteehbddkcnkhfaaGreatDoor.S8

namespace Go.Proofs.YteehbddkcnkhfaaGreatDoor.S8.Sc
section
set_option maxHeartbeats 4000000

end

section
set_option maxHeartbeats 4000000

end

section
set_option maxHeartbeats 1000000

end

section
set_option maxHeartbeats 1000000

end

section
set_option maxHeartbeats 1000000

end

section
set_option maxHeartbeats 4000000

end

section
set_option maxHeartbeats 4000000

end

section
set_option maxHeartbeats 4000000

end
end Go.Proofs.YteehbddkcnkhfaaGreatDoor.S8.Sc

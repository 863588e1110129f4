/- Contracts and plain laws for bundleAny_holds. Conditions: the tables hold their numbers. -/
import Derived.Test.YtlkbneflnjmgbaaGreatDoorJ12
open Go.RowKit
set_option maxRecDepth 100000
set_option linter.unusedSimpArgs false
set_option linter.unusedVariables false
namespace Go.Proofs.YtlkbneflnjmgbaaGreatDoor.S8
section
set_option maxHeartbeats 1500000
attribute [local irreducible] wpList Z6 wpX
variable {kn : Kn}
theorem Y32 {p:Int}{x:Nat}(h:p=(x:Int))(hx:x<256):bits .and .u8 p 1=((x % 2:Nat):Int):=by
 subst h;refine(u8_and_nat x 1 hx (by decide)).trans ?_;rw[Nat.and_one_is_mod]
theorem Z5q (n q r:Nat)(hr:r<8):bits .and .u8 (J7 n q / 2^r) 1=((n / 2^(8*q+r) % 2:Nat):Int):=by
 have h0:n / 2^(8*q) % 256 / 2^r % 2=n / 2^(8*q+r) % 2:=by
  rw[Nat.pow_add,←Nat.div_div_eq_div_mul];generalize n / 2^(8*q)=x;obtain⟨d,hd⟩:∃d,8=r+(1+d):=⟨7-r,by omega⟩
  rw[show 256=2^8 by decide,hd,Nat.pow_add 2 r,Nat.mod_mul_right_div_self,Nat.pow_add 2 1 d,Nat.pow_one,Nat.mod_mul_right_mod]
 have e:J7 n q / 2^r=((n / 2^(8*q) % 256 / 2^r:Nat):Int):=by
  unfold J7;rw[Int.natCast_ediv,Int.natCast_pow];rfl
 rw[Y32 e (Nat.lt_of_le_of_lt (Nat.div_le_self _ _) (Nat.mod_lt _ (by decide))),h0]
theorem Y8i {a:Pr}(ha:OnC a){n i:Nat}(h:n / 2^i % 2=0):pm a (n / 2^i)=J1x (pm a (n / 2^(i+1))) (pm a (n / 2^(i+1))):=by
 rw[←J7d ha]
 congr 1
 rw[Nat.pow_succ,←Nat.div_div_eq_div_mul];omega
theorem Y33 {a:Pr}(ha:OnC a){n i:Nat}(h:n / 2^i % 2=1):pm a (n / 2^i)=J1x (J1x (pm a (n / 2^(i+1))) (pm a (n / 2^(i+1)))) a:=by
 rw[←V52 ha]
 congr 1
 rw[Nat.pow_succ,←Nat.div_div_eq_div_mul];omega
abbrev T4:=Nat×Nat×Nat×Nat
def pc (s:T4):Array Value:=p4 s.1 s.2.1 s.2.2.1 s.2.2.2
def RT (s:T4)(a:Pr):Prop:=RN s.1 s.2.1 s.2.2.1 s.2.2.2 a
structure TStep (kn:Kn)(P:T4)(n j:Nat)(s g s' :T4):Prop where
 tw:∀w,GE kn w→Calls Tryz.prog 137 #[.agg (pc s)] w fun e w' =>Ret (.agg (pc g)) w w' e
 ad:n / 2^j % 2=1→∀w,GE kn w→Calls Tryz.prog 138 #[.agg (pc g),.agg (pc P)] w fun e w' =>Ret (.agg (pc s')) w w' e
 no:¬n / 2^j % 2=1→s' =g
theorem V9s (hd:kn.d){P s:T4}{a:Pr}{n j:Nat}(hP:RT P a)(hs:RT s (pm a (n / 2^(j+1)))):∃g s',TStep kn P n j s g s' ∧RT s' (pm a (n / 2^j)):=by
 obtain⟨x,y,z,t,r,c⟩:=Q1m (kn:=kn) hs
 by_cases h:n / 2^j % 2=1
 ·
  obtain⟨x',y',z',t',r',c'⟩:=V4x hd r.rw hP.rw;exact⟨(x,y,z,t),(x',y',z',t'),⟨c,fun _=>c',fun h0=>absurd h h0⟩,by rw[Y33 hP.on h];exact r'⟩
 exact⟨(x,y,z,t),(x,y,z,t),⟨c,fun h0=>absurd h0 h,fun _=>rfl⟩,by rw[Y8i hP.on (by omega)];exact r⟩
theorem V9t (hd:kn.d){P s0:T4}{a:Pr}{n:Nat}(hP:RT P a)(h0:RT s0 (pm a (n / 2^256))):∀m,m≤256→∃f g:Nat→T4,f 256=s0∧(∀j,256-m≤j→j≤256→RT (f j) (pm a (n / 2^j)))∧∀j,256-m≤j→j<256→TStep kn P n j (f (j+1)) (g j) (f j)
 |0,_=>⟨fun _=>s0,fun _=>s0,rfl,fun j h1 h2=>by rw[show j=256 by omega];exact h0,fun j h1 h2=>by omega⟩
 |m+1,hm=>by
  obtain⟨f,g,e0,e1,e2⟩:=V9t hd hP h0 m (by omega);obtain⟨k,hk⟩:∃k,k=255-m:=⟨_,rfl⟩
  obtain⟨x,s',st,hr⟩:=V9s hd (j:=k) hP (e1 (k+1) (by omega) (by omega));refine⟨fun j=>if j=k then s' else f j,fun j=>if j=k then x else g j,?_,fun j h1 h2=> ?_,fun j h1 h2=> ?_⟩
  ·
   show(if 256=k then s' else f 256)=s0;rw[if_neg (by omega)];exact e0
  ·
   show RT (if j=k then s' else f j) _
   by_cases h:j=k
   ·
    rw[if_pos h,h];exact hr
   ·
    rw[if_neg h];exact e1 j (by omega) h2
  ·
   show TStep kn P n j (if j+1=k then s' else f (j+1)) (if j=k then x else g j) (if j=k then s' else f j);rw[if_neg (by omega)]
   by_cases h:j=k
   ·
    rw[if_pos h,if_pos h,h];exact st
   ·
    rw[if_neg h,if_neg h];exact e2 j (by omega) h2

theorem Q1o (hd:kn.d){X1 Y1 Z1 T1:Nat}{p1:Pr}(h1:RW X1 Y1 Z1 T1 p1){N:Nat}(hN:N<2^256):
  ∃X Y Z T,RN X Y Z T (pm p1 N)∧∀w,GE kn w→Calls Tryz.prog 100 #[.agg (p4 X1 Y1 Z1 T1),.agg (J0 .u8 32 (J7 N))] w fun e w' =>Ret (.agg (p4 X Y Z T)) w w' e:=by
 obtain⟨x1,y2,z3,t4,r5,c6⟩:=J4w (kn:=kn) Q3k;obtain⟨x7,y8,z9,R,α,V⟩:=J4w (kn:=kn) h1;obtain⟨f,gg,U,γ,ζ⟩:=V9t hd (P:=(x7,y8,z9,R)) (s0:=(x1,y2,z3,t4)) (n:=N) α (by rw[Nat.div_eq_of_lt hN];exact r5) 256 (Nat.le_refl _);have β:=Lib.hid U;clear U;refine⟨(f 0).1,(f 0).2.1,(f 0).2.2.1,(f 0).2.2.2,(by have:=γ 0 (Nat.zero_le _) (Nat.zero_le _);rw[Nat.pow_zero,Nat.div_one] at this;exact this),fun w hG=> ?_⟩;have hS:=SH.nil [] w
 go_enter Tryz.func100,Tryz.ntmps100
 go_upto_region 0 with fail;refine RL hS ?_;clear hS;refine MN (z:=p4 X1 Y1 Z1 T1) (t:=196) ?_;intro Z8;refine MN (z:=J0 .u8 32 (J7 N)) (t:=22) ?_;intro M;refine MN (z:=p4 0 0 0 0) (t:=196) ?_;intro ε;refine MZ fun W hS=> ?_;go_upto_region 1 with fail;refine RL hS ?_;clear hS;refine MW ?_ (v:=.agg (p4 0 0 0 0)) (hv:=by intro W;kernel_rfl);refine MC (v:=.agg (p4 x1 y2 z3 t4)) (fun W hS=>c6 W (J8 hG hS.ext)) ?_;refine MN (z:=p4 0 0 0 0) (t:=196) ?_;intro δ;refine MR 0 ?_;refine MZ fun W hS=> ?_;go_upto_region 2 with fail;refine RL hS ?_;clear hS;refine ML 3 ?_;refine MC (v:=.agg (p4 x7 y8 z9 R)) (fun W hS=>V W (J8 hG hS.ext)) ?_;refine MR 3 ?_;refine MZ fun W hS=> ?_
 go_wp2_with fail
 go_loopw [6] (fun si wr=> ∃(j:Nat),(j≤256)∧(si=.int .i64 ((j:Int)-1))∧SH [] w wr [.b δ (pc (f j)) 196,.b ε (p4 0 0 0 0) 196,.b M (J0 .u8 32 (J7 N)) 22,.b Z8 (p4 x7 y8 z9 R) 196])
  (fun si _=>(intOf si+1).toNat)
 case atStart=>exact⟨256,Nat.le_refl _,rfl,(by rw[β.out];exact hS)⟩
 clear hS
 case round=>
  obtain⟨j,hj,rfl,hS⟩:=hrel
  by_cases hz:j=0
  ·
   subst hz;go_upto_region 4 with fail;refine RL hS ?_;clear hS;refine MV ?_;refine Wf ?_;refine MZ fun W hS=> ?_;go_upto_region 9 with fail;refine RL hS ?_;clear hS;refine ML 0 ?_;refine MR 1 ?_;refine MZ fun W hS=> ?_;go_wp2;exact bodyPost_ret (Z0 rfl rfl (hS.blk (i:=1) rfl) (by kernel_rfl) (by kernel_rfl)) rfl ⟨rfl,hS.ext⟩
  obtain⟨i,rfl⟩:∃i,j=i+1:=⟨j-1,by omega⟩
  have S:=ζ i (by omega) (by omega);rw[show((i+1:Nat):Int)-1=(i:Int) by omega];go_upto_region 4 with fail;refine RL hS ?_;clear hS;refine MV ?_;refine Wt ?_;refine MZ fun W hS=> ?_;go_upto_region 6 with fail;refine RL hS ?_;clear hS;refine ML 0 ?_;refine MC (v:=.agg (pc (gg i))) (fun W hS=>S.tw W (J8 hG hS.ext)) ?_;refine MR 0 ?_;refine MZ fun W hS=> ?_
  by_cases D:N / 2^i % 2=1
  ·
   have _f:=D;have G:bits .and .u8 (J7 N (i / 8) / 2^(i % 8)) 1=1:=by rw[Z5q _ _ _ (by omega),show 8*(i / 8)+i % 8=i by omega,D];rfl
   clear _f;have J:=Lib.hid D;clear D;go_upto_region 7 with fail;refine RL hS ?_;clear hS;refine MV ?_;refine MW ?_ (v:=.int .i64 ((i / 8:Nat):Int)) (hv:=by intro W;exact Z00 (m:=8) (by decide) (by omega) rfl rfl rfl);refine MW ?_ (v:=.pointer (some ⟨M,0+(i / 8),none⟩)) (hv:=fun _=>rxa Tryz.underlying22 (by omega));refine MG 2 ?_ (j:=0+(i / 8)) (v:=.int .u8 ((J7 N) (i / 8))) (hj:=ag0 (by omega));refine MV ?_;refine MW ?_ (v:=.int .i64 ((i % 8:Nat):Int)) (hv:=by intro W;exact Z01 (m:=8) (by decide) (by omega) rfl rfl rfl);refine MW ?_ (v:=.int .u8 (J7 N (i / 8) / 2^(i % 8))) (hv:=by intro W;exact Z02 (by omega) rfl rfl rfl);refine MW ?_ (v:=.int .u8 1) (hv:=by intro W;exact J7e G rfl rfl rfl);refine Wt ?_;refine MZ fun W hS=> ?_;go_upto_region 8 with fail;refine RL hS ?_;clear hS;refine ML 0 ?_;refine ML 3 ?_;refine MC (v:=.agg (pc (f i))) (fun W hS=>S.ad J.out W (J8 hG hS.ext)) ?_;refine MR 0 ?_;refine MZ fun W hS=> ?_;go_wp2;go_roundw
   case rel=>exact⟨i,by omega,by go_num,hS⟩
   case measure=>first|(simp[intOf];done)|(simp[intOf];omega)
  have _f:=D;have G:bits .and .u8 (J7 N (i / 8) / 2^(i % 8)) 1=0:=by rw[Z5q _ _ _ (by omega),show 8*(i / 8)+i % 8=i by omega,show N / 2^i % 2=0 by omega];rfl
  clear _f;have J:=Lib.hid D;clear D;go_upto_region 7 with fail;refine RL hS ?_;clear hS;refine MV ?_;refine MW ?_ (v:=.int .i64 ((i / 8:Nat):Int)) (hv:=by intro W;exact Z00 (m:=8) (by decide) (by omega) rfl rfl rfl);refine MW ?_ (v:=.pointer (some ⟨M,0+(i / 8),none⟩)) (hv:=fun _=>rxa Tryz.underlying22 (by omega));refine MG 2 ?_ (j:=0+(i / 8)) (v:=.int .u8 ((J7 N) (i / 8))) (hj:=ag0 (by omega));refine MV ?_;refine MW ?_ (v:=.int .i64 ((i % 8:Nat):Int)) (hv:=by intro W;exact Z01 (m:=8) (by decide) (by omega) rfl rfl rfl);refine MW ?_ (v:=.int .u8 (J7 N (i / 8) / 2^(i % 8))) (hv:=by intro W;exact Z02 (by omega) rfl rfl rfl);refine MW ?_ (v:=.int .u8 0) (hv:=by intro W;exact J7e G rfl rfl rfl);refine Wf ?_;refine MZ fun W hS=> ?_;go_wp2;go_roundw
  case rel=>exact⟨i,by omega,by go_num,(by rw[S.no J.out];exact hS)⟩
  case measure=>first|(simp[intOf];done)|(simp[intOf];omega)
end

section
set_option maxHeartbeats 1000000
attribute [local irreducible] wpList Z6 wpX
variable {kn : Kn}
open Sc (LL J10)
def GA (kn:Kn)(w:World):Prop:=GE kn w∧GS w∧Sc.GL w∧(kn.r→GR w)
theorem V5j {w W:World}(h:Sc.GL w)(k:Ext w W):Sc.GL W:=⟨J0q h.1 k,J0q h.2.1 k,J0q h.2.2.1 k,J0q h.2.2.2.1 k,Nat.lt_of_lt_of_le h.2.2.2.2 k.size⟩
theorem GA_ext {w W:World}(h:GA kn w)(k:Ext w W):GA kn W:=⟨J8 h.1 k,Q7r h.2.1 k,V5j h.2.2.1 k,fun x=>V5f (h.2.2.2 x) k⟩
def s3 (N D P:Nat):Array Value:=J0 .u8 32 (J7 N)++J0 .u8 32 (J7 D)++J0 .u8 32 (J7 P)
section
variable {N D P : Nat}
theorem V5k:∀i v,(J0 .u8 32 (J7 N))[i]?=some v→(s3 N D P)[0+i]?=some v:=fun i v h=>by rw[Nat.zero_add];exact J3h (J3h h)
theorem V5l:∀i v,(J0 .u8 32 (J7 D))[i]?=some v→(s3 N D P)[32+i]?=some v:=fun i v h=>J3h (J79 (J1 _ _ _) h)
theorem V5m:∀i v,(J0 .u8 32 (J7 P))[i]?=some v→(s3 N D P)[64+i]?=some v:=fun i v h=>J79 (by rw[Array.size_append,J1,J1]) h
theorem J1i:(s3 N D P).size=96:=by unfold s3;rw[Array.size_append,Array.size_append,J1,J1,J1]
theorem Q8p:(s3 N D P).all (·.oneCell')=true:=by unfold s3;rw[Array.all_append,Array.all_append,J04,J04,J04];rfl
end
theorem Y3n (a:List Value):∀(vs b:List Value),b.length=vs.length→spl (a++b).toArray a.length vs=(a++vs).toArray
 |[],b,h=>by rw[List.eq_nil_of_length_eq_zero h];rfl
 |v::vs,[],h=>by simp at h
 |v::vs,x::b,h=>by
  show spl ((a++x::b).toArray.setIfInBounds a.length v) (a.length+1) vs=_;rw[List.setIfInBounds_toArray,List.set_append_right _ _ (Nat.le_refl _),Nat.sub_self,List.set_cons_zero];have:=Y3n (a++[v]) vs b (by simpa using h)
  simpa using this
theorem V5n (N D P Q:Nat):spl (s3 N D Q) 64 (J0 .u8 32 (J7 P)).toList=s3 N D P:=by
 have h:=Y3n (Q31 .u8 32 (J7 N)++Q31 .u8 32 (J7 D)) (Q31 .u8 32 (J7 P)) (Q31 .u8 32 (J7 Q)) (by rw[J6h,J6h]);rw[List.length_append,J6h,J6h] at h
 have e:∀X,s3 N D X=(Q31 .u8 32 (J7 N)++Q31 .u8 32 (J7 D)++Q31 .u8 32 (J7 X)).toArray:=fun X=>by
  unfold s3;apply Array.ext';simp only[Array.toList_append,J32]
 rw[e,e,J32];exact h
theorem J81 {H:Nat}{F:List UInt8}(hH:H=hs F)(ps:List (List UInt8))(A:Option Addr)(c:Nat)(hF:ps.flatten=F)(hlen:F.length≤70368744177664)(hpn:ps.length≤9223372036854775000)(w:World)(hps:∀i l,ps[i]?=some l→∃ad u,A=some ad∧w.cell? (ad.add i)=some u∧Sl w u l)(hG:GS w):
  Calls Tryz.prog 102 #[.slice A ps.length c] w fun e w' =>Ret (.agg (J0 .u8 64 (J7 H))) w w' e:=by
 rw[hH,←K0i];exact K0j ps A c F hF hlen hpn w hps hG
theorem Y3o {X:Nat}{w:World}{b off n c V:Nat}{cs:Array Value}{t:TypeId}(hX:X=V % LL)(hB:Blk w b cs t)(hc:∀i v,(J0 .u8 n (J7 V))[i]?=some v→cs[off+i]?=some v)(hn:n≤700)(hV:V<2^(8*n))(hG:Sc.GL w):
  Calls Tryz.prog 103 #[.slice (some ⟨b,off,none⟩) n c] w fun e w' =>Ret (L4 X) w w' e:=by
 have h:=Sc.of_c (J7 V) (J8p V) b off n c w hG hn (fun j hj=>by rw[J4 hB];exact hc j _ (K7 _ _ _ _ hj)) (Q2 hB);rw[J7c,Nat.mod_eq_of_lt hV,←hX] at h;exact h
theorem Q52 {V:Nat}(hV:V<LL)(w:World)(hG:Sc.GL w):Calls Tryz.prog 106 #[L4 V] w fun e w' =>Ret (.agg (J0 .u8 32 (J7 V))) w w' e:=by
 have h:=Sc.bytes_c V (Nat.lt_trans hV J5a) w hG;rw[Nat.mod_eq_of_lt hV] at h;exact h
theorem V5o {X A B:Nat}(hX:X=A*B % LL)(hA:A<Q5)(hB:B<Q5)(w:World)(hG:Sc.GL w):Calls Tryz.prog 108 #[L4 A,L4 B] w fun e w' =>Ret (L4 X) w w' e:=hX▸Sc.mul_c A B hA hB w hG
theorem V5p {X A B:Nat}(hX:X=(A+B) % LL)(hA:A<Q5)(hB:B<Q5)(w:World)(hG:Sc.GL w):Calls Tryz.prog 107 #[L4 A,L4 B] w fun e w' =>Ret (L4 X) w w' e:=hX▸Sc.add_c A B hA hB w hG
theorem Y3p {X V:Nat}(hX:X=clN V)(w:World):Calls Tryz.prog 134 #[.agg (J0 .u8 32 (J7 V))] w fun e w' =>Ret (.agg (J0 .u8 32 (J7 X))) w w' e:=by
 have h:=Sc.clamp_c (J7 V) (J8p V) w;rw[Y91,←hX] at h;exact h
theorem Q53 {X X1 Y1 Z1 T1:Nat}{p1:Pr}(h1:RW X1 Y1 Z1 T1 p1)(hX:X=enc p1)(w:World)(hG:GE kn w):Calls Tryz.prog 101 #[.agg (p4 X1 Y1 Z1 T1)] w fun e w' =>Ret (.agg (J0 .u8 32 (J7 X))) w w' e:=hX▸V50 h1 w hG

theorem Z7z (hd:kn.d)(hb:kn.b)(S:Nat):
  ∀w,GA kn w→Calls Tryz.prog 98 #[.agg (J0 .u8 32 (J7 S))] w fun e w' =>Ret (.agg (s3 (kN S) (kD S) (kP S))) w w' e:=by
 obtain⟨U1,R⟩:=exh (hs ((lb 32 S)));obtain⟨U2,J⟩:=exn (clN (lo U1));have β:U2<2^256:=by rw[J];exact Y3q _
 have T:=Lib.hid J;clear J;obtain⟨x1,y2,z3,t4,r5,c6⟩:=Z5k hb;obtain⟨x7,y8,z9,Z,Y,X⟩:=Q1o hd r5.rw (N:=U2) β;obtain⟨U3,M⟩:=exn (enc (pm BP U2));have γ:U3<2^256:=by rw[M];exact Q0l _
 have U:=Lib.hid M;clear M;intro w hG;have hS:=SH.nil [] w
 go_enter Tryz.func98,Tryz.ntmps98
 go_upto_region 0 with fail;refine RL hS ?_;clear hS;refine MN (z:=J0 .u8 32 (J7 S)) (t:=22) ?_;intro G;refine MN (z:=s3 0 0 0) (t:=191) ?_;intro δ;refine MZ fun W hS=> ?_;go_upto_region 1 with fail;refine RL hS ?_;clear hS;refine MW ?_ (v:=.slice (some ⟨G,0,none⟩) 32 32);refine MB (z:= #[.slice (some ⟨G,0,none⟩) 32 32]) (t:=35) (n:=1) (c:=1) ?_ (hr:=fun W hS=>J0a [.slice (some ⟨G,0,none⟩) 32 32] rfl rfl (vsc (Q1 (V5 (V:=S) (n:=32) (off:=0) (c:=32) (hS.blk (i:=1) rfl) ap0 (by decide) (by decide))).1 vs0) Tryz.underlying187 (by kernel_rfl) (by kernel_rfl) rfl (by decide) (by decide));intro α;refine MC (v:=.agg (J0 .u8 64 (J7 U1))) (fun W hS=>J81 R.out [lb 32 S] (some ⟨α,0,none⟩) 1 (by simp only[List.flatten_cons,List.flatten_nil,List.append_nil,List.nil_append,List.append_assoc,List.cons_append]) (by first|omega|(simp only[List.length_append,List.length_cons,List.length_nil,J6];omega)) (by simp) W (J1q (hS.blk (i:=0) rfl) (pvc (V5 (V:=S) (n:=32) (off:=0) (c:=32) (hS.blk (i:=2) rfl) ap0 (by decide) (by decide)) pv0)) (GA_ext hG hS.ext).2.1) ?_;refine MN (z:=J0 .u8 64 (J7 0)) (t:=163) ?_;intro D;refine MR 0 ?_;refine MZ fun W hS=> ?_;go_upto_region 2 with fail;refine RXn 8 [⟨8,4,s3 0 0 0,191⟩] hS ?_ (by simp only[List.forall_mem_cons];exact⟨⟨_,rfl,rfl,rfl,fun _ _=>by kernel_rfl⟩,fun _ h=>by cases h⟩);clear hS;refine MW ?_ (v:=.slice (some ⟨D,0,none⟩) 32 64);refine MW ?_ (v:=.pointer (some ⟨D,0,none⟩)) (hv:=by intro W;first|rfl|(go_simp;done)|(go_simp;with_reducible rfl));refine Ml 0 Z2x ?_;refine MC (v:=.agg (J0 .u8 32 (J7 U2))) (fun W hS=>Y3p T.out W) ?_;refine MW ?_ (v:=.slice (some ⟨D,32,none⟩) 32 32);refine MW ?_ (v:=.pointer (some ⟨D,32,none⟩)) (hv:=by intro W;first|rfl|(go_simp;done)|(go_simp;with_reducible rfl));refine Ml 0 K3e ?_;refine MW ?_ (v:=.agg (s3 U2 (hi U1) 0)) (hv:=by intro W;kernel_rfl);refine MZB fun ε=> ?_;refine MR 0 ?_ (hz:=by rw[J1i];kernel_rfl) (hs:=by first|rw[J1i,J1i]|rw[J1i]|kernel_rfl) (h1:=Q8p);refine MZn fun W hS=> ?_;go_upto_region 3 with fail;refine RX 6 hS ?_;clear hS;refine MC (v:=.agg (p4 x1 y2 z3 t4)) (fun W hS=>c6 W (GA_ext hG hS.ext).1) ?_;refine MV ?_;refine Ml 0 V5k ?_;refine MC (v:=.agg (p4 x7 y8 z9 Z)) (fun W hS=>X W (GA_ext hG hS.ext).1) ?_;refine MC (v:=.agg (J0 .u8 32 (J7 U3))) (fun W hS=>Q53 Y.rw U.out W (GA_ext hG hS.ext).1) ?_;refine MV ?_;refine MZt ?_;refine Mr 0 (off:=64) (V5n _ _ _ _) ?_ (hs:=by rw[J1,J1i];decide);refine MZn fun W hS=> ?_;go_upto_region 4 with fail;refine RL hS ?_;clear hS;refine ML 0 ?_ (hs:=by rw[J1i];kernel_rfl);refine MR 3 ?_ (hz:=by rw[J1i];kernel_rfl) (hs:=by first|rw[J1i,J1i]|rw[J1i]|kernel_rfl) (h1:=Q8p);refine MZ fun W hS=> ?_;go_wp2;rw[show s3 U2 (hi U1) U3=s3 (kN S) (kD S) (kP S) by rw[U.out,T.out,R.out];rfl] at hS;exact bodyPost_ret (Z0 rfl rfl (hS.blk (i:=3) rfl) (by kernel_rfl) (by rw[J1i];kernel_rfl)) rfl ⟨rfl,hS.ext⟩
end

section
attribute [local irreducible] wpList Z6 wpX
variable {kn : Kn}
open Sc (LL J10)
theorem Q6p (hd:kn.d)(hb:kn.b){N D P S:Nat}(hN:N=kN S)(hD:D=kD S)(hP:P=kP S)(w:World)(hG:GA kn w):
  Calls Tryz.prog 98 #[.agg (J0 .u8 32 (J7 S))] w fun e w' =>Ret (.agg (s3 N D P)) w w' e:=by
 rw[hN,hD,hP];exact Z7z hd hb S w hG
theorem Z0t {w:World}{v:Value}{l:List UInt8}(h:Own w v l)(hp:0<l.length):∃g c cur,v=.slice (some ⟨g,0,none⟩) l.length c∧Blk w g cur 5∧cur.toList.take l.length=bs8 l:=by
 rcases h.2 with⟨_,h0⟩|⟨g,c,cur,hv,_,hh,_,_,_,ht⟩
 ·
  omega
 exact⟨g,c,cur,hv,hh,by rwa [Nat.mul_one] at ht⟩
theorem Y93 {P:Program}{W:World}{o:Oper}{a:Act}{x:Operand}{arr e:TypeId}{n c:Nat}{ad:Addr}(ho:o.op=.sliceToArrayPointer arr x)(hx:a.eval x=.slice (some ad) n c)(hu:P.underlying arr=some (.array n e)):(execOp a.eval o).run P W=.ok (.value (.pointer (some ad))) W:=by
 simp[execOp,ho,hx,Instr.arrayAt,run_underlying hu,Sem.run_bind]
theorem V5q {W:World}{v:Value}{l:List UInt8}{g c m n V:Nat}(h:Own W v l)(ez:v=.slice (some ⟨g,0,none⟩) m c)(hn:l.length=n)(hp:0<n)(hl:l=lb n V):∀i x,(J0 .u8 n (J7 V)).toList[i]?=some x→W.cell? ⟨g,0+i,none⟩=some x:=fun i x hx=>by
 obtain⟨g',c',D,e',hB,ht⟩:=Z0t h (by omega);rw[ez] at e';injection e' with e1 _ _
 injection e1 with e1
 injection e1 with e1 _ _
 subst e1;have hi:i<n:=by have:=(List.getElem?_eq_some_iff.1 hx).1;rwa [Array.length_toList,J1] at this
 rw[J4 hB,Nat.zero_add,←Array.getElem?_toList,←List.getElem?_take_of_lt (l:=D.toList) (show i<l.length by rw[hn];exact hi),ht,hl,Q07,←J32];exact hx
end

section
set_option maxHeartbeats 1500000
attribute [local irreducible] wpList Z6 wpX
variable {kn : Kn}
theorem Y31 {V:Nat}(h:dOk V=true):V % 2^255<PP:=by
 unfold dOk at h;simp only[Bool.and_eq_true,decide_eq_true_eq] at h;exact h.1.1
theorem V1b {V:Nat}(h:dOk V=true):dB (V % 2^255)=true:=by
 unfold dOk at h;simp only[Bool.and_eq_true] at h;exact h.1.2
theorem V9r {V:Nat}(h:dOk V=true)(ht:top V=true):¬dX (V % 2^255)=0:=by
 unfold dOk at h;intro h0;simp[ht,h0] at h
theorem Z5m {V:Nat}(h1:V % 2^255<PP)(h2:dB (V % 2^255)=true)(h3:¬(top V=true∧dX (V % 2^255)=0)):dOk V=true:=by
 unfold dOk;rw[decide_eq_true h1,h2];cases ht:top V
 ·
  rfl
 have:¬dX (V % 2^255)=0:=fun h0=>h3 ⟨ht,h0⟩;simp[this]
theorem Z0n (V:Nat):V % 2^255<2^256:=Nat.lt_trans (Nat.mod_lt _ (by decide)) (by decide)

theorem V51 (y:Nat)(o:Bool):dXf y o<PP:=by
 unfold dXf
 split
 ·
  exact Z2o y
 exact J58 _
theorem Z2p (hc:kn.c){V:Nat}(hV:V<2^256)(hok:dOk V=false):
  ∀w,GE kn w→Calls Tryz.prog 109 #[.agg (J0 .u8 32 (J7 V))] w fun e w' =>Ret (.tuple #[.agg (p4 0 0 0 0),.int .i64 15]) w w' e:=by
 have η:=V16 (J7 V) (J8p V);rw[J7c,show 8*32=256 by decide,Nat.mod_eq_of_lt hV] at η;obtain⟨Y,hY⟩:=exn (V % 2^255 % PP);rw[←hY] at η;have lY:=bpp hY;have HY:=Lib.hid hY;clear hY;have β:=Q4v Y (Q7 lY);rw[Nat.mod_eq_of_lt lY] at β;have M:=V0y Y (V % 2^255) (Z5l lY) (Z0n V);have δ:=J02 Y Y (Q7 lY) (Q7 lY);obtain⟨N2,ζ⟩:=exn (Y*Y % PP);rw[←ζ] at δ;have ω:=bpp ζ;have φ:=Q7 ω;have θ:=Lib.hid ζ;clear ζ;have T:=J94 N2 1 φ (by decide);obtain⟨N3,μ⟩:=exn ((N2+(PP-1 % PP)) % PP);rw[←μ] at T;have Θ:=bpp μ;have Γ:=Q7 Θ;have ρ:=Lib.hid μ;clear μ;have S:=J02 DD N2 V1c φ;obtain⟨N4,ξ⟩:=exn (DD*N2 % PP);rw[←ξ] at S;have Ξ:=bpp ξ;have χ:=Q7 Ξ;have ε:=Lib.hid ξ;clear ξ;have N:=J56 N4 1 χ (by decide);obtain⟨N5,κ⟩:=exn ((N4+1) % PP);rw[←κ] at N;have ψ:=bpp κ;have Δ:=Q7 ψ;have ν:=Lib.hid κ;clear κ;have J:=Z5j N3 N5 Γ Δ;obtain⟨R,hR⟩:=exn (rtR N3 N5);rw[←hR] at J;have lR:R<PP:=by rw[hR];exact Q8g _ _
 have HR:=Lib.hid hR;clear hR;obtain⟨B,hB⟩:=exn (rtB N3 N5);rw[←hB] at J;have HB:=Lib.hid hB;clear hB;have Z:=J6j R 0 (Q7 lR) (by decide);rw[Nat.mod_eq_of_lt lR,Nat.mod_eq_of_lt (by decide)] at Z;intro w hG;have hS:=SH.nil [] w
 go_enter Tryz.func109,Tryz.ntmps109
 go_upto_region 0 with fail;refine RL hS ?_;clear hS;refine MN (z:=J0 .u8 32 (J7 V)) (t:=22) ?_;intro U;refine MN (z:=p4 0 0 0 0) (t:=196) ?_;intro D3;refine W0 ?_;refine MZ fun W hS=> ?_
 by_cases ht:top V=true
 ·
  go_upto_region 1 with fail;refine RL hS ?_;clear hS;refine MW ?_ (v:=.pointer (some ⟨U,0+31,none⟩)) (hv:=fun _=>rxa Tryz.underlying22 (by decide));refine MG 1 ?_ (j:=0+31) (v:=.int .u8 ((J7 V) 31)) (hj:=ag0 (by decide));refine MW ?_ (v:=.int .u8 128) (hv:=by intro W;exact J7e (Z5n hV ht) rfl rfl rfl);refine Wt ?_;refine Wt ?_;refine MZ fun W hS=> ?_;go_upto_region 2 with fail;refine RL hS ?_;clear hS;refine ML 1 ?_;refine MC (v:=.agg (c4 Y)) (fun W hS=>η W (J8 hG hS.ext).1) ?_;refine MN (z:=c4 0) (t:=194) ?_;intro Ω;refine MR 0 ?_;refine MZ fun W hS=> ?_;go_upto_region 3 with fail;refine RL hS ?_;clear hS;refine MW ?_ (v:=.pointer (some ⟨U,0+31,none⟩)) (hv:=fun _=>rxa Tryz.underlying22 (by decide));refine MG 2 ?_ (j:=0+31) (v:=.int .u8 ((J7 V) 31)) (hj:=ag0 (by decide));refine MW ?_ (v:=.int .u8 (bits .andNot .u8 (J7 V 31) 128)) (hv:=by intro W;exact J9r rfl rfl rfl rfl);refine MW ?_ (v:=.pointer (some ⟨U,0+31,none⟩)) (hv:=fun _=>rxa Tryz.underlying22 (by decide));refine MP 2 (v:=.int .u8 (bits .andNot .u8 (J7 V 31) 128)) (cs' :=J0 .u8 32 (upd (J7 V) 31 (bits .andNot .u8 (J7 V 31) 128))) ?_ (hs:=by rw[J1,Nat.zero_add];decide) (hc:=by rw[Nat.zero_add];exact X6 _ _ _ _ _);refine MT (fun W hS=>by rw[Z5o (Q3j hV)] at hS;exact hS) ?_;refine MZ fun W hS=> ?_
  by_cases hy:Y=V % 2^255
  ·
   have D:=Lib.hid hy;clear hy;go_upto_region 4 with fail;refine RS hS ?_;clear hS;refine ML 0 ?_;refine MC (v:=.agg (J0 .u8 32 (J7 Y))) (fun W hS=>β W (J8 hG hS.ext).1) ?_;refine ML 2 ?_;rw[decide_eq_true D.out] at M;refine MW ?_ (v:=.bool false) (hv:=fun _=>J7a ((M) _) (by kernel_rfl) rfl rfl rfl);refine MZx fun W hS=> ?_;go_upto_region 6 with fail;refine RL hS ?_;clear hS;refine ML 0 ?_;refine ML 0 ?_;refine MC (v:=.agg (c4 N2)) (fun W hS=>δ W (J8 hG hS.ext).1) ?_;refine MN (z:=c4 0) (t:=194) ?_;intro D1;refine MR 0 ?_;refine MZ fun W hS=> ?_;have α:R=dX Y:=by unfold dX dU dV;rw[HR.out,ρ.out,ν.out,ε.out,θ.out]
   have γ:B=dB Y:=by unfold dB dU dV;rw[HB.out,ρ.out,ν.out,ε.out,θ.out]
   have τ:=Lib.hid α;have σ:=Lib.hid γ;clear α γ
   by_cases hb:B=true
   ·
    have G:=Lib.hid hb;clear hb;go_upto_region 7 with fail;refine RXn 12 [⟨12,7,c4 0,194⟩] hS ?_ (by simp only[List.forall_mem_cons];exact⟨⟨_,rfl,rfl,rfl,fun _ _=>by kernel_rfl⟩,fun _ h=>by cases h⟩);clear hS;refine ML 0 ?_;refine MC (v:=.agg (c4 1)) (fun W hS=>J3k W) ?_;refine MC (v:=.agg (c4 N3)) (fun W hS=>T W (J8 hG hS.ext).1) ?_;refine MF (v:=.agg (c4 DD)) (fun W hS=>J2o rfl rfl ((J8 hG hS.ext).2.2.1 hc) (by kernel_rfl) (by kernel_rfl)) ?_;refine ML 0 ?_;refine MC (v:=.agg (c4 N4)) (fun W hS=>S W (J8 hG hS.ext).1) ?_;refine MC (v:=.agg (c4 1)) (fun W hS=>J3k W) ?_;refine MC (v:=.agg (c4 N5)) (fun W hS=>N W (J8 hG hS.ext).1) ?_;rw[G.out] at J;refine MC (v:=.tuple #[.agg (c4 R),.bool true]) (fun W hS=>J W (J8 hG hS.ext).1 ((J8 hG hS.ext).2.1 hc)) ?_;refine MV ?_;refine MV ?_;refine Wt ?_;refine MZB fun D5=> ?_;refine MR 0 ?_;refine Wt ?_;refine MZn fun W hS=> ?_
    by_cases h0:R=0
    ·
     have X:=Lib.hid h0;clear h0;go_upto_region 8 with fail;refine RL hS ?_;clear hS;refine Wt ?_;refine Wf ?_;refine Wf ?_;refine Wt ?_;refine Wt ?_;refine ML 0 ?_;refine MW ?_ (v:=.agg (c4 0)) (hv:=by intro W;kernel_rfl);rw[decide_eq_true X.out] at Z;refine MC (v:=.bool true) (fun W hS=>Z W (J8 hG hS.ext).1) ?_;refine Wt ?_;refine Wt ?_;refine MZ fun W hS=> ?_;go_upto_region 9 with fail;refine RL hS ?_;clear hS;refine MW ?_ (v:=.agg (p4 0 0 0 0)) (hv:=by intro W;kernel_rfl);refine MR 3 ?_;refine MW ?_ (v:=.int .i64 15);refine MZ fun W hS=> ?_;go_wp2;exact bodyPost_ret (K0 rfl rfl rfl (hS.blk (i:=3) rfl) (by kernel_rfl) (by kernel_rfl)) rfl ⟨rfl,hS.ext⟩
    have X:=Lib.hid h0;clear h0;go_upto_region 8 with fail;refine RL hS ?_;clear hS;refine Wt ?_;refine Wf ?_;refine Wf ?_;refine Wt ?_;refine Wt ?_;refine ML 0 ?_;refine MW ?_ (v:=.agg (c4 0)) (hv:=by intro W;kernel_rfl);rw[decide_eq_false X.out] at Z;refine MC (v:=.bool false) (fun W hS=>Z W (J8 hG hS.ext).1) ?_;refine Wf ?_;refine Wf ?_;refine MZ fun W hS=> ?_;exact absurd (Z5m (D.out▸lY) (by rw[←D.out,←σ.out];exact G.out) (fun h=>X.out (by rw[τ.out,D.out];exact h.2))) (by rw[hok];decide)
   rw[Bool.not_eq_true] at hb;have G:=Lib.hid hb;clear hb;go_upto_region 7 with fail;refine RXn 12 [⟨12,7,c4 0,194⟩] hS ?_ (by simp only[List.forall_mem_cons];exact⟨⟨_,rfl,rfl,rfl,fun _ _=>by kernel_rfl⟩,fun _ h=>by cases h⟩);clear hS;refine ML 0 ?_;refine MC (v:=.agg (c4 1)) (fun W hS=>J3k W) ?_;refine MC (v:=.agg (c4 N3)) (fun W hS=>T W (J8 hG hS.ext).1) ?_;refine MF (v:=.agg (c4 DD)) (fun W hS=>J2o rfl rfl ((J8 hG hS.ext).2.2.1 hc) (by kernel_rfl) (by kernel_rfl)) ?_;refine ML 0 ?_;refine MC (v:=.agg (c4 N4)) (fun W hS=>S W (J8 hG hS.ext).1) ?_;refine MC (v:=.agg (c4 1)) (fun W hS=>J3k W) ?_;refine MC (v:=.agg (c4 N5)) (fun W hS=>N W (J8 hG hS.ext).1) ?_;rw[G.out] at J;refine MC (v:=.tuple #[.agg (c4 R),.bool false]) (fun W hS=>J W (J8 hG hS.ext).1 ((J8 hG hS.ext).2.1 hc)) ?_;refine MV ?_;refine MV ?_;refine Wf ?_;refine MZB fun D7=> ?_;refine MR 0 ?_;refine Wf ?_;refine MZn fun W hS=> ?_;go_upto_region 8 with fail;refine RL hS ?_;clear hS;refine Wf ?_;refine Wt ?_;refine Wt ?_;(iterate 6 refine MS ?_);refine Wt ?_;refine MZ fun W hS=> ?_;go_upto_region 9 with fail;refine RL hS ?_;clear hS;refine MW ?_ (v:=.agg (p4 0 0 0 0)) (hv:=by intro W;kernel_rfl);refine MR 3 ?_;refine MW ?_ (v:=.int .i64 15);refine MZ fun W hS=> ?_;go_wp2;exact bodyPost_ret (K0 rfl rfl rfl (hS.blk (i:=3) rfl) (by kernel_rfl) (by kernel_rfl)) rfl ⟨rfl,hS.ext⟩
  have D:=Lib.hid hy;clear hy;go_upto_region 4 with fail;refine RS hS ?_;clear hS;refine ML 0 ?_;refine MC (v:=.agg (J0 .u8 32 (J7 Y))) (fun W hS=>β W (J8 hG hS.ext).1) ?_;refine ML 2 ?_;rw[decide_eq_false D.out] at M;refine MW ?_ (v:=.bool true) (hv:=fun _=>J7a ((M) _) (by kernel_rfl) rfl rfl rfl);refine MZx fun W hS=> ?_;go_upto_region 5 with fail;refine RL hS ?_;clear hS;refine MW ?_ (v:=.agg (p4 0 0 0 0)) (hv:=by intro W;kernel_rfl);refine MR 1 ?_;refine MW ?_ (v:=.int .i64 15);refine MZ fun W hS=> ?_;go_wp2;exact bodyPost_ret (K0 rfl rfl rfl (hS.blk (i:=1) rfl) (by kernel_rfl) (by kernel_rfl)) rfl ⟨rfl,hS.ext⟩
 go_upto_region 1 with fail;refine RL hS ?_;clear hS;refine MW ?_ (v:=.pointer (some ⟨U,0+31,none⟩)) (hv:=fun _=>rxa Tryz.underlying22 (by decide));refine MG 1 ?_ (j:=0+31) (v:=.int .u8 ((J7 V) 31)) (hj:=ag0 (by decide));refine MW ?_ (v:=.int .u8 0) (hv:=by intro W;exact J7e (Z5p hV ht) rfl rfl rfl);refine Wf ?_;refine Wf ?_;refine MZ fun W hS=> ?_;go_upto_region 2 with fail;refine RL hS ?_;clear hS;refine ML 1 ?_;refine MC (v:=.agg (c4 Y)) (fun W hS=>η W (J8 hG hS.ext).1) ?_;refine MN (z:=c4 0) (t:=194) ?_;intro D4;refine MR 0 ?_;refine MZ fun W hS=> ?_;go_upto_region 3 with fail;refine RL hS ?_;clear hS;refine MW ?_ (v:=.pointer (some ⟨U,0+31,none⟩)) (hv:=fun _=>rxa Tryz.underlying22 (by decide));refine MG 2 ?_ (j:=0+31) (v:=.int .u8 ((J7 V) 31)) (hj:=ag0 (by decide));refine MW ?_ (v:=.int .u8 (bits .andNot .u8 (J7 V 31) 128)) (hv:=by intro W;exact J9r rfl rfl rfl rfl);refine MW ?_ (v:=.pointer (some ⟨U,0+31,none⟩)) (hv:=fun _=>rxa Tryz.underlying22 (by decide));refine MP 2 (v:=.int .u8 (bits .andNot .u8 (J7 V 31) 128)) (cs' :=J0 .u8 32 (upd (J7 V) 31 (bits .andNot .u8 (J7 V 31) 128))) ?_ (hs:=by rw[J1,Nat.zero_add];decide) (hc:=by rw[Nat.zero_add];exact X6 _ _ _ _ _);refine MT (fun W hS=>by rw[Z5o (Q3j hV)] at hS;exact hS) ?_;refine MZ fun W hS=> ?_
 by_cases hy:Y=V % 2^255
 ·
  have D:=Lib.hid hy;clear hy;go_upto_region 4 with fail;refine RS hS ?_;clear hS;refine ML 0 ?_;refine MC (v:=.agg (J0 .u8 32 (J7 Y))) (fun W hS=>β W (J8 hG hS.ext).1) ?_;refine ML 2 ?_;rw[decide_eq_true D.out] at M;refine MW ?_ (v:=.bool false) (hv:=fun _=>J7a ((M) _) (by kernel_rfl) rfl rfl rfl);refine MZx fun W hS=> ?_;go_upto_region 6 with fail;refine RL hS ?_;clear hS;refine ML 0 ?_;refine ML 0 ?_;refine MC (v:=.agg (c4 N2)) (fun W hS=>δ W (J8 hG hS.ext).1) ?_;refine MN (z:=c4 0) (t:=194) ?_;intro Ψ;refine MR 0 ?_;refine MZ fun W hS=> ?_;have α:R=dX Y:=by unfold dX dU dV;rw[HR.out,ρ.out,ν.out,ε.out,θ.out]
  have γ:B=dB Y:=by unfold dB dU dV;rw[HB.out,ρ.out,ν.out,ε.out,θ.out]
  have τ:=Lib.hid α;have σ:=Lib.hid γ;clear α γ
  by_cases hb:B=true
  ·
   have G:=Lib.hid hb;clear hb;go_upto_region 7 with fail;refine RXn 12 [⟨12,7,c4 0,194⟩] hS ?_ (by simp only[List.forall_mem_cons];exact⟨⟨_,rfl,rfl,rfl,fun _ _=>by kernel_rfl⟩,fun _ h=>by cases h⟩);clear hS;refine ML 0 ?_;refine MC (v:=.agg (c4 1)) (fun W hS=>J3k W) ?_;refine MC (v:=.agg (c4 N3)) (fun W hS=>T W (J8 hG hS.ext).1) ?_;refine MF (v:=.agg (c4 DD)) (fun W hS=>J2o rfl rfl ((J8 hG hS.ext).2.2.1 hc) (by kernel_rfl) (by kernel_rfl)) ?_;refine ML 0 ?_;refine MC (v:=.agg (c4 N4)) (fun W hS=>S W (J8 hG hS.ext).1) ?_;refine MC (v:=.agg (c4 1)) (fun W hS=>J3k W) ?_;refine MC (v:=.agg (c4 N5)) (fun W hS=>N W (J8 hG hS.ext).1) ?_;rw[G.out] at J;refine MC (v:=.tuple #[.agg (c4 R),.bool true]) (fun W hS=>J W (J8 hG hS.ext).1 ((J8 hG hS.ext).2.1 hc)) ?_;refine MV ?_;refine MV ?_;refine Wt ?_;refine MZB fun D6=> ?_;refine MR 0 ?_;refine Wt ?_;refine MZn fun W hS=> ?_;go_upto_region 8 with fail;refine RL hS ?_;clear hS;refine Wt ?_;(iterate 4 refine Wf ?_);(iterate 3 refine MS ?_);refine Wf ?_;refine Wf ?_;refine MZ fun W hS=> ?_;exact absurd (Z5m (D.out▸lY) (by rw[←D.out,←σ.out];exact G.out) (fun h=>ht h.1)) (by rw[hok];decide)
  rw[Bool.not_eq_true] at hb;have G:=Lib.hid hb;clear hb;go_upto_region 7 with fail;refine RXn 12 [⟨12,7,c4 0,194⟩] hS ?_ (by simp only[List.forall_mem_cons];exact⟨⟨_,rfl,rfl,rfl,fun _ _=>by kernel_rfl⟩,fun _ h=>by cases h⟩);clear hS;refine ML 0 ?_;refine MC (v:=.agg (c4 1)) (fun W hS=>J3k W) ?_;refine MC (v:=.agg (c4 N3)) (fun W hS=>T W (J8 hG hS.ext).1) ?_;refine MF (v:=.agg (c4 DD)) (fun W hS=>J2o rfl rfl ((J8 hG hS.ext).2.2.1 hc) (by kernel_rfl) (by kernel_rfl)) ?_;refine ML 0 ?_;refine MC (v:=.agg (c4 N4)) (fun W hS=>S W (J8 hG hS.ext).1) ?_;refine MC (v:=.agg (c4 1)) (fun W hS=>J3k W) ?_;refine MC (v:=.agg (c4 N5)) (fun W hS=>N W (J8 hG hS.ext).1) ?_;rw[G.out] at J;refine MC (v:=.tuple #[.agg (c4 R),.bool false]) (fun W hS=>J W (J8 hG hS.ext).1 ((J8 hG hS.ext).2.1 hc)) ?_;refine MV ?_;refine MV ?_;refine Wf ?_;refine MZB fun D0=> ?_;refine MR 0 ?_;refine Wf ?_;refine MZn fun W hS=> ?_;go_upto_region 8 with fail;refine RL hS ?_;clear hS;refine Wf ?_;refine Wt ?_;refine Wt ?_;(iterate 6 refine MS ?_);refine Wt ?_;refine MZ fun W hS=> ?_;go_upto_region 9 with fail;refine RL hS ?_;clear hS;refine MW ?_ (v:=.agg (p4 0 0 0 0)) (hv:=by intro W;kernel_rfl);refine MR 3 ?_;refine MW ?_ (v:=.int .i64 15);refine MZ fun W hS=> ?_;go_wp2;exact bodyPost_ret (K0 rfl rfl rfl (hS.blk (i:=3) rfl) (by kernel_rfl) (by kernel_rfl)) rfl ⟨rfl,hS.ext⟩
 have D:=Lib.hid hy;clear hy;go_upto_region 4 with fail;refine RS hS ?_;clear hS;refine ML 0 ?_;refine MC (v:=.agg (J0 .u8 32 (J7 Y))) (fun W hS=>β W (J8 hG hS.ext).1) ?_;refine ML 2 ?_;rw[decide_eq_false D.out] at M;refine MW ?_ (v:=.bool true) (hv:=fun _=>J7a ((M) _) (by kernel_rfl) rfl rfl rfl);refine MZx fun W hS=> ?_;go_upto_region 5 with fail;refine RL hS ?_;clear hS;refine MW ?_ (v:=.agg (p4 0 0 0 0)) (hv:=by intro W;kernel_rfl);refine MR 1 ?_;refine MW ?_ (v:=.int .i64 15);refine MZ fun W hS=> ?_;go_wp2;exact bodyPost_ret (K0 rfl rfl rfl (hS.blk (i:=1) rfl) (by kernel_rfl) (by kernel_rfl)) rfl ⟨rfl,hS.ext⟩
end

section
set_option maxHeartbeats 1500000
attribute [local irreducible] wpList Z6 wpX
variable {kn : Kn}

theorem Q8h (hc:kn.c){V:Nat}(hV:V<2^256)(hok:dOk V=true):
  ∃X T,RN X (V % 2^255) 1 T (dPt V)∧∀w,GE kn w→Calls Tryz.prog 109 #[.agg (J0 .u8 32 (J7 V))] w fun e w' =>Ret (.tuple #[.agg (p4 X (V % 2^255) 1 T),.int .i64 0]) w w' e:=by
 have Δ:=V16 (J7 V) (J8p V);rw[J7c,show 8*32=256 by decide,Nat.mod_eq_of_lt hV] at Δ;obtain⟨Y,hY⟩:=exn (V % 2^255 % PP);rw[←hY] at Δ;have lY:=bpp hY;have HY:=Lib.hid hY;clear hY;have Ω:=Q4v Y (Q7 lY);rw[Nat.mod_eq_of_lt lY] at Ω;have ψ:=V0y Y (V % 2^255) (Z5l lY) (Z0n V);have η:=J02 Y Y (Q7 lY) (Q7 lY);obtain⟨N2,ξ⟩:=exn (Y*Y % PP);rw[←ξ] at η;have G6:=bpp ξ;have D6:=Q7 G6;have Θ:=Lib.hid ξ;clear ξ;have ζ:=J94 N2 1 D6 (by decide);obtain⟨N3,Γ⟩:=exn ((N2+(PP-1 % PP)) % PP);rw[←Γ] at ζ;have G8:=bpp Γ;have G7:=Q7 G8;have Ξ:=Lib.hid Γ;clear Γ;have κ:=J02 DD N2 V1c D6;obtain⟨N4,φ⟩:=exn (DD*N2 % PP);rw[←φ] at κ;have D9:=bpp φ;have G5:=Q7 D9;have μ:=Lib.hid φ;clear φ;have θ:=J56 N4 1 G5 (by decide);obtain⟨N5,σ⟩:=exn ((N4+1) % PP);rw[←σ] at θ;have G2:=bpp σ;have G3:=Q7 G2;have τ:=Lib.hid σ;clear σ;have S:=Z5j N3 N5 G7 G3;obtain⟨R,hR⟩:=exn (rtR N3 N5);rw[←hR] at S;have lR:R<PP:=by rw[hR];exact Q8g _ _
 have HR:=Lib.hid hR;clear hR;obtain⟨B,hB⟩:=exn (rtB N3 N5);rw[←hB] at S;have HB:=Lib.hid hB;clear hB;have Ψ:=J6j R 0 (Q7 lR) (by decide);rw[Nat.mod_eq_of_lt lR,Nat.mod_eq_of_lt (by decide)] at Ψ;have α:=Z2l R (Q7 lR);rw[Nat.mod_eq_of_lt lR] at α;have β:=Y34 hok;have D0:V % 2^255=Y:=by rw[HY.out];exact(Nat.mod_eq_of_lt (Y31 hok)).symm
 unfold dPt at β;rw[D0] at β;have D5:=Lib.hid D0;clear D0;obtain⟨X0,ν⟩:=exn (dXf Y (top V));have D8:X0<PP:=by rw[ν];exact V51 _ _
 rw[←ν] at β;have Z:=Lib.hid ν;clear ν;obtain⟨T,rT,ρ⟩:=V17 (kn:=kn) D8 lY β;have D1:=Q4t R (Q7 lR);obtain⟨N8,ω⟩:=exn ((PP-R % PP) % PP);rw[←ω] at D1;have G0:=bpp ω;have M5:=Q7 G0;have G9:=Lib.hid ω;clear ω;have δ:=Z2l R (Q7 lR);rw[Nat.mod_eq_of_lt lR] at δ;have D4:=Q4t R (Q7 lR);obtain⟨N7,χ⟩:=exn ((PP-R % PP) % PP);rw[←χ] at D4;have G1:=bpp χ;have M6:=Q7 G1;have G4:=Lib.hid χ;clear χ;refine⟨X0,T,by unfold dPt;rw[D5.out,←Z.out];exact rT,?_⟩;rw[D5.out];clear β;intro w hG;have hS:=SH.nil [] w
 go_enter Tryz.func109,Tryz.ntmps109
 go_upto_region 0 with fail;refine RL hS ?_;clear hS;refine MN (z:=J0 .u8 32 (J7 V)) (t:=22) ?_;intro N;refine MN (z:=p4 0 0 0 0) (t:=196) ?_;intro M4;refine W0 ?_;refine MZ fun W hS=> ?_
 by_cases ht:top V=true
 ·
  go_upto_region 1 with fail;refine RL hS ?_;clear hS;refine MW ?_ (v:=.pointer (some ⟨N,0+31,none⟩)) (hv:=fun _=>rxa Tryz.underlying22 (by decide));refine MG 1 ?_ (j:=0+31) (v:=.int .u8 ((J7 V) 31)) (hj:=ag0 (by decide));refine MW ?_ (v:=.int .u8 128) (hv:=by intro W;exact J7e (Z5n hV ht) rfl rfl rfl);refine Wt ?_;refine Wt ?_;refine MZ fun W hS=> ?_;go_upto_region 2 with fail;refine RL hS ?_;clear hS;refine ML 1 ?_;refine MC (v:=.agg (c4 Y)) (fun W hS=>Δ W (J8 hG hS.ext).1) ?_;refine MN (z:=c4 0) (t:=194) ?_;intro M0;refine MR 0 ?_;refine MZ fun W hS=> ?_;go_upto_region 3 with fail;refine RL hS ?_;clear hS;refine MW ?_ (v:=.pointer (some ⟨N,0+31,none⟩)) (hv:=fun _=>rxa Tryz.underlying22 (by decide));refine MG 2 ?_ (j:=0+31) (v:=.int .u8 ((J7 V) 31)) (hj:=ag0 (by decide));refine MW ?_ (v:=.int .u8 (bits .andNot .u8 (J7 V 31) 128)) (hv:=by intro W;exact J9r rfl rfl rfl rfl);refine MW ?_ (v:=.pointer (some ⟨N,0+31,none⟩)) (hv:=fun _=>rxa Tryz.underlying22 (by decide));refine MP 2 (v:=.int .u8 (bits .andNot .u8 (J7 V 31) 128)) (cs' :=J0 .u8 32 (upd (J7 V) 31 (bits .andNot .u8 (J7 V 31) 128))) ?_ (hs:=by rw[J1,Nat.zero_add];decide) (hc:=by rw[Nat.zero_add];exact X6 _ _ _ _ _);refine MT (fun W hS=>by rw[Z5o (Q3j hV)] at hS;exact hS) ?_;refine MZ fun W hS=> ?_
  by_cases hy:Y=V % 2^255
  ·
   have J:=Lib.hid hy;clear hy;go_upto_region 4 with fail;refine RS hS ?_;clear hS;refine ML 0 ?_;refine MC (v:=.agg (J0 .u8 32 (J7 Y))) (fun W hS=>Ω W (J8 hG hS.ext).1) ?_;refine ML 2 ?_;rw[decide_eq_true J.out] at ψ;refine MW ?_ (v:=.bool false) (hv:=fun _=>J7a ((ψ) _) (by kernel_rfl) rfl rfl rfl);refine MZx fun W hS=> ?_;go_upto_region 6 with fail;refine RL hS ?_;clear hS;refine ML 0 ?_;refine ML 0 ?_;refine MC (v:=.agg (c4 N2)) (fun W hS=>η W (J8 hG hS.ext).1) ?_;refine MN (z:=c4 0) (t:=194) ?_;intro M2;refine MR 0 ?_;refine MZ fun W hS=> ?_;have γ:R=dX Y:=by unfold dX dU dV;rw[HR.out,Ξ.out,τ.out,μ.out,Θ.out]
   have U:B=dB Y:=by unfold dB dU dV;rw[HB.out,Ξ.out,τ.out,μ.out,Θ.out]
   have M:=Lib.hid γ;have D3:=Lib.hid U;clear γ U
   by_cases hb:B=true
   ·
    have ε:=Lib.hid hb;clear hb;go_upto_region 7 with fail;refine RXn 12 [⟨12,7,c4 0,194⟩] hS ?_ (by simp only[List.forall_mem_cons];exact⟨⟨_,rfl,rfl,rfl,fun _ _=>by kernel_rfl⟩,fun _ h=>by cases h⟩);clear hS;refine ML 0 ?_;refine MC (v:=.agg (c4 1)) (fun W hS=>J3k W) ?_;refine MC (v:=.agg (c4 N3)) (fun W hS=>ζ W (J8 hG hS.ext).1) ?_;refine MF (v:=.agg (c4 DD)) (fun W hS=>J2o rfl rfl ((J8 hG hS.ext).2.2.1 hc) (by kernel_rfl) (by kernel_rfl)) ?_;refine ML 0 ?_;refine MC (v:=.agg (c4 N4)) (fun W hS=>κ W (J8 hG hS.ext).1) ?_;refine MC (v:=.agg (c4 1)) (fun W hS=>J3k W) ?_;refine MC (v:=.agg (c4 N5)) (fun W hS=>θ W (J8 hG hS.ext).1) ?_;rw[ε.out] at S;refine MC (v:=.tuple #[.agg (c4 R),.bool true]) (fun W hS=>S W (J8 hG hS.ext).1 ((J8 hG hS.ext).2.1 hc)) ?_;refine MV ?_;refine MV ?_;refine Wt ?_;refine MZB fun M8=> ?_;refine MR 0 ?_;refine Wt ?_;refine MZn fun W hS=> ?_
    by_cases h0:R=0
    ·
     exact absurd (by rw[←J.out,←M.out];exact h0) (V9r hok ht)
    have D7:=Lib.hid h0;clear h0;go_upto_region 8 with fail;refine RL hS ?_;clear hS;refine Wt ?_;refine Wf ?_;refine Wf ?_;refine Wt ?_;refine Wt ?_;refine ML 0 ?_;refine MW ?_ (v:=.agg (c4 0)) (hv:=by intro W;kernel_rfl);rw[decide_eq_false D7.out] at Ψ;refine MC (v:=.bool false) (fun W hS=>Ψ W (J8 hG hS.ext).1) ?_;refine Wf ?_;refine Wf ?_;refine MZ fun W hS=> ?_
    by_cases ho:R % 2=1
    ·
     have D:=Lib.hid ho;clear ho;go_upto_region 10 with fail;refine RL hS ?_;clear hS;refine ML 0 ?_;rw[decide_eq_true D.out] at α;refine MC (v:=.bool true) (fun W hS=>α W (J8 hG hS.ext).1) ?_;refine Wt ?_;refine MW ?_ (v:=.bool false) (hv:=by intro W;first|rfl|(go_simp;done));refine MZ fun W hS=> ?_;have G:R=X0:=Z.out.trans (by unfold dXf Z7n;rw[←M.out,Nat.mod_eq_of_lt lR,decide_eq_true D.out,ht];exact if_pos rfl) |>.symm;rw[G] at hS;clear G;go_upto_region 12 with fail;refine RL hS ?_;clear hS;refine ML 0 ?_;refine ML 2 ?_;refine MC (v:=.agg (p4 X0 Y 1 T)) (fun W hS=>ρ W (J8 hG hS.ext)) ?_;refine MR 3 ?_;refine W0 ?_;refine MZ fun W hS=> ?_;go_wp2;exact bodyPost_ret (K0 rfl rfl rfl (hS.blk (i:=3) rfl) (by kernel_rfl) (by kernel_rfl)) rfl ⟨rfl,hS.ext⟩
    have D:=Lib.hid ho;clear ho;go_upto_region 10 with fail;refine RL hS ?_;clear hS;refine ML 0 ?_;rw[decide_eq_false D.out] at α;refine MC (v:=.bool false) (fun W hS=>α W (J8 hG hS.ext).1) ?_;refine Wt ?_;refine MW ?_ (v:=.bool true) (hv:=by intro W;first|rfl|(go_simp;done));refine MZ fun W hS=> ?_;go_upto_region 11 with fail;refine RL hS ?_;clear hS;refine ML 0 ?_;refine MC (v:=.agg (c4 N8)) (fun W hS=>D1 W (J8 hG hS.ext).1) ?_;refine MR 0 ?_;refine MZ fun W hS=> ?_;have G:N8=X0:=Z.out.trans (by unfold dXf Z7n;rw[←M.out,Nat.mod_eq_of_lt lR,decide_eq_false D.out,ht,G9.out,Nat.mod_eq_of_lt lR];exact if_neg (by decide)) |>.symm;rw[G] at hS;clear G;go_upto_region 12 with fail;refine RL hS ?_;clear hS;refine ML 0 ?_;refine ML 2 ?_;refine MC (v:=.agg (p4 X0 Y 1 T)) (fun W hS=>ρ W (J8 hG hS.ext)) ?_;refine MR 3 ?_;refine W0 ?_;refine MZ fun W hS=> ?_;go_wp2;exact bodyPost_ret (K0 rfl rfl rfl (hS.blk (i:=3) rfl) (by kernel_rfl) (by kernel_rfl)) rfl ⟨rfl,hS.ext⟩
   exact absurd (by rw[D3.out,J.out];exact V1b hok) hb
  exact absurd (HY.out.trans (Nat.mod_eq_of_lt (Y31 hok))) hy
 go_upto_region 1 with fail;refine RL hS ?_;clear hS;refine MW ?_ (v:=.pointer (some ⟨N,0+31,none⟩)) (hv:=fun _=>rxa Tryz.underlying22 (by decide));refine MG 1 ?_ (j:=0+31) (v:=.int .u8 ((J7 V) 31)) (hj:=ag0 (by decide));refine MW ?_ (v:=.int .u8 0) (hv:=by intro W;exact J7e (Z5p hV ht) rfl rfl rfl);refine Wf ?_;refine Wf ?_;refine MZ fun W hS=> ?_;go_upto_region 2 with fail;refine RL hS ?_;clear hS;refine ML 1 ?_;refine MC (v:=.agg (c4 Y)) (fun W hS=>Δ W (J8 hG hS.ext).1) ?_;refine MN (z:=c4 0) (t:=194) ?_;intro M1;refine MR 0 ?_;refine MZ fun W hS=> ?_;go_upto_region 3 with fail;refine RL hS ?_;clear hS;refine MW ?_ (v:=.pointer (some ⟨N,0+31,none⟩)) (hv:=fun _=>rxa Tryz.underlying22 (by decide));refine MG 2 ?_ (j:=0+31) (v:=.int .u8 ((J7 V) 31)) (hj:=ag0 (by decide));refine MW ?_ (v:=.int .u8 (bits .andNot .u8 (J7 V 31) 128)) (hv:=by intro W;exact J9r rfl rfl rfl rfl);refine MW ?_ (v:=.pointer (some ⟨N,0+31,none⟩)) (hv:=fun _=>rxa Tryz.underlying22 (by decide));refine MP 2 (v:=.int .u8 (bits .andNot .u8 (J7 V 31) 128)) (cs' :=J0 .u8 32 (upd (J7 V) 31 (bits .andNot .u8 (J7 V 31) 128))) ?_ (hs:=by rw[J1,Nat.zero_add];decide) (hc:=by rw[Nat.zero_add];exact X6 _ _ _ _ _);refine MT (fun W hS=>by rw[Z5o (Q3j hV)] at hS;exact hS) ?_;refine MZ fun W hS=> ?_
 by_cases hy:Y=V % 2^255
 ·
  have J:=Lib.hid hy;clear hy;go_upto_region 4 with fail;refine RS hS ?_;clear hS;refine ML 0 ?_;refine MC (v:=.agg (J0 .u8 32 (J7 Y))) (fun W hS=>Ω W (J8 hG hS.ext).1) ?_;refine ML 2 ?_;rw[decide_eq_true J.out] at ψ;refine MW ?_ (v:=.bool false) (hv:=fun _=>J7a ((ψ) _) (by kernel_rfl) rfl rfl rfl);refine MZx fun W hS=> ?_;go_upto_region 6 with fail;refine RL hS ?_;clear hS;refine ML 0 ?_;refine ML 0 ?_;refine MC (v:=.agg (c4 N2)) (fun W hS=>η W (J8 hG hS.ext).1) ?_;refine MN (z:=c4 0) (t:=194) ?_;intro M3;refine MR 0 ?_;refine MZ fun W hS=> ?_;have γ:R=dX Y:=by unfold dX dU dV;rw[HR.out,Ξ.out,τ.out,μ.out,Θ.out]
  have U:B=dB Y:=by unfold dB dU dV;rw[HB.out,Ξ.out,τ.out,μ.out,Θ.out]
  have M:=Lib.hid γ;have D3:=Lib.hid U;clear γ U
  by_cases hb:B=true
  ·
   have ε:=Lib.hid hb;clear hb;go_upto_region 7 with fail;refine RXn 12 [⟨12,7,c4 0,194⟩] hS ?_ (by simp only[List.forall_mem_cons];exact⟨⟨_,rfl,rfl,rfl,fun _ _=>by kernel_rfl⟩,fun _ h=>by cases h⟩);clear hS;refine ML 0 ?_;refine MC (v:=.agg (c4 1)) (fun W hS=>J3k W) ?_;refine MC (v:=.agg (c4 N3)) (fun W hS=>ζ W (J8 hG hS.ext).1) ?_;refine MF (v:=.agg (c4 DD)) (fun W hS=>J2o rfl rfl ((J8 hG hS.ext).2.2.1 hc) (by kernel_rfl) (by kernel_rfl)) ?_;refine ML 0 ?_;refine MC (v:=.agg (c4 N4)) (fun W hS=>κ W (J8 hG hS.ext).1) ?_;refine MC (v:=.agg (c4 1)) (fun W hS=>J3k W) ?_;refine MC (v:=.agg (c4 N5)) (fun W hS=>θ W (J8 hG hS.ext).1) ?_;rw[ε.out] at S;refine MC (v:=.tuple #[.agg (c4 R),.bool true]) (fun W hS=>S W (J8 hG hS.ext).1 ((J8 hG hS.ext).2.1 hc)) ?_;refine MV ?_;refine MV ?_;refine Wt ?_;refine MZB fun M7=> ?_;refine MR 0 ?_;refine Wt ?_;refine MZn fun W hS=> ?_;go_upto_region 8 with fail;refine RL hS ?_;clear hS;refine Wt ?_;(iterate 4 refine Wf ?_);(iterate 3 refine MS ?_);refine Wf ?_;refine Wf ?_;refine MZ fun W hS=> ?_
   by_cases ho:R % 2=1
   ·
    have D:=Lib.hid ho;clear ho;go_upto_region 10 with fail;refine RL hS ?_;clear hS;refine ML 0 ?_;rw[decide_eq_true D.out] at δ;refine MC (v:=.bool true) (fun W hS=>δ W (J8 hG hS.ext).1) ?_;refine Wf ?_;refine MW ?_ (v:=.bool true) (hv:=by intro W;first|rfl|(go_simp;done));refine MZ fun W hS=> ?_;go_upto_region 11 with fail;refine RL hS ?_;clear hS;refine ML 0 ?_;refine MC (v:=.agg (c4 N7)) (fun W hS=>D4 W (J8 hG hS.ext).1) ?_;refine MR 0 ?_;refine MZ fun W hS=> ?_;have G:N7=X0:=Z.out.trans (by unfold dXf Z7n;rw[←M.out,Nat.mod_eq_of_lt lR,decide_eq_true D.out,Bool.eq_false_iff.2 ht,G4.out,Nat.mod_eq_of_lt lR];exact if_neg (by decide)) |>.symm;rw[G] at hS;clear G;go_upto_region 12 with fail;refine RL hS ?_;clear hS;refine ML 0 ?_;refine ML 2 ?_;refine MC (v:=.agg (p4 X0 Y 1 T)) (fun W hS=>ρ W (J8 hG hS.ext)) ?_;refine MR 3 ?_;refine W0 ?_;refine MZ fun W hS=> ?_;go_wp2;exact bodyPost_ret (K0 rfl rfl rfl (hS.blk (i:=3) rfl) (by kernel_rfl) (by kernel_rfl)) rfl ⟨rfl,hS.ext⟩
   have D:=Lib.hid ho;clear ho;go_upto_region 10 with fail;refine RL hS ?_;clear hS;refine ML 0 ?_;rw[decide_eq_false D.out] at δ;refine MC (v:=.bool false) (fun W hS=>δ W (J8 hG hS.ext).1) ?_;refine Wf ?_;refine MW ?_ (v:=.bool false) (hv:=by intro W;first|rfl|(go_simp;done));refine MZ fun W hS=> ?_;have G:R=X0:=Z.out.trans (by unfold dXf Z7n;rw[←M.out,Nat.mod_eq_of_lt lR,decide_eq_false D.out,Bool.eq_false_iff.2 ht];exact if_pos rfl) |>.symm;rw[G] at hS;clear G;go_upto_region 12 with fail;refine RL hS ?_;clear hS;refine ML 0 ?_;refine ML 2 ?_;refine MC (v:=.agg (p4 X0 Y 1 T)) (fun W hS=>ρ W (J8 hG hS.ext)) ?_;refine MR 3 ?_;refine W0 ?_;refine MZ fun W hS=> ?_;go_wp2;exact bodyPost_ret (K0 rfl rfl rfl (hS.blk (i:=3) rfl) (by kernel_rfl) (by kernel_rfl)) rfl ⟨rfl,hS.ext⟩
  exact absurd (by rw[D3.out,J.out];exact V1b hok) hb
 exact absurd (HY.out.trans (Nat.mod_eq_of_lt (Y31 hok))) hy
end

section
attribute [local irreducible] wpList Z6 wpX
variable {kn : Kn}
open Sc (LL J10)

end

section
set_option maxHeartbeats 3000000
attribute [local irreducible] wpList Z6 wpX
end
end Go.Proofs.YtlkbneflnjmgbaaGreatDoor.S8

namespace Go.Proofs.YtlkbneflnjmgbaaGreatDoor.S8.Sc
section
set_option maxHeartbeats 4000000

end

section
set_option maxHeartbeats 4000000

end

section
set_option maxHeartbeats 1000000

end

section
set_option maxHeartbeats 1000000

end

section
set_option maxHeartbeats 1000000

end

section
set_option maxHeartbeats 4000000

end

section
set_option maxHeartbeats 4000000

end

section
set_option maxHeartbeats 4000000

end
end Go.Proofs.YtlkbneflnjmgbaaGreatDoor.S8.Sc

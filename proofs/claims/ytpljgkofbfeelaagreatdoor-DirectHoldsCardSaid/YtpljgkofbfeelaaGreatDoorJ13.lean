/- Contracts and plain laws for directHolds_holds. Conditions: the tables hold their numbers. -/
import Derived.Test.YtpljgkofbfeelaaGreatDoorJ12
open Go renaming bodyPost_ret->BC,Calls->Az,IntKind->AG
open Go.Lib renaming hid->BF
open _root_.List renaming forall_mem_cons->BJ,cons_append->BK
open _root_.Nat renaming mod_eq_of_lt->AI,lt_of_lt_of_le->Au,lt_trans->BG,mod_lt->BH,zero_add->AL,add_zero->Ao,mul_zero->Ay
open Go.RowKit
set_option maxRecDepth 100000
set_option linter.unusedSimpArgs false
set_option linter.unusedVariables false
namespace Go.Proofs.YtpljgkofbfeelaaGreatDoor.S8
section
open Sc (LL J0k)
/-! ### Bytes and numbers -/
theorem Z35 (m n V:Nat):lb (m+n) V=lb m V++lb n (V / 2^(8*m)):=by
  induction m generalizing V with
  |zero=>simp[show lb 0 V=[] from rfl]
  |succ m ih=>
    rw[show m+1+n=(m+n)+1 by omega,J96,J96,ih,BK,Nat.div_div_eq_div_mul,show 256*2^(8*m)=2^(8*(m+1)) by rw[show 8*(m+1)=8*m+8 by omega,Nat.pow_add];omega]
def lo (V:Nat):Nat:=V % 2^256
def hi (V:Nat):Nat:=V / 2^256
theorem lo_lt (V:Nat):lo V<2^256:=BH _ (by decide)
theorem K0c {V:Nat}(h:V<2^(256+256)):hi V<2^256:=by unfold hi;rw[Nat.div_lt_iff_lt_mul (by decide),←Nat.pow_add];exact h
theorem Y32 {V j:Nat}(hj:j<32):J2 (lo V) j=J2 V j:=by
  unfold J2 lo;have e:(2:Nat)^256=2^(8*j)*2^(256-8*j):=by rw[←Nat.pow_add];congr 1;omega
  have e2:(2:Nat)^(256-8*j)=256*2^(248-8*j):=by rw[show 256-8*j=8+(248-8*j) by omega,Nat.pow_add]
  rw[e,Nat.mod_mul_right_div_self,e2,Nat.mod_mul_right_mod]
theorem V4u (V j:Nat):J2 (hi V) j=J2 V (32+j):=by
  unfold J2 hi;rw[Nat.div_div_eq_div_mul,←Nat.pow_add,show 256+8*j=8*(32+j) by omega]
theorem Z32 {V:Nat}:∀i v,(J0 .u8 32 (J2 (lo V)))[i]?=some v→(J0 .u8 64 (J2 V))[0+i]?=some v:=fun i v h=>by
  have hi:i<32:=by have:=(Array.getElem?_eq_some_iff.1 h).1;rwa [J1] at this
  rw[Z8 _ _ _ _ hi,Y32 hi] at h;rw[AL,Z8 _ _ _ _ (by omega)];exact h
theorem K31 {V:Nat}:∀i v,(J0 .u8 32 (J2 (hi V)))[i]?=some v→(J0 .u8 64 (J2 V))[32+i]?=some v:=fun i v h=>by
  have hi:i<32:=by have:=(Array.getElem?_eq_some_iff.1 h).1;rwa [J1] at this
  rw[Z8 _ _ _ _ hi,V4u] at h;rw[Z8 _ _ _ _ (by omega)];exact h
/-! ### Sums -/
def hs (F:List UInt8):Nat:=le (smb F)
theorem Y33 (F:List UInt8):hs F<2^(8*64):=by have:=Q95 (smb F);rwa [Q57] at this
theorem K32:8*64=256+256:=rfl
theorem K0d (F:List UInt8):hs F<2^(256+256):=by have:=Y33 F;rwa [K32] at this
theorem V4v (F:List UInt8):smb F=lb 64 (hs F):=(Q76 (Q57 F)).symm
theorem K07 (F:List UInt8):J0 .u8 64 (sm F)=J0 .u8 64 (J2 (hs F)):=Q94 (by rw[Z80,V4v,J9s,J2v])
/-! ### Secrets -/
def clN (V:Nat):Nat:=J13 (J0k (J2 V)) 32
theorem Q19 (V j:Nat):J7b (J0k (J2 V) j):=by
  have h0:=J4x V 0;have h1:=J4x V 31;have h2:=J4x V j;unfold J0k J7b at*
  split
  · omega
  split
  · omega
  exact h2
theorem Z31 (V:Nat):clN V<2^256:=J68 _ (Q19 V) 32
theorem Y79 (V:Nat):J0 .u8 32 (J0k (J2 V))=J0 .u8 32 (J2 (clN V)):=X7 _ _ _ _ fun j hj=>(Q0w _ (Q19 V) 32 j hj).symm
def kN (S:Nat):Nat:=clN (lo (hs (lb 32 S)))
def kD (S:Nat):Nat:=hi (hs (lb 32 S))
def kP (S:Nat):Nat:=enc (pm BP (kN S))
theorem V09 (S:Nat):kN S<2^256:=Z31 _
theorem V0a (S:Nat):kD S<2^256:=K0c (K0d _)
/-! ### Signatures -/
theorem J8k (a:Pr):enc a<2^256:=by
  unfold enc;have h:a.2.val<2^255:=BG a.2.isLt Z2t;have h2:a.1.val % 2<2:=BH _ (by decide);have e:(2:Nat)^256=2^255+2^255:=by decide
  generalize (2:Nat)^255=T at*;have:T*(a.1.val % 2)≤T*1:=Nat.mul_le_mul_left T (by omega);omega
theorem kP_lt (S:Nat):kP S<2^256:=J8k _
theorem V4w:0<LL:=by decide
theorem J32:LL<2^256:=by decide
theorem mLL (n:Nat):n % LL<LL:=BH _ V4w
end

section
def n64:Nat:=18446744073709551616
theorem Y7d (n:Int)(h0:0≤n)(h1:n<2^64):AG.u64.wrap n=n:=by rw[AG.wrap_u64];omega
theorem J2t (k:AG)(j:Nat)(hj:j≤k.bits)(hk:∀n:Int,0≤n→n<2^j→k.wrap n=n)(a b:Nat)(ha:a<2^j)(hb:b<2^j):bits .xor k a b=((a^^^b:Nat):Int):=by
  have hp:2^j≤2^k.bits:=Nat.pow_le_pow_right (by decide) hj;have ha' :a % 2^k.bits=a:=AI (Au ha hp);have hb' :b % 2^k.bits=b:=AI (Au hb hp);simp only[bits,BitVec.ofInt_natCast,BitVec.toNat_xor,BitVec.toNat_ofNat,ha',hb'];exact hk _ (Int.natCast_nonneg _) (by exact_mod_cast Nat.xor_lt_two_pow ha hb)
def Wn (x:Int)(a:Nat):Prop:=x=(a:Int)∧a<2^64
section
variable {x y : Int} {a b : Nat}
theorem Wn.xo (h:Wn x a)(k:Wn y b):Wn (xo x y) (a^^^b):=⟨by rw[h.1,k.1];exact J2t .u64 64 (by decide) Y7d a b h.2 k.2,Nat.xor_lt_two_pow h.2 k.2⟩
theorem Wn.an (h:Wn x a)(k:Wn y b):Wn (an x y) (a &&& b):=⟨by rw[h.1,k.1];exact(bits_nat .u64 64 (by decide) Y7d a b h.2 k.2).1,Nat.and_lt_two_pow _ k.2⟩
theorem Wn.oo (h:Wn x a)(k:Wn y b):Wn (oo x y) (a |||b):=⟨by rw[h.1,k.1];exact(bits_nat .u64 64 (by decide) Y7d a b h.2 k.2).2,Nat.or_lt_two_pow h.2 k.2⟩
theorem Wn.nt (h:Wn x a):Wn (nt x) (18446744073709551615^^^a):=⟨by rw[h.1];exact J2t .u64 64 (by decide) Y7d _ a (by decide) h.2,Nat.xor_lt_two_pow (by decide) h.2⟩
theorem Wn.ad (h:Wn x a)(k:Wn y b):Wn (ad x y) ((a+b) % n64):=⟨by rw[h.1,k.1];show AG.wrap .u64 ((a:Int)+b)=_;unfold n64;rw[AG.wrap_u64];omega,BH _ (by decide)⟩
theorem Wn.sl (h:Wn x a)(n:Nat):Wn (sl x n) (a*2^n % n64):=⟨by
  rw[h.1];show AG.wrap .u64 ((a:Int)*2^n)=_;unfold n64
  rw[AG.wrap_u64,Int.natCast_emod,Int.natCast_mul,Int.natCast_pow];rfl,BH _ (by decide)⟩
theorem Wn.sr (h:Wn x a)(n:Nat):Wn (sr x n) (a / 2^n):=⟨by
  rw[h.1];show(a:Int) / 2^n=_
  rw[Int.natCast_ediv,Int.natCast_pow];rfl,Nat.lt_of_le_of_lt (Nat.div_le_self _ _) h.2⟩
end
def rtN (a n:Nat):Nat:=a / 2^n |||a*2^(64-n) % n64
theorem Wn.rt {x:Int}{a:Nat}(h:Wn x a)(n:Nat):Wn (rt x n) (rtN a n):=(h.sr n).oo (h.sl (64-n))
/-! ### The words of a block -/
def V4x (b:Nat→Nat)(i:Nat):Nat→Nat
  |0=>0
  |k+1=>V4x b i k*2^8 % n64 |||b (8*i+k)
def bN (l:List UInt8)(j:Nat):Nat:=(l.getD j 0).toNat
theorem K0f (l:List UInt8)(j:Nat):Wn (bt l j) (bN l j):=⟨rfl,BG (l.getD j 0).toNat_lt (by decide)⟩
theorem Y35 (l:List UInt8)(i:Nat):∀k,Wn (wrd (bt l) i k) (V4x (bN l) i k)
  |0=>⟨rfl,Nat.two_pow_pos 64⟩
  |k+1=>((Y35 l i k).sl 8).oo (K0f l _)
def sgN (l:List Nat):Nat:=
  let p:=l.getD 14 0
  let q:=l.getD 1 0
  (((l.getD 15 0+(rtN p 1^^^rtN p 8^^^p / 2^7)) % n64+l.getD 6 0) % n64+(rtN q 19^^^rtN q 61^^^q / 2^6)) % n64
def Z0p (b:Nat→Nat):Nat→List Nat
  |0=>[]
  |i+1=>(if i<16 then V4x b i 8 else sgN (Z0p b i))::Z0p b i
theorem Y36 (l:List UInt8):∀i,∀j,j<i→Wn (Y9 (bt l) i j) ((Z0p (bN l) i).getD (i-1-j) 0)
  |0,_,h=>by omega
  |i+1,j,h=>by
    have ih:=Y36 l i;show Wn (upd (Y9 (bt l) i) i (if i<16 then wrd (bt l) i 8 else sg (Y9 (bt l) i) i) j) _;unfold upd Z0p
    by_cases e:j=i
    · subst e
      rw[if_pos rfl,show j+1-1-j=0 by omega,List.getD_cons_zero]
      by_cases h16:j<16
      · rw[if_pos h16,if_pos h16];exact Y35 l j 8
      · rw[if_neg h16,if_neg h16]
        have g:∀m,m<16→Wn (Y9 (bt l) j (j-(m+1))) ((Z0p (bN l) j).getD m 0):=fun m hm=>by
          have:=ih (j-(m+1)) (by omega)
          rwa [show j-1-(j-(m+1))=m by omega] at this
        have D:=g 14 (by decide);have g1:=g 1 (by decide);exact(((g 15 (by decide)).ad (((D.rt 1).xo (D.rt 8)).xo (D.sr 7))).ad (g 6 (by decide))).ad (((g1.rt 19).xo (g1.rt 61)).xo (g1.sr 6))
    · rw[if_neg e,show i+1-1-j=(i-1-j)+1 by omega,List.getD_cons_succ]
      exact ih j (by omega)
/-! ### The rounds -/
abbrev S8:=Nat×Nat×Nat×Nat×Nat×Nat×Nat×Nat
def K0g (k w:Nat):S8→S8
  |(a,b,c,d,e,f,g,h)=>
    let t:=((((h+(rtN e 14^^^rtN e 18^^^rtN e 41)) % n64+((e &&& f)^^^((18446744073709551615^^^e) &&& g))) % n64+k) % n64+w) % n64
    let u:=((rtN a 28^^^rtN a 34^^^rtN a 39)+((a &&& b)^^^(a &&& c)^^^(b &&& c))) % n64
    ((t+u) % n64,a,b,c,(d+t) % n64,e,f,g)
def Wn8 (v:Nat→Int):S8→Prop
  |(a,b,c,d,e,f,g,h)=>Wn (v 0) a∧Wn (v 1) b∧Wn (v 2) c∧Wn (v 3) d∧Wn (v 4) e∧Wn (v 5) f∧Wn (v 6) g∧Wn (v 7) h
theorem V4y {k w v:Nat→Int}{i kn wn:Nat}{s:S8}(hk:Wn (k i) kn)(hw:Wn (w i) wn)(h:Wn8 v s):Wn8 (rnd k w i v) (K0g kn wn s):=by
  obtain⟨a,b,c,d,e,f,g,h'⟩:=s;obtain⟨h0,h1,h2,h3,h4,h5,h6,h7⟩:=h;have hT:Wn (rT k w i v) _:=(((h7.ad (((h4.rt 14).xo (h4.rt 18)).xo (h4.rt 41))).ad ((h4.an h5).xo (h4.nt.an h6))).ad hk).ad hw;have hU:Wn (rU v) _:=(((h0.rt 28).xo (h0.rt 34)).xo (h0.rt 39)).ad (((h0.an h1).xo (h0.an h2)).xo (h1.an h2));exact⟨hT.ad hU,h0,h1,h2,h3.ad hT,h4,h5,h6⟩
def kkN (i:Nat):Nat:=(kk.getD i 0).toNat
theorem K0h (i:Nat)(h:i<80):Wn (kf i) (kkN i):=by
  have D:((List.range 80).all fun i=>decide (kf i=(kkN i:Int)) && decide (kkN i<2^64))=true:=by decide+kernel
  have:=List.all_eq_true.1 D i (List.mem_range.2 h);simp only[Bool.and_eq_true,decide_eq_true_eq] at this;exact this
def Z69 (W:List Nat)(s:S8):Nat→S8
  |0=>s
  |i+1=>K0g (kkN i) (W.getD (79-i) 0) (Z69 W s i)
theorem Z6a {l:List UInt8}{v:Nat→Int}{s:S8}(h:Wn8 v s):∀i,i≤80→Wn8 (Y5 kf (Y9 (bt l) 80) v i) (Z69 (Z0p (bN l) 80) s i)
  |0,_=>h
  |i+1,hi=>V4y (K0h i (by omega)) (by have:=Y36 l 80 i (by omega);rwa [show 80-1-i=79-i by omega] at this) (Z6a h i (by omega))
def V4z (l:List UInt8)(s:S8):S8:=
  match s,Z69 (Z0p (bN l) 80) s 80 with
  |(a,b,c,d,e,f,g,h),(a',b',c',d',e',f',g',h')=>((a+a') % n64,(b+b') % n64,(c+c') % n64,(d+d') % n64,(e+e') % n64,(f+f') % n64,(g+g') % n64,(h+h') % n64)
theorem V50 {l:List UInt8}{v:Nat→Int}{s:S8}(h:Wn8 v s):Wn8 (prs v (bt l)) (V4z l s):=by
  have h2:=Z6a (l:=l) h 80 (Nat.le_refl _);unfold V4z;generalize Z69 (Z0p (bN l) 80) s 80=s2 at*;obtain⟨a,b,c,d,e,f,g,h'⟩:=s;obtain⟨a2,b2,c2,d2,e2,f2,g2,k2⟩:=s2;obtain⟨h0,h1,D,h3,h4,h5,h6,h7⟩:=h;obtain⟨k0,k1,G,k3,k4,k5,k6,k7⟩:=h2;exact⟨h0.ad k0,h1.ad k1,D.ad G,h3.ad k3,h4.ad k4,h5.ad k5,h6.ad k6,h7.ad k7⟩
def H0N:S8:=(7640891576956012808,13503953896175478587,4354685564936845355,11912009170470909681,5840696475078001361,11170449401992604703,2270897969802886507,6620516959819538809)
theorem K0i:Wn8 hf H0N:=by refine⟨⟨?_,?_⟩,⟨?_,?_⟩,⟨?_,?_⟩,⟨?_,?_⟩,⟨?_,?_⟩,⟨?_,?_⟩,⟨?_,?_⟩,⟨?_,?_⟩⟩<;>decide+kernel
def HsN (P:List UInt8):Nat→S8
  |0=>H0N
  |j+1=>V4z (P.drop (128*j)) (HsN P j)
theorem V0c (P:List UInt8):∀j,Wn8 (Hs P j) (HsN P j)
  |0=>K0i
  |j+1=>V50 (V0c P j)
def wle (a:Nat):Nat:=a / 2^56 % 256+256*(a / 2^48 % 256+256*(a / 2^40 % 256+256*(a / 2^32 % 256+256*(a / 2^24 % 256+256*(a / 2^16 % 256+256*(a / 2^8 % 256+256*(a % 256)))))))
def K33:S8→Nat
  |(a,b,c,d,e,f,g,h)=>wle a+256^(8*1)*wle b+256^(8*2)*wle c+256^(8*3)*wle d+256^(8*4)*wle e+256^(8*5)*wle f+256^(8*6)*wle g+256^(8*7)*wle h
def Y08 (F:List UInt8):Nat:=K33 (HsN (pad F) (nb F.length))
theorem Q6r:∀l m:List UInt8,le (l++m)=le l+256^l.length*le m
  |[],m=>by simp[le]
  |x::r,m=>by
    show x.toNat+256*le (r++m)=x.toNat+256*le r+_;rw[Q6r r m,List.length_cons,Nat.pow_succ,Nat.mul_add,←Nat.mul_assoc,Nat.mul_comm 256 (256^r.length),Nat.add_assoc]
theorem Q2r {H:Nat→Int}{a i:Nat}(h:Wn (H i) a)(k:Nat)(hk:k<8):(bo H (8*i+k)).toNat=a / 2^(8*(7-k)) % 256:=by
  have e:=V03 H (8*i+k);have h2:=(h.sr (8*(7-k))).1;unfold ob at e;rw[show(8*i+k) / 8=i by omega,show(8*i+k) % 8=k by omega,h2] at e;generalize a / 2^(8*(7-k))=z at*;unfold w8 at e;rw[AG.wrap_u8] at e;omega
theorem Q2s {H:Nat→Int}{a i:Nat}(h:Wn (H i) a):le (wb H (8*(i+1)))=le (wb H (8*i))+256^(8*i)*wle a:=by
  rw[←Y73];simp only[List.append_assoc,BK,List.nil_append];rw[Q6r,Q6q]
  congr 2
  unfold wle;simp only[le];rw[Q2r h 0 (by decide),Q2r h 1 (by decide),Q2r h 2 (by decide),Q2r h 3 (by decide),Q2r h 4 (by decide),Q2r h 5 (by decide),Q2r h 6 (by decide),Q2r h 7 (by decide)];simp only[Ay,Ao,Nat.sub_zero,Nat.reduceMul,Nat.reduceSub,Nat.pow_zero,Nat.div_one]
theorem V51 (F:List UInt8):hs F=Y08 F:=by
  have h:=V0c (pad F) (nb F.length);unfold hs smb Y08;generalize HsN (pad F) (nb F.length)=s at*;generalize Hs (pad F) (nb F.length)=H at*;obtain⟨a,b,c,d,e,f,g,k⟩:=s;obtain⟨h0,h1,h2,h3,h4,h5,h6,h7⟩:=h;have z:le (wb H (8*0))=0:=rfl;show le (wb H (8*(7+1)))=_;rw[Q2s h7,Q2s h6,Q2s h5,Q2s h4,Q2s h3,Q2s h2,Q2s h1,Q2s h0,z];show _=wle a+256^(8*1)*wle b+256^(8*2)*wle c+256^(8*3)*wle d+256^(8*4)*wle e+256^(8*5)*wle f+256^(8*6)*wle g+256^(8*7)*wle k;rw[Ay,Nat.pow_zero,Nat.one_mul,AL]
end

section
open Sc (LL J0k)
theorem Z2a {s:Q4}{a:Pr}{x y:Nat}(h:RQ4 s a)(ex:x*s.2.2.1 % PP=s.1)(ey:y*s.2.2.1 % PP=s.2.1):a=(fp x,fp y):=by
  obtain⟨hz,hx,hy,_⟩:=h.rc;rw[←ex,J14,J0u] at hx;rw[←ey,J14,J0u] at hy;have hi:=J0y hz;have e1:a.1=fp x:=by grind
  have e2:a.2=fp y:=by grind
  exact Prod.ext e1 e2
theorem Q3d {x y:Nat}(hx:x<PP)(hy:y<PP):enc (fp x,fp y)=y+2^255*(x % 2):=by
  show(fp y).val+2^255*((fp x).val % 2)=_;rw[Q8f,Q8f,AI hx,AI hy]
theorem Y0a {n x y e:Nat}(hn:n<2^256)(hx:x<PP)(hy:y<PP)(h:(x*(tmN BQ n 256).2.2.1 % PP=(tmN BQ n 256).1∧y*(tmN BQ n 256).2.2.1 % PP=(tmN BQ n 256).2.1))(he:y+2^255*(x % 2)=e):enc (pm BP n)=e:=by
  rw[Z2a (Q7k Z67 hn) h.1 h.2,Q3d hx hy,he]
theorem Q7j {F:List UInt8}{h:Nat}(e:Y08 F=h):hs F=h:=(V51 F).trans e
end

section
set_option maxHeartbeats 1500000
attribute [local irreducible] wpList Z9 wpX
variable {kn : Kn}

theorem J3e (w:World):
  Az Tryz.prog 143 #[] w fun e w' =>V5 (L4 1) w w' e:=by
 have hS:=SH.nil [] w
 go_enter Tryz.func143,Tryz.ntmps143
 go_upto_region 0 with fail;refine RL hS ?_;clear hS;refine MN (z:=c4 0) (t:=138) ?_;intro D;refine MZ fun W hS=> ?_;go_upto_region 1 with fail;refine RL hS ?_;clear hS;refine MC (v:=.agg (c4 1)) (fun W hS=>Y6j 1 (by decide) W) ?_;refine MR 0 ?_;refine MZ fun W hS=> ?_;go_wp2;exact BC (Z6 rfl rfl (hS.blk (i:=0) rfl) (by kernel_rfl) (by kernel_rfl)) rfl ⟨rfl,hS.ext⟩
theorem Y9p {X Y:Nat}(hX:X<PP)(hY:Y<PP)(on:OnC (fp X,fp Y)):
  ∃T,RN X Y 1 T (fp X,fp Y)∧∀w,GE kn w→Az Tryz.prog 100 #[L4 X,L4 Y] w fun e w' =>V5 (.agg (p4 X Y 1 T)) w w' e:=by
 have G:=K5 X Y (Q5 hX) (Q5 hY);obtain⟨N1,D⟩:=exn (X*Y % PP);rw[←D] at G;have M:=bpp D;have S:=Q5 M;have J:=BF D;clear D;refine⟨N1,Z4l hX hY on J.out,fun w hG=> ?_⟩;have hS:=SH.nil [] w
 go_enter Tryz.func100,Tryz.ntmps100
 go_upto_region 0 with fail;refine RL hS ?_;clear hS;refine MN (z:=c4 X) (t:=138) ?_;intro K9;refine MN (z:=c4 Y) (t:=138) ?_;intro R;refine MN (z:=p4 0 0 0 0) (t:=140) ?_;intro N;refine MZ fun W hS=> ?_;go_upto_region 1 with fail;refine RX 7 hS ?_;clear hS;refine ML 2 ?_;refine ML 1 ?_;refine MC (v:=.agg (c4 1)) (fun W hS=>J3e W) ?_;refine ML 2 ?_;refine ML 1 ?_;refine MC (v:=.agg (c4 N1)) (fun W hS=>G W (J8 hG hS.ext).1) ?_;refine MW ?_ (v:=.agg (p4 X Y 1 N1)) (hv:=by intro W;kernel_rfl);refine MZt ?_;refine MR 0 ?_;refine MZn fun W hS=> ?_;go_wp2;exact BC (Z6 rfl rfl (hS.blk (i:=0) rfl) (by kernel_rfl) (by kernel_rfl)) rfl ⟨rfl,hS.ext⟩
theorem Y28 {X1 Y1 Z1 T1:Nat}(hb:Z1<Q3)(hz:Z1≠0)(w:World)(hG:GE kn w):
  Az Tryz.prog 101 #[.agg (p4 X1 Y1 Z1 T1)] w fun e w' =>V5 (.agg (p4 X1 Y1 Z1 T1)) w w' e:=by
 have hS:=SH.nil [] w
 go_enter Tryz.func101,Tryz.ntmps101
 go_upto_region 0 with fail;refine RL hS ?_;clear hS;refine MN (z:=p4 X1 Y1 Z1 T1) (t:=140) ?_;intro U0;refine MN (z:=p4 0 0 0 0) (t:=140) ?_;intro G;refine MZ fun W hS=> ?_;go_upto_region 1 with fail;refine RL hS ?_;clear hS;refine MV ?_;refine Ml 1 J7k ?_;refine MW ?_ (v:=.agg (c4 0)) (hv:=by intro W;kernel_rfl);have D:=V41 Z1 0 hb (by decide);rw[decide_eq_false hz] at D;refine MW ?_ (v:=.bool false) (hv:=fun _=>J3l ((D) _) (by kernel_rfl) rfl rfl rfl);refine MZ fun W hS=> ?_;go_upto_region 3 with fail;refine RL hS ?_;clear hS;refine ML 1 ?_;refine MR 0 ?_;refine MZ fun W hS=> ?_;go_wp2;exact BC (Z6 rfl rfl (hS.blk (i:=0) rfl) (by kernel_rfl) (by kernel_rfl)) rfl ⟨rfl,hS.ext⟩
theorem Y29 {X1 Y1 T1:Nat}(w:World)(hG:GE kn w):
  Az Tryz.prog 101 #[.agg (p4 X1 Y1 0 T1)] w fun e w' =>V5 (.agg (p4 0 1 1 0)) w w' e:=by
 have hS:=SH.nil [] w
 go_enter Tryz.func101,Tryz.ntmps101
 go_upto_region 0 with fail;refine RL hS ?_;clear hS;refine MN (z:=p4 X1 Y1 0 T1) (t:=140) ?_;intro U0;refine MN (z:=p4 0 0 0 0) (t:=140) ?_;intro G;refine MZ fun W hS=> ?_;go_upto_region 1 with fail;refine RL hS ?_;clear hS;refine MV ?_;refine Ml 1 J7k ?_;refine MW ?_ (v:=.agg (c4 0)) (hv:=by intro W;kernel_rfl);have D:=V41 0 0 (by decide) (by decide);rw[decide_eq_true rfl] at D;refine MW ?_ (v:=.bool true) (hv:=fun _=>J3l ((D) _) (by kernel_rfl) rfl rfl rfl);refine MZ fun W hS=> ?_;go_upto_region 2 with fail;refine RL hS ?_;clear hS;refine MC (v:=.agg (c4 1)) (fun W hS=>J3e W) ?_;refine MC (v:=.agg (c4 1)) (fun W hS=>J3e W) ?_;refine MW ?_ (v:=.agg (p4 0 1 1 0)) (hv:=by intro W;kernel_rfl);refine MR 0 ?_;refine MZ fun W hS=> ?_;go_wp2;exact BC (Z6 rfl rfl (hS.blk (i:=0) rfl) (by kernel_rfl) (by kernel_rfl)) rfl ⟨rfl,hS.ext⟩
theorem J3v {X Y Z T:Nat}{a:Pr}(h:RW X Y Z T a):∃X' Y' Z' T',RN X' Y' Z' T' a∧∀w,GE kn w→Az Tryz.prog 101 #[.agg (p4 X Y Z T)] w fun e w' =>V5 (.agg (p4 X' Y' Z' T')) w w' e:=by
 rcases h.cases with⟨hz,h1⟩|⟨rfl,rfl⟩
 ·
  exact⟨X,Y,Z,T,h1,fun w hG=>Y28 h.z hz w hG⟩
 exact⟨0,1,1,0,Y9q,fun w hG=>Y29 w hG⟩
theorem Q13 {X1 Y1 Z1 T1:Nat}{p1:Pr}(h1:RN X1 Y1 Z1 T1 p1):
  ∃X Y Z T,RN X Y Z T (V9 p1 p1)∧∀w,GE kn w→Az Tryz.prog 102 #[.agg (p4 X1 Y1 Z1 T1)] w fun e w' =>V5 (.agg (p4 X Y Z T)) w w' e:=by
 have φ:=K5 X1 X1 (Q5 h1.x) (Q5 h1.x);obtain⟨N1,θ⟩:=exn (X1*X1 % PP);rw[←θ] at φ;have G9:=bpp θ;have D4:=Q5 G9;have M8:=BF θ;clear θ;have Ψ:=K5 Y1 Y1 (Q5 h1.y) (Q5 h1.y);obtain⟨N2,κ⟩:=exn (Y1*Y1 % PP);rw[←κ] at Ψ;have R6:=bpp κ;have D6:=Q5 R6;have M5:=BF κ;clear κ;have ω:=K5 Z1 Z1 (Q5 h1.z) (Q5 h1.z);obtain⟨N3,γ⟩:=exn (Z1*Z1 % PP);rw[←γ] at ω;have M6:=bpp γ;have D3:=Q5 M6;have R2:=BF γ;clear γ;have ψ:=J4y N3 N3 D3 D3;obtain⟨N4,ε⟩:=exn ((N3+N3) % PP);rw[←ε] at ψ;have R4:=bpp ε;have M7:=Q5 R4;have R0:=BF ε;clear ε;have τ:=J4y N1 N2 D4 D6;obtain⟨N5,μ⟩:=exn ((N1+N2) % PP);rw[←μ] at τ;have M1:=bpp μ;have Θ:=Q5 M1;have M0:=BF μ;clear μ;have Ξ:=J4y X1 Y1 (Q5 h1.x) (Q5 h1.y);obtain⟨N6,β⟩:=exn ((X1+Y1) % PP);rw[←β] at Ξ;have R5:=bpp β;have D5:=Q5 R5;have G8:=BF β;clear β;have D1:=K5 N6 N6 D5 D5;obtain⟨N7,ν⟩:=exn (N6*N6 % PP);rw[←ν] at D1;have M4:=bpp ν;have N0:=Q5 M4;have R3:=BF ν;clear ν;have Γ:=J8f N5 N7 Θ N0;obtain⟨N8,ζ⟩:=exn ((N5+(PP-N7 % PP)) % PP);rw[←ζ] at Γ;have R1:=bpp ζ;have D7:=Q5 R1;have M3:=BF ζ;clear ζ;have σ:=J8f N1 N2 D4 D6;obtain⟨N9,V⟩:=exn ((N1+(PP-N2 % PP)) % PP);rw[←V] at σ;have M2:=bpp V;have χ:=Q5 M2;have M9:=BF V;clear V;have S:=J4y N4 N9 M7 χ;obtain⟨R,J⟩:=exn ((N4+N9) % PP);rw[←J] at S;have G0:=bpp J;have Δ:=Q5 G0;have G2:=BF J;clear J;have η:=K5 N8 R D7 Δ;obtain⟨ρ,N⟩:=exn (N8*R % PP);rw[←N] at η;have G3:=bpp N;have R8:=Q5 G3;have G6:=BF N;clear N;have δ:=K5 N9 N5 χ Θ;obtain⟨ξ,M⟩:=exn (N9*N5 % PP);rw[←M] at δ;have D8:=bpp M;have R7:=Q5 D8;have G4:=BF M;clear M;have α:=K5 R N9 Δ χ;obtain⟨Ω,G⟩:=exn (R*N9 % PP);rw[←G] at α;have G1:=bpp G;have S3:=Q5 G1;have G7:=BF G;clear G;have U:=K5 N8 N5 D7 Θ;obtain⟨D0,D⟩:=exn (N8*N5 % PP);rw[←D] at U;have D9:=bpp D;have R9:=Q5 D9;have G5:=BF D;clear D;refine⟨ρ,ξ,Ω,D0,Z0c h1 M8.out M5.out R2.out R0.out M0.out G8.out R3.out M3.out M9.out G2.out G6.out G4.out G7.out G5.out,fun w hG=> ?_⟩;have hS:=SH.nil [] w
 go_enter Tryz.func102,Tryz.ntmps102
 go_upto_region 0 with fail;refine RL hS ?_;clear hS;refine MN (z:=p4 X1 Y1 Z1 T1) (t:=140) ?_;intro U0;refine MN (z:=p4 0 0 0 0) (t:=140) ?_;intro S5;refine MZ fun W hS=> ?_;go_upto_region 1 with fail;refine RXn 10 [⟨10,3,c4 0,138⟩,⟨11,4,c4 0,138⟩] hS ?_ (by simp only[BJ];exact⟨⟨_,rfl,rfl,rfl,fun _ _=>by kernel_rfl⟩,⟨_,rfl,rfl,rfl,fun _ _=>by kernel_rfl⟩,fun _ h=>by cases h⟩);clear hS;refine MV ?_;refine Ml 1 J9j ?_;refine MV ?_;refine Ml 1 J9j ?_;refine MC (v:=.agg (c4 N1)) (fun W hS=>φ W (J8 hG hS.ext).1) ?_;refine MV ?_;refine Ml 1 Q25 ?_;refine MV ?_;refine Ml 1 Q25 ?_;refine MC (v:=.agg (c4 N2)) (fun W hS=>Ψ W (J8 hG hS.ext).1) ?_;refine MZB fun T6=> ?_;refine MR 0 ?_;refine MR 1 ?_;refine MZn fun W hS=> ?_;go_upto_region 2 with fail;refine RL hS ?_;clear hS;refine MV ?_;refine Ml 3 J7k ?_;refine MV ?_;refine Ml 3 J7k ?_;refine MC (v:=.agg (c4 N3)) (fun W hS=>ω W (J8 hG hS.ext).1) ?_;refine MN (z:=c4 0) (t:=138) ?_;intro S7;refine MR 0 ?_;refine MZ fun W hS=> ?_;go_upto_region 3 with fail;refine RL hS ?_;clear hS;refine ML 0 ?_;refine ML 0 ?_;refine MC (v:=.agg (c4 N4)) (fun W hS=>ψ W (J8 hG hS.ext).1) ?_;refine MR 0 ?_;refine MZ fun W hS=> ?_;go_upto_region 4 with fail;refine RL hS ?_;clear hS;refine ML 1 ?_;refine ML 2 ?_;refine MC (v:=.agg (c4 N5)) (fun W hS=>τ W (J8 hG hS.ext).1) ?_;refine MN (z:=c4 0) (t:=138) ?_;intro S4;refine MR 0 ?_;refine MZ fun W hS=> ?_;go_upto_region 5 with fail;refine RL hS ?_;clear hS;refine MV ?_;refine Ml 5 J9j ?_;refine MV ?_;refine Ml 5 Q25 ?_;refine MC (v:=.agg (c4 N6)) (fun W hS=>Ξ W (J8 hG hS.ext).1) ?_;refine MN (z:=c4 0) (t:=138) ?_;intro T2;refine MR 0 ?_;refine MZ fun W hS=> ?_;go_upto_region 6 with fail;refine RXn 5 [⟨5,8,c4 0,138⟩] hS ?_ (by simp only[BJ];exact⟨⟨_,rfl,rfl,rfl,fun _ _=>by kernel_rfl⟩,fun _ h=>by cases h⟩);clear hS;refine ML 1 ?_;refine ML 0 ?_;refine ML 0 ?_;refine MC (v:=.agg (c4 N7)) (fun W hS=>D1 W (J8 hG hS.ext).1) ?_;refine MC (v:=.agg (c4 N8)) (fun W hS=>Γ W (J8 hG hS.ext).1) ?_;refine MZB fun T5=> ?_;refine MR 0 ?_;refine MZn fun W hS=> ?_;go_upto_region 7 with fail;refine RL hS ?_;clear hS;refine ML 4 ?_;refine ML 5 ?_;refine MC (v:=.agg (c4 N9)) (fun W hS=>σ W (J8 hG hS.ext).1) ?_;refine MN (z:=c4 0) (t:=138) ?_;intro S6;refine MR 0 ?_;refine MZ fun W hS=> ?_;go_upto_region 8 with fail;refine RL hS ?_;clear hS;refine ML 4 ?_;refine ML 0 ?_;refine MC (v:=.agg (c4 R)) (fun W hS=>S W (J8 hG hS.ext).1) ?_;refine MN (z:=c4 0) (t:=138) ?_;intro S9;refine MR 0 ?_;refine MZ fun W hS=> ?_;go_upto_region 9 with fail;refine RX 13 hS ?_;clear hS;refine ML 2 ?_;refine ML 0 ?_;refine MC (v:=.agg (c4 ρ)) (fun W hS=>η W (J8 hG hS.ext).1) ?_;refine ML 1 ?_;refine ML 4 ?_;refine MC (v:=.agg (c4 ξ)) (fun W hS=>δ W (J8 hG hS.ext).1) ?_;refine ML 0 ?_;refine ML 1 ?_;refine MC (v:=.agg (c4 Ω)) (fun W hS=>α W (J8 hG hS.ext).1) ?_;refine ML 2 ?_;refine ML 4 ?_;refine MC (v:=.agg (c4 D0)) (fun W hS=>U W (J8 hG hS.ext).1) ?_;refine MW ?_ (v:=.agg (p4 ρ ξ Ω D0)) (hv:=by intro W;kernel_rfl);refine MZt ?_;refine MR 8 ?_;refine MZn fun W hS=> ?_;go_wp2;exact BC (Z6 rfl rfl (hS.blk (i:=8) rfl) (by kernel_rfl) (by kernel_rfl)) rfl ⟨rfl,hS.ext⟩
theorem Z2r (hd:kn.d){X1 Y1 Z1 T1:Nat}{p1:Pr}{X2 Y2 Z2 T2:Nat}{p2:Pr}(h1:RW X1 Y1 Z1 T1 p1)(h2:RW X2 Y2 Z2 T2 p2):
  ∃X Y Z T,RN X Y Z T (V9 p1 p2)∧∀w,GE kn w→Az Tryz.prog 56 #[.agg (p4 X1 Y1 Z1 T1),.agg (p4 X2 Y2 Z2 T2)] w fun e w' =>V5 (.agg (p4 X Y Z T)) w w' e:=by
 obtain⟨x1,y2,z3,t4,r5,c6⟩:=J3v (kn:=kn) h1;obtain⟨x7,y8,z9,M1,D,c12⟩:=J3v (kn:=kn) h2;have D1:=J8f y2 x1 (Q5 r5.y) (Q5 r5.x);obtain⟨M2,δ⟩:=exn ((y2+(PP-x1 % PP)) % PP);rw[←δ] at D1;have R0:=bpp δ;have Y4:=Q5 R0;have HN13:=BF δ;clear δ;have Ξ:=J8f y8 x7 (Q5 D.y) (Q5 D.x);obtain⟨M4,M⟩:=exn ((y8+(PP-x7 % PP)) % PP);rw[←M] at Ξ;have N7:=bpp M;have X3:=Q5 N7;have S5:=BF M;clear M;have D6:=K5 M2 M4 Y4 X3;obtain⟨χ,κ⟩:=exn (M2*M4 % PP);rw[←κ] at D6;have T6:=bpp κ;have M0:=Q5 T6;have R1:=BF κ;clear κ;have D3:=J4y y2 x1 (Q5 r5.y) (Q5 r5.x);obtain⟨G6,θ⟩:=exn ((y2+x1) % PP);rw[←θ] at D3;have N9:=bpp θ;have T7:=Q5 N9;have R4:=BF θ;clear θ;have D7:=J4y y8 x7 (Q5 D.y) (Q5 D.x);obtain⟨M3,γ⟩:=exn ((y8+x7) % PP);rw[←γ] at D7;have R3:=bpp γ;have Z3:=Q5 R3;have HN17:=BF γ;clear γ;have Ω:=K5 G6 M3 T7 Z3;obtain⟨ψ,N⟩:=exn (G6*M3 % PP);rw[←N] at Ω;have R6:=bpp N;have G4:=Q5 R6;have R7:=BF N;clear N;have Θ:=K5 t4 D2 (Q5 r5.t) V9d;obtain⟨N0,V⟩:=exn (t4*D2 % PP);rw[←V] at Θ;have N8:=bpp V;have X0:=Q5 N8;have S7:=BF V;clear V;have ω:=K5 N0 M1 X0 (Q5 D.t);obtain⟨ξ,G⟩:=exn (N0*M1 % PP);rw[←G] at ω;have R9:=bpp G;have M8:=Q5 R9;have Y3:=BF G;clear G;have Γ:=J4y z3 z3 (Q5 r5.z) (Q5 r5.z);obtain⟨M6,ε⟩:=exn ((z3+z3) % PP);rw[←ε] at Γ;have X4:=bpp ε;have N5:=Q5 X4;have S3:=BF ε;clear ε;have D9:=K5 M6 z9 N5 (Q5 D.z);obtain⟨φ,μ⟩:=exn (M6*z9 % PP);rw[←μ] at D9;have S9:=bpp μ;have G8:=Q5 S9;have T9:=BF μ;clear μ;have D0:=J8f ψ χ G4 M0;obtain⟨ρ,S⟩:=exn ((ψ+(PP-χ % PP)) % PP);rw[←S] at D0;have S4:=bpp S;have G3:=Q5 S4;have N2:=BF S;clear S;have Δ:=J8f φ ξ G8 M8;obtain⟨σ,η⟩:=exn ((φ+(PP-ξ % PP)) % PP);rw[←η] at Δ;have S6:=bpp η;have G9:=Q5 S6;have N3:=BF η;clear η;have D4:=J4y φ ξ G8 M8;obtain⟨ν,β⟩:=exn ((φ+ξ) % PP);rw[←β] at D4;have R5:=bpp β;have M9:=Q5 R5;have T8:=BF β;clear β;have Ψ:=J4y ψ χ G4 M0;obtain⟨τ,U⟩:=exn ((ψ+χ) % PP);rw[←U] at Ψ;have N1:=bpp U;have G5:=Q5 N1;have HN26:=BF U;clear U;have G1:=K5 ρ σ G3 G9;obtain⟨M7,J⟩:=exn (ρ*σ % PP);rw[←J] at G1;have R8:=bpp J;have bN27:=Q5 R8;have Z4:=BF J;clear J;have D8:=K5 ν τ M9 G5;obtain⟨M5,α⟩:=exn (ν*τ % PP);rw[←α] at D8;have lN28:=bpp α;have bN28:=Q5 lN28;have R2:=BF α;clear α;have D5:=K5 σ ν G9 M9;obtain⟨G2,R⟩:=exn (σ*ν % PP);rw[←R] at D5;have N6:=bpp R;have bN29:=Q5 N6;have T5:=BF R;clear R;have G0:=K5 ρ τ G3 G5;obtain⟨G7,ζ⟩:=exn (ρ*τ % PP);rw[←ζ] at G0;have lN30:=bpp ζ;have bN30:=Q5 lN30;have N4:=BF ζ;clear ζ;refine⟨M7,M5,G2,G7,Y2a r5 D HN13.out S5.out R1.out R4.out HN17.out R7.out S7.out Y3.out S3.out T9.out N2.out N3.out T8.out HN26.out Z4.out R2.out T5.out N4.out,fun w hG=> ?_⟩;have hS:=SH.nil [] w
 go_enter Tryz.func56,Tryz.ntmps56
 go_upto_region 0 with fail;refine RL hS ?_;clear hS;refine MN (z:=p4 X1 Y1 Z1 T1) (t:=140) ?_;intro K9;refine MN (z:=p4 X2 Y2 Z2 T2) (t:=140) ?_;intro J22;refine MN (z:=p4 0 0 0 0) (t:=140) ?_;intro Q23;refine MZ fun W hS=> ?_;go_upto_region 1 with fail;refine RX 4 hS ?_;clear hS;refine ML 2 ?_;refine MC (v:=.agg (p4 x1 y2 z3 t4)) (fun W hS=>c6 W (J8 hG hS.ext)) ?_;refine ML 1 ?_;refine MC (v:=.agg (p4 x7 y8 z9 M1)) (fun W hS=>c12 W (J8 hG hS.ext)) ?_;refine MZt ?_;refine MR 2 ?_;refine MR 1 ?_;refine MZn fun W hS=> ?_;go_upto_region 2 with fail;refine RXn 11 [⟨11,5,c4 0,138⟩] hS ?_ (by simp only[BJ];exact⟨⟨_,rfl,rfl,rfl,fun _ _=>by kernel_rfl⟩,fun _ h=>by cases h⟩);clear hS;refine MV ?_;refine Ml 2 Q25 ?_;refine MV ?_;refine Ml 2 J9j ?_;refine MC (v:=.agg (c4 M2)) (fun W hS=>D1 W (J8 hG hS.ext).1) ?_;refine MV ?_;refine Ml 1 Q25 ?_;refine MV ?_;refine Ml 1 J9j ?_;refine MC (v:=.agg (c4 M4)) (fun W hS=>Ξ W (J8 hG hS.ext).1) ?_;refine MC (v:=.agg (c4 χ)) (fun W hS=>D6 W (J8 hG hS.ext).1) ?_;refine MZB fun β4=> ?_;refine MR 0 ?_;refine MZn fun W hS=> ?_;go_upto_region 3 with fail;refine RXn 11 [⟨11,6,c4 0,138⟩] hS ?_ (by simp only[BJ];exact⟨⟨_,rfl,rfl,rfl,fun _ _=>by kernel_rfl⟩,fun _ h=>by cases h⟩);clear hS;refine MV ?_;refine Ml 3 Q25 ?_;refine MV ?_;refine Ml 3 J9j ?_;refine MC (v:=.agg (c4 G6)) (fun W hS=>D3 W (J8 hG hS.ext).1) ?_;refine MV ?_;refine Ml 2 Q25 ?_;refine MV ?_;refine Ml 2 J9j ?_;refine MC (v:=.agg (c4 M3)) (fun W hS=>D7 W (J8 hG hS.ext).1) ?_;refine MC (v:=.agg (c4 ψ)) (fun W hS=>Ω W (J8 hG hS.ext).1) ?_;refine MZB fun β5=> ?_;refine MR 0 ?_;refine MZn fun W hS=> ?_;go_upto_region 4 with fail;refine RXn 7 [⟨7,7,c4 0,138⟩] hS ?_ (by simp only[BJ];exact⟨⟨_,rfl,rfl,rfl,fun _ _=>by kernel_rfl⟩,fun _ h=>by cases h⟩);clear hS;refine MV ?_;refine Ml 4 V42 ?_;refine MF (v:=.agg (c4 D2)) (fun W hS=>J0a rfl rfl ((J8 hG hS.ext).2.2.2.1 hd) (by kernel_rfl) (by kernel_rfl)) ?_;refine MC (v:=.agg (c4 N0)) (fun W hS=>Θ W (J8 hG hS.ext).1) ?_;refine MV ?_;refine Ml 3 V42 ?_;refine MC (v:=.agg (c4 ξ)) (fun W hS=>ω W (J8 hG hS.ext).1) ?_;refine MZB fun β6=> ?_;refine MR 0 ?_;refine MZn fun W hS=> ?_;go_upto_region 5 with fail;refine RXn 8 [⟨8,8,c4 0,138⟩] hS ?_ (by simp only[BJ];exact⟨⟨_,rfl,rfl,rfl,fun _ _=>by kernel_rfl⟩,fun _ h=>by cases h⟩);clear hS;refine MV ?_;refine Ml 5 J7k ?_;refine MV ?_;refine Ml 5 J7k ?_;refine MC (v:=.agg (c4 M6)) (fun W hS=>Γ W (J8 hG hS.ext).1) ?_;refine MV ?_;refine Ml 4 J7k ?_;refine MC (v:=.agg (c4 φ)) (fun W hS=>D9 W (J8 hG hS.ext).1) ?_;refine MZB fun β7=> ?_;refine MR 0 ?_;refine MZn fun W hS=> ?_;go_upto_region 6 with fail;refine RXn 12 [⟨12,9,c4 0,138⟩,⟨13,10,c4 0,138⟩,⟨14,11,c4 0,138⟩,⟨15,12,c4 0,138⟩] hS ?_ (by simp only[BJ];exact⟨⟨_,rfl,rfl,rfl,fun _ _=>by kernel_rfl⟩,⟨_,rfl,rfl,rfl,fun _ _=>by kernel_rfl⟩,⟨_,rfl,rfl,rfl,fun _ _=>by kernel_rfl⟩,⟨_,rfl,rfl,rfl,fun _ _=>by kernel_rfl⟩,fun _ h=>by cases h⟩);clear hS;refine ML 2 ?_;refine ML 3 ?_;refine MC (v:=.agg (c4 ρ)) (fun W hS=>D0 W (J8 hG hS.ext).1) ?_;refine ML 0 ?_;refine ML 1 ?_;refine MC (v:=.agg (c4 σ)) (fun W hS=>Δ W (J8 hG hS.ext).1) ?_;refine ML 0 ?_;refine ML 1 ?_;refine MC (v:=.agg (c4 ν)) (fun W hS=>D4 W (J8 hG hS.ext).1) ?_;refine ML 2 ?_;refine ML 3 ?_;refine MC (v:=.agg (c4 τ)) (fun W hS=>Ψ W (J8 hG hS.ext).1) ?_;refine MZB fun β8=> ?_;refine MR 0 ?_;refine MR 1 ?_;refine MR 2 ?_;refine MR 3 ?_;refine MZn fun W hS=> ?_;go_upto_region 7 with fail;refine RX 13 hS ?_;clear hS;refine ML 0 ?_;refine ML 1 ?_;refine MC (v:=.agg (c4 M7)) (fun W hS=>G1 W (J8 hG hS.ext).1) ?_;refine ML 2 ?_;refine ML 3 ?_;refine MC (v:=.agg (c4 M5)) (fun W hS=>D8 W (J8 hG hS.ext).1) ?_;refine ML 1 ?_;refine ML 2 ?_;refine MC (v:=.agg (c4 G2)) (fun W hS=>D5 W (J8 hG hS.ext).1) ?_;refine ML 0 ?_;refine ML 3 ?_;refine MC (v:=.agg (c4 G7)) (fun W hS=>G0 W (J8 hG hS.ext).1) ?_;refine MW ?_ (v:=.agg (p4 M7 M5 G2 G7)) (hv:=by intro W;kernel_rfl);refine MZt ?_;refine MR 8 ?_;refine MZn fun W hS=> ?_;go_wp2;exact BC (Z6 rfl rfl (hS.blk (i:=8) rfl) (by kernel_rfl) (by kernel_rfl)) rfl ⟨rfl,hS.ext⟩
theorem Y2b {X1 Y1 Z1 T1:Nat}{p1:Pr}(h1:RW X1 Y1 Z1 T1 p1):
  ∃X Y Z T,RN X Y Z T (J40 p1)∧∀w,GE kn w→Az Tryz.prog 57 #[.agg (p4 X1 Y1 Z1 T1)] w fun e w' =>V5 (.agg (p4 X Y Z T)) w w' e:=by
 obtain⟨x1,y2,z3,t4,r5,c6⟩:=J3v (kn:=kn) h1;have M:=Q04 x1 (Q5 r5.x);obtain⟨N7,G⟩:=exn ((PP-x1 % PP) % PP);rw[←G] at M;have S:=bpp G;have V:=Q5 S;have R:=BF G;clear G;have J:=Q04 t4 (Q5 r5.t);obtain⟨N8,D⟩:=exn ((PP-t4 % PP) % PP);rw[←D] at J;have U:=bpp D;have α:=Q5 U;have N:=BF D;clear D;refine⟨N7,y2,z3,N8,V43 r5 R.out N.out,fun w hG=> ?_⟩;have hS:=SH.nil [] w
 go_enter Tryz.func57,Tryz.ntmps57
 go_upto_region 0 with fail;refine RL hS ?_;clear hS;refine MN (z:=p4 X1 Y1 Z1 T1) (t:=140) ?_;intro U0;refine MN (z:=p4 0 0 0 0) (t:=140) ?_;intro β;refine MZ fun W hS=> ?_;go_upto_region 1 with fail;refine RL hS ?_;clear hS;refine ML 1 ?_;refine MC (v:=.agg (p4 x1 y2 z3 t4)) (fun W hS=>c6 W (J8 hG hS.ext)) ?_;refine MR 1 ?_;refine MZ fun W hS=> ?_;go_upto_region 2 with fail;refine RX 11 hS ?_;clear hS;refine MV ?_;refine Ml 1 J9j ?_;refine MC (v:=.agg (c4 N7)) (fun W hS=>M W (J8 hG hS.ext).1) ?_;refine MV ?_;refine Ml 1 Q25 ?_;refine MV ?_;refine Ml 1 J7k ?_;refine MV ?_;refine Ml 1 V42 ?_;refine MC (v:=.agg (c4 N8)) (fun W hS=>J W (J8 hG hS.ext).1) ?_;refine MW ?_ (v:=.agg (p4 N7 y2 z3 N8)) (hv:=by intro W;kernel_rfl);refine MZt ?_;refine MR 0 ?_;refine MZn fun W hS=> ?_;go_wp2;exact BC (Z6 rfl rfl (hS.blk (i:=0) rfl) (by kernel_rfl) (by kernel_rfl)) rfl ⟨rfl,hS.ext⟩
theorem pm8 {a:Pr}(h:OnC a):pm a 8=V9 (V9 (V9 a a) (V9 a a)) (V9 (V9 a a) (V9 a a)):=by
 rw[show 8=2*(2*(2*1)) from rfl,J6y h,J6y h,J6y h,Z2s]
theorem J6z {X1 Y1 Z1 T1:Nat}{p1:Pr}(h1:RW X1 Y1 Z1 T1 p1):
  ∃X Y Z T,RN X Y Z T (pm p1 8)∧∀w,GE kn w→Az Tryz.prog 96 #[.agg (p4 X1 Y1 Z1 T1)] w fun e w' =>V5 (.agg (p4 X Y Z T)) w w' e:=by
 obtain⟨x1,y2,z3,t4,r5,c6⟩:=J3v (kn:=kn) h1;obtain⟨x7,y8,z9,N,U,R⟩:=Q13 (kn:=kn) r5;obtain⟨δ,S,V,ε,ζ,γ⟩:=Q13 (kn:=kn) U;obtain⟨D,M,J,G,α,β⟩:=Q13 (kn:=kn) ζ;refine⟨D,M,J,G,pm8 h1.on▸α,fun w hG=> ?_⟩;have hS:=SH.nil [] w
 go_enter Tryz.func96,Tryz.ntmps96
 go_upto_region 0 with fail;refine RL hS ?_;clear hS;refine MN (z:=p4 X1 Y1 Z1 T1) (t:=140) ?_;intro U0;refine MN (z:=p4 0 0 0 0) (t:=140) ?_;intro η;refine MZ fun W hS=> ?_;go_upto_region 1 with fail;refine RL hS ?_;clear hS;refine ML 1 ?_;refine MC (v:=.agg (p4 x1 y2 z3 t4)) (fun W hS=>c6 W (J8 hG hS.ext)) ?_;refine MC (v:=.agg (p4 x7 y8 z9 N)) (fun W hS=>R W (J8 hG hS.ext)) ?_;refine MC (v:=.agg (p4 δ S V ε)) (fun W hS=>γ W (J8 hG hS.ext)) ?_;refine MC (v:=.agg (p4 D M J G)) (fun W hS=>β W (J8 hG hS.ext)) ?_;refine MR 0 ?_;refine MZ fun W hS=> ?_;go_wp2;exact BC (Z6 rfl rfl (hS.blk (i:=0) rfl) (by kernel_rfl) (by kernel_rfl)) rfl ⟨rfl,hS.ext⟩
theorem Q8d (hb:kn.b):
  ∃X Y Z T,RN X Y Z T BP∧∀w,GE kn w→Az Tryz.prog 54 #[] w fun e w' =>V5 (.agg (p4 X Y Z T)) w w' e:=by
 obtain⟨t1,r2,c3⟩:=Y9p (kn:=kn) (X:=BX) (Y:=BY) (by decide) (by decide) Q2n;refine⟨BX,BY,1,t1,r2,fun w hG=> ?_⟩;have hS:=SH.nil [] w
 go_enter Tryz.func54,Tryz.ntmps54
 go_upto_region 0 with fail;refine RL hS ?_;clear hS;refine MN (z:=p4 0 0 0 0) (t:=140) ?_;intro D;refine MZ fun W hS=> ?_;go_upto_region 1 with fail;refine RL hS ?_;clear hS;refine MF (v:=.agg (c4 BX)) (fun W hS=>J0a rfl rfl ((J8 hG hS.ext).2.2.2.2.1 hb) (by kernel_rfl) (by kernel_rfl)) ?_;refine MF (v:=.agg (c4 BY)) (fun W hS=>J0a rfl rfl ((J8 hG hS.ext).2.2.2.2.2 hb) (by kernel_rfl) (by kernel_rfl)) ?_;refine MC (v:=.agg (p4 BX BY 1 t1)) (fun W hS=>c3 W (J8 hG hS.ext)) ?_;refine MR 0 ?_;refine MZ fun W hS=> ?_;go_wp2;exact BC (Z6 rfl rfl (hS.blk (i:=0) rfl) (by kernel_rfl) (by kernel_rfl)) rfl ⟨rfl,hS.ext⟩
end

section
set_option maxHeartbeats 1500000
attribute [local irreducible] wpList Z9 wpX
variable {kn : Kn}
theorem Z5s {A:Nat}(h:A<PP):A<2^256:=BG h (by decide)
theorem V44 {X1 Y1 Z1 X2 Y2 Z2 m1 m2 m3 m4:Nat}{p q:Pr}(r1:RD X1 Y1 Z1 p)(r2:RD X2 Y2 Z2 q)(e1:m1=X1*Z2 % PP)(e2:m2=X2*Z1 % PP)(e3:m3=Y1*Z2 % PP)(e4:m4=Y2*Z1 % PP)(h1:m1=m2)(h2:m3=m4):decide (p=q)=true:=
 decide_eq_true ((Q53 r1 r2 e1 e2 e3 e4).1 ⟨h1,h2⟩)
theorem Y6o {X1 Y1 Z1 X2 Y2 Z2 m1 m2 m3 m4:Nat}{p q:Pr}(r1:RD X1 Y1 Z1 p)(r2:RD X2 Y2 Z2 q)(e1:m1=X1*Z2 % PP)(e2:m2=X2*Z1 % PP)(e3:m3=Y1*Z2 % PP)(e4:m4=Y2*Z1 % PP)(h1:¬m1=m2):decide (p=q)=false:=
 decide_eq_false fun h=>h1 ((Q53 r1 r2 e1 e2 e3 e4).2 h).1
theorem Y6p {X1 Y1 Z1 X2 Y2 Z2 m1 m2 m3 m4:Nat}{p q:Pr}(r1:RD X1 Y1 Z1 p)(r2:RD X2 Y2 Z2 q)(e1:m1=X1*Z2 % PP)(e2:m2=X2*Z1 % PP)(e3:m3=Y1*Z2 % PP)(e4:m4=Y2*Z1 % PP)(h1:¬m3=m4):decide (p=q)=false:=
 decide_eq_false fun h=>h1 ((Q53 r1 r2 e1 e2 e3 e4).2 h).2
theorem V9e {X Y Z i x y:Nat}{a:Pr}(r:RD X Y Z a)(ei:i=pw Z (PP-2))(ex:x=X*i % PP)(ey:y=Y*i % PP)(ho:x % 2=1):J0 .u8 32 (upd (J2 y) 31 (bits .or .u8 (J2 y 31) 128))=J0 .u8 32 (J2 (enc a)):=by
 obtain⟨h1,h2⟩:=Y2c r ei ex ey;rw[V9f (BG (ey▸J3w _) Z2t)];unfold enc;rw[←h1,←h2,ho]
theorem V9g {X Y Z i x y:Nat}{a:Pr}(r:RD X Y Z a)(ei:i=pw Z (PP-2))(ex:x=X*i % PP)(ey:y=Y*i % PP)(ho:¬x % 2=1):J0 .u8 32 (J2 y)=J0 .u8 32 (J2 (enc a)):=by
 obtain⟨h1,h2⟩:=Y2c r ei ex ey;have:x % 2=0:=by omega
 unfold enc;rw[←h1,←h2,this,Ay,Ao]

theorem Q14 {X1 Y1 Z1 T1:Nat}{p1:Pr}{X2 Y2 Z2 T2:Nat}{p2:Pr}(h1:RW X1 Y1 Z1 T1 p1)(h2:RW X2 Y2 Z2 T2 p2):
  ∀w,GE kn w→Az Tryz.prog 97 #[.agg (p4 X1 Y1 Z1 T1),.agg (p4 X2 Y2 Z2 T2)] w fun e w' =>V5 (.bool (decide (p1=p2))) w w' e:=by
 obtain⟨x1,y2,z3,t4,r5,c6⟩:=J3v (kn:=kn) h1;obtain⟨x7,y8,z9,τ,M,φ⟩:=J3v (kn:=kn) h2;have G:=K5 x1 z9 (Q5 r5.x) (Q5 M.z);obtain⟨Y,X⟩:=exn (x1*z9 % PP);rw[←X] at G;have κ:=bpp X;have ξ:=Q5 κ;have β:=BF X;clear X;have J:=K5 x7 z3 (Q5 M.x) (Q5 r5.z);obtain⟨Z,S⟩:=exn (x7*z3 % PP);rw[←S] at J;have η:=bpp S;have σ:=Q5 η;have γ:=BF S;clear S;have D:=J6d Y Z ξ σ;rw[AI κ,AI η] at D;have U:=K5 y2 z9 (Q5 r5.y) (Q5 M.z);obtain⟨ζ,R⟩:=exn (y2*z9 % PP);rw[←R] at U;have θ:=bpp R;have ρ:=Q5 θ;have δ:=BF R;clear R;have T:=K5 y8 z3 (Q5 M.y) (Q5 r5.z);obtain⟨ε,V⟩:=exn (y8*z3 % PP);rw[←V] at T;have μ:=bpp V;have ν:=Q5 μ;have α:=BF V;clear V;have N:=J6d ζ ε ρ ν;rw[AI θ,AI μ] at N;intro w hG;have hS:=SH.nil [] w
 go_enter Tryz.func97,Tryz.ntmps97
 go_upto_region 0 with fail;refine RL hS ?_;clear hS;refine MN (z:=p4 X1 Y1 Z1 T1) (t:=140) ?_;intro K9;refine MN (z:=p4 X2 Y2 Z2 T2) (t:=140) ?_;intro χ;refine Wf ?_;refine MZ fun W hS=> ?_;go_upto_region 1 with fail;refine RX 4 hS ?_;clear hS;refine ML 1 ?_;refine MC (v:=.agg (p4 x1 y2 z3 t4)) (fun W hS=>c6 W (J8 hG hS.ext)) ?_;refine ML 0 ?_;refine MC (v:=.agg (p4 x7 y8 z9 τ)) (fun W hS=>φ W (J8 hG hS.ext)) ?_;refine MZt ?_;refine MR 1 ?_;refine MR 0 ?_;refine MZn fun W hS=> ?_
 by_cases hx:Y=Z
 ·
  by_cases hy:ζ=ε
  ·
   go_upto_region 2 with fail;refine RS hS ?_;clear hS;refine MV ?_;refine Ml 1 J9j ?_;refine MV ?_;refine Ml 0 J7k ?_;refine MC (v:=.agg (c4 Y)) (fun W hS=>G W (J8 hG hS.ext).1) ?_;refine MV ?_;refine Ml 0 J9j ?_;refine MV ?_;refine Ml 1 J7k ?_;refine MC (v:=.agg (c4 Z)) (fun W hS=>J W (J8 hG hS.ext).1) ?_;rw[decide_eq_true hx] at D;refine MC (v:=.bool true) (fun W hS=>D W (J8 hG hS.ext).1) ?_;refine Wt ?_;refine MV ?_;refine Ml 1 Q25 ?_;refine MV ?_;refine Ml 0 J7k ?_;refine MC (v:=.agg (c4 ζ)) (fun W hS=>U W (J8 hG hS.ext).1) ?_;refine MV ?_;refine Ml 0 Q25 ?_;refine MV ?_;refine Ml 1 J7k ?_;refine MC (v:=.agg (c4 ε)) (fun W hS=>T W (J8 hG hS.ext).1) ?_;rw[decide_eq_true hy] at N;refine MC (v:=.bool true) (fun W hS=>N W (J8 hG hS.ext).1) ?_;refine Wt ?_;refine Wt ?_;refine MZx fun W hS=> ?_;go_wp2;rw[V44 r5.rr M.rr β.out γ.out δ.out α.out hx hy];exact BC (v:=.bool true) (by simp only[results,Tryz.results97];go_simp) rfl ⟨rfl,hS.ext⟩
  go_upto_region 2 with fail;refine RS hS ?_;clear hS;refine MV ?_;refine Ml 1 J9j ?_;refine MV ?_;refine Ml 0 J7k ?_;refine MC (v:=.agg (c4 Y)) (fun W hS=>G W (J8 hG hS.ext).1) ?_;refine MV ?_;refine Ml 0 J9j ?_;refine MV ?_;refine Ml 1 J7k ?_;refine MC (v:=.agg (c4 Z)) (fun W hS=>J W (J8 hG hS.ext).1) ?_;rw[decide_eq_true hx] at D;refine MC (v:=.bool true) (fun W hS=>D W (J8 hG hS.ext).1) ?_;refine Wt ?_;refine MV ?_;refine Ml 1 Q25 ?_;refine MV ?_;refine Ml 0 J7k ?_;refine MC (v:=.agg (c4 ζ)) (fun W hS=>U W (J8 hG hS.ext).1) ?_;refine MV ?_;refine Ml 0 Q25 ?_;refine MV ?_;refine Ml 1 J7k ?_;refine MC (v:=.agg (c4 ε)) (fun W hS=>T W (J8 hG hS.ext).1) ?_;rw[decide_eq_false hy] at N;refine MC (v:=.bool false) (fun W hS=>N W (J8 hG hS.ext).1) ?_;refine Wf ?_;refine Wf ?_;refine MZx fun W hS=> ?_;go_wp2;rw[Y6p r5.rr M.rr β.out γ.out δ.out α.out hy];exact BC (v:=.bool false) (by simp only[results,Tryz.results97];go_simp) rfl ⟨rfl,hS.ext⟩
 go_upto_region 2 with fail;refine RS hS ?_;clear hS;refine MV ?_;refine Ml 1 J9j ?_;refine MV ?_;refine Ml 0 J7k ?_;refine MC (v:=.agg (c4 Y)) (fun W hS=>G W (J8 hG hS.ext).1) ?_;refine MV ?_;refine Ml 0 J9j ?_;refine MV ?_;refine Ml 1 J7k ?_;refine MC (v:=.agg (c4 Z)) (fun W hS=>J W (J8 hG hS.ext).1) ?_;rw[decide_eq_false hx] at D;refine MC (v:=.bool false) (fun W hS=>D W (J8 hG hS.ext).1) ?_;refine Wf ?_;(iterate 11 refine MS ?_);refine Wf ?_;refine Wf ?_;refine MZx fun W hS=> ?_;go_wp2;rw[Y6o r5.rr M.rr β.out γ.out δ.out α.out hx];exact BC (v:=.bool false) (by simp only[results,Tryz.results97];go_simp) rfl ⟨rfl,hS.ext⟩
theorem V45 {X1 Y1 Z1 T1:Nat}{p1:Pr}(h1:RW X1 Y1 Z1 T1 p1):
  ∀w,GE kn w→Az Tryz.prog 76 #[.agg (p4 X1 Y1 Z1 T1)] w fun e w' =>V5 (.agg (J0 .u8 32 (J2 (enc p1)))) w w' e:=by
 obtain⟨x1,y2,z3,t4,r5,c6⟩:=J3v (kn:=kn) h1;have U:=V40 z3 (Q5 r5.z);obtain⟨N7,R⟩:=exn (pw z3 (PP-2));rw[←R] at U;have ε:=bpp R;have β:=Q5 ε;have Z:=BF R;clear R;have S:=K5 y2 N7 (Q5 r5.y) β;obtain⟨N8,M⟩:=exn (y2*N7 % PP);rw[←M] at S;have γ:=bpp M;have ζ:=Q5 γ;have Y:=BF M;clear M;have α:=Q52 N8 ζ;rw[AI γ] at α;have G:=K5 x1 N7 (Q5 r5.x) β;obtain⟨N,J⟩:=exn (x1*N7 % PP);rw[←J] at G;have T:=bpp J;have δ:=Q5 T;have V:=BF J;clear J;have D:=Z2p N δ;rw[AI T] at D;intro w hG;have hS:=SH.nil [] w
 go_enter Tryz.func76,Tryz.ntmps76
 go_upto_region 0 with fail;refine RL hS ?_;clear hS;refine MN (z:=p4 X1 Y1 Z1 T1) (t:=140) ?_;intro U0;refine MN (z:=J0 .u8 32 (J2 0)) (t:=23) ?_;intro θ;refine MZ fun W hS=> ?_;go_upto_region 1 with fail;refine RL hS ?_;clear hS;refine ML 1 ?_;refine MC (v:=.agg (p4 x1 y2 z3 t4)) (fun W hS=>c6 W (J8 hG hS.ext)) ?_;refine MR 1 ?_;refine MZ fun W hS=> ?_;go_upto_region 2 with fail;refine RL hS ?_;clear hS;refine MV ?_;refine Ml 1 J7k ?_;refine MC (v:=.agg (c4 N7)) (fun W hS=>U W (J8 hG hS.ext).1) ?_;refine MN (z:=c4 0) (t:=138) ?_;intro η;refine MR 0 ?_;refine MZ fun W hS=> ?_;go_upto_region 3 with fail;refine RL hS ?_;clear hS;refine MV ?_;refine Ml 2 Q25 ?_;refine ML 0 ?_;refine MC (v:=.agg (c4 N8)) (fun W hS=>S W (J8 hG hS.ext).1) ?_;refine MC (v:=.agg (J0 .u8 32 (J2 N8))) (fun W hS=>α W (J8 hG hS.ext).1) ?_;refine MN (z:=J0 .u8 32 (J2 0)) (t:=23) ?_;intro X;refine MR 0 ?_;refine MZ fun W hS=> ?_
 by_cases ho:N % 2=1
 ·
  go_upto_region 4 with fail;refine RL hS ?_;clear hS;refine MV ?_;refine Ml 3 J9j ?_;refine ML 1 ?_;refine MC (v:=.agg (c4 N)) (fun W hS=>G W (J8 hG hS.ext).1) ?_;rw[decide_eq_true ho] at D;refine MC (v:=.bool true) (fun W hS=>D W (J8 hG hS.ext).1) ?_;refine MZ fun W hS=> ?_;go_upto_region 5 with fail;refine RL hS ?_;clear hS;refine MW ?_ (v:=.pointer (some ⟨X,0+31,none⟩)) (hv:=fun _=>rxa Tryz.underlying23 (by decide));refine MG 0 ?_ (j:=0+31) (v:=.int .u8 ((J2 N8) 31)) (hj:=ag0 (by decide));refine MW ?_ (v:=.int .u8 (bits .or .u8 (J2 N8 31) 128)) (hv:=by intro W;exact Y6q rfl rfl rfl rfl);refine MW ?_ (v:=.pointer (some ⟨X,0+31,none⟩)) (hv:=fun _=>rxa Tryz.underlying23 (by decide));refine MP 0 (v:=.int .u8 (bits .or .u8 (J2 N8 31) 128)) (cs' :=J0 .u8 32 (upd (J2 N8) 31 (bits .or .u8 (J2 N8 31) 128))) ?_ (hs:=by rw[J1,AL];decide) (hc:=by rw[AL];exact V1 _ _ _ _ _);refine MT (fun W hS=>by rw[V9e r5.rr Z.out V.out Y.out ho] at hS;exact hS) ?_;refine MZ fun W hS=> ?_;go_upto_region 6 with fail;refine RL hS ?_;clear hS;refine ML 0 ?_;refine MR 2 ?_;refine MZ fun W hS=> ?_;go_wp2;exact BC (Z6 rfl rfl (hS.blk (i:=2) rfl) (by kernel_rfl) (by rw[J1];kernel_rfl)) rfl ⟨rfl,hS.ext⟩
 go_upto_region 4 with fail;refine RL hS ?_;clear hS;refine MV ?_;refine Ml 3 J9j ?_;refine ML 1 ?_;refine MC (v:=.agg (c4 N)) (fun W hS=>G W (J8 hG hS.ext).1) ?_;rw[decide_eq_false ho] at D;refine MC (v:=.bool false) (fun W hS=>D W (J8 hG hS.ext).1) ?_;refine MZ fun W hS=> ?_;rw[V9g r5.rr Z.out V.out Y.out ho] at hS;go_upto_region 6 with fail;refine RL hS ?_;clear hS;refine ML 0 ?_;refine MR 2 ?_;refine MZ fun W hS=> ?_;go_wp2;exact BC (Z6 rfl rfl (hS.blk (i:=2) rfl) (by kernel_rfl) (by rw[J1];kernel_rfl)) rfl ⟨rfl,hS.ext⟩
end
end Go.Proofs.YtpljgkofbfeelaaGreatDoor.S8

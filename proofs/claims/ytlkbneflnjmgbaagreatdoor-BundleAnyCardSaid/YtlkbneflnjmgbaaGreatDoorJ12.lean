/- Contracts and plain laws for bundleAny_holds. Conditions: the tables hold their numbers. -/
import Derived.Test.YtlkbneflnjmgbaaGreatDoorJ11
open Go.RowKit
set_option maxRecDepth 100000
set_option linter.unusedSimpArgs false
set_option linter.unusedVariables false
namespace Go.Proofs.YtlkbneflnjmgbaaGreatDoor.S8
section
open Sc (LL J10)
/-! ### Bytes and numbers -/
theorem Y44 (m n V:Nat):lb (m+n) V=lb m V++lb n (V / 2^(8*m)):=by
  induction m generalizing V with
  |zero=>simp[show lb 0 V=[] from rfl]
  |succ m ih=>
    rw[show m+1+n=(m+n)+1 by omega,Q1k,Q1k,ih,List.cons_append,Nat.div_div_eq_div_mul,show 256*2^(8*m)=2^(8*(m+1)) by rw[show 8*(m+1)=8*m+8 by omega,Nat.pow_add];omega]
def lo (V:Nat):Nat:=V % 2^256
def hi (V:Nat):Nat:=V / 2^256
theorem lo_lt (V:Nat):lo V<2^256:=Nat.mod_lt _ (by decide)
theorem K0s {V:Nat}(h:V<2^(256+256)):hi V<2^256:=by unfold hi;rw[Nat.div_lt_iff_lt_mul (by decide),←Nat.pow_add];exact h
theorem Y45 {V j:Nat}(hj:j<32):J7 (lo V) j=J7 V j:=by
  unfold J7 lo;have e:(2:Nat)^256=2^(8*j)*2^(256-8*j):=by rw[←Nat.pow_add];congr 1;omega
  have e2:(2:Nat)^(256-8*j)=256*2^(248-8*j):=by rw[show 256-8*j=8+(248-8*j) by omega,Nat.pow_add]
  rw[e,Nat.mod_mul_right_div_self,e2,Nat.mod_mul_right_mod]
theorem V61 (V j:Nat):J7 (hi V) j=J7 V (32+j):=by
  unfold J7 hi;rw[Nat.div_div_eq_div_mul,←Nat.pow_add,show 256+8*j=8*(32+j) by omega]
theorem Z2x {V:Nat}:∀i v,(J0 .u8 32 (J7 (lo V)))[i]?=some v→(J0 .u8 64 (J7 V))[0+i]?=some v:=fun i v h=>by
  have hi:i<32:=by have:=(Array.getElem?_eq_some_iff.1 h).1;rwa [J1] at this
  rw[K7 _ _ _ _ hi,Y45 hi] at h;rw[Nat.zero_add,K7 _ _ _ _ (by omega)];exact h
theorem K3e {V:Nat}:∀i v,(J0 .u8 32 (J7 (hi V)))[i]?=some v→(J0 .u8 64 (J7 V))[32+i]?=some v:=fun i v h=>by
  have hi:i<32:=by have:=(Array.getElem?_eq_some_iff.1 h).1;rwa [J1] at this
  rw[K7 _ _ _ _ hi,V61] at h;rw[K7 _ _ _ _ (by omega)];exact h
/-! ### Sums -/
def hs (F:List UInt8):Nat:=le (smb F)
theorem Y46 (F:List UInt8):hs F<2^(8*64):=by have:=Z9o (smb F);rwa [Q50] at this
theorem K3g:8*64=256+256:=rfl
theorem K0t (F:List UInt8):hs F<2^(256+256):=by have:=Y46 F;rwa [K3g] at this
theorem V62 (F:List UInt8):smb F=lb 64 (hs F):=(Z1p (Q50 F)).symm
theorem K0i (F:List UInt8):J0 .u8 64 (sm F)=J0 .u8 64 (J7 (hs F)):=Q9k (by rw[Z7v,V62,Q07,J32])
/-! ### Secrets -/
def clN (V:Nat):Nat:=J1w (J10 (J7 V)) 32
theorem Z0v (V j:Nat):J8s (J10 (J7 V) j):=by
  have h0:=J8p V 0;have h1:=J8p V 31;have h2:=J8p V j;unfold J10 J8s at*
  split
  · omega
  split
  · omega
  exact h2
theorem Y3q (V:Nat):clN V<2^256:=J7r _ (Z0v V) 32
theorem Y91 (V:Nat):J0 .u8 32 (J10 (J7 V))=J0 .u8 32 (J7 (clN V)):=J0f _ _ _ _ fun j hj=>(Z03 _ (Z0v V) 32 j hj).symm
def kN (S:Nat):Nat:=clN (lo (hs (lb 32 S)))
def kD (S:Nat):Nat:=hi (hs (lb 32 S))
def kP (S:Nat):Nat:=enc (pm BP (kN S))
theorem V1t (S:Nat):kN S<2^256:=Y3q _
theorem V1u (S:Nat):kD S<2^256:=K0s (K0t _)
/-! ### Signatures -/
theorem Q0l (a:Pr):enc a<2^256:=by
  unfold enc;have h:a.2.val<2^255:=Nat.lt_trans a.2.isLt Z2n;have h2:a.1.val % 2<2:=Nat.mod_lt _ (by decide);have e:(2:Nat)^256=2^255+2^255:=by decide
  generalize (2:Nat)^255=T at*;have:T*(a.1.val % 2)≤T*1:=Nat.mul_le_mul_left T (by omega);omega
theorem V1v (S:Nat):kP S<2^256:=Q0l _
theorem V63:0<LL:=by decide
theorem J5a:LL<2^256:=by decide
theorem mLL (n:Nat):n % LL<LL:=Nat.mod_lt _ V63
end

section
def n64:Nat:=18446744073709551616
theorem Y98 (n:Int)(h0:0≤n)(h1:n<2^64):IntKind.u64.wrap n=n:=by rw[IntKind.wrap_u64];omega
theorem J5g (k:IntKind)(j:Nat)(hj:j≤k.bits)(hk:∀n:Int,0≤n→n<2^j→k.wrap n=n)(a b:Nat)(ha:a<2^j)(hb:b<2^j):bits .xor k a b=((a^^^b:Nat):Int):=by
  have hp:2^j≤2^k.bits:=Nat.pow_le_pow_right (by decide) hj;have ha' :a % 2^k.bits=a:=Nat.mod_eq_of_lt (Nat.lt_of_lt_of_le ha hp);have hb' :b % 2^k.bits=b:=Nat.mod_eq_of_lt (Nat.lt_of_lt_of_le hb hp);simp only[bits,BitVec.ofInt_natCast,BitVec.toNat_xor,BitVec.toNat_ofNat,ha',hb'];exact hk _ (Int.natCast_nonneg _) (by exact_mod_cast Nat.xor_lt_two_pow ha hb)
def Wn (x:Int)(a:Nat):Prop:=x=(a:Int)∧a<2^64
section
variable {x y : Int} {a b : Nat}
theorem Wn.xo (h:Wn x a)(k:Wn y b):Wn (xo x y) (a^^^b):=⟨by rw[h.1,k.1];exact J5g .u64 64 (by decide) Y98 a b h.2 k.2,Nat.xor_lt_two_pow h.2 k.2⟩
theorem Wn.an (h:Wn x a)(k:Wn y b):Wn (an x y) (a &&& b):=⟨by rw[h.1,k.1];exact(bits_nat .u64 64 (by decide) Y98 a b h.2 k.2).1,Nat.and_lt_two_pow _ k.2⟩
theorem Wn.oo (h:Wn x a)(k:Wn y b):Wn (oo x y) (a |||b):=⟨by rw[h.1,k.1];exact(bits_nat .u64 64 (by decide) Y98 a b h.2 k.2).2,Nat.or_lt_two_pow h.2 k.2⟩
theorem Wn.nt (h:Wn x a):Wn (nt x) (18446744073709551615^^^a):=⟨by rw[h.1];exact J5g .u64 64 (by decide) Y98 _ a (by decide) h.2,Nat.xor_lt_two_pow (by decide) h.2⟩
theorem Wn.ad (h:Wn x a)(k:Wn y b):Wn (ad x y) ((a+b) % n64):=⟨by rw[h.1,k.1];show IntKind.wrap .u64 ((a:Int)+b)=_;unfold n64;rw[IntKind.wrap_u64];omega,Nat.mod_lt _ (by decide)⟩
theorem Wn.sl (h:Wn x a)(n:Nat):Wn (sl x n) (a*2^n % n64):=⟨by
  rw[h.1];show IntKind.wrap .u64 ((a:Int)*2^n)=_;unfold n64
  rw[IntKind.wrap_u64,Int.natCast_emod,Int.natCast_mul,Int.natCast_pow];rfl,Nat.mod_lt _ (by decide)⟩
theorem Wn.sr (h:Wn x a)(n:Nat):Wn (sr x n) (a / 2^n):=⟨by
  rw[h.1];show(a:Int) / 2^n=_
  rw[Int.natCast_ediv,Int.natCast_pow];rfl,Nat.lt_of_le_of_lt (Nat.div_le_self _ _) h.2⟩
end
def rtN (a n:Nat):Nat:=a / 2^n |||a*2^(64-n) % n64
theorem Wn.rt {x:Int}{a:Nat}(h:Wn x a)(n:Nat):Wn (rt x n) (rtN a n):=(h.sr n).oo (h.sl (64-n))
/-! ### The words of a block -/
def V64 (b:Nat→Nat)(i:Nat):Nat→Nat
  |0=>0
  |k+1=>V64 b i k*2^8 % n64 |||b (8*i+k)
def bN (l:List UInt8)(j:Nat):Nat:=(l.getD j 0).toNat
theorem K0v (l:List UInt8)(j:Nat):Wn (bt l j) (bN l j):=⟨rfl,Nat.lt_trans (l.getD j 0).toNat_lt (by decide)⟩
theorem Y48 (l:List UInt8)(i:Nat):∀k,Wn (wrd (bt l) i k) (V64 (bN l) i k)
  |0=>⟨rfl,Nat.two_pow_pos 64⟩
  |k+1=>((Y48 l i k).sl 8).oo (K0v l _)
def sgN (l:List Nat):Nat:=
  let p:=l.getD 14 0
  let q:=l.getD 1 0
  (((l.getD 15 0+(rtN p 1^^^rtN p 8^^^p / 2^7)) % n64+l.getD 6 0) % n64+(rtN q 19^^^rtN q 61^^^q / 2^6)) % n64
def Z0w (b:Nat→Nat):Nat→List Nat
  |0=>[]
  |i+1=>(if i<16 then V64 b i 8 else sgN (Z0w b i))::Z0w b i
theorem Y49 (l:List UInt8):∀i,∀j,j<i→Wn (K2 (bt l) i j) ((Z0w (bN l) i).getD (i-1-j) 0)
  |0,_,h=>by omega
  |i+1,j,h=>by
    have ih:=Y49 l i;show Wn (upd (K2 (bt l) i) i (if i<16 then wrd (bt l) i 8 else sg (K2 (bt l) i) i) j) _;unfold upd Z0w
    by_cases e:j=i
    · subst e
      rw[if_pos rfl,show j+1-1-j=0 by omega,List.getD_cons_zero]
      by_cases h16:j<16
      · rw[if_pos h16,if_pos h16];exact Y48 l j 8
      · rw[if_neg h16,if_neg h16]
        have g:∀m,m<16→Wn (K2 (bt l) j (j-(m+1))) ((Z0w (bN l) j).getD m 0):=fun m hm=>by
          have:=ih (j-(m+1)) (by omega)
          rwa [show j-1-(j-(m+1))=m by omega] at this
        have D:=g 14 (by decide);have g1:=g 1 (by decide);exact(((g 15 (by decide)).ad (((D.rt 1).xo (D.rt 8)).xo (D.sr 7))).ad (g 6 (by decide))).ad (((g1.rt 19).xo (g1.rt 61)).xo (g1.sr 6))
    · rw[if_neg e,show i+1-1-j=(i-1-j)+1 by omega,List.getD_cons_succ]
      exact ih j (by omega)
/-! ### The rounds -/
abbrev S8:=Nat×Nat×Nat×Nat×Nat×Nat×Nat×Nat
def K0w (k w:Nat):S8→S8
  |(a,b,c,d,e,f,g,h)=>
    let t:=((((h+(rtN e 14^^^rtN e 18^^^rtN e 41)) % n64+((e &&& f)^^^((18446744073709551615^^^e) &&& g))) % n64+k) % n64+w) % n64
    let u:=((rtN a 28^^^rtN a 34^^^rtN a 39)+((a &&& b)^^^(a &&& c)^^^(b &&& c))) % n64
    ((t+u) % n64,a,b,c,(d+t) % n64,e,f,g)
def Wn8 (v:Nat→Int):S8→Prop
  |(a,b,c,d,e,f,g,h)=>Wn (v 0) a∧Wn (v 1) b∧Wn (v 2) c∧Wn (v 3) d∧Wn (v 4) e∧Wn (v 5) f∧Wn (v 6) g∧Wn (v 7) h
theorem V65 {k w v:Nat→Int}{i kn wn:Nat}{s:S8}(hk:Wn (k i) kn)(hw:Wn (w i) wn)(h:Wn8 v s):Wn8 (rnd k w i v) (K0w kn wn s):=by
  obtain⟨a,b,c,d,e,f,g,h'⟩:=s;obtain⟨h0,h1,h2,h3,h4,h5,h6,h7⟩:=h;have hT:Wn (rT k w i v) _:=(((h7.ad (((h4.rt 14).xo (h4.rt 18)).xo (h4.rt 41))).ad ((h4.an h5).xo (h4.nt.an h6))).ad hk).ad hw;have hU:Wn (rU v) _:=(((h0.rt 28).xo (h0.rt 34)).xo (h0.rt 39)).ad (((h0.an h1).xo (h0.an h2)).xo (h1.an h2));exact⟨hT.ad hU,h0,h1,h2,h3.ad hT,h4,h5,h6⟩
def kkN (i:Nat):Nat:=(kk.getD i 0).toNat
theorem K0x (i:Nat)(h:i<80):Wn (kf i) (kkN i):=by
  have D:((List.range 80).all fun i=>decide (kf i=(kkN i:Int)) && decide (kkN i<2^64))=true:=by decide+kernel
  have:=List.all_eq_true.1 D i (List.mem_range.2 h);simp only[Bool.and_eq_true,decide_eq_true_eq] at this;exact this
def Z64 (W:List Nat)(s:S8):Nat→S8
  |0=>s
  |i+1=>K0w (kkN i) (W.getD (79-i) 0) (Z64 W s i)
theorem Z65 {l:List UInt8}{v:Nat→Int}{s:S8}(h:Wn8 v s):∀i,i≤80→Wn8 (V3 kf (K2 (bt l) 80) v i) (Z64 (Z0w (bN l) 80) s i)
  |0,_=>h
  |i+1,hi=>V65 (K0x i (by omega)) (by have:=Y49 l 80 i (by omega);rwa [show 80-1-i=79-i by omega] at this) (Z65 h i (by omega))
def V66 (l:List UInt8)(s:S8):S8:=
  match s,Z64 (Z0w (bN l) 80) s 80 with
  |(a,b,c,d,e,f,g,h),(a',b',c',d',e',f',g',h')=>((a+a') % n64,(b+b') % n64,(c+c') % n64,(d+d') % n64,(e+e') % n64,(f+f') % n64,(g+g') % n64,(h+h') % n64)
theorem V67 {l:List UInt8}{v:Nat→Int}{s:S8}(h:Wn8 v s):Wn8 (prs v (bt l)) (V66 l s):=by
  have h2:=Z65 (l:=l) h 80 (Nat.le_refl _);unfold V66;generalize Z64 (Z0w (bN l) 80) s 80=s2 at*;obtain⟨a,b,c,d,e,f,g,h'⟩:=s;obtain⟨a2,b2,c2,d2,e2,f2,g2,k2⟩:=s2;obtain⟨h0,h1,G,h3,h4,h5,h6,h7⟩:=h;obtain⟨k0,k1,D,k3,k4,k5,k6,k7⟩:=h2;exact⟨h0.ad k0,h1.ad k1,G.ad D,h3.ad k3,h4.ad k4,h5.ad k5,h6.ad k6,h7.ad k7⟩
def H0N:S8:=(7640891576956012808,13503953896175478587,4354685564936845355,11912009170470909681,5840696475078001361,11170449401992604703,2270897969802886507,6620516959819538809)
theorem K0y:Wn8 hf H0N:=by refine⟨⟨?_,?_⟩,⟨?_,?_⟩,⟨?_,?_⟩,⟨?_,?_⟩,⟨?_,?_⟩,⟨?_,?_⟩,⟨?_,?_⟩,⟨?_,?_⟩⟩<;>decide+kernel
def HsN (P:List UInt8):Nat→S8
  |0=>H0N
  |j+1=>V66 (P.drop (128*j)) (HsN P j)
theorem V1x (P:List UInt8):∀j,Wn8 (Hs P j) (HsN P j)
  |0=>K0y
  |j+1=>V67 (V1x P j)
def wle (a:Nat):Nat:=a / 2^56 % 256+256*(a / 2^48 % 256+256*(a / 2^40 % 256+256*(a / 2^32 % 256+256*(a / 2^24 % 256+256*(a / 2^16 % 256+256*(a / 2^8 % 256+256*(a % 256)))))))
def K3h:S8→Nat
  |(a,b,c,d,e,f,g,h)=>wle a+256^(8*1)*wle b+256^(8*2)*wle c+256^(8*3)*wle d+256^(8*4)*wle e+256^(8*5)*wle f+256^(8*6)*wle g+256^(8*7)*wle h
def V68 (F:List UInt8):Nat:=K3h (HsN (pad F) (nb F.length))
theorem Q6s:∀l m:List UInt8,le (l++m)=le l+256^l.length*le m
  |[],m=>by simp[le]
  |x::r,m=>by
    show x.toNat+256*le (r++m)=x.toNat+256*le r+_;rw[Q6s r m,List.length_cons,Nat.pow_succ,Nat.mul_add,←Nat.mul_assoc,Nat.mul_comm 256 (256^r.length),Nat.add_assoc]
theorem Q2q {H:Nat→Int}{a i:Nat}(h:Wn (H i) a)(k:Nat)(hk:k<8):(bo H (8*i+k)).toNat=a / 2^(8*(7-k)) % 256:=by
  have e:=V1n H (8*i+k);have h2:=(h.sr (8*(7-k))).1;unfold ob at e;rw[show(8*i+k) / 8=i by omega,show(8*i+k) % 8=k by omega,h2] at e;generalize a / 2^(8*(7-k))=z at*;unfold w8 at e;rw[IntKind.wrap_u8] at e;omega
theorem Q2r {H:Nat→Int}{a i:Nat}(h:Wn (H i) a):le (wb H (8*(i+1)))=le (wb H (8*i))+256^(8*i)*wle a:=by
  rw[←Y8v];simp only[List.append_assoc,List.cons_append,List.nil_append];rw[Q6s,Q6o]
  congr 2
  unfold wle;simp only[le];rw[Q2q h 0 (by decide),Q2q h 1 (by decide),Q2q h 2 (by decide),Q2q h 3 (by decide),Q2q h 4 (by decide),Q2q h 5 (by decide),Q2q h 6 (by decide),Q2q h 7 (by decide)];simp only[Nat.mul_zero,Nat.add_zero,Nat.sub_zero,Nat.reduceMul,Nat.reduceSub,Nat.pow_zero,Nat.div_one]
theorem V69 (F:List UInt8):hs F=V68 F:=by
  have h:=V1x (pad F) (nb F.length);unfold hs smb V68;generalize HsN (pad F) (nb F.length)=s at*;generalize Hs (pad F) (nb F.length)=H at*;obtain⟨a,b,c,d,e,f,g,k⟩:=s;obtain⟨h0,h1,h2,h3,h4,h5,h6,h7⟩:=h;have z:le (wb H (8*0))=0:=rfl;show le (wb H (8*(7+1)))=_;rw[Q2r h7,Q2r h6,Q2r h5,Q2r h4,Q2r h3,Q2r h2,Q2r h1,Q2r h0,z];show _=wle a+256^(8*1)*wle b+256^(8*2)*wle c+256^(8*3)*wle d+256^(8*4)*wle e+256^(8*5)*wle f+256^(8*6)*wle g+256^(8*7)*wle k;rw[Nat.mul_zero,Nat.pow_zero,Nat.one_mul,Nat.zero_add]
end

section
open Sc (LL J10)
theorem V6a {s:Q4}{a:Pr}{x y:Nat}(h:RQ4 s a)(ex:x*s.2.2.1 % PP=s.1)(ey:y*s.2.2.1 % PP=s.2.1):a=(fp x,fp y):=by
  obtain⟨hz,hx,hy,_⟩:=h.rc;rw[←ex,J18,J0v] at hx;rw[←ey,J18,J0v] at hy;have hi:=J1g hz;have e1:a.1=fp x:=by grind
  have e2:a.2=fp y:=by grind
  exact Prod.ext e1 e2
theorem Z66 {x y:Nat}(hx:x<PP)(hy:y<PP):enc (fp x,fp y)=y+2^255*(x % 2):=by
  show(fp y).val+2^255*((fp x).val % 2)=_;rw[Q8i,Q8i,Nat.mod_eq_of_lt hx,Nat.mod_eq_of_lt hy]
theorem Y4a {F:List UInt8}{h:Nat}(e:V68 F=h):hs F=h:=(V69 F).trans e
end

section
set_option maxHeartbeats 1500000
attribute [local irreducible] wpList Z6 wpX
variable {kn : Kn}

theorem J3k (w:World):
  Calls Tryz.prog 153 #[] w fun e w' =>Ret (L4 1) w w' e:=by
 have hS:=SH.nil [] w
 go_enter Tryz.func153,Tryz.ntmps153
 go_upto_region 0 with fail;refine RL hS ?_;clear hS;refine MN (z:=c4 0) (t:=194) ?_;intro D;refine MZ fun W hS=> ?_;go_upto_region 1 with fail;refine RL hS ?_;clear hS;refine MC (v:=.agg (c4 1)) (fun W hS=>Y88 1 (by decide) W) ?_;refine MR 0 ?_;refine MZ fun W hS=> ?_;go_wp2;exact bodyPost_ret (Z0 rfl rfl (hS.blk (i:=0) rfl) (by kernel_rfl) (by kernel_rfl)) rfl ⟨rfl,hS.ext⟩
theorem V17 {X Y:Nat}(hX:X<PP)(hY:Y<PP)(on:OnC (fp X,fp Y)):
  ∃T,RN X Y 1 T (fp X,fp Y)∧∀w,GE kn w→Calls Tryz.prog 145 #[L4 X,L4 Y] w fun e w' =>Ret (.agg (p4 X Y 1 T)) w w' e:=by
 have G:=J02 X Y (Q7 hX) (Q7 hY);obtain⟨N1,D⟩:=exn (X*Y % PP);rw[←D] at G;have J:=bpp D;have S:=Q7 J;have M:=Lib.hid D;clear D;refine⟨N1,V18 hX hY on M.out,fun w hG=> ?_⟩;have hS:=SH.nil [] w
 go_enter Tryz.func145,Tryz.ntmps145
 go_upto_region 0 with fail;refine RL hS ?_;clear hS;refine MN (z:=c4 X) (t:=194) ?_;intro Z8;refine MN (z:=c4 Y) (t:=194) ?_;intro N;refine MN (z:=p4 0 0 0 0) (t:=196) ?_;intro R;refine MZ fun W hS=> ?_;go_upto_region 1 with fail;refine RX 7 hS ?_;clear hS;refine ML 2 ?_;refine ML 1 ?_;refine MC (v:=.agg (c4 1)) (fun W hS=>J3k W) ?_;refine ML 2 ?_;refine ML 1 ?_;refine MC (v:=.agg (c4 N1)) (fun W hS=>G W (J8 hG hS.ext).1) ?_;refine MW ?_ (v:=.agg (p4 X Y 1 N1)) (hv:=by intro W;kernel_rfl);refine MZt ?_;refine MR 0 ?_;refine MZn fun W hS=> ?_;go_wp2;exact bodyPost_ret (Z0 rfl rfl (hS.blk (i:=0) rfl) (by kernel_rfl) (by kernel_rfl)) rfl ⟨rfl,hS.ext⟩
theorem Y2x {X1 Y1 Z1 T1:Nat}(hb:Z1<Q5)(hz:Z1≠0)(w:World)(hG:GE kn w):
  Calls Tryz.prog 136 #[.agg (p4 X1 Y1 Z1 T1)] w fun e w' =>Ret (.agg (p4 X1 Y1 Z1 T1)) w w' e:=by
 have hS:=SH.nil [] w
 go_enter Tryz.func136,Tryz.ntmps136
 go_upto_region 0 with fail;refine RL hS ?_;clear hS;refine MN (z:=p4 X1 Y1 Z1 T1) (t:=196) ?_;intro G;refine MN (z:=p4 0 0 0 0) (t:=196) ?_;intro J;refine MZ fun W hS=> ?_;go_upto_region 1 with fail;refine RL hS ?_;clear hS;refine MV ?_;refine Ml 1 J8e ?_;refine MW ?_ (v:=.agg (c4 0)) (hv:=by intro W;kernel_rfl);have D:=V4v Z1 0 hb (by decide);rw[decide_eq_false hz] at D;refine MW ?_ (v:=.bool false) (hv:=fun _=>J8x ((D) _) (by kernel_rfl) rfl rfl rfl);refine MZ fun W hS=> ?_;go_upto_region 3 with fail;refine RL hS ?_;clear hS;refine ML 1 ?_;refine MR 0 ?_;refine MZ fun W hS=> ?_;go_wp2;exact bodyPost_ret (Z0 rfl rfl (hS.blk (i:=0) rfl) (by kernel_rfl) (by kernel_rfl)) rfl ⟨rfl,hS.ext⟩
theorem Y2y {X1 Y1 T1:Nat}(w:World)(hG:GE kn w):
  Calls Tryz.prog 136 #[.agg (p4 X1 Y1 0 T1)] w fun e w' =>Ret (.agg (p4 0 1 1 0)) w w' e:=by
 have hS:=SH.nil [] w
 go_enter Tryz.func136,Tryz.ntmps136
 go_upto_region 0 with fail;refine RL hS ?_;clear hS;refine MN (z:=p4 X1 Y1 0 T1) (t:=196) ?_;intro G;refine MN (z:=p4 0 0 0 0) (t:=196) ?_;intro J;refine MZ fun W hS=> ?_;go_upto_region 1 with fail;refine RL hS ?_;clear hS;refine MV ?_;refine Ml 1 J8e ?_;refine MW ?_ (v:=.agg (c4 0)) (hv:=by intro W;kernel_rfl);have D:=V4v 0 0 (by decide) (by decide);rw[decide_eq_true rfl] at D;refine MW ?_ (v:=.bool true) (hv:=fun _=>J8x ((D) _) (by kernel_rfl) rfl rfl rfl);refine MZ fun W hS=> ?_;go_upto_region 2 with fail;refine RL hS ?_;clear hS;refine MC (v:=.agg (c4 1)) (fun W hS=>J3k W) ?_;refine MC (v:=.agg (c4 1)) (fun W hS=>J3k W) ?_;refine MW ?_ (v:=.agg (p4 0 1 1 0)) (hv:=by intro W;kernel_rfl);refine MR 0 ?_;refine MZ fun W hS=> ?_;go_wp2;exact bodyPost_ret (Z0 rfl rfl (hS.blk (i:=0) rfl) (by kernel_rfl) (by kernel_rfl)) rfl ⟨rfl,hS.ext⟩
theorem J4w {X Y Z T:Nat}{a:Pr}(h:RW X Y Z T a):∃X' Y' Z' T',RN X' Y' Z' T' a∧∀w,GE kn w→Calls Tryz.prog 136 #[.agg (p4 X Y Z T)] w fun e w' =>Ret (.agg (p4 X' Y' Z' T')) w w' e:=by
 rcases h.cases with⟨hz,h1⟩|⟨rfl,rfl⟩
 ·
  exact⟨X,Y,Z,T,h1,fun w hG=>Y2x h.z hz w hG⟩
 exact⟨0,1,1,0,V19,fun w hG=>Y2y w hG⟩
theorem Q1m {X1 Y1 Z1 T1:Nat}{p1:Pr}(h1:RN X1 Y1 Z1 T1 p1):
  ∃X Y Z T,RN X Y Z T (J1x p1 p1)∧∀w,GE kn w→Calls Tryz.prog 137 #[.agg (p4 X1 Y1 Z1 T1)] w fun e w' =>Ret (.agg (p4 X Y Z T)) w w' e:=by
 have Ω:=J02 X1 X1 (Q7 h1.x) (Q7 h1.x);obtain⟨N1,U⟩:=exn (X1*X1 % PP);rw[←U] at Ω;have N0:=bpp U;have D4:=Q7 N0;have R1:=Lib.hid U;clear U;have Δ:=J02 Y1 Y1 (Q7 h1.y) (Q7 h1.y);obtain⟨N2,α⟩:=exn (Y1*Y1 % PP);rw[←α] at Δ;have M9:=bpp α;have D7:=Q7 M9;have R2:=Lib.hid α;clear α;have σ:=J02 Z1 Z1 (Q7 h1.z) (Q7 h1.z);obtain⟨N3,κ⟩:=exn (Z1*Z1 % PP);rw[←κ] at σ;have R4:=bpp κ;have D3:=Q7 R4;have R6:=Lib.hid κ;clear κ;have Ξ:=J56 N3 N3 D3 D3;obtain⟨N4,δ⟩:=exn ((N3+N3) % PP);rw[←δ] at Ξ;have G9:=bpp δ;have M8:=Q7 G9;have G8:=Lib.hid δ;clear δ;have Θ:=J56 N1 N2 D4 D7;obtain⟨N5,γ⟩:=exn ((N1+N2) % PP);rw[←γ] at Θ;have M2:=bpp γ;have ψ:=Q7 M2;have M4:=Lib.hid γ;clear γ;have ρ:=J56 X1 Y1 (Q7 h1.x) (Q7 h1.y);obtain⟨N6,V⟩:=exn ((X1+Y1) % PP);rw[←V] at ρ;have M6:=bpp V;have D5:=Q7 M6;have M7:=Lib.hid V;clear V;have D0:=J02 N6 N6 D5 D5;obtain⟨N7,ζ⟩:=exn (N6*N6 % PP);rw[←ζ] at D0;have M1:=bpp ζ;have R3:=Q7 M1;have M5:=Lib.hid ζ;clear ζ;have Γ:=J94 N5 N7 ψ R3;obtain⟨N8,θ⟩:=exn ((N5+(PP-N7 % PP)) % PP);rw[←θ] at Γ;have M0:=bpp θ;have D6:=Q7 M0;have R5:=Lib.hid θ;clear θ;have Ψ:=J94 N1 N2 D4 D7;obtain⟨N9,μ⟩:=exn ((N1+(PP-N2 % PP)) % PP);rw[←μ] at Ψ;have R0:=bpp μ;have χ:=Q7 R0;have M3:=Lib.hid μ;clear μ;have ν:=J56 N4 N9 M8 χ;obtain⟨R,M⟩:=exn ((N4+N9) % PP);rw[←M] at ν;have G7:=bpp M;have D1:=Q7 G7;have D8:=Lib.hid M;clear M;have β:=J02 N8 R D6 D1;obtain⟨τ,G⟩:=exn (N8*R % PP);rw[←G] at β;have G3:=bpp G;have R9:=Q7 G3;have D9:=Lib.hid G;clear G;have S:=J02 N9 N5 χ ψ;obtain⟨ξ,J⟩:=exn (N9*N5 % PP);rw[←J] at S;have G0:=bpp J;have S2:=Q7 G0;have G1:=Lib.hid J;clear J;have ε:=J02 R N9 D1 χ;obtain⟨φ,N⟩:=exn (R*N9 % PP);rw[←N] at ε;have G4:=bpp N;have R8:=Q7 G4;have G6:=Lib.hid N;clear N;have η:=J02 N8 N5 D6 ψ;obtain⟨ω,D⟩:=exn (N8*N5 % PP);rw[←D] at η;have G5:=bpp D;have R7:=Q7 G5;have G2:=Lib.hid D;clear D;refine⟨τ,ξ,φ,ω,Z0l h1 R1.out R2.out R6.out G8.out M4.out M7.out M5.out R5.out M3.out D8.out D9.out G1.out G6.out G2.out,fun w hG=> ?_⟩;have hS:=SH.nil [] w
 go_enter Tryz.func137,Tryz.ntmps137
 go_upto_region 0 with fail;refine RL hS ?_;clear hS;refine MN (z:=p4 X1 Y1 Z1 T1) (t:=196) ?_;intro S5;refine MN (z:=p4 0 0 0 0) (t:=196) ?_;intro S9;refine MZ fun W hS=> ?_;go_upto_region 1 with fail;refine RXn 10 [⟨10,3,c4 0,194⟩,⟨11,4,c4 0,194⟩] hS ?_ (by simp only[List.forall_mem_cons];exact⟨⟨_,rfl,rfl,rfl,fun _ _=>by kernel_rfl⟩,⟨_,rfl,rfl,rfl,fun _ _=>by kernel_rfl⟩,fun _ h=>by cases h⟩);clear hS;refine MV ?_;refine Ml 1 Q0j ?_;refine MV ?_;refine Ml 1 Q0j ?_;refine MC (v:=.agg (c4 N1)) (fun W hS=>Ω W (J8 hG hS.ext).1) ?_;refine MV ?_;refine Ml 1 Q33 ?_;refine MV ?_;refine Ml 1 Q33 ?_;refine MC (v:=.agg (c4 N2)) (fun W hS=>Δ W (J8 hG hS.ext).1) ?_;refine MZB fun T5=> ?_;refine MR 0 ?_;refine MR 1 ?_;refine MZn fun W hS=> ?_;go_upto_region 2 with fail;refine RL hS ?_;clear hS;refine MV ?_;refine Ml 3 J8e ?_;refine MV ?_;refine Ml 3 J8e ?_;refine MC (v:=.agg (c4 N3)) (fun W hS=>σ W (J8 hG hS.ext).1) ?_;refine MN (z:=c4 0) (t:=194) ?_;intro S3;refine MR 0 ?_;refine MZ fun W hS=> ?_;go_upto_region 3 with fail;refine RL hS ?_;clear hS;refine ML 0 ?_;refine ML 0 ?_;refine MC (v:=.agg (c4 N4)) (fun W hS=>Ξ W (J8 hG hS.ext).1) ?_;refine MR 0 ?_;refine MZ fun W hS=> ?_;go_upto_region 4 with fail;refine RL hS ?_;clear hS;refine ML 1 ?_;refine ML 2 ?_;refine MC (v:=.agg (c4 N5)) (fun W hS=>Θ W (J8 hG hS.ext).1) ?_;refine MN (z:=c4 0) (t:=194) ?_;intro T2;refine MR 0 ?_;refine MZ fun W hS=> ?_;go_upto_region 5 with fail;refine RL hS ?_;clear hS;refine MV ?_;refine Ml 5 Q0j ?_;refine MV ?_;refine Ml 5 Q33 ?_;refine MC (v:=.agg (c4 N6)) (fun W hS=>ρ W (J8 hG hS.ext).1) ?_;refine MN (z:=c4 0) (t:=194) ?_;intro S4;refine MR 0 ?_;refine MZ fun W hS=> ?_;go_upto_region 6 with fail;refine RXn 5 [⟨5,8,c4 0,194⟩] hS ?_ (by simp only[List.forall_mem_cons];exact⟨⟨_,rfl,rfl,rfl,fun _ _=>by kernel_rfl⟩,fun _ h=>by cases h⟩);clear hS;refine ML 1 ?_;refine ML 0 ?_;refine ML 0 ?_;refine MC (v:=.agg (c4 N7)) (fun W hS=>D0 W (J8 hG hS.ext).1) ?_;refine MC (v:=.agg (c4 N8)) (fun W hS=>Γ W (J8 hG hS.ext).1) ?_;refine MZB fun T6=> ?_;refine MR 0 ?_;refine MZn fun W hS=> ?_;go_upto_region 7 with fail;refine RL hS ?_;clear hS;refine ML 4 ?_;refine ML 5 ?_;refine MC (v:=.agg (c4 N9)) (fun W hS=>Ψ W (J8 hG hS.ext).1) ?_;refine MN (z:=c4 0) (t:=194) ?_;intro S6;refine MR 0 ?_;refine MZ fun W hS=> ?_;go_upto_region 8 with fail;refine RL hS ?_;clear hS;refine ML 4 ?_;refine ML 0 ?_;refine MC (v:=.agg (c4 R)) (fun W hS=>ν W (J8 hG hS.ext).1) ?_;refine MN (z:=c4 0) (t:=194) ?_;intro S7;refine MR 0 ?_;refine MZ fun W hS=> ?_;go_upto_region 9 with fail;refine RX 13 hS ?_;clear hS;refine ML 2 ?_;refine ML 0 ?_;refine MC (v:=.agg (c4 τ)) (fun W hS=>β W (J8 hG hS.ext).1) ?_;refine ML 1 ?_;refine ML 4 ?_;refine MC (v:=.agg (c4 ξ)) (fun W hS=>S W (J8 hG hS.ext).1) ?_;refine ML 0 ?_;refine ML 1 ?_;refine MC (v:=.agg (c4 φ)) (fun W hS=>ε W (J8 hG hS.ext).1) ?_;refine ML 2 ?_;refine ML 4 ?_;refine MC (v:=.agg (c4 ω)) (fun W hS=>η W (J8 hG hS.ext).1) ?_;refine MW ?_ (v:=.agg (p4 τ ξ φ ω)) (hv:=by intro W;kernel_rfl);refine MZt ?_;refine MR 8 ?_;refine MZn fun W hS=> ?_;go_wp2;exact bodyPost_ret (Z0 rfl rfl (hS.blk (i:=8) rfl) (by kernel_rfl) (by kernel_rfl)) rfl ⟨rfl,hS.ext⟩
theorem V4x (hd:kn.d){X1 Y1 Z1 T1:Nat}{p1:Pr}{X2 Y2 Z2 T2:Nat}{p2:Pr}(h1:RW X1 Y1 Z1 T1 p1)(h2:RW X2 Y2 Z2 T2 p2):
  ∃X Y Z T,RN X Y Z T (J1x p1 p2)∧∀w,GE kn w→Calls Tryz.prog 138 #[.agg (p4 X1 Y1 Z1 T1),.agg (p4 X2 Y2 Z2 T2)] w fun e w' =>Ret (.agg (p4 X Y Z T)) w w' e:=by
 obtain⟨x1,y2,z3,t4,r5,c6⟩:=J4w (kn:=kn) h1;obtain⟨x7,y8,z9,G9,D,Z4⟩:=J4w (kn:=kn) h2;have D1:=J94 y2 x1 (Q7 r5.y) (Q7 r5.x);obtain⟨G6,ζ⟩:=exn ((y2+(PP-x1 % PP)) % PP);rw[←ζ] at D1;have T5:=bpp ζ;have N7:=Q7 T5;have T7:=Lib.hid ζ;clear ζ;have D5:=J94 y8 x7 (Q7 D.y) (Q7 D.x);obtain⟨M2,R⟩:=exn ((y8+(PP-x7 % PP)) % PP);rw[←R] at D5;have T6:=bpp R;have N5:=Q7 T6;have R8:=Lib.hid R;clear R;have Ψ:=J02 G6 M2 N7 N5;obtain⟨σ,N⟩:=exn (G6*M2 % PP);rw[←N] at Ψ;have V8:=bpp N;have M7:=Q7 V8;have N2:=Lib.hid N;clear N;have D8:=J56 y2 x1 (Q7 r5.y) (Q7 r5.x);obtain⟨M0,β⟩:=exn ((y2+x1) % PP);rw[←β] at D8;have Y8:=bpp β;have R9:=Q7 Y8;have S9:=Lib.hid β;clear β;have Γ:=J56 y8 x7 (Q7 D.y) (Q7 D.x);obtain⟨M6,μ⟩:=exn ((y8+x7) % PP);rw[←μ] at Γ;have R4:=bpp μ;have X0:=Q7 R4;have S7:=Lib.hid μ;clear μ;have G0:=J02 M0 M6 R9 X0;obtain⟨ψ,δ⟩:=exn (M0*M6 % PP);rw[←δ] at G0;have S4:=bpp δ;have M5:=Q7 S4;have N3:=Lib.hid δ;clear δ;have Ω:=J02 t4 D2 (Q7 r5.t) V9m;obtain⟨G8,M⟩:=exn (t4*D2 % PP);rw[←M] at Ω;have S3:=bpp M;have Z3:=Q7 S3;have N4:=Lib.hid M;clear M;have D7:=J02 G8 G9 Z3 (Q7 D.t);obtain⟨ν,γ⟩:=exn (G8*G9 % PP);rw[←γ] at D7;have N1:=bpp γ;have M9:=Q7 N1;have N8:=Lib.hid γ;clear γ;have D0:=J56 z3 z3 (Q7 r5.z) (Q7 r5.z);obtain⟨G2,J⟩:=exn ((z3+z3) % PP);rw[←J] at D0;have X3:=bpp J;have S6:=Q7 X3;have R1:=Lib.hid J;clear J;have G1:=J02 G2 z9 S6 (Q7 D.z);obtain⟨χ,S⟩:=exn (G2*z9 % PP);rw[←S] at G1;have Y6:=bpp S;have M1:=Q7 Y6;have N9:=Lib.hid S;clear S;have Ξ:=J94 ψ σ M5 M7;obtain⟨τ,κ⟩:=exn ((ψ+(PP-σ % PP)) % PP);rw[←κ] at Ξ;have T8:=bpp κ;have G7:=Q7 T8;have R6:=Lib.hid κ;clear κ;have Θ:=J94 χ ν M1 M9;obtain⟨φ,ε⟩:=exn ((χ+(PP-ν % PP)) % PP);rw[←ε] at Θ;have T9:=bpp ε;have G4:=Q7 T9;have R0:=Lib.hid ε;clear ε;have D3:=J56 χ ν M1 M9;obtain⟨ξ,G⟩:=exn ((χ+ν) % PP);rw[←G] at D3;have R5:=bpp G;have G3:=Q7 R5;have R2:=Lib.hid G;clear G;have Δ:=J56 ψ σ M5 M7;obtain⟨ρ,η⟩:=exn ((ψ+σ) % PP);rw[←η] at Δ;have Y4:=bpp η;have G5:=Q7 Y4;have Y3:=Lib.hid η;clear η;have D9:=J02 τ φ G7 G4;obtain⟨M3,θ⟩:=exn (τ*φ % PP);rw[←θ] at D9;have R7:=bpp θ;have bN27:=Q7 R7;have S5:=Lib.hid θ;clear θ;have D6:=J02 ξ ρ G3 G5;obtain⟨M4,U⟩:=exn (ξ*ρ % PP);rw[←U] at D6;have Y5:=bpp U;have bN28:=Q7 Y5;have S2:=Lib.hid U;clear U;have D4:=J02 φ ξ G4 G3;obtain⟨M8,V⟩:=exn (φ*ξ % PP);rw[←V] at D4;have R3:=bpp V;have bN29:=Q7 R3;have Y7:=Lib.hid V;clear V;have ω:=J02 τ ρ G7 G5;obtain⟨N0,α⟩:=exn (τ*ρ % PP);rw[←α] at ω;have N6:=bpp α;have Z7:=Q7 N6;have X4:=Lib.hid α;clear α;refine⟨M3,M4,M8,N0,Y2z r5 D T7.out R8.out N2.out S9.out S7.out N3.out N4.out N8.out R1.out N9.out R6.out R0.out R2.out Y3.out S5.out S2.out Y7.out X4.out,fun w hG=> ?_⟩;have hS:=SH.nil [] w
 go_enter Tryz.func138,Tryz.ntmps138
 go_upto_region 0 with fail;refine RL hS ?_;clear hS;refine MN (z:=p4 X1 Y1 Z1 T1) (t:=196) ?_;intro Z8;refine MN (z:=p4 X2 Y2 Z2 T2) (t:=196) ?_;intro J1u;refine MN (z:=p4 0 0 0 0) (t:=196) ?_;intro Q9h;refine MZ fun W hS=> ?_;go_upto_region 1 with fail;refine RX 4 hS ?_;clear hS;refine ML 2 ?_;refine MC (v:=.agg (p4 x1 y2 z3 t4)) (fun W hS=>c6 W (J8 hG hS.ext)) ?_;refine ML 1 ?_;refine MC (v:=.agg (p4 x7 y8 z9 G9)) (fun W hS=>Z4 W (J8 hG hS.ext)) ?_;refine MZt ?_;refine MR 2 ?_;refine MR 1 ?_;refine MZn fun W hS=> ?_;go_upto_region 2 with fail;refine RXn 11 [⟨11,5,c4 0,194⟩] hS ?_ (by simp only[List.forall_mem_cons];exact⟨⟨_,rfl,rfl,rfl,fun _ _=>by kernel_rfl⟩,fun _ h=>by cases h⟩);clear hS;refine MV ?_;refine Ml 2 Q33 ?_;refine MV ?_;refine Ml 2 Q0j ?_;refine MC (v:=.agg (c4 G6)) (fun W hS=>D1 W (J8 hG hS.ext).1) ?_;refine MV ?_;refine Ml 1 Q33 ?_;refine MV ?_;refine Ml 1 Q0j ?_;refine MC (v:=.agg (c4 M2)) (fun W hS=>D5 W (J8 hG hS.ext).1) ?_;refine MC (v:=.agg (c4 σ)) (fun W hS=>Ψ W (J8 hG hS.ext).1) ?_;refine MZB fun β4=> ?_;refine MR 0 ?_;refine MZn fun W hS=> ?_;go_upto_region 3 with fail;refine RXn 11 [⟨11,6,c4 0,194⟩] hS ?_ (by simp only[List.forall_mem_cons];exact⟨⟨_,rfl,rfl,rfl,fun _ _=>by kernel_rfl⟩,fun _ h=>by cases h⟩);clear hS;refine MV ?_;refine Ml 3 Q33 ?_;refine MV ?_;refine Ml 3 Q0j ?_;refine MC (v:=.agg (c4 M0)) (fun W hS=>D8 W (J8 hG hS.ext).1) ?_;refine MV ?_;refine Ml 2 Q33 ?_;refine MV ?_;refine Ml 2 Q0j ?_;refine MC (v:=.agg (c4 M6)) (fun W hS=>Γ W (J8 hG hS.ext).1) ?_;refine MC (v:=.agg (c4 ψ)) (fun W hS=>G0 W (J8 hG hS.ext).1) ?_;refine MZB fun β5=> ?_;refine MR 0 ?_;refine MZn fun W hS=> ?_;go_upto_region 4 with fail;refine RXn 7 [⟨7,7,c4 0,194⟩] hS ?_ (by simp only[List.forall_mem_cons];exact⟨⟨_,rfl,rfl,rfl,fun _ _=>by kernel_rfl⟩,fun _ h=>by cases h⟩);clear hS;refine MV ?_;refine Ml 4 V9n ?_;refine MF (v:=.agg (c4 D2)) (fun W hS=>J2o rfl rfl ((J8 hG hS.ext).2.2.2.1 hd) (by kernel_rfl) (by kernel_rfl)) ?_;refine MC (v:=.agg (c4 G8)) (fun W hS=>Ω W (J8 hG hS.ext).1) ?_;refine MV ?_;refine Ml 3 V9n ?_;refine MC (v:=.agg (c4 ν)) (fun W hS=>D7 W (J8 hG hS.ext).1) ?_;refine MZB fun β6=> ?_;refine MR 0 ?_;refine MZn fun W hS=> ?_;go_upto_region 5 with fail;refine RXn 8 [⟨8,8,c4 0,194⟩] hS ?_ (by simp only[List.forall_mem_cons];exact⟨⟨_,rfl,rfl,rfl,fun _ _=>by kernel_rfl⟩,fun _ h=>by cases h⟩);clear hS;refine MV ?_;refine Ml 5 J8e ?_;refine MV ?_;refine Ml 5 J8e ?_;refine MC (v:=.agg (c4 G2)) (fun W hS=>D0 W (J8 hG hS.ext).1) ?_;refine MV ?_;refine Ml 4 J8e ?_;refine MC (v:=.agg (c4 χ)) (fun W hS=>G1 W (J8 hG hS.ext).1) ?_;refine MZB fun β7=> ?_;refine MR 0 ?_;refine MZn fun W hS=> ?_;go_upto_region 6 with fail;refine RXn 12 [⟨12,9,c4 0,194⟩,⟨13,10,c4 0,194⟩,⟨14,11,c4 0,194⟩,⟨15,12,c4 0,194⟩] hS ?_ (by simp only[List.forall_mem_cons];exact⟨⟨_,rfl,rfl,rfl,fun _ _=>by kernel_rfl⟩,⟨_,rfl,rfl,rfl,fun _ _=>by kernel_rfl⟩,⟨_,rfl,rfl,rfl,fun _ _=>by kernel_rfl⟩,⟨_,rfl,rfl,rfl,fun _ _=>by kernel_rfl⟩,fun _ h=>by cases h⟩);clear hS;refine ML 2 ?_;refine ML 3 ?_;refine MC (v:=.agg (c4 τ)) (fun W hS=>Ξ W (J8 hG hS.ext).1) ?_;refine ML 0 ?_;refine ML 1 ?_;refine MC (v:=.agg (c4 φ)) (fun W hS=>Θ W (J8 hG hS.ext).1) ?_;refine ML 0 ?_;refine ML 1 ?_;refine MC (v:=.agg (c4 ξ)) (fun W hS=>D3 W (J8 hG hS.ext).1) ?_;refine ML 2 ?_;refine ML 3 ?_;refine MC (v:=.agg (c4 ρ)) (fun W hS=>Δ W (J8 hG hS.ext).1) ?_;refine MZB fun β8=> ?_;refine MR 0 ?_;refine MR 1 ?_;refine MR 2 ?_;refine MR 3 ?_;refine MZn fun W hS=> ?_;go_upto_region 7 with fail;refine RX 13 hS ?_;clear hS;refine ML 0 ?_;refine ML 1 ?_;refine MC (v:=.agg (c4 M3)) (fun W hS=>D9 W (J8 hG hS.ext).1) ?_;refine ML 2 ?_;refine ML 3 ?_;refine MC (v:=.agg (c4 M4)) (fun W hS=>D6 W (J8 hG hS.ext).1) ?_;refine ML 1 ?_;refine ML 2 ?_;refine MC (v:=.agg (c4 M8)) (fun W hS=>D4 W (J8 hG hS.ext).1) ?_;refine ML 0 ?_;refine ML 3 ?_;refine MC (v:=.agg (c4 N0)) (fun W hS=>ω W (J8 hG hS.ext).1) ?_;refine MW ?_ (v:=.agg (p4 M3 M4 M8 N0)) (hv:=by intro W;kernel_rfl);refine MZt ?_;refine MR 8 ?_;refine MZn fun W hS=> ?_;go_wp2;exact bodyPost_ret (Z0 rfl rfl (hS.blk (i:=8) rfl) (by kernel_rfl) (by kernel_rfl)) rfl ⟨rfl,hS.ext⟩
theorem pm8 {a:Pr}(h:OnC a):pm a 8=J1x (J1x (J1x a a) (J1x a a)) (J1x (J1x a a) (J1x a a)):=by
 rw[show 8=2*(2*(2*1)) from rfl,J7d h,J7d h,J7d h,V4y]
theorem Q1n {X1 Y1 Z1 T1:Nat}{p1:Pr}(h1:RW X1 Y1 Z1 T1 p1):
  ∃X Y Z T,RN X Y Z T (pm p1 8)∧∀w,GE kn w→Calls Tryz.prog 110 #[.agg (p4 X1 Y1 Z1 T1)] w fun e w' =>Ret (.agg (p4 X Y Z T)) w w' e:=by
 obtain⟨x1,y2,z3,t4,r5,c6⟩:=J4w (kn:=kn) h1;obtain⟨x7,y8,z9,α,V,U⟩:=Q1m (kn:=kn) r5;obtain⟨δ,N,ζ,ε,S,β⟩:=Q1m (kn:=kn) V;obtain⟨G,M,J,D,γ,R⟩:=Q1m (kn:=kn) S;refine⟨G,M,J,D,pm8 h1.on▸γ,fun w hG=> ?_⟩;have hS:=SH.nil [] w
 go_enter Tryz.func110,Tryz.ntmps110
 go_upto_region 0 with fail;refine RL hS ?_;clear hS;refine MN (z:=p4 X1 Y1 Z1 T1) (t:=196) ?_;intro η;refine MN (z:=p4 0 0 0 0) (t:=196) ?_;intro θ;refine MZ fun W hS=> ?_;go_upto_region 1 with fail;refine RL hS ?_;clear hS;refine ML 1 ?_;refine MC (v:=.agg (p4 x1 y2 z3 t4)) (fun W hS=>c6 W (J8 hG hS.ext)) ?_;refine MC (v:=.agg (p4 x7 y8 z9 α)) (fun W hS=>U W (J8 hG hS.ext)) ?_;refine MC (v:=.agg (p4 δ N ζ ε)) (fun W hS=>β W (J8 hG hS.ext)) ?_;refine MC (v:=.agg (p4 G M J D)) (fun W hS=>R W (J8 hG hS.ext)) ?_;refine MR 0 ?_;refine MZ fun W hS=> ?_;go_wp2;exact bodyPost_ret (Z0 rfl rfl (hS.blk (i:=0) rfl) (by kernel_rfl) (by kernel_rfl)) rfl ⟨rfl,hS.ext⟩
theorem Z5k (hb:kn.b):
  ∃X Y Z T,RN X Y Z T BP∧∀w,GE kn w→Calls Tryz.prog 105 #[] w fun e w' =>Ret (.agg (p4 X Y Z T)) w w' e:=by
 obtain⟨t1,r2,c3⟩:=V17 (kn:=kn) (X:=BX) (Y:=BY) (by decide) (by decide) V1a;refine⟨BX,BY,1,t1,r2,fun w hG=> ?_⟩;have hS:=SH.nil [] w
 go_enter Tryz.func105,Tryz.ntmps105
 go_upto_region 0 with fail;refine RL hS ?_;clear hS;refine MN (z:=p4 0 0 0 0) (t:=196) ?_;intro D;refine MZ fun W hS=> ?_;go_upto_region 1 with fail;refine RL hS ?_;clear hS;refine MF (v:=.agg (c4 BX)) (fun W hS=>J2o rfl rfl ((J8 hG hS.ext).2.2.2.2.1 hb) (by kernel_rfl) (by kernel_rfl)) ?_;refine MF (v:=.agg (c4 BY)) (fun W hS=>J2o rfl rfl ((J8 hG hS.ext).2.2.2.2.2 hb) (by kernel_rfl) (by kernel_rfl)) ?_;refine MC (v:=.agg (p4 BX BY 1 t1)) (fun W hS=>c3 W (J8 hG hS.ext)) ?_;refine MR 0 ?_;refine MZ fun W hS=> ?_;go_wp2;exact bodyPost_ret (Z0 rfl rfl (hS.blk (i:=0) rfl) (by kernel_rfl) (by kernel_rfl)) rfl ⟨rfl,hS.ext⟩
end

section
set_option maxHeartbeats 1500000
attribute [local irreducible] wpList Z6 wpX
variable {kn : Kn}
theorem Z5l {A:Nat}(h:A<PP):A<2^256:=Nat.lt_trans h (by decide)
theorem V4z {X1 Y1 Z1 X2 Y2 Z2 m1 m2 m3 m4:Nat}{p q:Pr}(r1:RD X1 Y1 Z1 p)(r2:RD X2 Y2 Z2 q)(e1:m1=X1*Z2 % PP)(e2:m2=X2*Z1 % PP)(e3:m3=Y1*Z2 % PP)(e4:m4=Y2*Z1 % PP)(h1:m1=m2)(h2:m3=m4):decide (p=q)=true:=
 decide_eq_true ((Q4w r1 r2 e1 e2 e3 e4).1 ⟨h1,h2⟩)
theorem Y8d {X1 Y1 Z1 X2 Y2 Z2 m1 m2 m3 m4:Nat}{p q:Pr}(r1:RD X1 Y1 Z1 p)(r2:RD X2 Y2 Z2 q)(e1:m1=X1*Z2 % PP)(e2:m2=X2*Z1 % PP)(e3:m3=Y1*Z2 % PP)(e4:m4=Y2*Z1 % PP)(h1:¬m1=m2):decide (p=q)=false:=
 decide_eq_false fun h=>h1 ((Q4w r1 r2 e1 e2 e3 e4).2 h).1
theorem Y8e {X1 Y1 Z1 X2 Y2 Z2 m1 m2 m3 m4:Nat}{p q:Pr}(r1:RD X1 Y1 Z1 p)(r2:RD X2 Y2 Z2 q)(e1:m1=X1*Z2 % PP)(e2:m2=X2*Z1 % PP)(e3:m3=Y1*Z2 % PP)(e4:m4=Y2*Z1 % PP)(h1:¬m3=m4):decide (p=q)=false:=
 decide_eq_false fun h=>h1 ((Q4w r1 r2 e1 e2 e3 e4).2 h).2
theorem V9o {X Y Z i x y:Nat}{a:Pr}(r:RD X Y Z a)(ei:i=pw Z (PP-2))(ex:x=X*i % PP)(ey:y=Y*i % PP)(ho:x % 2=1):J0 .u8 32 (upd (J7 y) 31 (bits .or .u8 (J7 y 31) 128))=J0 .u8 32 (J7 (enc a)):=by
 obtain⟨h1,h2⟩:=Y30 r ei ex ey;rw[V9p (Nat.lt_trans (ey▸J58 _) Z2n)];unfold enc;rw[←h1,←h2,ho]
theorem V9q {X Y Z i x y:Nat}{a:Pr}(r:RD X Y Z a)(ei:i=pw Z (PP-2))(ex:x=X*i % PP)(ey:y=Y*i % PP)(ho:¬x % 2=1):J0 .u8 32 (J7 y)=J0 .u8 32 (J7 (enc a)):=by
 obtain⟨h1,h2⟩:=Y30 r ei ex ey;have:x % 2=0:=by omega
 unfold enc;rw[←h1,←h2,this,Nat.mul_zero,Nat.add_zero]

theorem Q8f {X1 Y1 Z1 T1:Nat}{p1:Pr}{X2 Y2 Z2 T2:Nat}{p2:Pr}(h1:RW X1 Y1 Z1 T1 p1)(h2:RW X2 Y2 Z2 T2 p2):
  ∀w,GE kn w→Calls Tryz.prog 135 #[.agg (p4 X1 Y1 Z1 T1),.agg (p4 X2 Y2 Z2 T2)] w fun e w' =>Ret (.bool (decide (p1=p2))) w w' e:=by
 obtain⟨x1,y2,z3,t4,r5,c6⟩:=J4w (kn:=kn) h1;obtain⟨x7,y8,z9,φ,M,τ⟩:=J4w (kn:=kn) h2;have J:=J02 x1 z9 (Q7 r5.x) (Q7 M.z);obtain⟨Y,R⟩:=exn (x1*z9 % PP);rw[←R] at J;have κ:=bpp R;have ν:=Q7 κ;have γ:=Lib.hid R;clear R;have G:=J02 x7 z3 (Q7 M.x) (Q7 r5.z);obtain⟨Z,U⟩:=exn (x7*z3 % PP);rw[←U] at G;have μ:=bpp U;have ρ:=Q7 μ;have δ:=Lib.hid U;clear U;have D:=J6j Y Z ν ρ;rw[Nat.mod_eq_of_lt κ,Nat.mod_eq_of_lt μ] at D;have T:=J02 y2 z9 (Q7 r5.y) (Q7 M.z);obtain⟨ε,V⟩:=exn (y2*z9 % PP);rw[←V] at T;have θ:=bpp V;have σ:=Q7 θ;have β:=Lib.hid V;clear V;have S:=J02 y8 z3 (Q7 M.y) (Q7 r5.z);obtain⟨ζ,X⟩:=exn (y8*z3 % PP);rw[←X] at S;have η:=bpp X;have ξ:=Q7 η;have α:=Lib.hid X;clear X;have N:=J6j ε ζ σ ξ;rw[Nat.mod_eq_of_lt θ,Nat.mod_eq_of_lt η] at N;intro w hG;have hS:=SH.nil [] w
 go_enter Tryz.func135,Tryz.ntmps135
 go_upto_region 0 with fail;refine RL hS ?_;clear hS;refine MN (z:=p4 X1 Y1 Z1 T1) (t:=196) ?_;intro Z8;refine MN (z:=p4 X2 Y2 Z2 T2) (t:=196) ?_;intro χ;refine Wf ?_;refine MZ fun W hS=> ?_;go_upto_region 1 with fail;refine RX 4 hS ?_;clear hS;refine ML 1 ?_;refine MC (v:=.agg (p4 x1 y2 z3 t4)) (fun W hS=>c6 W (J8 hG hS.ext)) ?_;refine ML 0 ?_;refine MC (v:=.agg (p4 x7 y8 z9 φ)) (fun W hS=>τ W (J8 hG hS.ext)) ?_;refine MZt ?_;refine MR 1 ?_;refine MR 0 ?_;refine MZn fun W hS=> ?_
 by_cases hx:Y=Z
 ·
  by_cases hy:ε=ζ
  ·
   go_upto_region 2 with fail;refine RS hS ?_;clear hS;refine MV ?_;refine Ml 1 Q0j ?_;refine MV ?_;refine Ml 0 J8e ?_;refine MC (v:=.agg (c4 Y)) (fun W hS=>J W (J8 hG hS.ext).1) ?_;refine MV ?_;refine Ml 0 Q0j ?_;refine MV ?_;refine Ml 1 J8e ?_;refine MC (v:=.agg (c4 Z)) (fun W hS=>G W (J8 hG hS.ext).1) ?_;rw[decide_eq_true hx] at D;refine MC (v:=.bool true) (fun W hS=>D W (J8 hG hS.ext).1) ?_;refine Wt ?_;refine MV ?_;refine Ml 1 Q33 ?_;refine MV ?_;refine Ml 0 J8e ?_;refine MC (v:=.agg (c4 ε)) (fun W hS=>T W (J8 hG hS.ext).1) ?_;refine MV ?_;refine Ml 0 Q33 ?_;refine MV ?_;refine Ml 1 J8e ?_;refine MC (v:=.agg (c4 ζ)) (fun W hS=>S W (J8 hG hS.ext).1) ?_;rw[decide_eq_true hy] at N;refine MC (v:=.bool true) (fun W hS=>N W (J8 hG hS.ext).1) ?_;refine Wt ?_;refine Wt ?_;refine MZx fun W hS=> ?_;go_wp2;rw[V4z r5.rr M.rr γ.out δ.out β.out α.out hx hy];exact bodyPost_ret (v:=.bool true) (by simp only[results,Tryz.results135];go_simp) rfl ⟨rfl,hS.ext⟩
  go_upto_region 2 with fail;refine RS hS ?_;clear hS;refine MV ?_;refine Ml 1 Q0j ?_;refine MV ?_;refine Ml 0 J8e ?_;refine MC (v:=.agg (c4 Y)) (fun W hS=>J W (J8 hG hS.ext).1) ?_;refine MV ?_;refine Ml 0 Q0j ?_;refine MV ?_;refine Ml 1 J8e ?_;refine MC (v:=.agg (c4 Z)) (fun W hS=>G W (J8 hG hS.ext).1) ?_;rw[decide_eq_true hx] at D;refine MC (v:=.bool true) (fun W hS=>D W (J8 hG hS.ext).1) ?_;refine Wt ?_;refine MV ?_;refine Ml 1 Q33 ?_;refine MV ?_;refine Ml 0 J8e ?_;refine MC (v:=.agg (c4 ε)) (fun W hS=>T W (J8 hG hS.ext).1) ?_;refine MV ?_;refine Ml 0 Q33 ?_;refine MV ?_;refine Ml 1 J8e ?_;refine MC (v:=.agg (c4 ζ)) (fun W hS=>S W (J8 hG hS.ext).1) ?_;rw[decide_eq_false hy] at N;refine MC (v:=.bool false) (fun W hS=>N W (J8 hG hS.ext).1) ?_;refine Wf ?_;refine Wf ?_;refine MZx fun W hS=> ?_;go_wp2;rw[Y8e r5.rr M.rr γ.out δ.out β.out α.out hy];exact bodyPost_ret (v:=.bool false) (by simp only[results,Tryz.results135];go_simp) rfl ⟨rfl,hS.ext⟩
 go_upto_region 2 with fail;refine RS hS ?_;clear hS;refine MV ?_;refine Ml 1 Q0j ?_;refine MV ?_;refine Ml 0 J8e ?_;refine MC (v:=.agg (c4 Y)) (fun W hS=>J W (J8 hG hS.ext).1) ?_;refine MV ?_;refine Ml 0 Q0j ?_;refine MV ?_;refine Ml 1 J8e ?_;refine MC (v:=.agg (c4 Z)) (fun W hS=>G W (J8 hG hS.ext).1) ?_;rw[decide_eq_false hx] at D;refine MC (v:=.bool false) (fun W hS=>D W (J8 hG hS.ext).1) ?_;refine Wf ?_;(iterate 11 refine MS ?_);refine Wf ?_;refine Wf ?_;refine MZx fun W hS=> ?_;go_wp2;rw[Y8d r5.rr M.rr γ.out δ.out β.out α.out hx];exact bodyPost_ret (v:=.bool false) (by simp only[results,Tryz.results135];go_simp) rfl ⟨rfl,hS.ext⟩
theorem V50 {X1 Y1 Z1 T1:Nat}{p1:Pr}(h1:RW X1 Y1 Z1 T1 p1):
  ∀w,GE kn w→Calls Tryz.prog 101 #[.agg (p4 X1 Y1 Z1 T1)] w fun e w' =>Ret (.agg (J0 .u8 32 (J7 (enc p1)))) w w' e:=by
 obtain⟨x1,y2,z3,t4,r5,c6⟩:=J4w (kn:=kn) h1;have V:=V4u z3 (Q7 r5.z);obtain⟨N7,N⟩:=exn (pw z3 (PP-2));rw[←N] at V;have ζ:=bpp N;have Z:=Q7 ζ;have Y:=Lib.hid N;clear N;have T:=J02 y2 N7 (Q7 r5.y) Z;obtain⟨N8,M⟩:=exn (y2*N7 % PP);rw[←M] at T;have β:=bpp M;have ε:=Q7 β;have α:=Lib.hid M;clear M;have X:=Q4v N8 ε;rw[Nat.mod_eq_of_lt β] at X;have G:=J02 x1 N7 (Q7 r5.x) Z;obtain⟨R,J⟩:=exn (x1*N7 % PP);rw[←J] at G;have S:=bpp J;have δ:=Q7 S;have U:=Lib.hid J;clear J;have D:=Z2l R δ;rw[Nat.mod_eq_of_lt S] at D;intro w hG;have hS:=SH.nil [] w
 go_enter Tryz.func101,Tryz.ntmps101
 go_upto_region 0 with fail;refine RL hS ?_;clear hS;refine MN (z:=p4 X1 Y1 Z1 T1) (t:=196) ?_;intro θ;refine MN (z:=J0 .u8 32 (J7 0)) (t:=22) ?_;intro κ;refine MZ fun W hS=> ?_;go_upto_region 1 with fail;refine RL hS ?_;clear hS;refine ML 1 ?_;refine MC (v:=.agg (p4 x1 y2 z3 t4)) (fun W hS=>c6 W (J8 hG hS.ext)) ?_;refine MR 1 ?_;refine MZ fun W hS=> ?_;go_upto_region 2 with fail;refine RL hS ?_;clear hS;refine MV ?_;refine Ml 1 J8e ?_;refine MC (v:=.agg (c4 N7)) (fun W hS=>V W (J8 hG hS.ext).1) ?_;refine MN (z:=c4 0) (t:=194) ?_;intro η;refine MR 0 ?_;refine MZ fun W hS=> ?_;go_upto_region 3 with fail;refine RL hS ?_;clear hS;refine MV ?_;refine Ml 2 Q33 ?_;refine ML 0 ?_;refine MC (v:=.agg (c4 N8)) (fun W hS=>T W (J8 hG hS.ext).1) ?_;refine MC (v:=.agg (J0 .u8 32 (J7 N8))) (fun W hS=>X W (J8 hG hS.ext).1) ?_;refine MN (z:=J0 .u8 32 (J7 0)) (t:=22) ?_;intro γ;refine MR 0 ?_;refine MZ fun W hS=> ?_
 by_cases ho:R % 2=1
 ·
  go_upto_region 4 with fail;refine RL hS ?_;clear hS;refine MV ?_;refine Ml 3 Q0j ?_;refine ML 1 ?_;refine MC (v:=.agg (c4 R)) (fun W hS=>G W (J8 hG hS.ext).1) ?_;rw[decide_eq_true ho] at D;refine MC (v:=.bool true) (fun W hS=>D W (J8 hG hS.ext).1) ?_;refine MZ fun W hS=> ?_;go_upto_region 5 with fail;refine RL hS ?_;clear hS;refine MW ?_ (v:=.pointer (some ⟨γ,0+31,none⟩)) (hv:=fun _=>rxa Tryz.underlying22 (by decide));refine MG 0 ?_ (j:=0+31) (v:=.int .u8 ((J7 N8) 31)) (hj:=ag0 (by decide));refine MW ?_ (v:=.int .u8 (bits .or .u8 (J7 N8 31) 128)) (hv:=by intro W;exact Y8g rfl rfl rfl rfl);refine MW ?_ (v:=.pointer (some ⟨γ,0+31,none⟩)) (hv:=fun _=>rxa Tryz.underlying22 (by decide));refine MP 0 (v:=.int .u8 (bits .or .u8 (J7 N8 31) 128)) (cs' :=J0 .u8 32 (upd (J7 N8) 31 (bits .or .u8 (J7 N8 31) 128))) ?_ (hs:=by rw[J1,Nat.zero_add];decide) (hc:=by rw[Nat.zero_add];exact X6 _ _ _ _ _);refine MT (fun W hS=>by rw[V9o r5.rr Y.out U.out α.out ho] at hS;exact hS) ?_;refine MZ fun W hS=> ?_;go_upto_region 6 with fail;refine RL hS ?_;clear hS;refine ML 0 ?_;refine MR 2 ?_;refine MZ fun W hS=> ?_;go_wp2;exact bodyPost_ret (Z0 rfl rfl (hS.blk (i:=2) rfl) (by kernel_rfl) (by rw[J1];kernel_rfl)) rfl ⟨rfl,hS.ext⟩
 go_upto_region 4 with fail;refine RL hS ?_;clear hS;refine MV ?_;refine Ml 3 Q0j ?_;refine ML 1 ?_;refine MC (v:=.agg (c4 R)) (fun W hS=>G W (J8 hG hS.ext).1) ?_;rw[decide_eq_false ho] at D;refine MC (v:=.bool false) (fun W hS=>D W (J8 hG hS.ext).1) ?_;refine MZ fun W hS=> ?_;rw[V9q r5.rr Y.out U.out α.out ho] at hS;go_upto_region 6 with fail;refine RL hS ?_;clear hS;refine ML 0 ?_;refine MR 2 ?_;refine MZ fun W hS=> ?_;go_wp2;exact bodyPost_ret (Z0 rfl rfl (hS.blk (i:=2) rfl) (by kernel_rfl) (by rw[J1];kernel_rfl)) rfl ⟨rfl,hS.ext⟩
end
end Go.Proofs.YtlkbneflnjmgbaaGreatDoor.S8

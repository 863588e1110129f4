/- Contracts and plain laws for directPuts_holds. Conditions: the tables hold their numbers. -/
import Derived.Test.YteehbddkcnkhfaaGreatDoorJ12
open Go.RowKit
set_option maxRecDepth 100000
set_option linter.unusedSimpArgs false
set_option linter.unusedVariables false
namespace Go.Proofs.YteehbddkcnkhfaaGreatDoor.S8
section
open Sc (LL J0v)
/-! ### Bytes and numbers -/
theorem Y3f (m n V:Nat):lb (m+n) V=lb m V++lb n (V / 2^(8*m)):=by
  induction m generalizing V with
  |zero=>simp[show lb 0 V=[] from rfl]
  |succ m ih=>
    rw[show m+1+n=(m+n)+1 by omega,Q1c,Q1c,ih,List.cons_append,Nat.div_div_eq_div_mul,show 256*2^(8*m)=2^(8*(m+1)) by rw[show 8*(m+1)=8*m+8 by omega,Nat.pow_add];omega]
def lo (V:Nat):Nat:=V % 2^256
def hi (V:Nat):Nat:=V / 2^256
theorem lo_lt (V:Nat):lo V<2^256:=Nat.mod_lt _ (by decide)
theorem K0p {V:Nat}(h:V<2^(256+256)):hi V<2^256:=by unfold hi;rw[Nat.div_lt_iff_lt_mul (by decide),←Nat.pow_add];exact h
theorem Y3g {V j:Nat}(hj:j<32):J7 (lo V) j=J7 V j:=by
  unfold J7 lo;have e:(2:Nat)^256=2^(8*j)*2^(256-8*j):=by rw[←Nat.pow_add];congr 1;omega
  have e2:(2:Nat)^(256-8*j)=256*2^(248-8*j):=by rw[show 256-8*j=8+(248-8*j) by omega,Nat.pow_add]
  rw[e,Nat.mod_mul_right_div_self,e2,Nat.mod_mul_right_mod]
theorem V57 (V j:Nat):J7 (hi V) j=J7 V (32+j):=by
  unfold J7 hi;rw[Nat.div_div_eq_div_mul,←Nat.pow_add,show 256+8*j=8*(32+j) by omega]
theorem Z2q {V:Nat}:∀i v,(J0 .u8 32 (J7 (lo V)))[i]?=some v→(J0 .u8 64 (J7 V))[0+i]?=some v:=fun i v h=>by
  have hi:i<32:=by have:=(Array.getElem?_eq_some_iff.1 h).1;rwa [J1] at this
  rw[V3 _ _ _ _ hi,Y3g hi] at h;rw[Nat.zero_add,V3 _ _ _ _ (by omega)];exact h
theorem K3c {V:Nat}:∀i v,(J0 .u8 32 (J7 (hi V)))[i]?=some v→(J0 .u8 64 (J7 V))[32+i]?=some v:=fun i v h=>by
  have hi:i<32:=by have:=(Array.getElem?_eq_some_iff.1 h).1;rwa [J1] at this
  rw[V3 _ _ _ _ hi,V57] at h;rw[V3 _ _ _ _ (by omega)];exact h
/-! ### Sums -/
def hs (F:List UInt8):Nat:=le (smb F)
theorem Y3h (F:List UInt8):hs F<2^(8*64):=by have:=Z3l (smb F);rwa [Q59] at this
theorem K3e:8*64=256+256:=rfl
theorem K0q (F:List UInt8):hs F<2^(256+256):=by have:=Y3h F;rwa [K3e] at this
theorem V58 (F:List UInt8):smb F=lb 64 (hs F):=(Z1g (Q59 F)).symm
theorem K0g (F:List UInt8):J0 .u8 64 (sm F)=J0 .u8 64 (J7 (hs F)):=Q94 (by rw[Z7n,V58,Q1s,J3r])
/-! ### Secrets -/
def clN (V:Nat):Nat:=J1q (J0v (J7 V)) 32
theorem Z0m (V j:Nat):J8s (J0v (J7 V) j):=by
  have h0:=J8p V 0;have h1:=J8p V 31;have h2:=J8p V j;unfold J0v J8s at*
  split
  · omega
  split
  · omega
  exact h2
theorem Y31 (V:Nat):clN V<2^256:=J7p _ (Z0m V) 32
theorem Y7x (V:Nat):J0 .u8 32 (J0v (J7 V))=J0 .u8 32 (J7 (clN V)):=X8 _ _ _ _ fun j hj=>(Z01 _ (Z0m V) 32 j hj).symm
def kN (S:Nat):Nat:=clN (lo (hs (lb 32 S)))
def kD (S:Nat):Nat:=hi (hs (lb 32 S))
def kP (S:Nat):Nat:=enc (pm BP (kN S))
theorem V0p (S:Nat):kN S<2^256:=Y31 _
theorem V0q (S:Nat):kD S<2^256:=K0p (K0q _)
/-! ### Signatures -/
theorem Q0p (a:Pr):enc a<2^256:=by
  unfold enc;have h:a.2.val<2^255:=Nat.lt_trans a.2.isLt Z2g;have h2:a.1.val % 2<2:=Nat.mod_lt _ (by decide);have e:(2:Nat)^256=2^255+2^255:=by decide
  generalize (2:Nat)^255=T at*;have:T*(a.1.val % 2)≤T*1:=Nat.mul_le_mul_left T (by omega);omega
theorem V0r (S:Nat):kP S<2^256:=Q0p _
theorem V59:0<LL:=by decide
theorem J5f:LL<2^256:=by decide
theorem mLL (n:Nat):n % LL<LL:=Nat.mod_lt _ V59
end

section
def n64:Nat:=18446744073709551616
theorem Y84 (n:Int)(h0:0≤n)(h1:n<2^64):IntKind.u64.wrap n=n:=by rw[IntKind.wrap_u64];omega
theorem J31 (k:IntKind)(j:Nat)(hj:j≤k.bits)(hk:∀n:Int,0≤n→n<2^j→k.wrap n=n)(a b:Nat)(ha:a<2^j)(hb:b<2^j):bits .xor k a b=((a^^^b:Nat):Int):=by
  have hp:2^j≤2^k.bits:=Nat.pow_le_pow_right (by decide) hj;have ha' :a % 2^k.bits=a:=Nat.mod_eq_of_lt (Nat.lt_of_lt_of_le ha hp);have hb' :b % 2^k.bits=b:=Nat.mod_eq_of_lt (Nat.lt_of_lt_of_le hb hp);simp only[bits,BitVec.ofInt_natCast,BitVec.toNat_xor,BitVec.toNat_ofNat,ha',hb'];exact hk _ (Int.natCast_nonneg _) (by exact_mod_cast Nat.xor_lt_two_pow ha hb)
def Wn (x:Int)(a:Nat):Prop:=x=(a:Int)∧a<2^64
section
variable {x y : Int} {a b : Nat}
theorem Wn.xo (h:Wn x a)(k:Wn y b):Wn (xo x y) (a^^^b):=⟨by rw[h.1,k.1];exact J31 .u64 64 (by decide) Y84 a b h.2 k.2,Nat.xor_lt_two_pow h.2 k.2⟩
theorem Wn.an (h:Wn x a)(k:Wn y b):Wn (an x y) (a &&& b):=⟨by rw[h.1,k.1];exact(bits_nat .u64 64 (by decide) Y84 a b h.2 k.2).1,Nat.and_lt_two_pow _ k.2⟩
theorem Wn.oo (h:Wn x a)(k:Wn y b):Wn (oo x y) (a |||b):=⟨by rw[h.1,k.1];exact(bits_nat .u64 64 (by decide) Y84 a b h.2 k.2).2,Nat.or_lt_two_pow h.2 k.2⟩
theorem Wn.nt (h:Wn x a):Wn (nt x) (18446744073709551615^^^a):=⟨by rw[h.1];exact J31 .u64 64 (by decide) Y84 _ a (by decide) h.2,Nat.xor_lt_two_pow (by decide) h.2⟩
theorem Wn.ad (h:Wn x a)(k:Wn y b):Wn (ad x y) ((a+b) % n64):=⟨by rw[h.1,k.1];show IntKind.wrap .u64 ((a:Int)+b)=_;unfold n64;rw[IntKind.wrap_u64];omega,Nat.mod_lt _ (by decide)⟩
theorem Wn.sl (h:Wn x a)(n:Nat):Wn (sl x n) (a*2^n % n64):=⟨by
  rw[h.1];show IntKind.wrap .u64 ((a:Int)*2^n)=_;unfold n64
  rw[IntKind.wrap_u64,Int.natCast_emod,Int.natCast_mul,Int.natCast_pow];rfl,Nat.mod_lt _ (by decide)⟩
theorem Wn.sr (h:Wn x a)(n:Nat):Wn (sr x n) (a / 2^n):=⟨by
  rw[h.1];show(a:Int) / 2^n=_
  rw[Int.natCast_ediv,Int.natCast_pow];rfl,Nat.lt_of_le_of_lt (Nat.div_le_self _ _) h.2⟩
end
def rtN (a n:Nat):Nat:=a / 2^n |||a*2^(64-n) % n64
theorem Wn.rt {x:Int}{a:Nat}(h:Wn x a)(n:Nat):Wn (rt x n) (rtN a n):=(h.sr n).oo (h.sl (64-n))
/-! ### The words of a block -/
def V5a (b:Nat→Nat)(i:Nat):Nat→Nat
  |0=>0
  |k+1=>V5a b i k*2^8 % n64 |||b (8*i+k)
def bN (l:List UInt8)(j:Nat):Nat:=(l.getD j 0).toNat
theorem K0s (l:List UInt8)(j:Nat):Wn (bt l j) (bN l j):=⟨rfl,Nat.lt_trans (l.getD j 0).toNat_lt (by decide)⟩
theorem Y3j (l:List UInt8)(i:Nat):∀k,Wn (wrd (bt l) i k) (V5a (bN l) i k)
  |0=>⟨rfl,Nat.two_pow_pos 64⟩
  |k+1=>((Y3j l i k).sl 8).oo (K0s l _)
def sgN (l:List Nat):Nat:=
  let p:=l.getD 14 0
  let q:=l.getD 1 0
  (((l.getD 15 0+(rtN p 1^^^rtN p 8^^^p / 2^7)) % n64+l.getD 6 0) % n64+(rtN q 19^^^rtN q 61^^^q / 2^6)) % n64
def Z0n (b:Nat→Nat):Nat→List Nat
  |0=>[]
  |i+1=>(if i<16 then V5a b i 8 else sgN (Z0n b i))::Z0n b i
theorem Y3k (l:List UInt8):∀i,∀j,j<i→Wn (K0 (bt l) i j) ((Z0n (bN l) i).getD (i-1-j) 0)
  |0,_,h=>by omega
  |i+1,j,h=>by
    have ih:=Y3k l i;show Wn (upd (K0 (bt l) i) i (if i<16 then wrd (bt l) i 8 else sg (K0 (bt l) i) i) j) _;unfold upd Z0n
    by_cases e:j=i
    · subst e
      rw[if_pos rfl,show j+1-1-j=0 by omega,List.getD_cons_zero]
      by_cases h16:j<16
      · rw[if_pos h16,if_pos h16];exact Y3j l j 8
      · rw[if_neg h16,if_neg h16]
        have g:∀m,m<16→Wn (K0 (bt l) j (j-(m+1))) ((Z0n (bN l) j).getD m 0):=fun m hm=>by
          have:=ih (j-(m+1)) (by omega)
          rwa [show j-1-(j-(m+1))=m by omega] at this
        have D:=g 14 (by decide);have g1:=g 1 (by decide);exact(((g 15 (by decide)).ad (((D.rt 1).xo (D.rt 8)).xo (D.sr 7))).ad (g 6 (by decide))).ad (((g1.rt 19).xo (g1.rt 61)).xo (g1.sr 6))
    · rw[if_neg e,show i+1-1-j=(i-1-j)+1 by omega,List.getD_cons_succ]
      exact ih j (by omega)
/-! ### The rounds -/
abbrev S8:=Nat×Nat×Nat×Nat×Nat×Nat×Nat×Nat
def K0t (k w:Nat):S8→S8
  |(a,b,c,d,e,f,g,h)=>
    let t:=((((h+(rtN e 14^^^rtN e 18^^^rtN e 41)) % n64+((e &&& f)^^^((18446744073709551615^^^e) &&& g))) % n64+k) % n64+w) % n64
    let u:=((rtN a 28^^^rtN a 34^^^rtN a 39)+((a &&& b)^^^(a &&& c)^^^(b &&& c))) % n64
    ((t+u) % n64,a,b,c,(d+t) % n64,e,f,g)
def Wn8 (v:Nat→Int):S8→Prop
  |(a,b,c,d,e,f,g,h)=>Wn (v 0) a∧Wn (v 1) b∧Wn (v 2) c∧Wn (v 3) d∧Wn (v 4) e∧Wn (v 5) f∧Wn (v 6) g∧Wn (v 7) h
theorem V5b {k w v:Nat→Int}{i kn wn:Nat}{s:S8}(hk:Wn (k i) kn)(hw:Wn (w i) wn)(h:Wn8 v s):Wn8 (rnd k w i v) (K0t kn wn s):=by
  obtain⟨a,b,c,d,e,f,g,h'⟩:=s;obtain⟨h0,h1,h2,h3,h4,h5,h6,h7⟩:=h;have hT:Wn (rT k w i v) _:=(((h7.ad (((h4.rt 14).xo (h4.rt 18)).xo (h4.rt 41))).ad ((h4.an h5).xo (h4.nt.an h6))).ad hk).ad hw;have hU:Wn (rU v) _:=(((h0.rt 28).xo (h0.rt 34)).xo (h0.rt 39)).ad (((h0.an h1).xo (h0.an h2)).xo (h1.an h2));exact⟨hT.ad hU,h0,h1,h2,h3.ad hT,h4,h5,h6⟩
def kkN (i:Nat):Nat:=(kk.getD i 0).toNat
theorem K0u (i:Nat)(h:i<80):Wn (kf i) (kkN i):=by
  have D:((List.range 80).all fun i=>decide (kf i=(kkN i:Int)) && decide (kkN i<2^64))=true:=by decide+kernel
  have:=List.all_eq_true.1 D i (List.mem_range.2 h);simp only[Bool.and_eq_true,decide_eq_true_eq] at this;exact this
def Z60 (W:List Nat)(s:S8):Nat→S8
  |0=>s
  |i+1=>K0t (kkN i) (W.getD (79-i) 0) (Z60 W s i)
theorem Z61 {l:List UInt8}{v:Nat→Int}{s:S8}(h:Wn8 v s):∀i,i≤80→Wn8 (V0 kf (K0 (bt l) 80) v i) (Z60 (Z0n (bN l) 80) s i)
  |0,_=>h
  |i+1,hi=>V5b (K0u i (by omega)) (by have:=Y3k l 80 i (by omega);rwa [show 80-1-i=79-i by omega] at this) (Z61 h i (by omega))
def V5c (l:List UInt8)(s:S8):S8:=
  match s,Z60 (Z0n (bN l) 80) s 80 with
  |(a,b,c,d,e,f,g,h),(a',b',c',d',e',f',g',h')=>((a+a') % n64,(b+b') % n64,(c+c') % n64,(d+d') % n64,(e+e') % n64,(f+f') % n64,(g+g') % n64,(h+h') % n64)
theorem V5d {l:List UInt8}{v:Nat→Int}{s:S8}(h:Wn8 v s):Wn8 (prs v (bt l)) (V5c l s):=by
  have h2:=Z61 (l:=l) h 80 (Nat.le_refl _);unfold V5c;generalize Z60 (Z0n (bN l) 80) s 80=s2 at*;obtain⟨a,b,c,d,e,f,g,h'⟩:=s;obtain⟨a2,b2,c2,d2,e2,f2,g2,k2⟩:=s2;obtain⟨h0,h1,D,h3,h4,h5,h6,h7⟩:=h;obtain⟨k0,k1,G,k3,k4,k5,k6,k7⟩:=h2;exact⟨h0.ad k0,h1.ad k1,D.ad G,h3.ad k3,h4.ad k4,h5.ad k5,h6.ad k6,h7.ad k7⟩
def H0N:S8:=(7640891576956012808,13503953896175478587,4354685564936845355,11912009170470909681,5840696475078001361,11170449401992604703,2270897969802886507,6620516959819538809)
theorem K0v:Wn8 hf H0N:=by refine⟨⟨?_,?_⟩,⟨?_,?_⟩,⟨?_,?_⟩,⟨?_,?_⟩,⟨?_,?_⟩,⟨?_,?_⟩,⟨?_,?_⟩,⟨?_,?_⟩⟩<;>decide+kernel
def HsN (P:List UInt8):Nat→S8
  |0=>H0N
  |j+1=>V5c (P.drop (128*j)) (HsN P j)
theorem V0t (P:List UInt8):∀j,Wn8 (Hs P j) (HsN P j)
  |0=>K0v
  |j+1=>V5d (V0t P j)
def wle (a:Nat):Nat:=a / 2^56 % 256+256*(a / 2^48 % 256+256*(a / 2^40 % 256+256*(a / 2^32 % 256+256*(a / 2^24 % 256+256*(a / 2^16 % 256+256*(a / 2^8 % 256+256*(a % 256)))))))
def K3f:S8→Nat
  |(a,b,c,d,e,f,g,h)=>wle a+256^(8*1)*wle b+256^(8*2)*wle c+256^(8*3)*wle d+256^(8*4)*wle e+256^(8*5)*wle f+256^(8*6)*wle g+256^(8*7)*wle h
def Y07 (F:List UInt8):Nat:=K3f (HsN (pad F) (nb F.length))
theorem Q6s:∀l m:List UInt8,le (l++m)=le l+256^l.length*le m
  |[],m=>by simp[le]
  |x::r,m=>by
    show x.toNat+256*le (r++m)=x.toNat+256*le r+_;rw[Q6s r m,List.length_cons,Nat.pow_succ,Nat.mul_add,←Nat.mul_assoc,Nat.mul_comm 256 (256^r.length),Nat.add_assoc]
theorem Q2u {H:Nat→Int}{a i:Nat}(h:Wn (H i) a)(k:Nat)(hk:k<8):(bo H (8*i+k)).toNat=a / 2^(8*(7-k)) % 256:=by
  have e:=V0i H (8*i+k);have h2:=(h.sr (8*(7-k))).1;unfold ob at e;rw[show(8*i+k) / 8=i by omega,show(8*i+k) % 8=k by omega,h2] at e;generalize a / 2^(8*(7-k))=z at*;unfold w8 at e;rw[IntKind.wrap_u8] at e;omega
theorem Q2v {H:Nat→Int}{a i:Nat}(h:Wn (H i) a):le (wb H (8*(i+1)))=le (wb H (8*i))+256^(8*i)*wle a:=by
  rw[←Y7r];simp only[List.append_assoc,List.cons_append,List.nil_append];rw[Q6s,Q6o]
  congr 2
  unfold wle;simp only[le];rw[Q2u h 0 (by decide),Q2u h 1 (by decide),Q2u h 2 (by decide),Q2u h 3 (by decide),Q2u h 4 (by decide),Q2u h 5 (by decide),Q2u h 6 (by decide),Q2u h 7 (by decide)];simp only[Nat.mul_zero,Nat.add_zero,Nat.sub_zero,Nat.reduceMul,Nat.reduceSub,Nat.pow_zero,Nat.div_one]
theorem V5e (F:List UInt8):hs F=Y07 F:=by
  have h:=V0t (pad F) (nb F.length);unfold hs smb Y07;generalize HsN (pad F) (nb F.length)=s at*;generalize Hs (pad F) (nb F.length)=H at*;obtain⟨a,b,c,d,e,f,g,k⟩:=s;obtain⟨h0,h1,h2,h3,h4,h5,h6,h7⟩:=h;have z:le (wb H (8*0))=0:=rfl;show le (wb H (8*(7+1)))=_;rw[Q2v h7,Q2v h6,Q2v h5,Q2v h4,Q2v h3,Q2v h2,Q2v h1,Q2v h0,z];show _=wle a+256^(8*1)*wle b+256^(8*2)*wle c+256^(8*3)*wle d+256^(8*4)*wle e+256^(8*5)*wle f+256^(8*6)*wle g+256^(8*7)*wle k;rw[Nat.mul_zero,Nat.pow_zero,Nat.one_mul,Nat.zero_add]
end

section
open Sc (LL J0v)
theorem Z1z {s:Q4}{a:Pr}{x y:Nat}(h:RQ4 s a)(ex:x*s.2.2.1 % PP=s.1)(ey:y*s.2.2.1 % PP=s.2.1):a=(fp x,fp y):=by
  obtain⟨hz,hx,hy,_⟩:=h.rc;rw[←ex,J15,J0o] at hx;rw[←ey,J15,J0o] at hy;have hi:=J1c hz;have e1:a.1=fp x:=by grind
  have e2:a.2=fp y:=by grind
  exact Prod.ext e1 e2
theorem Q3k {x y:Nat}(hx:x<PP)(hy:y<PP):enc (fp x,fp y)=y+2^255*(x % 2):=by
  show(fp y).val+2^255*((fp x).val % 2)=_;rw[Q8d,Q8d,Nat.mod_eq_of_lt hx,Nat.mod_eq_of_lt hy]
theorem Y08 {n x y e:Nat}(hn:n<2^256)(hx:x<PP)(hy:y<PP)(h:(x*(tmN BQ n 256).2.2.1 % PP=(tmN BQ n 256).1∧y*(tmN BQ n 256).2.2.1 % PP=(tmN BQ n 256).2.1))(he:y+2^255*(x % 2)=e):enc (pm BP n)=e:=by
  rw[Z1z (Z20 Y7w hn) h.1 h.2,Q3k hx hy,he]
theorem Q7k {F:List UInt8}{h:Nat}(e:Y07 F=h):hs F=h:=(V5e F).trans e
end

section
set_option maxHeartbeats 1500000
attribute [local irreducible] wpList Y8 wpX
variable {kn : Kn}

theorem J3p (w:World):
  Calls Tryz.prog 155 #[] w fun e w' =>K7 (L4 1) w w' e:=by
 have hS:=SH.nil [] w
 go_enter Tryz.func155,Tryz.ntmps155
 go_upto_region 0 with fail;refine RL hS ?_;clear hS;refine MN (z:=c4 0) (t:=152) ?_;intro D;refine MZ fun W hS=> ?_;go_upto_region 1 with fail;refine RL hS ?_;clear hS;refine MC (v:=.agg (c4 1)) (fun W hS=>Y74 1 (by decide) W) ?_;refine MR 0 ?_;refine MZ fun W hS=> ?_;go_wp2;exact bodyPost_ret (Z7 rfl rfl (hS.blk (i:=0) rfl) (by kernel_rfl) (by kernel_rfl)) rfl ⟨rfl,hS.ext⟩
theorem V04 {X Y:Nat}(hX:X<PP)(hY:Y<PP)(on:OnC (fp X,fp Y)):
  ∃T,RN X Y 1 T (fp X,fp Y)∧∀w,GE kn w→Calls Tryz.prog 112 #[L4 X,L4 Y] w fun e w' =>K7 (.agg (p4 X Y 1 T)) w w' e:=by
 have G:=K9 X Y (Z0 hX) (Z0 hY);obtain⟨N1,D⟩:=exn (X*Y % PP);rw[←D] at G;have M:=bpp D;have S:=Z0 M;have J:=Lib.hid D;clear D;refine⟨N1,Z4c hX hY on J.out,fun w hG=> ?_⟩;have hS:=SH.nil [] w
 go_enter Tryz.func112,Tryz.ntmps112
 go_upto_region 0 with fail;refine RL hS ?_;clear hS;refine MN (z:=c4 X) (t:=152) ?_;intro V5;refine MN (z:=c4 Y) (t:=152) ?_;intro R;refine MN (z:=p4 0 0 0 0) (t:=154) ?_;intro N;refine MZ fun W hS=> ?_;go_upto_region 1 with fail;refine RX 7 hS ?_;clear hS;refine ML 2 ?_;refine ML 1 ?_;refine MC (v:=.agg (c4 1)) (fun W hS=>J3p W) ?_;refine ML 2 ?_;refine ML 1 ?_;refine MC (v:=.agg (c4 N1)) (fun W hS=>G W (J8 hG hS.ext).1) ?_;refine MW ?_ (v:=.agg (p4 X Y 1 N1)) (hv:=by intro W;kernel_rfl);refine MZt ?_;refine MR 0 ?_;refine MZn fun W hS=> ?_;go_wp2;exact bodyPost_ret (Z7 rfl rfl (hS.blk (i:=0) rfl) (by kernel_rfl) (by kernel_rfl)) rfl ⟨rfl,hS.ext⟩
theorem Y27 {X1 Y1 Z1 T1:Nat}(hb:Z1<Q7)(hz:Z1≠0)(w:World)(hG:GE kn w):
  Calls Tryz.prog 113 #[.agg (p4 X1 Y1 Z1 T1)] w fun e w' =>K7 (.agg (p4 X1 Y1 Z1 T1)) w w' e:=by
 have hS:=SH.nil [] w
 go_enter Tryz.func113,Tryz.ntmps113
 go_upto_region 0 with fail;refine RL hS ?_;clear hS;refine MN (z:=p4 X1 Y1 Z1 T1) (t:=154) ?_;intro J;refine MN (z:=p4 0 0 0 0) (t:=154) ?_;intro G;refine MZ fun W hS=> ?_;go_upto_region 1 with fail;refine RL hS ?_;clear hS;refine MV ?_;refine Ml 1 J8e ?_;refine MW ?_ (v:=.agg (c4 0)) (hv:=by intro W;kernel_rfl);have D:=V42 Z1 0 hb (by decide);rw[decide_eq_false hz] at D;refine MW ?_ (v:=.bool false) (hv:=fun _=>J8x ((D) _) (by kernel_rfl) rfl rfl rfl);refine MZ fun W hS=> ?_;go_upto_region 3 with fail;refine RL hS ?_;clear hS;refine ML 1 ?_;refine MR 0 ?_;refine MZ fun W hS=> ?_;go_wp2;exact bodyPost_ret (Z7 rfl rfl (hS.blk (i:=0) rfl) (by kernel_rfl) (by kernel_rfl)) rfl ⟨rfl,hS.ext⟩
theorem Y28 {X1 Y1 T1:Nat}(w:World)(hG:GE kn w):
  Calls Tryz.prog 113 #[.agg (p4 X1 Y1 0 T1)] w fun e w' =>K7 (.agg (p4 0 1 1 0)) w w' e:=by
 have hS:=SH.nil [] w
 go_enter Tryz.func113,Tryz.ntmps113
 go_upto_region 0 with fail;refine RL hS ?_;clear hS;refine MN (z:=p4 X1 Y1 0 T1) (t:=154) ?_;intro J;refine MN (z:=p4 0 0 0 0) (t:=154) ?_;intro G;refine MZ fun W hS=> ?_;go_upto_region 1 with fail;refine RL hS ?_;clear hS;refine MV ?_;refine Ml 1 J8e ?_;refine MW ?_ (v:=.agg (c4 0)) (hv:=by intro W;kernel_rfl);have D:=V42 0 0 (by decide) (by decide);rw[decide_eq_true rfl] at D;refine MW ?_ (v:=.bool true) (hv:=fun _=>J8x ((D) _) (by kernel_rfl) rfl rfl rfl);refine MZ fun W hS=> ?_;go_upto_region 2 with fail;refine RL hS ?_;clear hS;refine MC (v:=.agg (c4 1)) (fun W hS=>J3p W) ?_;refine MC (v:=.agg (c4 1)) (fun W hS=>J3p W) ?_;refine MW ?_ (v:=.agg (p4 0 1 1 0)) (hv:=by intro W;kernel_rfl);refine MR 0 ?_;refine MZ fun W hS=> ?_;go_wp2;exact bodyPost_ret (Z7 rfl rfl (hS.blk (i:=0) rfl) (by kernel_rfl) (by kernel_rfl)) rfl ⟨rfl,hS.ext⟩
theorem J4x {X Y Z T:Nat}{a:Pr}(h:RW X Y Z T a):∃X' Y' Z' T',RN X' Y' Z' T' a∧∀w,GE kn w→Calls Tryz.prog 113 #[.agg (p4 X Y Z T)] w fun e w' =>K7 (.agg (p4 X' Y' Z' T')) w w' e:=by
 rcases h.cases with⟨hz,h1⟩|⟨rfl,rfl⟩
 ·
  exact⟨X,Y,Z,T,h1,fun w hG=>Y27 h.z hz w hG⟩
 exact⟨0,1,1,0,V05,fun w hG=>Y28 w hG⟩
theorem Q1g {X1 Y1 Z1 T1:Nat}{p1:Pr}(h1:RN X1 Y1 Z1 T1 p1):
  ∃X Y Z T,RN X Y Z T (J1r p1 p1)∧∀w,GE kn w→Calls Tryz.prog 114 #[.agg (p4 X1 Y1 Z1 T1)] w fun e w' =>K7 (.agg (p4 X Y Z T)) w w' e:=by
 have D1:=K9 X1 X1 (Z0 h1.x) (Z0 h1.x);obtain⟨N1,β⟩:=exn (X1*X1 % PP);rw[←β] at D1;have N0:=bpp β;have D4:=Z0 N0;have R4:=Lib.hid β;clear β;have ρ:=K9 Y1 Y1 (Z0 h1.y) (Z0 h1.y);obtain⟨N2,U⟩:=exn (Y1*Y1 % PP);rw[←U] at ρ;have R1:=bpp U;have D3:=Z0 R1;have R3:=Lib.hid U;clear U;have D0:=K9 Z1 Z1 (Z0 h1.z) (Z0 h1.z);obtain⟨N3,θ⟩:=exn (Z1*Z1 % PP);rw[←θ] at D0;have M9:=bpp θ;have D5:=Z0 M9;have G8:=Lib.hid θ;clear θ;have σ:=J5b N3 N3 D5 D5;obtain⟨N4,γ⟩:=exn ((N3+N3) % PP);rw[←γ] at σ;have G9:=bpp γ;have M5:=Z0 G9;have M0:=Lib.hid γ;clear γ;have Ω:=J5b N1 N2 D4 D3;obtain⟨N5,ε⟩:=exn ((N1+N2) % PP);rw[←ε] at Ω;have R2:=bpp ε;have τ:=Z0 R2;have M8:=Lib.hid ε;clear ε;have ω:=J5b X1 Y1 (Z0 h1.x) (Z0 h1.y);obtain⟨N6,V⟩:=exn ((X1+Y1) % PP);rw[←V] at ω;have M4:=bpp V;have D6:=Z0 M4;have R5:=Lib.hid V;clear V;have ξ:=K9 N6 N6 D6 D6;obtain⟨N7,δ⟩:=exn (N6*N6 % PP);rw[←δ] at ξ;have M7:=bpp δ;have M2:=Z0 M7;have M6:=Lib.hid δ;clear δ;have χ:=J93 N5 N7 τ M2;obtain⟨N8,κ⟩:=exn ((N5+(PP-N7 % PP)) % PP);rw[←κ] at χ;have R0:=bpp κ;have D7:=Z0 R0;have R6:=Lib.hid κ;clear κ;have Δ:=J93 N1 N2 D4 D3;obtain⟨N9,ν⟩:=exn ((N1+(PP-N2 % PP)) % PP);rw[←ν] at Δ;have M3:=bpp ν;have φ:=Z0 M3;have M1:=Lib.hid ν;clear ν;have S:=J5b N4 N9 M5 φ;obtain⟨R,J⟩:=exn ((N4+N9) % PP);rw[←J] at S;have D9:=bpp J;have ψ:=Z0 D9;have G5:=Lib.hid J;clear J;have η:=K9 N8 R D7 ψ;obtain⟨Ψ,G⟩:=exn (N8*R % PP);rw[←G] at η;have G1:=bpp G;have R9:=Z0 G1;have D8:=Lib.hid G;clear G;have ζ:=K9 N9 N5 φ τ;obtain⟨Γ,M⟩:=exn (N9*N5 % PP);rw[←M] at ζ;have G2:=bpp M;have R8:=Z0 G2;have G7:=Lib.hid M;clear M;have α:=K9 R N9 ψ φ;obtain⟨Ξ,N⟩:=exn (R*N9 % PP);rw[←N] at α;have G0:=bpp N;have R7:=Z0 G0;have G3:=Lib.hid N;clear N;have μ:=K9 N8 N5 D7 τ;obtain⟨Θ,D⟩:=exn (N8*N5 % PP);rw[←D] at μ;have G6:=bpp D;have S3:=Z0 G6;have G4:=Lib.hid D;clear D;refine⟨Ψ,Γ,Ξ,Θ,Z0c h1 R4.out R3.out G8.out M0.out M8.out R5.out M6.out R6.out M1.out G5.out D8.out G7.out G3.out G4.out,fun w hG=> ?_⟩;have hS:=SH.nil [] w
 go_enter Tryz.func114,Tryz.ntmps114
 go_upto_region 0 with fail;refine RL hS ?_;clear hS;refine MN (z:=p4 X1 Y1 Z1 T1) (t:=154) ?_;intro S5;refine MN (z:=p4 0 0 0 0) (t:=154) ?_;intro T2;refine MZ fun W hS=> ?_;go_upto_region 1 with fail;refine RXn 10 [⟨10,3,c4 0,152⟩,⟨11,4,c4 0,152⟩] hS ?_ (by simp only[List.forall_mem_cons];exact⟨⟨_,rfl,rfl,rfl,fun _ _=>by kernel_rfl⟩,⟨_,rfl,rfl,rfl,fun _ _=>by kernel_rfl⟩,fun _ h=>by cases h⟩);clear hS;refine MV ?_;refine Ml 1 Q0n ?_;refine MV ?_;refine Ml 1 Q0n ?_;refine MC (v:=.agg (c4 N1)) (fun W hS=>D1 W (J8 hG hS.ext).1) ?_;refine MV ?_;refine Ml 1 Q3b ?_;refine MV ?_;refine Ml 1 Q3b ?_;refine MC (v:=.agg (c4 N2)) (fun W hS=>ρ W (J8 hG hS.ext).1) ?_;refine MZB fun T7=> ?_;refine MR 0 ?_;refine MR 1 ?_;refine MZn fun W hS=> ?_;go_upto_region 2 with fail;refine RL hS ?_;clear hS;refine MV ?_;refine Ml 3 J8e ?_;refine MV ?_;refine Ml 3 J8e ?_;refine MC (v:=.agg (c4 N3)) (fun W hS=>D0 W (J8 hG hS.ext).1) ?_;refine MN (z:=c4 0) (t:=152) ?_;intro S6;refine MR 0 ?_;refine MZ fun W hS=> ?_;go_upto_region 3 with fail;refine RL hS ?_;clear hS;refine ML 0 ?_;refine ML 0 ?_;refine MC (v:=.agg (c4 N4)) (fun W hS=>σ W (J8 hG hS.ext).1) ?_;refine MR 0 ?_;refine MZ fun W hS=> ?_;go_upto_region 4 with fail;refine RL hS ?_;clear hS;refine ML 1 ?_;refine ML 2 ?_;refine MC (v:=.agg (c4 N5)) (fun W hS=>Ω W (J8 hG hS.ext).1) ?_;refine MN (z:=c4 0) (t:=152) ?_;intro S4;refine MR 0 ?_;refine MZ fun W hS=> ?_;go_upto_region 5 with fail;refine RL hS ?_;clear hS;refine MV ?_;refine Ml 5 Q0n ?_;refine MV ?_;refine Ml 5 Q3b ?_;refine MC (v:=.agg (c4 N6)) (fun W hS=>ω W (J8 hG hS.ext).1) ?_;refine MN (z:=c4 0) (t:=152) ?_;intro T5;refine MR 0 ?_;refine MZ fun W hS=> ?_;go_upto_region 6 with fail;refine RXn 5 [⟨5,8,c4 0,152⟩] hS ?_ (by simp only[List.forall_mem_cons];exact⟨⟨_,rfl,rfl,rfl,fun _ _=>by kernel_rfl⟩,fun _ h=>by cases h⟩);clear hS;refine ML 1 ?_;refine ML 0 ?_;refine ML 0 ?_;refine MC (v:=.agg (c4 N7)) (fun W hS=>ξ W (J8 hG hS.ext).1) ?_;refine MC (v:=.agg (c4 N8)) (fun W hS=>χ W (J8 hG hS.ext).1) ?_;refine MZB fun T6=> ?_;refine MR 0 ?_;refine MZn fun W hS=> ?_;go_upto_region 7 with fail;refine RL hS ?_;clear hS;refine ML 4 ?_;refine ML 5 ?_;refine MC (v:=.agg (c4 N9)) (fun W hS=>Δ W (J8 hG hS.ext).1) ?_;refine MN (z:=c4 0) (t:=152) ?_;intro S9;refine MR 0 ?_;refine MZ fun W hS=> ?_;go_upto_region 8 with fail;refine RL hS ?_;clear hS;refine ML 4 ?_;refine ML 0 ?_;refine MC (v:=.agg (c4 R)) (fun W hS=>S W (J8 hG hS.ext).1) ?_;refine MN (z:=c4 0) (t:=152) ?_;intro S7;refine MR 0 ?_;refine MZ fun W hS=> ?_;go_upto_region 9 with fail;refine RX 13 hS ?_;clear hS;refine ML 2 ?_;refine ML 0 ?_;refine MC (v:=.agg (c4 Ψ)) (fun W hS=>η W (J8 hG hS.ext).1) ?_;refine ML 1 ?_;refine ML 4 ?_;refine MC (v:=.agg (c4 Γ)) (fun W hS=>ζ W (J8 hG hS.ext).1) ?_;refine ML 0 ?_;refine ML 1 ?_;refine MC (v:=.agg (c4 Ξ)) (fun W hS=>α W (J8 hG hS.ext).1) ?_;refine ML 2 ?_;refine ML 4 ?_;refine MC (v:=.agg (c4 Θ)) (fun W hS=>μ W (J8 hG hS.ext).1) ?_;refine MW ?_ (v:=.agg (p4 Ψ Γ Ξ Θ)) (hv:=by intro W;kernel_rfl);refine MZt ?_;refine MR 8 ?_;refine MZn fun W hS=> ?_;go_wp2;exact bodyPost_ret (Z7 rfl rfl (hS.blk (i:=8) rfl) (by kernel_rfl) (by kernel_rfl)) rfl ⟨rfl,hS.ext⟩
theorem V44 (hd:kn.d){X1 Y1 Z1 T1:Nat}{p1:Pr}{X2 Y2 Z2 T2:Nat}{p2:Pr}(h1:RW X1 Y1 Z1 T1 p1)(h2:RW X2 Y2 Z2 T2 p2):
  ∃X Y Z T,RN X Y Z T (J1r p1 p2)∧∀w,GE kn w→Calls Tryz.prog 71 #[.agg (p4 X1 Y1 Z1 T1),.agg (p4 X2 Y2 Z2 T2)] w fun e w' =>K7 (.agg (p4 X Y Z T)) w w' e:=by
 obtain⟨x1,y2,z3,t4,r5,c6⟩:=J4x (kn:=kn) h1;obtain⟨x7,y8,z9,M8,D,c12⟩:=J4x (kn:=kn) h2;have Ξ:=J93 y2 x1 (Z0 r5.y) (Z0 r5.x);obtain⟨M6,θ⟩:=exn ((y2+(PP-x1 % PP)) % PP);rw[←θ] at Ξ;have N9:=bpp θ;have N1:=Z0 N9;have X3:=Lib.hid θ;clear θ;have D9:=J93 y8 x7 (Z0 D.y) (Z0 D.x);obtain⟨M4,N⟩:=exn ((y8+(PP-x7 % PP)) % PP);rw[←N] at D9;have Y7:=bpp N;have Z4:=Z0 Y7;have Y4:=Lib.hid N;clear N;have D1:=K9 M6 M4 N1 Z4;obtain⟨ψ,ε⟩:=exn (M6*M4 % PP);rw[←ε] at D1;have T8:=bpp ε;have N0:=Z0 T8;have N8:=Lib.hid ε;clear ε;have D3:=J5b y2 x1 (Z0 r5.y) (Z0 r5.x);obtain⟨M9,U⟩:=exn ((y2+x1) % PP);rw[←U] at D3;have Z3:=bpp U;have R0:=Z0 Z3;have X4:=Lib.hid U;clear U;have Ω:=J5b y8 x7 (Z0 D.y) (Z0 D.x);obtain⟨M1,ζ⟩:=exn ((y8+x7) % PP);rw[←ζ] at Ω;have N6:=bpp ζ;have R5:=Z0 N6;have R6:=Lib.hid ζ;clear ζ;have D8:=K9 M9 M1 R0 R5;obtain⟨ρ,δ⟩:=exn (M9*M1 % PP);rw[←δ] at D8;have R1:=bpp δ;have M5:=Z0 R1;have N7:=Lib.hid δ;clear δ;have G0:=K9 t4 D2 (Z0 r5.t) V9k;obtain⟨G8,η⟩:=exn (t4*D2 % PP);rw[←η] at G0;have R2:=bpp η;have Y3:=Z0 R2;have R8:=Lib.hid η;clear η;have D5:=K9 G8 M8 Y3 (Z0 D.t);obtain⟨ξ,α⟩:=exn (G8*M8 % PP);rw[←α] at D5;have S9:=bpp α;have M0:=Z0 S9;have R4:=Lib.hid α;clear α;have Γ:=J5b z3 z3 (Z0 r5.z) (Z0 r5.z);obtain⟨G4,J⟩:=exn ((z3+z3) % PP);rw[←J] at Γ;have S5:=bpp J;have N2:=Z0 S5;have R3:=Lib.hid J;clear J;have D6:=K9 G4 z9 N2 (Z0 D.z);obtain⟨σ,β⟩:=exn (G4*z9 % PP);rw[←β] at D6;have lN22:=bpp β;have G7:=Z0 lN22;have HN22:=Lib.hid β;clear β;have Ψ:=J93 ρ ψ M5 N0;obtain⟨ν,G⟩:=exn ((ρ+(PP-ψ % PP)) % PP);rw[←G] at Ψ;have T6:=bpp G;have G3:=Z0 T6;have S4:=Lib.hid G;clear G;have D4:=J93 σ ξ G7 M0;obtain⟨φ,S⟩:=exn ((σ+(PP-ξ % PP)) % PP);rw[←S] at D4;have X0:=bpp S;have G2:=Z0 X0;have T5:=Lib.hid S;clear S;have G1:=J5b σ ξ G7 M0;obtain⟨τ,γ⟩:=exn ((σ+ξ) % PP);rw[←γ] at G1;have T7:=bpp γ;have G6:=Z0 T7;have V4:=Lib.hid γ;clear γ;have Θ:=J5b ρ ψ M5 N0;obtain⟨χ,V⟩:=exn ((ρ+ψ) % PP);rw[←V] at Θ;have R7:=bpp V;have G9:=Z0 R7;have S6:=Lib.hid V;clear V;have D0:=K9 ν φ G3 G2;obtain⟨G5,κ⟩:=exn (ν*φ % PP);rw[←κ] at D0;have S7:=bpp κ;have bN27:=Z0 S7;have N3:=Lib.hid κ;clear κ;have D7:=K9 τ χ G6 G9;obtain⟨M7,R⟩:=exn (τ*χ % PP);rw[←R] at D7;have N5:=bpp R;have bN28:=Z0 N5;have T9:=Lib.hid R;clear R;have ω:=K9 φ τ G2 G6;obtain⟨M2,μ⟩:=exn (φ*τ % PP);rw[←μ] at ω;have R9:=bpp μ;have bN29:=Z0 R9;have HN29:=Lib.hid μ;clear μ;have Δ:=K9 ν χ G3 G9;obtain⟨M3,M⟩:=exn (ν*χ % PP);rw[←M] at Δ;have S3:=bpp M;have bN30:=Z0 S3;have N4:=Lib.hid M;clear M;refine⟨G5,M7,M2,M3,Y29 r5 D X3.out Y4.out N8.out X4.out R6.out N7.out R8.out R4.out R3.out HN22.out S4.out T5.out V4.out S6.out N3.out T9.out HN29.out N4.out,fun w hG=> ?_⟩;have hS:=SH.nil [] w
 go_enter Tryz.func71,Tryz.ntmps71
 go_upto_region 0 with fail;refine RL hS ?_;clear hS;refine MN (z:=p4 X1 Y1 Z1 T1) (t:=154) ?_;intro V5;refine MN (z:=p4 X2 Y2 Z2 T2) (t:=154) ?_;intro J2c;refine MN (z:=p4 0 0 0 0) (t:=154) ?_;intro Z2d;refine MZ fun W hS=> ?_;go_upto_region 1 with fail;refine RX 4 hS ?_;clear hS;refine ML 2 ?_;refine MC (v:=.agg (p4 x1 y2 z3 t4)) (fun W hS=>c6 W (J8 hG hS.ext)) ?_;refine ML 1 ?_;refine MC (v:=.agg (p4 x7 y8 z9 M8)) (fun W hS=>c12 W (J8 hG hS.ext)) ?_;refine MZt ?_;refine MR 2 ?_;refine MR 1 ?_;refine MZn fun W hS=> ?_;go_upto_region 2 with fail;refine RXn 11 [⟨11,5,c4 0,152⟩] hS ?_ (by simp only[List.forall_mem_cons];exact⟨⟨_,rfl,rfl,rfl,fun _ _=>by kernel_rfl⟩,fun _ h=>by cases h⟩);clear hS;refine MV ?_;refine Ml 2 Q3b ?_;refine MV ?_;refine Ml 2 Q0n ?_;refine MC (v:=.agg (c4 M6)) (fun W hS=>Ξ W (J8 hG hS.ext).1) ?_;refine MV ?_;refine Ml 1 Q3b ?_;refine MV ?_;refine Ml 1 Q0n ?_;refine MC (v:=.agg (c4 M4)) (fun W hS=>D9 W (J8 hG hS.ext).1) ?_;refine MC (v:=.agg (c4 ψ)) (fun W hS=>D1 W (J8 hG hS.ext).1) ?_;refine MZB fun β4=> ?_;refine MR 0 ?_;refine MZn fun W hS=> ?_;go_upto_region 3 with fail;refine RXn 11 [⟨11,6,c4 0,152⟩] hS ?_ (by simp only[List.forall_mem_cons];exact⟨⟨_,rfl,rfl,rfl,fun _ _=>by kernel_rfl⟩,fun _ h=>by cases h⟩);clear hS;refine MV ?_;refine Ml 3 Q3b ?_;refine MV ?_;refine Ml 3 Q0n ?_;refine MC (v:=.agg (c4 M9)) (fun W hS=>D3 W (J8 hG hS.ext).1) ?_;refine MV ?_;refine Ml 2 Q3b ?_;refine MV ?_;refine Ml 2 Q0n ?_;refine MC (v:=.agg (c4 M1)) (fun W hS=>Ω W (J8 hG hS.ext).1) ?_;refine MC (v:=.agg (c4 ρ)) (fun W hS=>D8 W (J8 hG hS.ext).1) ?_;refine MZB fun β5=> ?_;refine MR 0 ?_;refine MZn fun W hS=> ?_;go_upto_region 4 with fail;refine RXn 7 [⟨7,7,c4 0,152⟩] hS ?_ (by simp only[List.forall_mem_cons];exact⟨⟨_,rfl,rfl,rfl,fun _ _=>by kernel_rfl⟩,fun _ h=>by cases h⟩);clear hS;refine MV ?_;refine Ml 4 V9l ?_;refine MF (v:=.agg (c4 D2)) (fun W hS=>J2a rfl rfl ((J8 hG hS.ext).2.2.2.1 hd) (by kernel_rfl) (by kernel_rfl)) ?_;refine MC (v:=.agg (c4 G8)) (fun W hS=>G0 W (J8 hG hS.ext).1) ?_;refine MV ?_;refine Ml 3 V9l ?_;refine MC (v:=.agg (c4 ξ)) (fun W hS=>D5 W (J8 hG hS.ext).1) ?_;refine MZB fun β6=> ?_;refine MR 0 ?_;refine MZn fun W hS=> ?_;go_upto_region 5 with fail;refine RXn 8 [⟨8,8,c4 0,152⟩] hS ?_ (by simp only[List.forall_mem_cons];exact⟨⟨_,rfl,rfl,rfl,fun _ _=>by kernel_rfl⟩,fun _ h=>by cases h⟩);clear hS;refine MV ?_;refine Ml 5 J8e ?_;refine MV ?_;refine Ml 5 J8e ?_;refine MC (v:=.agg (c4 G4)) (fun W hS=>Γ W (J8 hG hS.ext).1) ?_;refine MV ?_;refine Ml 4 J8e ?_;refine MC (v:=.agg (c4 σ)) (fun W hS=>D6 W (J8 hG hS.ext).1) ?_;refine MZB fun β7=> ?_;refine MR 0 ?_;refine MZn fun W hS=> ?_;go_upto_region 6 with fail;refine RXn 12 [⟨12,9,c4 0,152⟩,⟨13,10,c4 0,152⟩,⟨14,11,c4 0,152⟩,⟨15,12,c4 0,152⟩] hS ?_ (by simp only[List.forall_mem_cons];exact⟨⟨_,rfl,rfl,rfl,fun _ _=>by kernel_rfl⟩,⟨_,rfl,rfl,rfl,fun _ _=>by kernel_rfl⟩,⟨_,rfl,rfl,rfl,fun _ _=>by kernel_rfl⟩,⟨_,rfl,rfl,rfl,fun _ _=>by kernel_rfl⟩,fun _ h=>by cases h⟩);clear hS;refine ML 2 ?_;refine ML 3 ?_;refine MC (v:=.agg (c4 ν)) (fun W hS=>Ψ W (J8 hG hS.ext).1) ?_;refine ML 0 ?_;refine ML 1 ?_;refine MC (v:=.agg (c4 φ)) (fun W hS=>D4 W (J8 hG hS.ext).1) ?_;refine ML 0 ?_;refine ML 1 ?_;refine MC (v:=.agg (c4 τ)) (fun W hS=>G1 W (J8 hG hS.ext).1) ?_;refine ML 2 ?_;refine ML 3 ?_;refine MC (v:=.agg (c4 χ)) (fun W hS=>Θ W (J8 hG hS.ext).1) ?_;refine MZB fun β8=> ?_;refine MR 0 ?_;refine MR 1 ?_;refine MR 2 ?_;refine MR 3 ?_;refine MZn fun W hS=> ?_;go_upto_region 7 with fail;refine RX 13 hS ?_;clear hS;refine ML 0 ?_;refine ML 1 ?_;refine MC (v:=.agg (c4 G5)) (fun W hS=>D0 W (J8 hG hS.ext).1) ?_;refine ML 2 ?_;refine ML 3 ?_;refine MC (v:=.agg (c4 M7)) (fun W hS=>D7 W (J8 hG hS.ext).1) ?_;refine ML 1 ?_;refine ML 2 ?_;refine MC (v:=.agg (c4 M2)) (fun W hS=>ω W (J8 hG hS.ext).1) ?_;refine ML 0 ?_;refine ML 3 ?_;refine MC (v:=.agg (c4 M3)) (fun W hS=>Δ W (J8 hG hS.ext).1) ?_;refine MW ?_ (v:=.agg (p4 G5 M7 M2 M3)) (hv:=by intro W;kernel_rfl);refine MZt ?_;refine MR 8 ?_;refine MZn fun W hS=> ?_;go_wp2;exact bodyPost_ret (Z7 rfl rfl (hS.blk (i:=8) rfl) (by kernel_rfl) (by kernel_rfl)) rfl ⟨rfl,hS.ext⟩
theorem pm8 {a:Pr}(h:OnC a):pm a 8=J1r (J1r (J1r a a) (J1r a a)) (J1r (J1r a a) (J1r a a)):=by
 rw[show 8=2*(2*(2*1)) from rfl,J79 h,J79 h,J79 h,V45]
theorem Q1h {X1 Y1 Z1 T1:Nat}{p1:Pr}(h1:RW X1 Y1 Z1 T1 p1):
  ∃X Y Z T,RN X Y Z T (pm p1 8)∧∀w,GE kn w→Calls Tryz.prog 108 #[.agg (p4 X1 Y1 Z1 T1)] w fun e w' =>K7 (.agg (p4 X Y Z T)) w w' e:=by
 obtain⟨x1,y2,z3,t4,r5,c6⟩:=J4x (kn:=kn) h1;obtain⟨x7,y8,z9,U,R,S⟩:=Q1g (kn:=kn) r5;obtain⟨N,α,ε,ζ,β,δ⟩:=Q1g (kn:=kn) R;obtain⟨G,D,M,J,V,γ⟩:=Q1g (kn:=kn) β;refine⟨G,D,M,J,pm8 h1.on▸V,fun w hG=> ?_⟩;have hS:=SH.nil [] w
 go_enter Tryz.func108,Tryz.ntmps108
 go_upto_region 0 with fail;refine RL hS ?_;clear hS;refine MN (z:=p4 X1 Y1 Z1 T1) (t:=154) ?_;intro η;refine MN (z:=p4 0 0 0 0) (t:=154) ?_;intro θ;refine MZ fun W hS=> ?_;go_upto_region 1 with fail;refine RL hS ?_;clear hS;refine ML 1 ?_;refine MC (v:=.agg (p4 x1 y2 z3 t4)) (fun W hS=>c6 W (J8 hG hS.ext)) ?_;refine MC (v:=.agg (p4 x7 y8 z9 U)) (fun W hS=>S W (J8 hG hS.ext)) ?_;refine MC (v:=.agg (p4 N α ε ζ)) (fun W hS=>δ W (J8 hG hS.ext)) ?_;refine MC (v:=.agg (p4 G D M J)) (fun W hS=>γ W (J8 hG hS.ext)) ?_;refine MR 0 ?_;refine MZ fun W hS=> ?_;go_wp2;exact bodyPost_ret (Z7 rfl rfl (hS.blk (i:=0) rfl) (by kernel_rfl) (by kernel_rfl)) rfl ⟨rfl,hS.ext⟩
theorem Z5h (hb:kn.b):
  ∃X Y Z T,RN X Y Z T BP∧∀w,GE kn w→Calls Tryz.prog 69 #[] w fun e w' =>K7 (.agg (p4 X Y Z T)) w w' e:=by
 obtain⟨t1,r2,c3⟩:=V04 (kn:=kn) (X:=BX) (Y:=BY) (by decide) (by decide) Y2a;refine⟨BX,BY,1,t1,r2,fun w hG=> ?_⟩;have hS:=SH.nil [] w
 go_enter Tryz.func69,Tryz.ntmps69
 go_upto_region 0 with fail;refine RL hS ?_;clear hS;refine MN (z:=p4 0 0 0 0) (t:=154) ?_;intro D;refine MZ fun W hS=> ?_;go_upto_region 1 with fail;refine RL hS ?_;clear hS;refine MF (v:=.agg (c4 BX)) (fun W hS=>J2a rfl rfl ((J8 hG hS.ext).2.2.2.2.1 hb) (by kernel_rfl) (by kernel_rfl)) ?_;refine MF (v:=.agg (c4 BY)) (fun W hS=>J2a rfl rfl ((J8 hG hS.ext).2.2.2.2.2 hb) (by kernel_rfl) (by kernel_rfl)) ?_;refine MC (v:=.agg (p4 BX BY 1 t1)) (fun W hS=>c3 W (J8 hG hS.ext)) ?_;refine MR 0 ?_;refine MZ fun W hS=> ?_;go_wp2;exact bodyPost_ret (Z7 rfl rfl (hS.blk (i:=0) rfl) (by kernel_rfl) (by kernel_rfl)) rfl ⟨rfl,hS.ext⟩
end

section
set_option maxHeartbeats 1500000
attribute [local irreducible] wpList Y8 wpX
variable {kn : Kn}
theorem Z5i {A:Nat}(h:A<PP):A<2^256:=Nat.lt_trans h (by decide)
theorem V46 {X1 Y1 Z1 X2 Y2 Z2 m1 m2 m3 m4:Nat}{p q:Pr}(r1:RD X1 Y1 Z1 p)(r2:RD X2 Y2 Z2 q)(e1:m1=X1*Z2 % PP)(e2:m2=X2*Z1 % PP)(e3:m3=Y1*Z2 % PP)(e4:m4=Y2*Z1 % PP)(h1:m1=m2)(h2:m3=m4):decide (p=q)=true:=
 decide_eq_true ((Q55 r1 r2 e1 e2 e3 e4).1 ⟨h1,h2⟩)
theorem Y79 {X1 Y1 Z1 X2 Y2 Z2 m1 m2 m3 m4:Nat}{p q:Pr}(r1:RD X1 Y1 Z1 p)(r2:RD X2 Y2 Z2 q)(e1:m1=X1*Z2 % PP)(e2:m2=X2*Z1 % PP)(e3:m3=Y1*Z2 % PP)(e4:m4=Y2*Z1 % PP)(h1:¬m1=m2):decide (p=q)=false:=
 decide_eq_false fun h=>h1 ((Q55 r1 r2 e1 e2 e3 e4).2 h).1
theorem Y7a {X1 Y1 Z1 X2 Y2 Z2 m1 m2 m3 m4:Nat}{p q:Pr}(r1:RD X1 Y1 Z1 p)(r2:RD X2 Y2 Z2 q)(e1:m1=X1*Z2 % PP)(e2:m2=X2*Z1 % PP)(e3:m3=Y1*Z2 % PP)(e4:m4=Y2*Z1 % PP)(h1:¬m3=m4):decide (p=q)=false:=
 decide_eq_false fun h=>h1 ((Q55 r1 r2 e1 e2 e3 e4).2 h).2
theorem V9m {X Y Z i x y:Nat}{a:Pr}(r:RD X Y Z a)(ei:i=pw Z (PP-2))(ex:x=X*i % PP)(ey:y=Y*i % PP)(ho:x % 2=1):J0 .u8 32 (upd (J7 y) 31 (bits .or .u8 (J7 y 31) 128))=J0 .u8 32 (J7 (enc a)):=by
 obtain⟨h1,h2⟩:=Y2b r ei ex ey;rw[V9n (Nat.lt_trans (ey▸J5d _) Z2g)];unfold enc;rw[←h1,←h2,ho]
theorem V9o {X Y Z i x y:Nat}{a:Pr}(r:RD X Y Z a)(ei:i=pw Z (PP-2))(ex:x=X*i % PP)(ey:y=Y*i % PP)(ho:¬x % 2=1):J0 .u8 32 (J7 y)=J0 .u8 32 (J7 (enc a)):=by
 obtain⟨h1,h2⟩:=Y2b r ei ex ey;have:x % 2=0:=by omega
 unfold enc;rw[←h1,←h2,this,Nat.mul_zero,Nat.add_zero]

theorem Q8a {X1 Y1 Z1 T1:Nat}{p1:Pr}{X2 Y2 Z2 T2:Nat}{p2:Pr}(h1:RW X1 Y1 Z1 T1 p1)(h2:RW X2 Y2 Z2 T2 p2):
  ∀w,GE kn w→Calls Tryz.prog 109 #[.agg (p4 X1 Y1 Z1 T1),.agg (p4 X2 Y2 Z2 T2)] w fun e w' =>K7 (.bool (decide (p1=p2))) w w' e:=by
 obtain⟨x1,y2,z3,t4,r5,c6⟩:=J4x (kn:=kn) h1;obtain⟨x7,y8,z9,φ,M,τ⟩:=J4x (kn:=kn) h2;have G:=K9 x1 z9 (Z0 r5.x) (Z0 M.z);obtain⟨Z,T⟩:=exn (x1*z9 % PP);rw[←T] at G;have μ:=bpp T;have ν:=Z0 μ;have α:=Lib.hid T;clear T;have J:=K9 x7 z3 (Z0 M.x) (Z0 r5.z);obtain⟨Y,X⟩:=exn (x7*z3 % PP);rw[←X] at J;have θ:=bpp X;have ρ:=Z0 θ;have γ:=Lib.hid X;clear X;have D:=J6i Z Y ν ρ;rw[Nat.mod_eq_of_lt μ,Nat.mod_eq_of_lt θ] at D;have R:=K9 y2 z9 (Z0 r5.y) (Z0 M.z);obtain⟨ζ,V⟩:=exn (y2*z9 % PP);rw[←V] at R;have κ:=bpp V;have σ:=Z0 κ;have β:=Lib.hid V;clear V;have U:=K9 y8 z3 (Z0 M.y) (Z0 r5.z);obtain⟨ε,S⟩:=exn (y8*z3 % PP);rw[←S] at U;have η:=bpp S;have ξ:=Z0 η;have δ:=Lib.hid S;clear S;have N:=J6i ζ ε σ ξ;rw[Nat.mod_eq_of_lt κ,Nat.mod_eq_of_lt η] at N;intro w hG;have hS:=SH.nil [] w
 go_enter Tryz.func109,Tryz.ntmps109
 go_upto_region 0 with fail;refine RL hS ?_;clear hS;refine MN (z:=p4 X1 Y1 Z1 T1) (t:=154) ?_;intro V5;refine MN (z:=p4 X2 Y2 Z2 T2) (t:=154) ?_;intro χ;refine Wf ?_;refine MZ fun W hS=> ?_;go_upto_region 1 with fail;refine RX 4 hS ?_;clear hS;refine ML 1 ?_;refine MC (v:=.agg (p4 x1 y2 z3 t4)) (fun W hS=>c6 W (J8 hG hS.ext)) ?_;refine ML 0 ?_;refine MC (v:=.agg (p4 x7 y8 z9 φ)) (fun W hS=>τ W (J8 hG hS.ext)) ?_;refine MZt ?_;refine MR 1 ?_;refine MR 0 ?_;refine MZn fun W hS=> ?_
 by_cases hx:Z=Y
 ·
  by_cases hy:ζ=ε
  ·
   go_upto_region 2 with fail;refine RS hS ?_;clear hS;refine MV ?_;refine Ml 1 Q0n ?_;refine MV ?_;refine Ml 0 J8e ?_;refine MC (v:=.agg (c4 Z)) (fun W hS=>G W (J8 hG hS.ext).1) ?_;refine MV ?_;refine Ml 0 Q0n ?_;refine MV ?_;refine Ml 1 J8e ?_;refine MC (v:=.agg (c4 Y)) (fun W hS=>J W (J8 hG hS.ext).1) ?_;rw[decide_eq_true hx] at D;refine MC (v:=.bool true) (fun W hS=>D W (J8 hG hS.ext).1) ?_;refine Wt ?_;refine MV ?_;refine Ml 1 Q3b ?_;refine MV ?_;refine Ml 0 J8e ?_;refine MC (v:=.agg (c4 ζ)) (fun W hS=>R W (J8 hG hS.ext).1) ?_;refine MV ?_;refine Ml 0 Q3b ?_;refine MV ?_;refine Ml 1 J8e ?_;refine MC (v:=.agg (c4 ε)) (fun W hS=>U W (J8 hG hS.ext).1) ?_;rw[decide_eq_true hy] at N;refine MC (v:=.bool true) (fun W hS=>N W (J8 hG hS.ext).1) ?_;refine Wt ?_;refine Wt ?_;refine MZx fun W hS=> ?_;go_wp2;rw[V46 r5.rr M.rr α.out γ.out β.out δ.out hx hy];exact bodyPost_ret (v:=.bool true) (by simp only[results,Tryz.results109];go_simp) rfl ⟨rfl,hS.ext⟩
  go_upto_region 2 with fail;refine RS hS ?_;clear hS;refine MV ?_;refine Ml 1 Q0n ?_;refine MV ?_;refine Ml 0 J8e ?_;refine MC (v:=.agg (c4 Z)) (fun W hS=>G W (J8 hG hS.ext).1) ?_;refine MV ?_;refine Ml 0 Q0n ?_;refine MV ?_;refine Ml 1 J8e ?_;refine MC (v:=.agg (c4 Y)) (fun W hS=>J W (J8 hG hS.ext).1) ?_;rw[decide_eq_true hx] at D;refine MC (v:=.bool true) (fun W hS=>D W (J8 hG hS.ext).1) ?_;refine Wt ?_;refine MV ?_;refine Ml 1 Q3b ?_;refine MV ?_;refine Ml 0 J8e ?_;refine MC (v:=.agg (c4 ζ)) (fun W hS=>R W (J8 hG hS.ext).1) ?_;refine MV ?_;refine Ml 0 Q3b ?_;refine MV ?_;refine Ml 1 J8e ?_;refine MC (v:=.agg (c4 ε)) (fun W hS=>U W (J8 hG hS.ext).1) ?_;rw[decide_eq_false hy] at N;refine MC (v:=.bool false) (fun W hS=>N W (J8 hG hS.ext).1) ?_;refine Wf ?_;refine Wf ?_;refine MZx fun W hS=> ?_;go_wp2;rw[Y7a r5.rr M.rr α.out γ.out β.out δ.out hy];exact bodyPost_ret (v:=.bool false) (by simp only[results,Tryz.results109];go_simp) rfl ⟨rfl,hS.ext⟩
 go_upto_region 2 with fail;refine RS hS ?_;clear hS;refine MV ?_;refine Ml 1 Q0n ?_;refine MV ?_;refine Ml 0 J8e ?_;refine MC (v:=.agg (c4 Z)) (fun W hS=>G W (J8 hG hS.ext).1) ?_;refine MV ?_;refine Ml 0 Q0n ?_;refine MV ?_;refine Ml 1 J8e ?_;refine MC (v:=.agg (c4 Y)) (fun W hS=>J W (J8 hG hS.ext).1) ?_;rw[decide_eq_false hx] at D;refine MC (v:=.bool false) (fun W hS=>D W (J8 hG hS.ext).1) ?_;refine Wf ?_;(iterate 11 refine MS ?_);refine Wf ?_;refine Wf ?_;refine MZx fun W hS=> ?_;go_wp2;rw[Y79 r5.rr M.rr α.out γ.out β.out δ.out hx];exact bodyPost_ret (v:=.bool false) (by simp only[results,Tryz.results109];go_simp) rfl ⟨rfl,hS.ext⟩
theorem V47 {X1 Y1 Z1 T1:Nat}{p1:Pr}(h1:RW X1 Y1 Z1 T1 p1):
  ∀w,GE kn w→Calls Tryz.prog 91 #[.agg (p4 X1 Y1 Z1 T1)] w fun e w' =>K7 (.agg (J0 .u8 32 (J7 (enc p1)))) w w' e:=by
 obtain⟨x1,y2,z3,t4,r5,c6⟩:=J4x (kn:=kn) h1;have S:=V41 z3 (Z0 r5.z);obtain⟨N7,R⟩:=exn (pw z3 (PP-2));rw[←R] at S;have ε:=bpp R;have Y:=Z0 ε;have γ:=Lib.hid R;clear R;have T:=K9 y2 N7 (Z0 r5.y) Y;obtain⟨N8,M⟩:=exn (y2*N7 % PP);rw[←M] at T;have Z:=bpp M;have ζ:=Z0 Z;have α:=Lib.hid M;clear M;have β:=Q54 N8 ζ;rw[Nat.mod_eq_of_lt Z] at β;have G:=K9 x1 N7 (Z0 r5.x) Y;obtain⟨N,J⟩:=exn (x1*N7 % PP);rw[←J] at G;have V:=bpp J;have δ:=Z0 V;have U:=Lib.hid J;clear J;have D:=Z2e N δ;rw[Nat.mod_eq_of_lt V] at D;intro w hG;have hS:=SH.nil [] w
 go_enter Tryz.func91,Tryz.ntmps91
 go_upto_region 0 with fail;refine RL hS ?_;clear hS;refine MN (z:=p4 X1 Y1 Z1 T1) (t:=154) ?_;intro η;refine MN (z:=J0 .u8 32 (J7 0)) (t:=23) ?_;intro κ;refine MZ fun W hS=> ?_;go_upto_region 1 with fail;refine RL hS ?_;clear hS;refine ML 1 ?_;refine MC (v:=.agg (p4 x1 y2 z3 t4)) (fun W hS=>c6 W (J8 hG hS.ext)) ?_;refine MR 1 ?_;refine MZ fun W hS=> ?_;go_upto_region 2 with fail;refine RL hS ?_;clear hS;refine MV ?_;refine Ml 1 J8e ?_;refine MC (v:=.agg (c4 N7)) (fun W hS=>S W (J8 hG hS.ext).1) ?_;refine MN (z:=c4 0) (t:=152) ?_;intro θ;refine MR 0 ?_;refine MZ fun W hS=> ?_;go_upto_region 3 with fail;refine RL hS ?_;clear hS;refine MV ?_;refine Ml 2 Q3b ?_;refine ML 0 ?_;refine MC (v:=.agg (c4 N8)) (fun W hS=>T W (J8 hG hS.ext).1) ?_;refine MC (v:=.agg (J0 .u8 32 (J7 N8))) (fun W hS=>β W (J8 hG hS.ext).1) ?_;refine MN (z:=J0 .u8 32 (J7 0)) (t:=23) ?_;intro X;refine MR 0 ?_;refine MZ fun W hS=> ?_
 by_cases ho:N % 2=1
 ·
  go_upto_region 4 with fail;refine RL hS ?_;clear hS;refine MV ?_;refine Ml 3 Q0n ?_;refine ML 1 ?_;refine MC (v:=.agg (c4 N)) (fun W hS=>G W (J8 hG hS.ext).1) ?_;rw[decide_eq_true ho] at D;refine MC (v:=.bool true) (fun W hS=>D W (J8 hG hS.ext).1) ?_;refine MZ fun W hS=> ?_;go_upto_region 5 with fail;refine RL hS ?_;clear hS;refine MW ?_ (v:=.pointer (some ⟨X,0+31,none⟩)) (hv:=fun _=>rxa Tryz.underlying23 (by decide));refine MG 0 ?_ (j:=0+31) (v:=.int .u8 ((J7 N8) 31)) (hj:=ag0 (by decide));refine MW ?_ (v:=.int .u8 (bits .or .u8 (J7 N8 31) 128)) (hv:=by intro W;exact Y7c rfl rfl rfl rfl);refine MW ?_ (v:=.pointer (some ⟨X,0+31,none⟩)) (hv:=fun _=>rxa Tryz.underlying23 (by decide));refine MP 0 (v:=.int .u8 (bits .or .u8 (J7 N8 31) 128)) (cs' :=J0 .u8 32 (upd (J7 N8) 31 (bits .or .u8 (J7 N8 31) 128))) ?_ (hs:=by rw[J1,Nat.zero_add];decide) (hc:=by rw[Nat.zero_add];exact V8 _ _ _ _ _);refine MT (fun W hS=>by rw[V9m r5.rr γ.out U.out α.out ho] at hS;exact hS) ?_;refine MZ fun W hS=> ?_;go_upto_region 6 with fail;refine RL hS ?_;clear hS;refine ML 0 ?_;refine MR 2 ?_;refine MZ fun W hS=> ?_;go_wp2;exact bodyPost_ret (Z7 rfl rfl (hS.blk (i:=2) rfl) (by kernel_rfl) (by rw[J1];kernel_rfl)) rfl ⟨rfl,hS.ext⟩
 go_upto_region 4 with fail;refine RL hS ?_;clear hS;refine MV ?_;refine Ml 3 Q0n ?_;refine ML 1 ?_;refine MC (v:=.agg (c4 N)) (fun W hS=>G W (J8 hG hS.ext).1) ?_;rw[decide_eq_false ho] at D;refine MC (v:=.bool false) (fun W hS=>D W (J8 hG hS.ext).1) ?_;refine MZ fun W hS=> ?_;rw[V9o r5.rr γ.out U.out α.out ho] at hS;go_upto_region 6 with fail;refine RL hS ?_;clear hS;refine ML 0 ?_;refine MR 2 ?_;refine MZ fun W hS=> ?_;go_wp2;exact bodyPost_ret (Z7 rfl rfl (hS.blk (i:=2) rfl) (by kernel_rfl) (by rw[J1];kernel_rfl)) rfl ⟨rfl,hS.ext⟩
end
end Go.Proofs.YteehbddkcnkhfaaGreatDoor.S8

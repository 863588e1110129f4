/- Contracts and plain laws for directStays_holds. Conditions: the tables hold their numbers. -/
import Derived.Test.YteehbddkcnkhfaaGreatDoorJ12
open Go.RowKit
set_option maxRecDepth 100000
set_option linter.unusedSimpArgs false
set_option linter.unusedVariables false
namespace Go.Proofs.YteehbddkcnkhfaaGreatDoor.S8
section
open Sc (LL J12)
/-! ### Bytes and numbers -/
theorem Y4g (m n V:Nat):lb (m+n) V=lb m V++lb n (V / 2^(8*m)):=by
  induction m generalizing V with
  |zero=>simp[show lb 0 V=[] from rfl]
  |succ m ih=>
    rw[show m+1+n=(m+n)+1 by omega,Q1u,Q1u,ih,List.cons_append,Nat.div_div_eq_div_mul,show 256*2^(8*m)=2^(8*(m+1)) by rw[show 8*(m+1)=8*m+8 by omega,Nat.pow_add];omega]
def lo (V:Nat):Nat:=V % 2^256
def hi (V:Nat):Nat:=V / 2^256
theorem lo_lt (V:Nat):lo V<2^256:=Nat.mod_lt _ (by decide)
theorem K1q {V:Nat}(h:V<2^(256+256)):hi V<2^256:=by unfold hi;rw[Nat.div_lt_iff_lt_mul (by decide),←Nat.pow_add];exact h
theorem Y4h {V j:Nat}(hj:j<32):J5 (lo V) j=J5 V j:=by
  unfold J5 lo;have e:(2:Nat)^256=2^(8*j)*2^(256-8*j):=by rw[←Nat.pow_add];congr 1;omega
  have e2:(2:Nat)^(256-8*j)=256*2^(248-8*j):=by rw[show 256-8*j=8+(248-8*j) by omega,Nat.pow_add]
  rw[e,Nat.mod_mul_right_div_self,e2,Nat.mod_mul_right_mod]
theorem V6e (V j:Nat):J5 (hi V) j=J5 V (32+j):=by
  unfold J5 hi;rw[Nat.div_div_eq_div_mul,←Nat.pow_add,show 256+8*j=8*(32+j) by omega]
theorem Z3w {V:Nat}:∀i v,(J0 .u8 32 (J5 (lo V)))[i]?=some v→(J0 .u8 64 (J5 V))[0+i]?=some v:=fun i v h=>by
  have hi:i<32:=by have:=(Array.getElem?_eq_some_iff.1 h).1;rwa [J1] at this
  rw[V0 _ _ _ _ hi,Y4h hi] at h;rw[Nat.zero_add,V0 _ _ _ _ (by omega)];exact h
theorem K4d {V:Nat}:∀i v,(J0 .u8 32 (J5 (hi V)))[i]?=some v→(J0 .u8 64 (J5 V))[32+i]?=some v:=fun i v h=>by
  have hi:i<32:=by have:=(Array.getElem?_eq_some_iff.1 h).1;rwa [J1] at this
  rw[V0 _ _ _ _ hi,V6e] at h;rw[V0 _ _ _ _ (by omega)];exact h
/-! ### Sums -/
def hs (F:List UInt8):Nat:=le (smb F)
theorem Y4i (F:List UInt8):hs F<2^(8*64):=by have:=Z4s (smb F);rwa [Q65] at this
theorem K4f:8*64=256+256:=rfl
theorem K1r (F:List UInt8):hs F<2^(256+256):=by have:=Y4i F;rwa [K4f] at this
theorem V6f (F:List UInt8):smb F=lb 64 (hs F):=(Z2k (Q65 F)).symm
theorem K1h (F:List UInt8):J0 .u8 64 (sm F)=J0 .u8 64 (J5 (hs F)):=Z0b (by rw[Z8l,V6f,Q2j,J3t])
/-! ### Secrets -/
def clN (V:Nat):Nat:=J1y (J12 (J5 V)) 32
theorem Z1m (V j:Nat):J9a (J12 (J5 V) j):=by
  have h0:=J97 V 0;have h1:=J97 V 31;have h2:=J97 V j;unfold J12 J9a at*
  split
  · omega
  split
  · omega
  exact h2
theorem Y42 (V:Nat):clN V<2^256:=J86 _ (Z1m V) 32
theorem Y8x (V:Nat):J0 .u8 32 (J12 (J5 V))=J0 .u8 32 (J5 (clN V)):=J02 _ _ _ _ fun j hj=>(Z10 _ (Z1m V) 32 j hj).symm
def kN (S:Nat):Nat:=clN (lo (hs (lb 32 S)))
def kD (S:Nat):Nat:=hi (hs (lb 32 S))
def kP (S:Nat):Nat:=enc (pm BP (kN S))
theorem V1t (S:Nat):kN S<2^256:=Y42 _
theorem V1u (S:Nat):kD S<2^256:=K1q (K1r _)
/-! ### Signatures -/
theorem Q19 (a:Pr):enc a<2^256:=by
  unfold enc;have h:a.2.val<2^255:=Nat.lt_trans a.2.isLt Z3m;have h2:a.1.val % 2<2:=Nat.mod_lt _ (by decide);have e:(2:Nat)^256=2^255+2^255:=by decide
  generalize (2:Nat)^255=T at*;have:T*(a.1.val % 2)≤T*1:=Nat.mul_le_mul_left T (by omega);omega
theorem V1v (S:Nat):kP S<2^256:=Q19 _
theorem V6g:0<LL:=by decide
theorem J5k:LL<2^256:=by decide
theorem mLL (n:Nat):n % LL<LL:=Nat.mod_lt _ V6g
end

section
def n64:Nat:=18446744073709551616
theorem Y94 (n:Int)(h0:0≤n)(h1:n<2^64):IntKind.u64.wrap n=n:=by rw[IntKind.wrap_u64];omega
theorem J33 (k:IntKind)(j:Nat)(hj:j≤k.bits)(hk:∀n:Int,0≤n→n<2^j→k.wrap n=n)(a b:Nat)(ha:a<2^j)(hb:b<2^j):bits .xor k a b=((a^^^b:Nat):Int):=by
  have hp:2^j≤2^k.bits:=Nat.pow_le_pow_right (by decide) hj;have ha' :a % 2^k.bits=a:=Nat.mod_eq_of_lt (Nat.lt_of_lt_of_le ha hp);have hb' :b % 2^k.bits=b:=Nat.mod_eq_of_lt (Nat.lt_of_lt_of_le hb hp);simp only[bits,BitVec.ofInt_natCast,BitVec.toNat_xor,BitVec.toNat_ofNat,ha',hb'];exact hk _ (Int.natCast_nonneg _) (by exact_mod_cast Nat.xor_lt_two_pow ha hb)
def Wn (x:Int)(a:Nat):Prop:=x=(a:Int)∧a<2^64
section
variable {x y : Int} {a b : Nat}
theorem Wn.xo (h:Wn x a)(k:Wn y b):Wn (xo x y) (a^^^b):=⟨by rw[h.1,k.1];exact J33 .u64 64 (by decide) Y94 a b h.2 k.2,Nat.xor_lt_two_pow h.2 k.2⟩
theorem Wn.an (h:Wn x a)(k:Wn y b):Wn (an x y) (a &&& b):=⟨by rw[h.1,k.1];exact(bits_nat .u64 64 (by decide) Y94 a b h.2 k.2).1,Nat.and_lt_two_pow _ k.2⟩
theorem Wn.oo (h:Wn x a)(k:Wn y b):Wn (oo x y) (a |||b):=⟨by rw[h.1,k.1];exact(bits_nat .u64 64 (by decide) Y94 a b h.2 k.2).2,Nat.or_lt_two_pow h.2 k.2⟩
theorem Wn.nt (h:Wn x a):Wn (nt x) (18446744073709551615^^^a):=⟨by rw[h.1];exact J33 .u64 64 (by decide) Y94 _ a (by decide) h.2,Nat.xor_lt_two_pow (by decide) h.2⟩
theorem Wn.ad (h:Wn x a)(k:Wn y b):Wn (ad x y) ((a+b) % n64):=⟨by rw[h.1,k.1];show IntKind.wrap .u64 ((a:Int)+b)=_;unfold n64;rw[IntKind.wrap_u64];omega,Nat.mod_lt _ (by decide)⟩
theorem Wn.sl (h:Wn x a)(n:Nat):Wn (sl x n) (a*2^n % n64):=⟨by
  rw[h.1];show IntKind.wrap .u64 ((a:Int)*2^n)=_;unfold n64
  rw[IntKind.wrap_u64,Int.natCast_emod,Int.natCast_mul,Int.natCast_pow];rfl,Nat.mod_lt _ (by decide)⟩
theorem Wn.sr (h:Wn x a)(n:Nat):Wn (sr x n) (a / 2^n):=⟨by
  rw[h.1];show(a:Int) / 2^n=_
  rw[Int.natCast_ediv,Int.natCast_pow];rfl,Nat.lt_of_le_of_lt (Nat.div_le_self _ _) h.2⟩
end
def rtN (a n:Nat):Nat:=a / 2^n |||a*2^(64-n) % n64
theorem Wn.rt {x:Int}{a:Nat}(h:Wn x a)(n:Nat):Wn (rt x n) (rtN a n):=(h.sr n).oo (h.sl (64-n))
/-! ### The words of a block -/
def V6h (b:Nat→Nat)(i:Nat):Nat→Nat
  |0=>0
  |k+1=>V6h b i k*2^8 % n64 |||b (8*i+k)
def bN (l:List UInt8)(j:Nat):Nat:=(l.getD j 0).toNat
theorem K1t (l:List UInt8)(j:Nat):Wn (bt l j) (bN l j):=⟨rfl,Nat.lt_trans (l.getD j 0).toNat_lt (by decide)⟩
theorem Y4k (l:List UInt8)(i:Nat):∀k,Wn (wrd (bt l) i k) (V6h (bN l) i k)
  |0=>⟨rfl,Nat.two_pow_pos 64⟩
  |k+1=>((Y4k l i k).sl 8).oo (K1t l _)
def sgN (l:List Nat):Nat:=
  let p:=l.getD 14 0
  let q:=l.getD 1 0
  (((l.getD 15 0+(rtN p 1^^^rtN p 8^^^p / 2^7)) % n64+l.getD 6 0) % n64+(rtN q 19^^^rtN q 61^^^q / 2^6)) % n64
def Z1n (b:Nat→Nat):Nat→List Nat
  |0=>[]
  |i+1=>(if i<16 then V6h b i 8 else sgN (Z1n b i))::Z1n b i
theorem Y4l (l:List UInt8):∀i,∀j,j<i→Wn (K2 (bt l) i j) ((Z1n (bN l) i).getD (i-1-j) 0)
  |0,_,h=>by omega
  |i+1,j,h=>by
    have ih:=Y4l l i;show Wn (upd (K2 (bt l) i) i (if i<16 then wrd (bt l) i 8 else sg (K2 (bt l) i) i) j) _;unfold upd Z1n
    by_cases e:j=i
    · subst e
      rw[if_pos rfl,show j+1-1-j=0 by omega,List.getD_cons_zero]
      by_cases h16:j<16
      · rw[if_pos h16,if_pos h16];exact Y4k l j 8
      · rw[if_neg h16,if_neg h16]
        have g:∀m,m<16→Wn (K2 (bt l) j (j-(m+1))) ((Z1n (bN l) j).getD m 0):=fun m hm=>by
          have:=ih (j-(m+1)) (by omega)
          rwa [show j-1-(j-(m+1))=m by omega] at this
        have D:=g 14 (by decide);have g1:=g 1 (by decide);exact(((g 15 (by decide)).ad (((D.rt 1).xo (D.rt 8)).xo (D.sr 7))).ad (g 6 (by decide))).ad (((g1.rt 19).xo (g1.rt 61)).xo (g1.sr 6))
    · rw[if_neg e,show i+1-1-j=(i-1-j)+1 by omega,List.getD_cons_succ]
      exact ih j (by omega)
/-! ### The rounds -/
abbrev S8:=Nat×Nat×Nat×Nat×Nat×Nat×Nat×Nat
def K1u (k w:Nat):S8→S8
  |(a,b,c,d,e,f,g,h)=>
    let t:=((((h+(rtN e 14^^^rtN e 18^^^rtN e 41)) % n64+((e &&& f)^^^((18446744073709551615^^^e) &&& g))) % n64+k) % n64+w) % n64
    let u:=((rtN a 28^^^rtN a 34^^^rtN a 39)+((a &&& b)^^^(a &&& c)^^^(b &&& c))) % n64
    ((t+u) % n64,a,b,c,(d+t) % n64,e,f,g)
def Wn8 (v:Nat→Int):S8→Prop
  |(a,b,c,d,e,f,g,h)=>Wn (v 0) a∧Wn (v 1) b∧Wn (v 2) c∧Wn (v 3) d∧Wn (v 4) e∧Wn (v 5) f∧Wn (v 6) g∧Wn (v 7) h
theorem V6i {k w v:Nat→Int}{i kn wn:Nat}{s:S8}(hk:Wn (k i) kn)(hw:Wn (w i) wn)(h:Wn8 v s):Wn8 (rnd k w i v) (K1u kn wn s):=by
  obtain⟨a,b,c,d,e,f,g,h'⟩:=s;obtain⟨h0,h1,h2,h3,h4,h5,h6,h7⟩:=h;have hT:Wn (rT k w i v) _:=(((h7.ad (((h4.rt 14).xo (h4.rt 18)).xo (h4.rt 41))).ad ((h4.an h5).xo (h4.nt.an h6))).ad hk).ad hw;have hU:Wn (rU v) _:=(((h0.rt 28).xo (h0.rt 34)).xo (h0.rt 39)).ad (((h0.an h1).xo (h0.an h2)).xo (h1.an h2));exact⟨hT.ad hU,h0,h1,h2,h3.ad hT,h4,h5,h6⟩
def kkN (i:Nat):Nat:=(kk.getD i 0).toNat
theorem K1v (i:Nat)(h:i<80):Wn (kf i) (kkN i):=by
  have D:((List.range 80).all fun i=>decide (kf i=(kkN i:Int)) && decide (kkN i<2^64))=true:=by decide+kernel
  have:=List.all_eq_true.1 D i (List.mem_range.2 h);simp only[Bool.and_eq_true,decide_eq_true_eq] at this;exact this
def Z76 (W:List Nat)(s:S8):Nat→S8
  |0=>s
  |i+1=>K1u (kkN i) (W.getD (79-i) 0) (Z76 W s i)
theorem Z77 {l:List UInt8}{v:Nat→Int}{s:S8}(h:Wn8 v s):∀i,i≤80→Wn8 (V1 kf (K2 (bt l) 80) v i) (Z76 (Z1n (bN l) 80) s i)
  |0,_=>h
  |i+1,hi=>V6i (K1v i (by omega)) (by have:=Y4l l 80 i (by omega);rwa [show 80-1-i=79-i by omega] at this) (Z77 h i (by omega))
def V6j (l:List UInt8)(s:S8):S8:=
  match s,Z76 (Z1n (bN l) 80) s 80 with
  |(a,b,c,d,e,f,g,h),(a',b',c',d',e',f',g',h')=>((a+a') % n64,(b+b') % n64,(c+c') % n64,(d+d') % n64,(e+e') % n64,(f+f') % n64,(g+g') % n64,(h+h') % n64)
theorem V6k {l:List UInt8}{v:Nat→Int}{s:S8}(h:Wn8 v s):Wn8 (prs v (bt l)) (V6j l s):=by
  have h2:=Z77 (l:=l) h 80 (Nat.le_refl _);unfold V6j;generalize Z76 (Z1n (bN l) 80) s 80=s2 at*;obtain⟨a,b,c,d,e,f,g,h'⟩:=s;obtain⟨a2,b2,c2,d2,e2,f2,g2,k2⟩:=s2;obtain⟨h0,h1,D,h3,h4,h5,h6,h7⟩:=h;obtain⟨k0,k1,G,k3,k4,k5,k6,k7⟩:=h2;exact⟨h0.ad k0,h1.ad k1,D.ad G,h3.ad k3,h4.ad k4,h5.ad k5,h6.ad k6,h7.ad k7⟩
def H0N:S8:=(7640891576956012808,13503953896175478587,4354685564936845355,11912009170470909681,5840696475078001361,11170449401992604703,2270897969802886507,6620516959819538809)
theorem K1w:Wn8 hf H0N:=by refine⟨⟨?_,?_⟩,⟨?_,?_⟩,⟨?_,?_⟩,⟨?_,?_⟩,⟨?_,?_⟩,⟨?_,?_⟩,⟨?_,?_⟩,⟨?_,?_⟩⟩<;>decide+kernel
def HsN (P:List UInt8):Nat→S8
  |0=>H0N
  |j+1=>V6j (P.drop (128*j)) (HsN P j)
theorem V1x (P:List UInt8):∀j,Wn8 (Hs P j) (HsN P j)
  |0=>K1w
  |j+1=>V6k (V1x P j)
def wle (a:Nat):Nat:=a / 2^56 % 256+256*(a / 2^48 % 256+256*(a / 2^40 % 256+256*(a / 2^32 % 256+256*(a / 2^24 % 256+256*(a / 2^16 % 256+256*(a / 2^8 % 256+256*(a % 256)))))))
def K4g:S8→Nat
  |(a,b,c,d,e,f,g,h)=>wle a+256^(8*1)*wle b+256^(8*2)*wle c+256^(8*3)*wle d+256^(8*4)*wle e+256^(8*5)*wle f+256^(8*6)*wle g+256^(8*7)*wle h
def Y14 (F:List UInt8):Nat:=K4g (HsN (pad F) (nb F.length))
theorem Q7t:∀l m:List UInt8,le (l++m)=le l+256^l.length*le m
  |[],m=>by simp[le]
  |x::r,m=>by
    show x.toNat+256*le (r++m)=x.toNat+256*le r+_;rw[Q7t r m,List.length_cons,Nat.pow_succ,Nat.mul_add,←Nat.mul_assoc,Nat.mul_comm 256 (256^r.length),Nat.add_assoc]
theorem Q3k {H:Nat→Int}{a i:Nat}(h:Wn (H i) a)(k:Nat)(hk:k<8):(bo H (8*i+k)).toNat=a / 2^(8*(7-k)) % 256:=by
  have e:=V1m H (8*i+k);have h2:=(h.sr (8*(7-k))).1;unfold ob at e;rw[show(8*i+k) / 8=i by omega,show(8*i+k) % 8=k by omega,h2] at e;generalize a / 2^(8*(7-k))=z at*;unfold w8 at e;rw[IntKind.wrap_u8] at e;omega
theorem Q3l {H:Nat→Int}{a i:Nat}(h:Wn (H i) a):le (wb H (8*(i+1)))=le (wb H (8*i))+256^(8*i)*wle a:=by
  rw[←Y8r];simp only[List.append_assoc,List.cons_append,List.nil_append];rw[Q7t,Q7p]
  congr 2
  unfold wle;simp only[le];rw[Q3k h 0 (by decide),Q3k h 1 (by decide),Q3k h 2 (by decide),Q3k h 3 (by decide),Q3k h 4 (by decide),Q3k h 5 (by decide),Q3k h 6 (by decide),Q3k h 7 (by decide)];simp only[Nat.mul_zero,Nat.add_zero,Nat.sub_zero,Nat.reduceMul,Nat.reduceSub,Nat.pow_zero,Nat.div_one]
theorem V6l (F:List UInt8):hs F=Y14 F:=by
  have h:=V1x (pad F) (nb F.length);unfold hs smb Y14;generalize HsN (pad F) (nb F.length)=s at*;generalize Hs (pad F) (nb F.length)=H at*;obtain⟨a,b,c,d,e,f,g,k⟩:=s;obtain⟨h0,h1,h2,h3,h4,h5,h6,h7⟩:=h;have z:le (wb H (8*0))=0:=rfl;show le (wb H (8*(7+1)))=_;rw[Q3l h7,Q3l h6,Q3l h5,Q3l h4,Q3l h3,Q3l h2,Q3l h1,Q3l h0,z];show _=wle a+256^(8*1)*wle b+256^(8*2)*wle c+256^(8*3)*wle d+256^(8*4)*wle e+256^(8*5)*wle f+256^(8*6)*wle g+256^(8*7)*wle k;rw[Nat.mul_zero,Nat.pow_zero,Nat.one_mul,Nat.zero_add]
end

section
open Sc (LL J12)
theorem Z34 {s:Q4}{a:Pr}{x y:Nat}(h:RQ4 s a)(ex:x*s.2.2.1 % PP=s.1)(ey:y*s.2.2.1 % PP=s.2.1):a=(fp x,fp y):=by
  obtain⟨hz,hx,hy,_⟩:=h.rc;rw[←ex,J1c,J0u] at hx;rw[←ey,J1c,J0u] at hy;have hi:=J1l hz;have e1:a.1=fp x:=by grind
  have e2:a.2=fp y:=by grind
  exact Prod.ext e1 e2
theorem Q4c {x y:Nat}(hx:x<PP)(hy:y<PP):enc (fp x,fp y)=y+2^255*(x % 2):=by
  show(fp y).val+2^255*((fp x).val % 2)=_;rw[Q9i,Q9i,Nat.mod_eq_of_lt hx,Nat.mod_eq_of_lt hy]
theorem Y15 {n x y e:Nat}(hn:n<2^256)(hx:x<PP)(hy:y<PP)(h:(x*(tmN BQ n 256).2.2.1 % PP=(tmN BQ n 256).1∧y*(tmN BQ n 256).2.2.1 % PP=(tmN BQ n 256).2.1))(he:y+2^255*(x % 2)=e):enc (pm BP n)=e:=by
  rw[Z34 (Z35 Y8w hn) h.1 h.2,Q4c hx hy,he]
theorem Q8n {F:List UInt8}{h:Nat}(e:Y14 F=h):hs F=h:=(V6l F).trans e
end

section
set_option maxHeartbeats 1500000
attribute [local irreducible] wpList V2 wpX
variable {kn : Kn}

theorem J3r (w:World):
  Calls Tryz.prog 155 #[] w fun e w' =>X5 (L4 1) w w' e:=by
 have hS:=SH.nil [] w
 go_enter Tryz.func155,Tryz.ntmps155
 go_upto_region 0 with fail;refine RL hS ?_;clear hS;refine MN (z:=c4 0) (t:=152) ?_;intro D;refine MZ fun W hS=> ?_;go_upto_region 1 with fail;refine RL hS ?_;clear hS;refine MC (v:=.agg (c4 1)) (fun W hS=>Y85 1 (by decide) W) ?_;refine MR 0 ?_;refine MZ fun W hS=> ?_;go_wp2;exact bodyPost_ret (Y0 rfl rfl (hS.blk (i:=0) rfl) (by kernel_rfl) (by kernel_rfl)) rfl ⟨rfl,hS.ext⟩
theorem V18 {X Y:Nat}(hX:X<PP)(hY:Y<PP)(on:OnC (fp X,fp Y)):
  ∃T,RN X Y 1 T (fp X,fp Y)∧∀w,GE kn w→Calls Tryz.prog 112 #[L4 X,L4 Y] w fun e w' =>X5 (.agg (p4 X Y 1 T)) w w' e:=by
 have G:=X7 X Y (Z0 hX) (Z0 hY);obtain⟨N1,D⟩:=exn (X*Y % PP);rw[←D] at G;have J:=bpp D;have N:=Z0 J;have M:=Lib.hid D;clear D;refine⟨N1,Z5h hX hY on M.out,fun w hG=> ?_⟩;have hS:=SH.nil [] w
 go_enter Tryz.func112,Tryz.ntmps112
 go_upto_region 0 with fail;refine RL hS ?_;clear hS;refine MN (z:=c4 X) (t:=152) ?_;intro K9;refine MN (z:=c4 Y) (t:=152) ?_;intro R;refine MN (z:=p4 0 0 0 0) (t:=154) ?_;intro S;refine MZ fun W hS=> ?_;go_upto_region 1 with fail;refine RX 7 hS ?_;clear hS;refine ML 2 ?_;refine ML 1 ?_;refine MC (v:=.agg (c4 1)) (fun W hS=>J3r W) ?_;refine ML 2 ?_;refine ML 1 ?_;refine MC (v:=.agg (c4 N1)) (fun W hS=>G W (J9 hG hS.ext).1) ?_;refine MW ?_ (v:=.agg (p4 X Y 1 N1)) (hv:=by intro W;kernel_rfl);refine MZt ?_;refine MR 0 ?_;refine MZn fun W hS=> ?_;go_wp2;exact bodyPost_ret (Y0 rfl rfl (hS.blk (i:=0) rfl) (by kernel_rfl) (by kernel_rfl)) rfl ⟨rfl,hS.ext⟩
theorem Y38 {X1 Y1 Z1 T1:Nat}(hb:Z1<Q7)(hz:Z1≠0)(w:World)(hG:GE kn w):
  Calls Tryz.prog 113 #[.agg (p4 X1 Y1 Z1 T1)] w fun e w' =>X5 (.agg (p4 X1 Y1 Z1 T1)) w w' e:=by
 have hS:=SH.nil [] w
 go_enter Tryz.func113,Tryz.ntmps113
 go_upto_region 0 with fail;refine RL hS ?_;clear hS;refine MN (z:=p4 X1 Y1 Z1 T1) (t:=154) ?_;intro J;refine MN (z:=p4 0 0 0 0) (t:=154) ?_;intro G;refine MZ fun W hS=> ?_;go_upto_region 1 with fail;refine RL hS ?_;clear hS;refine MV ?_;refine Ml 1 J8y ?_;refine MW ?_ (v:=.agg (c4 0)) (hv:=by intro W;kernel_rfl);have D:=V5a Z1 0 hb (by decide);rw[decide_eq_false hz] at D;refine MW ?_ (v:=.bool false) (hv:=fun _=>J9f ((D) _) (by kernel_rfl) rfl rfl rfl);refine MZ fun W hS=> ?_;go_upto_region 3 with fail;refine RL hS ?_;clear hS;refine ML 1 ?_;refine MR 0 ?_;refine MZ fun W hS=> ?_;go_wp2;exact bodyPost_ret (Y0 rfl rfl (hS.blk (i:=0) rfl) (by kernel_rfl) (by kernel_rfl)) rfl ⟨rfl,hS.ext⟩
theorem Y39 {X1 Y1 T1:Nat}(w:World)(hG:GE kn w):
  Calls Tryz.prog 113 #[.agg (p4 X1 Y1 0 T1)] w fun e w' =>X5 (.agg (p4 0 1 1 0)) w w' e:=by
 have hS:=SH.nil [] w
 go_enter Tryz.func113,Tryz.ntmps113
 go_upto_region 0 with fail;refine RL hS ?_;clear hS;refine MN (z:=p4 X1 Y1 0 T1) (t:=154) ?_;intro J;refine MN (z:=p4 0 0 0 0) (t:=154) ?_;intro G;refine MZ fun W hS=> ?_;go_upto_region 1 with fail;refine RL hS ?_;clear hS;refine MV ?_;refine Ml 1 J8y ?_;refine MW ?_ (v:=.agg (c4 0)) (hv:=by intro W;kernel_rfl);have D:=V5a 0 0 (by decide) (by decide);rw[decide_eq_true rfl] at D;refine MW ?_ (v:=.bool true) (hv:=fun _=>J9f ((D) _) (by kernel_rfl) rfl rfl rfl);refine MZ fun W hS=> ?_;go_upto_region 2 with fail;refine RL hS ?_;clear hS;refine MC (v:=.agg (c4 1)) (fun W hS=>J3r W) ?_;refine MC (v:=.agg (c4 1)) (fun W hS=>J3r W) ?_;refine MW ?_ (v:=.agg (p4 0 1 1 0)) (hv:=by intro W;kernel_rfl);refine MR 0 ?_;refine MZ fun W hS=> ?_;go_wp2;exact bodyPost_ret (Y0 rfl rfl (hS.blk (i:=0) rfl) (by kernel_rfl) (by kernel_rfl)) rfl ⟨rfl,hS.ext⟩
theorem J54 {X Y Z T:Nat}{a:Pr}(h:RW X Y Z T a):∃X' Y' Z' T',RN X' Y' Z' T' a∧∀w,GE kn w→Calls Tryz.prog 113 #[.agg (p4 X Y Z T)] w fun e w' =>X5 (.agg (p4 X' Y' Z' T')) w w' e:=by
 rcases h.cases with⟨hz,h1⟩|⟨rfl,rfl⟩
 ·
  exact⟨X,Y,Z,T,h1,fun w hG=>Y38 h.z hz w hG⟩
 exact⟨0,1,1,0,V19,fun w hG=>Y39 w hG⟩
theorem Q20 {X1 Y1 Z1 T1:Nat}{p1:Pr}(h1:RN X1 Y1 Z1 T1 p1):
  ∃X Y Z T,RN X Y Z T (J1z p1 p1)∧∀w,GE kn w→Calls Tryz.prog 114 #[.agg (p4 X1 Y1 Z1 T1)] w fun e w' =>X5 (.agg (p4 X Y Z T)) w w' e:=by
 have τ:=X7 X1 X1 (Z0 h1.x) (Z0 h1.x);obtain⟨N1,γ⟩:=exn (X1*X1 % PP);rw[←γ] at τ;have M8:=bpp γ;have D6:=Z0 M8;have M5:=Lib.hid γ;clear γ;have ξ:=X7 Y1 Y1 (Z0 h1.y) (Z0 h1.y);obtain⟨N2,θ⟩:=exn (Y1*Y1 % PP);rw[←θ] at ξ;have M3:=bpp θ;have D4:=Z0 M3;have M9:=Lib.hid θ;clear θ;have Ψ:=X7 Z1 Z1 (Z0 h1.z) (Z0 h1.z);obtain⟨N3,κ⟩:=exn (Z1*Z1 % PP);rw[←κ] at Ψ;have M1:=bpp κ;have D7:=Z0 M1;have M0:=Lib.hid κ;clear κ;have σ:=J5g N3 N3 D7 D7;obtain⟨N4,U⟩:=exn ((N3+N3) % PP);rw[←U] at σ;have M7:=bpp U;have N0:=Z0 M7;have R4:=Lib.hid U;clear U;have Ω:=J5g N1 N2 D6 D4;obtain⟨N5,μ⟩:=exn ((N1+N2) % PP);rw[←μ] at Ω;have R0:=bpp μ;have D0:=Z0 R0;have R3:=Lib.hid μ;clear μ;have Δ:=J5g X1 Y1 (Z0 h1.x) (Z0 h1.y);obtain⟨N6,β⟩:=exn ((X1+Y1) % PP);rw[←β] at Δ;have R2:=bpp β;have D3:=Z0 R2;have R1:=Lib.hid β;clear β;have D1:=X7 N6 N6 D3 D3;obtain⟨N7,δ⟩:=exn (N6*N6 % PP);rw[←δ] at D1;have M2:=bpp δ;have R6:=Z0 M2;have M4:=Lib.hid δ;clear δ;have Θ:=J9n N5 N7 D0 R6;obtain⟨N8,ε⟩:=exn ((N5+(PP-N7 % PP)) % PP);rw[←ε] at Θ;have G9:=bpp ε;have D5:=Z0 G9;have R5:=Lib.hid ε;clear ε;have ω:=J9n N1 N2 D6 D4;obtain⟨N9,α⟩:=exn ((N1+(PP-N2 % PP)) % PP);rw[←α] at ω;have M6:=bpp α;have Γ:=Z0 M6;have G8:=Lib.hid α;clear α;have V:=J5g N4 N9 N0 Γ;obtain⟨R,J⟩:=exn ((N4+N9) % PP);rw[←J] at V;have G4:=bpp J;have χ:=Z0 G4;have D9:=Lib.hid J;clear J;have ζ:=X7 N8 R D5 χ;obtain⟨ρ,M⟩:=exn (N8*R % PP);rw[←M] at ζ;have G7:=bpp M;have S3:=Z0 G7;have G1:=Lib.hid M;clear M;have η:=X7 N9 N5 Γ D0;obtain⟨ψ,G⟩:=exn (N9*N5 % PP);rw[←G] at η;have G2:=bpp G;have R7:=Z0 G2;have G0:=Lib.hid G;clear G;have S:=X7 R N9 χ Γ;obtain⟨Ξ,N⟩:=exn (R*N9 % PP);rw[←N] at S;have D8:=bpp N;have R8:=Z0 D8;have G6:=Lib.hid N;clear N;have ν:=X7 N8 N5 D5 D0;obtain⟨φ,D⟩:=exn (N8*N5 % PP);rw[←D] at ν;have G3:=bpp D;have R9:=Z0 G3;have G5:=Lib.hid D;clear D;refine⟨ρ,ψ,Ξ,φ,Z1c h1 M5.out M9.out M0.out R4.out R3.out R1.out M4.out R5.out G8.out D9.out G1.out G0.out G6.out G5.out,fun w hG=> ?_⟩;have hS:=SH.nil [] w
 go_enter Tryz.func114,Tryz.ntmps114
 go_upto_region 0 with fail;refine RL hS ?_;clear hS;refine MN (z:=p4 X1 Y1 Z1 T1) (t:=154) ?_;intro S4;refine MN (z:=p4 0 0 0 0) (t:=154) ?_;intro S7;refine MZ fun W hS=> ?_;go_upto_region 1 with fail;refine RXn 10 [⟨10,3,c4 0,152⟩,⟨11,4,c4 0,152⟩] hS ?_ (by simp only[List.forall_mem_cons];exact⟨⟨_,rfl,rfl,rfl,fun _ _=>by kernel_rfl⟩,⟨_,rfl,rfl,rfl,fun _ _=>by kernel_rfl⟩,fun _ h=>by cases h⟩);clear hS;refine MV ?_;refine Ml 1 Q17 ?_;refine MV ?_;refine Ml 1 Q17 ?_;refine MC (v:=.agg (c4 N1)) (fun W hS=>τ W (J9 hG hS.ext).1) ?_;refine MV ?_;refine Ml 1 Q45 ?_;refine MV ?_;refine Ml 1 Q45 ?_;refine MC (v:=.agg (c4 N2)) (fun W hS=>ξ W (J9 hG hS.ext).1) ?_;refine MZB fun T6=> ?_;refine MR 0 ?_;refine MR 1 ?_;refine MZn fun W hS=> ?_;go_upto_region 2 with fail;refine RL hS ?_;clear hS;refine MV ?_;refine Ml 3 J8y ?_;refine MV ?_;refine Ml 3 J8y ?_;refine MC (v:=.agg (c4 N3)) (fun W hS=>Ψ W (J9 hG hS.ext).1) ?_;refine MN (z:=c4 0) (t:=152) ?_;intro T2;refine MR 0 ?_;refine MZ fun W hS=> ?_;go_upto_region 3 with fail;refine RL hS ?_;clear hS;refine ML 0 ?_;refine ML 0 ?_;refine MC (v:=.agg (c4 N4)) (fun W hS=>σ W (J9 hG hS.ext).1) ?_;refine MR 0 ?_;refine MZ fun W hS=> ?_;go_upto_region 4 with fail;refine RL hS ?_;clear hS;refine ML 1 ?_;refine ML 2 ?_;refine MC (v:=.agg (c4 N5)) (fun W hS=>Ω W (J9 hG hS.ext).1) ?_;refine MN (z:=c4 0) (t:=152) ?_;intro T5;refine MR 0 ?_;refine MZ fun W hS=> ?_;go_upto_region 5 with fail;refine RL hS ?_;clear hS;refine MV ?_;refine Ml 5 Q17 ?_;refine MV ?_;refine Ml 5 Q45 ?_;refine MC (v:=.agg (c4 N6)) (fun W hS=>Δ W (J9 hG hS.ext).1) ?_;refine MN (z:=c4 0) (t:=152) ?_;intro S6;refine MR 0 ?_;refine MZ fun W hS=> ?_;go_upto_region 6 with fail;refine RXn 5 [⟨5,8,c4 0,152⟩] hS ?_ (by simp only[List.forall_mem_cons];exact⟨⟨_,rfl,rfl,rfl,fun _ _=>by kernel_rfl⟩,fun _ h=>by cases h⟩);clear hS;refine ML 1 ?_;refine ML 0 ?_;refine ML 0 ?_;refine MC (v:=.agg (c4 N7)) (fun W hS=>D1 W (J9 hG hS.ext).1) ?_;refine MC (v:=.agg (c4 N8)) (fun W hS=>Θ W (J9 hG hS.ext).1) ?_;refine MZB fun T7=> ?_;refine MR 0 ?_;refine MZn fun W hS=> ?_;go_upto_region 7 with fail;refine RL hS ?_;clear hS;refine ML 4 ?_;refine ML 5 ?_;refine MC (v:=.agg (c4 N9)) (fun W hS=>ω W (J9 hG hS.ext).1) ?_;refine MN (z:=c4 0) (t:=152) ?_;intro S5;refine MR 0 ?_;refine MZ fun W hS=> ?_;go_upto_region 8 with fail;refine RL hS ?_;clear hS;refine ML 4 ?_;refine ML 0 ?_;refine MC (v:=.agg (c4 R)) (fun W hS=>V W (J9 hG hS.ext).1) ?_;refine MN (z:=c4 0) (t:=152) ?_;intro S9;refine MR 0 ?_;refine MZ fun W hS=> ?_;go_upto_region 9 with fail;refine RX 13 hS ?_;clear hS;refine ML 2 ?_;refine ML 0 ?_;refine MC (v:=.agg (c4 ρ)) (fun W hS=>ζ W (J9 hG hS.ext).1) ?_;refine ML 1 ?_;refine ML 4 ?_;refine MC (v:=.agg (c4 ψ)) (fun W hS=>η W (J9 hG hS.ext).1) ?_;refine ML 0 ?_;refine ML 1 ?_;refine MC (v:=.agg (c4 Ξ)) (fun W hS=>S W (J9 hG hS.ext).1) ?_;refine ML 2 ?_;refine ML 4 ?_;refine MC (v:=.agg (c4 φ)) (fun W hS=>ν W (J9 hG hS.ext).1) ?_;refine MW ?_ (v:=.agg (p4 ρ ψ Ξ φ)) (hv:=by intro W;kernel_rfl);refine MZt ?_;refine MR 8 ?_;refine MZn fun W hS=> ?_;go_wp2;exact bodyPost_ret (Y0 rfl rfl (hS.blk (i:=8) rfl) (by kernel_rfl) (by kernel_rfl)) rfl ⟨rfl,hS.ext⟩
theorem V5b (hd:kn.d){X1 Y1 Z1 T1:Nat}{p1:Pr}{X2 Y2 Z2 T2:Nat}{p2:Pr}(h1:RW X1 Y1 Z1 T1 p1)(h2:RW X2 Y2 Z2 T2 p2):
  ∃X Y Z T,RN X Y Z T (J1z p1 p2)∧∀w,GE kn w→Calls Tryz.prog 71 #[.agg (p4 X1 Y1 Z1 T1),.agg (p4 X2 Y2 Z2 T2)] w fun e w' =>X5 (.agg (p4 X Y Z T)) w w' e:=by
 obtain⟨x1,y2,z3,t4,r5,c6⟩:=J54 (kn:=kn) h1;obtain⟨x7,y8,z9,G4,D,c12⟩:=J54 (kn:=kn) h2;have ω:=J9n y2 x1 (Z0 r5.y) (Z0 r5.x);obtain⟨M5,ε⟩:=exn ((y2+(PP-x1 % PP)) % PP);rw[←ε] at ω;have N7:=bpp ε;have R4:=Z0 N7;have Z4:=Lib.hid ε;clear ε;have D8:=J9n y8 x7 (Z0 D.y) (Z0 D.x);obtain⟨G6,S⟩:=exn ((y8+(PP-x7 % PP)) % PP);rw[←S] at D8;have S6:=bpp S;have T8:=Z0 S6;have Y3:=Lib.hid S;clear S;have G1:=X7 M5 G6 R4 T8;obtain⟨χ,N⟩:=exn (M5*G6 % PP);rw[←N] at G1;have T9:=bpp N;have M6:=Z0 T9;have R2:=Lib.hid N;clear N;have Γ:=J5g y2 x1 (Z0 r5.y) (Z0 r5.x);obtain⟨G7,γ⟩:=exn ((y2+x1) % PP);rw[←γ] at Γ;have lN16:=bpp γ;have T7:=Z0 lN16;have HN16:=Lib.hid γ;clear γ;have D6:=J5g y8 x7 (Z0 D.y) (Z0 D.x);obtain⟨M2,κ⟩:=exn ((y8+x7) % PP);rw[←κ] at D6;have R6:=bpp κ;have N8:=Z0 R6;have N2:=Lib.hid κ;clear κ;have D1:=X7 G7 M2 T7 N8;obtain⟨τ,M⟩:=exn (G7*M2 % PP);rw[←M] at D1;have X3:=bpp M;have M4:=Z0 X3;have R5:=Lib.hid M;clear M;have D5:=X7 t4 D2 (Z0 r5.t) K0k;obtain⟨M9,G⟩:=exn (t4*D2 % PP);rw[←G] at D5;have R7:=bpp G;have N4:=Z0 R7;have T6:=Lib.hid G;clear G;have D3:=X7 M9 G4 N4 (Z0 D.t);obtain⟨ν,β⟩:=exn (M9*G4 % PP);rw[←β] at D3;have T5:=bpp β;have N0:=Z0 T5;have S3:=Lib.hid β;clear β;have D4:=J5g z3 z3 (Z0 r5.z) (Z0 r5.z);obtain⟨M7,α⟩:=exn ((z3+z3) % PP);rw[←α] at D4;have N1:=bpp α;have Y7:=Z0 N1;have N3:=Lib.hid α;clear α;have Ψ:=X7 M7 z9 Y7 (Z0 D.z);obtain⟨ρ,δ⟩:=exn (M7*z9 % PP);rw[←δ] at Ψ;have S7:=bpp δ;have G2:=Z0 S7;have X0:=Lib.hid δ;clear δ;have Θ:=J9n τ χ M4 M6;obtain⟨σ,μ⟩:=exn ((τ+(PP-χ % PP)) % PP);rw[←μ] at Θ;have R9:=bpp μ;have M3:=Z0 R9;have S9:=Lib.hid μ;clear μ;have D9:=J9n ρ ν G2 N0;obtain⟨ψ,U⟩:=exn ((ρ+(PP-ν % PP)) % PP);rw[←U] at D9;have R3:=bpp U;have G9:=Z0 R3;have Z3:=Lib.hid U;clear U;have Δ:=J5g ρ ν G2 N0;obtain⟨φ,ζ⟩:=exn ((ρ+ν) % PP);rw[←ζ] at Δ;have N6:=bpp ζ;have G8:=Z0 N6;have R0:=Lib.hid ζ;clear ζ;have Ξ:=J5g τ χ M4 M6;obtain⟨ξ,J⟩:=exn ((τ+χ) % PP);rw[←J] at Ξ;have V7:=bpp J;have M8:=Z0 V7;have N5:=Lib.hid J;clear J;have D7:=X7 σ ψ M3 G9;obtain⟨M0,η⟩:=exn (σ*ψ % PP);rw[←η] at D7;have lN27:=bpp η;have bN27:=Z0 lN27;have R1:=Lib.hid η;clear η;have D0:=X7 φ ξ G8 M8;obtain⟨G5,V⟩:=exn (φ*ξ % PP);rw[←V] at D0;have R8:=bpp V;have bN28:=Z0 R8;have N9:=Lib.hid V;clear V;have G0:=X7 ψ φ G9 G8;obtain⟨G3,θ⟩:=exn (ψ*φ % PP);rw[←θ] at G0;have Y4:=bpp θ;have bN29:=Z0 Y4;have S5:=Lib.hid θ;clear θ;have Ω:=X7 σ ξ M3 M8;obtain⟨M1,R⟩:=exn (σ*ξ % PP);rw[←R] at Ω;have X4:=bpp R;have bN30:=Z0 X4;have S4:=Lib.hid R;clear R;refine⟨M0,G5,G3,M1,Y3a r5 D Z4.out Y3.out R2.out HN16.out N2.out R5.out T6.out S3.out N3.out X0.out S9.out Z3.out R0.out N5.out R1.out N9.out S5.out S4.out,fun w hG=> ?_⟩;have hS:=SH.nil [] w
 go_enter Tryz.func71,Tryz.ntmps71
 go_upto_region 0 with fail;refine RL hS ?_;clear hS;refine MN (z:=p4 X1 Y1 Z1 T1) (t:=154) ?_;intro K9;refine MN (z:=p4 X2 Y2 Z2 T2) (t:=154) ?_;intro J23;refine MN (z:=p4 0 0 0 0) (t:=154) ?_;intro Z3j;refine MZ fun W hS=> ?_;go_upto_region 1 with fail;refine RX 4 hS ?_;clear hS;refine ML 2 ?_;refine MC (v:=.agg (p4 x1 y2 z3 t4)) (fun W hS=>c6 W (J9 hG hS.ext)) ?_;refine ML 1 ?_;refine MC (v:=.agg (p4 x7 y8 z9 G4)) (fun W hS=>c12 W (J9 hG hS.ext)) ?_;refine MZt ?_;refine MR 2 ?_;refine MR 1 ?_;refine MZn fun W hS=> ?_;go_upto_region 2 with fail;refine RXn 11 [⟨11,5,c4 0,152⟩] hS ?_ (by simp only[List.forall_mem_cons];exact⟨⟨_,rfl,rfl,rfl,fun _ _=>by kernel_rfl⟩,fun _ h=>by cases h⟩);clear hS;refine MV ?_;refine Ml 2 Q45 ?_;refine MV ?_;refine Ml 2 Q17 ?_;refine MC (v:=.agg (c4 M5)) (fun W hS=>ω W (J9 hG hS.ext).1) ?_;refine MV ?_;refine Ml 1 Q45 ?_;refine MV ?_;refine Ml 1 Q17 ?_;refine MC (v:=.agg (c4 G6)) (fun W hS=>D8 W (J9 hG hS.ext).1) ?_;refine MC (v:=.agg (c4 χ)) (fun W hS=>G1 W (J9 hG hS.ext).1) ?_;refine MZB fun β4=> ?_;refine MR 0 ?_;refine MZn fun W hS=> ?_;go_upto_region 3 with fail;refine RXn 11 [⟨11,6,c4 0,152⟩] hS ?_ (by simp only[List.forall_mem_cons];exact⟨⟨_,rfl,rfl,rfl,fun _ _=>by kernel_rfl⟩,fun _ h=>by cases h⟩);clear hS;refine MV ?_;refine Ml 3 Q45 ?_;refine MV ?_;refine Ml 3 Q17 ?_;refine MC (v:=.agg (c4 G7)) (fun W hS=>Γ W (J9 hG hS.ext).1) ?_;refine MV ?_;refine Ml 2 Q45 ?_;refine MV ?_;refine Ml 2 Q17 ?_;refine MC (v:=.agg (c4 M2)) (fun W hS=>D6 W (J9 hG hS.ext).1) ?_;refine MC (v:=.agg (c4 τ)) (fun W hS=>D1 W (J9 hG hS.ext).1) ?_;refine MZB fun β5=> ?_;refine MR 0 ?_;refine MZn fun W hS=> ?_;go_upto_region 4 with fail;refine RXn 7 [⟨7,7,c4 0,152⟩] hS ?_ (by simp only[List.forall_mem_cons];exact⟨⟨_,rfl,rfl,rfl,fun _ _=>by kernel_rfl⟩,fun _ h=>by cases h⟩);clear hS;refine MV ?_;refine Ml 4 K0l ?_;refine MF (v:=.agg (c4 D2)) (fun W hS=>J2c rfl rfl ((J9 hG hS.ext).2.2.2.1 hd) (by kernel_rfl) (by kernel_rfl)) ?_;refine MC (v:=.agg (c4 M9)) (fun W hS=>D5 W (J9 hG hS.ext).1) ?_;refine MV ?_;refine Ml 3 K0l ?_;refine MC (v:=.agg (c4 ν)) (fun W hS=>D3 W (J9 hG hS.ext).1) ?_;refine MZB fun β6=> ?_;refine MR 0 ?_;refine MZn fun W hS=> ?_;go_upto_region 5 with fail;refine RXn 8 [⟨8,8,c4 0,152⟩] hS ?_ (by simp only[List.forall_mem_cons];exact⟨⟨_,rfl,rfl,rfl,fun _ _=>by kernel_rfl⟩,fun _ h=>by cases h⟩);clear hS;refine MV ?_;refine Ml 5 J8y ?_;refine MV ?_;refine Ml 5 J8y ?_;refine MC (v:=.agg (c4 M7)) (fun W hS=>D4 W (J9 hG hS.ext).1) ?_;refine MV ?_;refine Ml 4 J8y ?_;refine MC (v:=.agg (c4 ρ)) (fun W hS=>Ψ W (J9 hG hS.ext).1) ?_;refine MZB fun β7=> ?_;refine MR 0 ?_;refine MZn fun W hS=> ?_;go_upto_region 6 with fail;refine RXn 12 [⟨12,9,c4 0,152⟩,⟨13,10,c4 0,152⟩,⟨14,11,c4 0,152⟩,⟨15,12,c4 0,152⟩] hS ?_ (by simp only[List.forall_mem_cons];exact⟨⟨_,rfl,rfl,rfl,fun _ _=>by kernel_rfl⟩,⟨_,rfl,rfl,rfl,fun _ _=>by kernel_rfl⟩,⟨_,rfl,rfl,rfl,fun _ _=>by kernel_rfl⟩,⟨_,rfl,rfl,rfl,fun _ _=>by kernel_rfl⟩,fun _ h=>by cases h⟩);clear hS;refine ML 2 ?_;refine ML 3 ?_;refine MC (v:=.agg (c4 σ)) (fun W hS=>Θ W (J9 hG hS.ext).1) ?_;refine ML 0 ?_;refine ML 1 ?_;refine MC (v:=.agg (c4 ψ)) (fun W hS=>D9 W (J9 hG hS.ext).1) ?_;refine ML 0 ?_;refine ML 1 ?_;refine MC (v:=.agg (c4 φ)) (fun W hS=>Δ W (J9 hG hS.ext).1) ?_;refine ML 2 ?_;refine ML 3 ?_;refine MC (v:=.agg (c4 ξ)) (fun W hS=>Ξ W (J9 hG hS.ext).1) ?_;refine MZB fun β8=> ?_;refine MR 0 ?_;refine MR 1 ?_;refine MR 2 ?_;refine MR 3 ?_;refine MZn fun W hS=> ?_;go_upto_region 7 with fail;refine RX 13 hS ?_;clear hS;refine ML 0 ?_;refine ML 1 ?_;refine MC (v:=.agg (c4 M0)) (fun W hS=>D7 W (J9 hG hS.ext).1) ?_;refine ML 2 ?_;refine ML 3 ?_;refine MC (v:=.agg (c4 G5)) (fun W hS=>D0 W (J9 hG hS.ext).1) ?_;refine ML 1 ?_;refine ML 2 ?_;refine MC (v:=.agg (c4 G3)) (fun W hS=>G0 W (J9 hG hS.ext).1) ?_;refine ML 0 ?_;refine ML 3 ?_;refine MC (v:=.agg (c4 M1)) (fun W hS=>Ω W (J9 hG hS.ext).1) ?_;refine MW ?_ (v:=.agg (p4 M0 G5 G3 M1)) (hv:=by intro W;kernel_rfl);refine MZt ?_;refine MR 8 ?_;refine MZn fun W hS=> ?_;go_wp2;exact bodyPost_ret (Y0 rfl rfl (hS.blk (i:=8) rfl) (by kernel_rfl) (by kernel_rfl)) rfl ⟨rfl,hS.ext⟩
theorem pm8 {a:Pr}(h:OnC a):pm a 8=J1z (J1z (J1z a a) (J1z a a)) (J1z (J1z a a) (J1z a a)):=by
 rw[show 8=2*(2*(2*1)) from rfl,J7m h,J7m h,J7m h,V5c]
theorem Q21 {X1 Y1 Z1 T1:Nat}{p1:Pr}(h1:RW X1 Y1 Z1 T1 p1):
  ∃X Y Z T,RN X Y Z T (pm p1 8)∧∀w,GE kn w→Calls Tryz.prog 108 #[.agg (p4 X1 Y1 Z1 T1)] w fun e w' =>X5 (.agg (p4 X Y Z T)) w w' e:=by
 obtain⟨x1,y2,z3,t4,r5,c6⟩:=J54 (kn:=kn) h1;obtain⟨x7,y8,z9,δ,γ,N⟩:=Q20 (kn:=kn) r5;obtain⟨ε,β,U,V,ζ,S⟩:=Q20 (kn:=kn) γ;obtain⟨D,G,J,M,α,R⟩:=Q20 (kn:=kn) ζ;refine⟨D,G,J,M,pm8 h1.on▸α,fun w hG=> ?_⟩;have hS:=SH.nil [] w
 go_enter Tryz.func108,Tryz.ntmps108
 go_upto_region 0 with fail;refine RL hS ?_;clear hS;refine MN (z:=p4 X1 Y1 Z1 T1) (t:=154) ?_;intro θ;refine MN (z:=p4 0 0 0 0) (t:=154) ?_;intro η;refine MZ fun W hS=> ?_;go_upto_region 1 with fail;refine RL hS ?_;clear hS;refine ML 1 ?_;refine MC (v:=.agg (p4 x1 y2 z3 t4)) (fun W hS=>c6 W (J9 hG hS.ext)) ?_;refine MC (v:=.agg (p4 x7 y8 z9 δ)) (fun W hS=>N W (J9 hG hS.ext)) ?_;refine MC (v:=.agg (p4 ε β U V)) (fun W hS=>S W (J9 hG hS.ext)) ?_;refine MC (v:=.agg (p4 D G J M)) (fun W hS=>R W (J9 hG hS.ext)) ?_;refine MR 0 ?_;refine MZ fun W hS=> ?_;go_wp2;exact bodyPost_ret (Y0 rfl rfl (hS.blk (i:=0) rfl) (by kernel_rfl) (by kernel_rfl)) rfl ⟨rfl,hS.ext⟩
theorem Z6n (hb:kn.b):
  ∃X Y Z T,RN X Y Z T BP∧∀w,GE kn w→Calls Tryz.prog 69 #[] w fun e w' =>X5 (.agg (p4 X Y Z T)) w w' e:=by
 obtain⟨t1,r2,c3⟩:=V18 (kn:=kn) (X:=BX) (Y:=BY) (by decide) (by decide) Y3b;refine⟨BX,BY,1,t1,r2,fun w hG=> ?_⟩;have hS:=SH.nil [] w
 go_enter Tryz.func69,Tryz.ntmps69
 go_upto_region 0 with fail;refine RL hS ?_;clear hS;refine MN (z:=p4 0 0 0 0) (t:=154) ?_;intro D;refine MZ fun W hS=> ?_;go_upto_region 1 with fail;refine RL hS ?_;clear hS;refine MF (v:=.agg (c4 BX)) (fun W hS=>J2c rfl rfl ((J9 hG hS.ext).2.2.2.2.1 hb) (by kernel_rfl) (by kernel_rfl)) ?_;refine MF (v:=.agg (c4 BY)) (fun W hS=>J2c rfl rfl ((J9 hG hS.ext).2.2.2.2.2 hb) (by kernel_rfl) (by kernel_rfl)) ?_;refine MC (v:=.agg (p4 BX BY 1 t1)) (fun W hS=>c3 W (J9 hG hS.ext)) ?_;refine MR 0 ?_;refine MZ fun W hS=> ?_;go_wp2;exact bodyPost_ret (Y0 rfl rfl (hS.blk (i:=0) rfl) (by kernel_rfl) (by kernel_rfl)) rfl ⟨rfl,hS.ext⟩
end

section
set_option maxHeartbeats 1500000
attribute [local irreducible] wpList V2 wpX
variable {kn : Kn}
theorem Z6o {A:Nat}(h:A<PP):A<2^256:=Nat.lt_trans h (by decide)
theorem V5d {X1 Y1 Z1 X2 Y2 Z2 m1 m2 m3 m4:Nat}{p q:Pr}(r1:RD X1 Y1 Z1 p)(r2:RD X2 Y2 Z2 q)(e1:m1=X1*Z2 % PP)(e2:m2=X2*Z1 % PP)(e3:m3=Y1*Z2 % PP)(e4:m4=Y2*Z1 % PP)(h1:m1=m2)(h2:m3=m4):decide (p=q)=true:=
 decide_eq_true ((Q61 r1 r2 e1 e2 e3 e4).1 ⟨h1,h2⟩)
theorem Y8a {X1 Y1 Z1 X2 Y2 Z2 m1 m2 m3 m4:Nat}{p q:Pr}(r1:RD X1 Y1 Z1 p)(r2:RD X2 Y2 Z2 q)(e1:m1=X1*Z2 % PP)(e2:m2=X2*Z1 % PP)(e3:m3=Y1*Z2 % PP)(e4:m4=Y2*Z1 % PP)(h1:¬m1=m2):decide (p=q)=false:=
 decide_eq_false fun h=>h1 ((Q61 r1 r2 e1 e2 e3 e4).2 h).1
theorem Y8b {X1 Y1 Z1 X2 Y2 Z2 m1 m2 m3 m4:Nat}{p q:Pr}(r1:RD X1 Y1 Z1 p)(r2:RD X2 Y2 Z2 q)(e1:m1=X1*Z2 % PP)(e2:m2=X2*Z1 % PP)(e3:m3=Y1*Z2 % PP)(e4:m4=Y2*Z1 % PP)(h1:¬m3=m4):decide (p=q)=false:=
 decide_eq_false fun h=>h1 ((Q61 r1 r2 e1 e2 e3 e4).2 h).2
theorem K0m {X Y Z i x y:Nat}{a:Pr}(r:RD X Y Z a)(ei:i=pw Z (PP-2))(ex:x=X*i % PP)(ey:y=Y*i % PP)(ho:x % 2=1):J0 .u8 32 (upd (J5 y) 31 (bits .or .u8 (J5 y 31) 128))=J0 .u8 32 (J5 (enc a)):=by
 obtain⟨h1,h2⟩:=Y3c r ei ex ey;rw[K0n (Nat.lt_trans (ey▸J5i _) Z3m)];unfold enc;rw[←h1,←h2,ho]
theorem K0o {X Y Z i x y:Nat}{a:Pr}(r:RD X Y Z a)(ei:i=pw Z (PP-2))(ex:x=X*i % PP)(ey:y=Y*i % PP)(ho:¬x % 2=1):J0 .u8 32 (J5 y)=J0 .u8 32 (J5 (enc a)):=by
 obtain⟨h1,h2⟩:=Y3c r ei ex ey;have:x % 2=0:=by omega
 unfold enc;rw[←h1,←h2,this,Nat.mul_zero,Nat.add_zero]

theorem Q9f {X1 Y1 Z1 T1:Nat}{p1:Pr}{X2 Y2 Z2 T2:Nat}{p2:Pr}(h1:RW X1 Y1 Z1 T1 p1)(h2:RW X2 Y2 Z2 T2 p2):
  ∀w,GE kn w→Calls Tryz.prog 109 #[.agg (p4 X1 Y1 Z1 T1),.agg (p4 X2 Y2 Z2 T2)] w fun e w' =>X5 (.bool (decide (p1=p2))) w w' e:=by
 obtain⟨x1,y2,z3,t4,r5,c6⟩:=J54 (kn:=kn) h1;obtain⟨x7,y8,z9,φ,M,τ⟩:=J54 (kn:=kn) h2;have J:=X7 x1 z9 (Z0 r5.x) (Z0 M.z);obtain⟨Z,S⟩:=exn (x1*z9 % PP);rw[←S] at J;have κ:=bpp S;have ν:=Z0 κ;have γ:=Lib.hid S;clear S;have G:=X7 x7 z3 (Z0 M.x) (Z0 r5.z);obtain⟨Y,X⟩:=exn (x7*z3 % PP);rw[←X] at G;have η:=bpp X;have σ:=Z0 η;have β:=Lib.hid X;clear X;have D:=J6p Z Y ν σ;rw[Nat.mod_eq_of_lt κ,Nat.mod_eq_of_lt η] at D;have T:=X7 y2 z9 (Z0 r5.y) (Z0 M.z);obtain⟨ζ,U⟩:=exn (y2*z9 % PP);rw[←U] at T;have μ:=bpp U;have ρ:=Z0 μ;have δ:=Lib.hid U;clear U;have V:=X7 y8 z3 (Z0 M.y) (Z0 r5.z);obtain⟨ε,R⟩:=exn (y8*z3 % PP);rw[←R] at V;have θ:=bpp R;have ξ:=Z0 θ;have α:=Lib.hid R;clear R;have N:=J6p ζ ε ρ ξ;rw[Nat.mod_eq_of_lt μ,Nat.mod_eq_of_lt θ] at N;intro w hG;have hS:=SH.nil [] w
 go_enter Tryz.func109,Tryz.ntmps109
 go_upto_region 0 with fail;refine RL hS ?_;clear hS;refine MN (z:=p4 X1 Y1 Z1 T1) (t:=154) ?_;intro K9;refine MN (z:=p4 X2 Y2 Z2 T2) (t:=154) ?_;intro χ;refine Wf ?_;refine MZ fun W hS=> ?_;go_upto_region 1 with fail;refine RX 4 hS ?_;clear hS;refine ML 1 ?_;refine MC (v:=.agg (p4 x1 y2 z3 t4)) (fun W hS=>c6 W (J9 hG hS.ext)) ?_;refine ML 0 ?_;refine MC (v:=.agg (p4 x7 y8 z9 φ)) (fun W hS=>τ W (J9 hG hS.ext)) ?_;refine MZt ?_;refine MR 1 ?_;refine MR 0 ?_;refine MZn fun W hS=> ?_
 by_cases hx:Z=Y
 ·
  by_cases hy:ζ=ε
  ·
   go_upto_region 2 with fail;refine RS hS ?_;clear hS;refine MV ?_;refine Ml 1 Q17 ?_;refine MV ?_;refine Ml 0 J8y ?_;refine MC (v:=.agg (c4 Z)) (fun W hS=>J W (J9 hG hS.ext).1) ?_;refine MV ?_;refine Ml 0 Q17 ?_;refine MV ?_;refine Ml 1 J8y ?_;refine MC (v:=.agg (c4 Y)) (fun W hS=>G W (J9 hG hS.ext).1) ?_;rw[decide_eq_true hx] at D;refine MC (v:=.bool true) (fun W hS=>D W (J9 hG hS.ext).1) ?_;refine Wt ?_;refine MV ?_;refine Ml 1 Q45 ?_;refine MV ?_;refine Ml 0 J8y ?_;refine MC (v:=.agg (c4 ζ)) (fun W hS=>T W (J9 hG hS.ext).1) ?_;refine MV ?_;refine Ml 0 Q45 ?_;refine MV ?_;refine Ml 1 J8y ?_;refine MC (v:=.agg (c4 ε)) (fun W hS=>V W (J9 hG hS.ext).1) ?_;rw[decide_eq_true hy] at N;refine MC (v:=.bool true) (fun W hS=>N W (J9 hG hS.ext).1) ?_;refine Wt ?_;refine Wt ?_;refine MZx fun W hS=> ?_;go_wp2;rw[V5d r5.rr M.rr γ.out β.out δ.out α.out hx hy];exact bodyPost_ret (v:=.bool true) (by simp only[results,Tryz.results109];go_simp) rfl ⟨rfl,hS.ext⟩
  go_upto_region 2 with fail;refine RS hS ?_;clear hS;refine MV ?_;refine Ml 1 Q17 ?_;refine MV ?_;refine Ml 0 J8y ?_;refine MC (v:=.agg (c4 Z)) (fun W hS=>J W (J9 hG hS.ext).1) ?_;refine MV ?_;refine Ml 0 Q17 ?_;refine MV ?_;refine Ml 1 J8y ?_;refine MC (v:=.agg (c4 Y)) (fun W hS=>G W (J9 hG hS.ext).1) ?_;rw[decide_eq_true hx] at D;refine MC (v:=.bool true) (fun W hS=>D W (J9 hG hS.ext).1) ?_;refine Wt ?_;refine MV ?_;refine Ml 1 Q45 ?_;refine MV ?_;refine Ml 0 J8y ?_;refine MC (v:=.agg (c4 ζ)) (fun W hS=>T W (J9 hG hS.ext).1) ?_;refine MV ?_;refine Ml 0 Q45 ?_;refine MV ?_;refine Ml 1 J8y ?_;refine MC (v:=.agg (c4 ε)) (fun W hS=>V W (J9 hG hS.ext).1) ?_;rw[decide_eq_false hy] at N;refine MC (v:=.bool false) (fun W hS=>N W (J9 hG hS.ext).1) ?_;refine Wf ?_;refine Wf ?_;refine MZx fun W hS=> ?_;go_wp2;rw[Y8b r5.rr M.rr γ.out β.out δ.out α.out hy];exact bodyPost_ret (v:=.bool false) (by simp only[results,Tryz.results109];go_simp) rfl ⟨rfl,hS.ext⟩
 go_upto_region 2 with fail;refine RS hS ?_;clear hS;refine MV ?_;refine Ml 1 Q17 ?_;refine MV ?_;refine Ml 0 J8y ?_;refine MC (v:=.agg (c4 Z)) (fun W hS=>J W (J9 hG hS.ext).1) ?_;refine MV ?_;refine Ml 0 Q17 ?_;refine MV ?_;refine Ml 1 J8y ?_;refine MC (v:=.agg (c4 Y)) (fun W hS=>G W (J9 hG hS.ext).1) ?_;rw[decide_eq_false hx] at D;refine MC (v:=.bool false) (fun W hS=>D W (J9 hG hS.ext).1) ?_;refine Wf ?_;(iterate 11 refine MS ?_);refine Wf ?_;refine Wf ?_;refine MZx fun W hS=> ?_;go_wp2;rw[Y8a r5.rr M.rr γ.out β.out δ.out α.out hx];exact bodyPost_ret (v:=.bool false) (by simp only[results,Tryz.results109];go_simp) rfl ⟨rfl,hS.ext⟩
theorem V5e {X1 Y1 Z1 T1:Nat}{p1:Pr}(h1:RW X1 Y1 Z1 T1 p1):
  ∀w,GE kn w→Calls Tryz.prog 91 #[.agg (p4 X1 Y1 Z1 T1)] w fun e w' =>X5 (.agg (J0 .u8 32 (J5 (enc p1)))) w w' e:=by
 obtain⟨x1,y2,z3,t4,r5,c6⟩:=J54 (kn:=kn) h1;have U:=V59 z3 (Z0 r5.z);obtain⟨N7,M⟩:=exn (pw z3 (PP-2));rw[←M] at U;have ε:=bpp M;have β:=Z0 ε;have γ:=Lib.hid M;clear M;have T:=X7 y2 N7 (Z0 r5.y) β;obtain⟨N8,N⟩:=exn (y2*N7 % PP);rw[←N] at T;have X:=bpp N;have ζ:=Z0 X;have α:=Lib.hid N;clear N;have Z:=Q60 N8 ζ;rw[Nat.mod_eq_of_lt X] at Z;have J:=X7 x1 N7 (Z0 r5.x) β;obtain⟨R,G⟩:=exn (x1*N7 % PP);rw[←G] at J;have V:=bpp G;have δ:=Z0 V;have S:=Lib.hid G;clear G;have D:=Z3k R δ;rw[Nat.mod_eq_of_lt V] at D;intro w hG;have hS:=SH.nil [] w
 go_enter Tryz.func91,Tryz.ntmps91
 go_upto_region 0 with fail;refine RL hS ?_;clear hS;refine MN (z:=p4 X1 Y1 Z1 T1) (t:=154) ?_;intro κ;refine MN (z:=J0 .u8 32 (J5 0)) (t:=23) ?_;intro θ;refine MZ fun W hS=> ?_;go_upto_region 1 with fail;refine RL hS ?_;clear hS;refine ML 1 ?_;refine MC (v:=.agg (p4 x1 y2 z3 t4)) (fun W hS=>c6 W (J9 hG hS.ext)) ?_;refine MR 1 ?_;refine MZ fun W hS=> ?_;go_upto_region 2 with fail;refine RL hS ?_;clear hS;refine MV ?_;refine Ml 1 J8y ?_;refine MC (v:=.agg (c4 N7)) (fun W hS=>U W (J9 hG hS.ext).1) ?_;refine MN (z:=c4 0) (t:=152) ?_;intro η;refine MR 0 ?_;refine MZ fun W hS=> ?_;go_upto_region 3 with fail;refine RL hS ?_;clear hS;refine MV ?_;refine Ml 2 Q45 ?_;refine ML 0 ?_;refine MC (v:=.agg (c4 N8)) (fun W hS=>T W (J9 hG hS.ext).1) ?_;refine MC (v:=.agg (J0 .u8 32 (J5 N8))) (fun W hS=>Z W (J9 hG hS.ext).1) ?_;refine MN (z:=J0 .u8 32 (J5 0)) (t:=23) ?_;intro Y;refine MR 0 ?_;refine MZ fun W hS=> ?_
 by_cases ho:R % 2=1
 ·
  go_upto_region 4 with fail;refine RL hS ?_;clear hS;refine MV ?_;refine Ml 3 Q17 ?_;refine ML 1 ?_;refine MC (v:=.agg (c4 R)) (fun W hS=>J W (J9 hG hS.ext).1) ?_;rw[decide_eq_true ho] at D;refine MC (v:=.bool true) (fun W hS=>D W (J9 hG hS.ext).1) ?_;refine MZ fun W hS=> ?_;go_upto_region 5 with fail;refine RL hS ?_;clear hS;refine MW ?_ (v:=.pointer (some ⟨Y,0+31,none⟩)) (hv:=fun _=>rxa Tryz.underlying23 (by decide));refine MG 0 ?_ (j:=0+31) (v:=.int .u8 ((J5 N8) 31)) (hj:=ag0 (by decide));refine MW ?_ (v:=.int .u8 (bits .or .u8 (J5 N8 31) 128)) (hv:=by intro W;exact Y8c rfl rfl rfl rfl);refine MW ?_ (v:=.pointer (some ⟨Y,0+31,none⟩)) (hv:=fun _=>rxa Tryz.underlying23 (by decide));refine MP 0 (v:=.int .u8 (bits .or .u8 (J5 N8 31) 128)) (cs' :=J0 .u8 32 (upd (J5 N8) 31 (bits .or .u8 (J5 N8 31) 128))) ?_ (hs:=by rw[J1,Nat.zero_add];decide) (hc:=by rw[Nat.zero_add];exact K0 _ _ _ _ _);refine MT (fun W hS=>by rw[K0m r5.rr γ.out S.out α.out ho] at hS;exact hS) ?_;refine MZ fun W hS=> ?_;go_upto_region 6 with fail;refine RL hS ?_;clear hS;refine ML 0 ?_;refine MR 2 ?_;refine MZ fun W hS=> ?_;go_wp2;exact bodyPost_ret (Y0 rfl rfl (hS.blk (i:=2) rfl) (by kernel_rfl) (by rw[J1];kernel_rfl)) rfl ⟨rfl,hS.ext⟩
 go_upto_region 4 with fail;refine RL hS ?_;clear hS;refine MV ?_;refine Ml 3 Q17 ?_;refine ML 1 ?_;refine MC (v:=.agg (c4 R)) (fun W hS=>J W (J9 hG hS.ext).1) ?_;rw[decide_eq_false ho] at D;refine MC (v:=.bool false) (fun W hS=>D W (J9 hG hS.ext).1) ?_;refine MZ fun W hS=> ?_;rw[K0o r5.rr γ.out S.out α.out ho] at hS;go_upto_region 6 with fail;refine RL hS ?_;clear hS;refine ML 0 ?_;refine MR 2 ?_;refine MZ fun W hS=> ?_;go_wp2;exact bodyPost_ret (Y0 rfl rfl (hS.blk (i:=2) rfl) (by kernel_rfl) (by rw[J1];kernel_rfl)) rfl ⟨rfl,hS.ext⟩
end
end Go.Proofs.YteehbddkcnkhfaaGreatDoor.S8

/- Contracts and plain laws for custumalPast_holds. Conditions: the tables hold their numbers. -/
import Derived.Test.YteehbddkcnkhfaaGreatDoorJ11
open Go.RowKit
set_option maxRecDepth 100000
set_option linter.unusedSimpArgs false
set_option linter.unusedVariables false
namespace Go.Proofs.YteehbddkcnkhfaaGreatDoor.S8
section
open Sc (LL J0p)
/-! ### Bytes and numbers -/
theorem Y0x (m n V:Nat):lb (m+n) V=lb m V++lb n (V / 2^(8*m)):=by
  induction m generalizing V with
  |zero=>simp[show lb 0 V=[] from rfl]
  |succ m ih=>
    rw[show m+1+n=(m+n)+1 by omega,J9z,J9z,ih,List.cons_append,Nat.div_div_eq_div_mul,show 256*2^(8*m)=2^(8*(m+1)) by rw[show 8*(m+1)=8*m+8 by omega,Nat.pow_add];omega]
def lo (V:Nat):Nat:=V % 2^256
def hi (V:Nat):Nat:=V / 2^256
theorem lo_lt (V:Nat):lo V<2^256:=Nat.mod_lt _ (by decide)
theorem V6z {V:Nat}(h:V<2^(256+256)):hi V<2^256:=by unfold hi;rw[Nat.div_lt_iff_lt_mul (by decide),←Nat.pow_add];exact h
theorem Y0y {V j:Nat}(hj:j<32):J4 (lo V) j=J4 V j:=by
  unfold J4 lo;have e:(2:Nat)^256=2^(8*j)*2^(256-8*j):=by rw[←Nat.pow_add];congr 1;omega
  have e2:(2:Nat)^(256-8*j)=256*2^(248-8*j):=by rw[show 256-8*j=8+(248-8*j) by omega,Nat.pow_add]
  rw[e,Nat.mod_mul_right_div_self,e2,Nat.mod_mul_right_mod]
theorem V2b (V j:Nat):J4 (hi V) j=J4 V (32+j):=by
  unfold J4 hi;rw[Nat.div_div_eq_div_mul,←Nat.pow_add,show 256+8*j=8*(32+j) by omega]
theorem Z0r {V:Nat}:∀i v,(J1 .u8 32 (J4 (lo V)))[i]?=some v→(J1 .u8 64 (J4 V))[0+i]?=some v:=fun i v h=>by
  have hi:i<32:=by have:=(Array.getElem?_eq_some_iff.1 h).1;rwa [J0] at this
  rw[V3 _ _ _ _ hi,Y0y hi] at h;rw[Nat.zero_add,V3 _ _ _ _ (by omega)];exact h
theorem V9h {V:Nat}:∀i v,(J1 .u8 32 (J4 (hi V)))[i]?=some v→(J1 .u8 64 (J4 V))[32+i]?=some v:=fun i v h=>by
  have hi:i<32:=by have:=(Array.getElem?_eq_some_iff.1 h).1;rwa [J0] at this
  rw[V3 _ _ _ _ hi,V2b] at h;rw[V3 _ _ _ _ (by omega)];exact h
/-! ### Sums -/
def hs (F:List UInt8):Nat:=le (smb F)
theorem Y0z (F:List UInt8):hs F<2^(8*64):=by have:=Z1i (smb F);rwa [Q3n] at this
theorem V9j:8*64=256+256:=rfl
theorem V70 (F:List UInt8):hs F<2^(256+256):=by have:=Y0z F;rwa [V9j] at this
theorem V2c (F:List UInt8):smb F=lb 64 (hs F):=(Q9l (Q3n F)).symm
theorem V6p (F:List UInt8):J1 .u8 64 (sm F)=J1 .u8 64 (J4 (hs F)):=Q7f (by rw[Z5d,V2c,Q0f,J39])
/-! ### Secrets -/
def clN (V:Nat):Nat:=J1j (J0p (J4 V)) 32
theorem Q8r (V j:Nat):J7m (J0p (J4 V) j):=by
  have h0:=J7j V 0;have h1:=J7j V 31;have h2:=J7j V j;unfold J0p J7m at*
  split
  · omega
  split
  · omega
  exact h2
theorem Y0j (V:Nat):clN V<2^256:=J6u _ (Q8r V) 32
theorem Y5i (V:Nat):J1 .u8 32 (J0p (J4 V))=J1 .u8 32 (J4 (clN V)):=J07 _ _ _ _ fun j hj=>(Q86 _ (Q8r V) 32 j hj).symm
def kN (S:Nat):Nat:=clN (lo (hs (lb 32 S)))
def kD (S:Nat):Nat:=hi (hs (lb 32 S))
def kP (S:Nat):Nat:=enc (pm BP (kN S))
theorem Y83 (S:Nat):kN S<2^256:=Y0j _
theorem Y84 (S:Nat):kD S<2^256:=V6z (V70 _)
/-! ### Signatures -/
theorem J9d (a:Pr):enc a<2^256:=by
  unfold enc;have h:a.2.val<2^255:=Nat.lt_trans a.2.isLt Z0i;have h2:a.1.val % 2<2:=Nat.mod_lt _ (by decide);have e:(2:Nat)^256=2^255+2^255:=by decide
  generalize (2:Nat)^255=T at*;have:T*(a.1.val % 2)≤T*1:=Nat.mul_le_mul_left T (by omega);omega
theorem Y85 (S:Nat):kP S<2^256:=J9d _
theorem V2d:0<LL:=by decide
theorem J4p:LL<2^256:=by decide
theorem mLL (n:Nat):n % LL<LL:=Nat.mod_lt _ V2d
end

section
def n64:Nat:=18446744073709551616
theorem Y5p (n:Int)(h0:0≤n)(h1:n<2^64):IntKind.u64.wrap n=n:=by rw[IntKind.wrap_u64];omega
theorem J4t (k:IntKind)(j:Nat)(hj:j≤k.bits)(hk:∀n:Int,0≤n→n<2^j→k.wrap n=n)(a b:Nat)(ha:a<2^j)(hb:b<2^j):bits .xor k a b=((a^^^b:Nat):Int):=by
  have hp:2^j≤2^k.bits:=Nat.pow_le_pow_right (by decide) hj;have ha' :a % 2^k.bits=a:=Nat.mod_eq_of_lt (Nat.lt_of_lt_of_le ha hp);have hb' :b % 2^k.bits=b:=Nat.mod_eq_of_lt (Nat.lt_of_lt_of_le hb hp);simp only[bits,BitVec.ofInt_natCast,BitVec.toNat_xor,BitVec.toNat_ofNat,ha',hb'];exact hk _ (Int.natCast_nonneg _) (by exact_mod_cast Nat.xor_lt_two_pow ha hb)
def Wn (x:Int)(a:Nat):Prop:=x=(a:Int)∧a<2^64
section
variable {x y : Int} {a b : Nat}
theorem Wn.xo (h:Wn x a)(k:Wn y b):Wn (xo x y) (a^^^b):=⟨by rw[h.1,k.1];exact J4t .u64 64 (by decide) Y5p a b h.2 k.2,Nat.xor_lt_two_pow h.2 k.2⟩
theorem Wn.an (h:Wn x a)(k:Wn y b):Wn (an x y) (a &&& b):=⟨by rw[h.1,k.1];exact(bits_nat .u64 64 (by decide) Y5p a b h.2 k.2).1,Nat.and_lt_two_pow _ k.2⟩
theorem Wn.oo (h:Wn x a)(k:Wn y b):Wn (oo x y) (a |||b):=⟨by rw[h.1,k.1];exact(bits_nat .u64 64 (by decide) Y5p a b h.2 k.2).2,Nat.or_lt_two_pow h.2 k.2⟩
theorem Wn.nt (h:Wn x a):Wn (nt x) (18446744073709551615^^^a):=⟨by rw[h.1];exact J4t .u64 64 (by decide) Y5p _ a (by decide) h.2,Nat.xor_lt_two_pow (by decide) h.2⟩
theorem Wn.ad (h:Wn x a)(k:Wn y b):Wn (ad x y) ((a+b) % n64):=⟨by rw[h.1,k.1];show IntKind.wrap .u64 ((a:Int)+b)=_;unfold n64;rw[IntKind.wrap_u64];omega,Nat.mod_lt _ (by decide)⟩
theorem Wn.sl (h:Wn x a)(n:Nat):Wn (sl x n) (a*2^n % n64):=⟨by
  rw[h.1];show IntKind.wrap .u64 ((a:Int)*2^n)=_;unfold n64
  rw[IntKind.wrap_u64,Int.natCast_emod,Int.natCast_mul,Int.natCast_pow];rfl,Nat.mod_lt _ (by decide)⟩
theorem Wn.sr (h:Wn x a)(n:Nat):Wn (sr x n) (a / 2^n):=⟨by
  rw[h.1];show(a:Int) / 2^n=_
  rw[Int.natCast_ediv,Int.natCast_pow];rfl,Nat.lt_of_le_of_lt (Nat.div_le_self _ _) h.2⟩
end
def rtN (a n:Nat):Nat:=a / 2^n |||a*2^(64-n) % n64
theorem Wn.rt {x:Int}{a:Nat}(h:Wn x a)(n:Nat):Wn (rt x n) (rtN a n):=(h.sr n).oo (h.sl (64-n))
/-! ### The words of a block -/
def V2e (b:Nat→Nat)(i:Nat):Nat→Nat
  |0=>0
  |k+1=>V2e b i k*2^8 % n64 |||b (8*i+k)
def bN (l:List UInt8)(j:Nat):Nat:=(l.getD j 0).toNat
theorem V72 (l:List UInt8)(j:Nat):Wn (bt l j) (bN l j):=⟨rfl,Nat.lt_trans (l.getD j 0).toNat_lt (by decide)⟩
theorem Y11 (l:List UInt8)(i:Nat):∀k,Wn (wrd (bt l) i k) (V2e (bN l) i k)
  |0=>⟨rfl,Nat.two_pow_pos 64⟩
  |k+1=>((Y11 l i k).sl 8).oo (V72 l _)
def sgN (l:List Nat):Nat:=
  let p:=l.getD 14 0
  let q:=l.getD 1 0
  (((l.getD 15 0+(rtN p 1^^^rtN p 8^^^p / 2^7)) % n64+l.getD 6 0) % n64+(rtN q 19^^^rtN q 61^^^q / 2^6)) % n64
def Q8s (b:Nat→Nat):Nat→List Nat
  |0=>[]
  |i+1=>(if i<16 then V2e b i 8 else sgN (Q8s b i))::Q8s b i
theorem Y12 (l:List UInt8):∀i,∀j,j<i→Wn (V7 (bt l) i j) ((Q8s (bN l) i).getD (i-1-j) 0)
  |0,_,h=>by omega
  |i+1,j,h=>by
    have ih:=Y12 l i;show Wn (upd (V7 (bt l) i) i (if i<16 then wrd (bt l) i 8 else sg (V7 (bt l) i) i) j) _;unfold upd Q8s
    by_cases e:j=i
    · subst e
      rw[if_pos rfl,show j+1-1-j=0 by omega,List.getD_cons_zero]
      by_cases h16:j<16
      · rw[if_pos h16,if_pos h16];exact Y11 l j 8
      · rw[if_neg h16,if_neg h16]
        have g:∀m,m<16→Wn (V7 (bt l) j (j-(m+1))) ((Q8s (bN l) j).getD m 0):=fun m hm=>by
          have:=ih (j-(m+1)) (by omega)
          rwa [show j-1-(j-(m+1))=m by omega] at this
        have D:=g 14 (by decide);have g1:=g 1 (by decide);exact(((g 15 (by decide)).ad (((D.rt 1).xo (D.rt 8)).xo (D.sr 7))).ad (g 6 (by decide))).ad (((g1.rt 19).xo (g1.rt 61)).xo (g1.sr 6))
    · rw[if_neg e,show i+1-1-j=(i-1-j)+1 by omega,List.getD_cons_succ]
      exact ih j (by omega)
/-! ### The rounds -/
abbrev S8:=Nat×Nat×Nat×Nat×Nat×Nat×Nat×Nat
def V73 (k w:Nat):S8→S8
  |(a,b,c,d,e,f,g,h)=>
    let t:=((((h+(rtN e 14^^^rtN e 18^^^rtN e 41)) % n64+((e &&& f)^^^((18446744073709551615^^^e) &&& g))) % n64+k) % n64+w) % n64
    let u:=((rtN a 28^^^rtN a 34^^^rtN a 39)+((a &&& b)^^^(a &&& c)^^^(b &&& c))) % n64
    ((t+u) % n64,a,b,c,(d+t) % n64,e,f,g)
def Wn8 (v:Nat→Int):S8→Prop
  |(a,b,c,d,e,f,g,h)=>Wn (v 0) a∧Wn (v 1) b∧Wn (v 2) c∧Wn (v 3) d∧Wn (v 4) e∧Wn (v 5) f∧Wn (v 6) g∧Wn (v 7) h
theorem V2f {k w v:Nat→Int}{i kn wn:Nat}{s:S8}(hk:Wn (k i) kn)(hw:Wn (w i) wn)(h:Wn8 v s):Wn8 (rnd k w i v) (V73 kn wn s):=by
  obtain⟨a,b,c,d,e,f,g,h'⟩:=s;obtain⟨h0,h1,h2,h3,h4,h5,h6,h7⟩:=h;have hT:Wn (rT k w i v) _:=(((h7.ad (((h4.rt 14).xo (h4.rt 18)).xo (h4.rt 41))).ad ((h4.an h5).xo (h4.nt.an h6))).ad hk).ad hw;have hU:Wn (rU v) _:=(((h0.rt 28).xo (h0.rt 34)).xo (h0.rt 39)).ad (((h0.an h1).xo (h0.an h2)).xo (h1.an h2));exact⟨hT.ad hU,h0,h1,h2,h3.ad hT,h4,h5,h6⟩
def kkN (i:Nat):Nat:=(kk.getD i 0).toNat
theorem V74 (i:Nat)(h:i<80):Wn (kf i) (kkN i):=by
  have D:((List.range 80).all fun i=>decide (kf i=(kkN i:Int)) && decide (kkN i<2^64))=true:=by decide+kernel
  have:=List.all_eq_true.1 D i (List.mem_range.2 h);simp only[Bool.and_eq_true,decide_eq_true_eq] at this;exact this
def Z3r (W:List Nat)(s:S8):Nat→S8
  |0=>s
  |i+1=>V73 (kkN i) (W.getD (79-i) 0) (Z3r W s i)
theorem Z3s {l:List UInt8}{v:Nat→Int}{s:S8}(h:Wn8 v s):∀i,i≤80→Wn8 (Y8 kf (V7 (bt l) 80) v i) (Z3r (Q8s (bN l) 80) s i)
  |0,_=>h
  |i+1,hi=>V2f (V74 i (by omega)) (by have:=Y12 l 80 i (by omega);rwa [show 80-1-i=79-i by omega] at this) (Z3s h i (by omega))
def V2g (l:List UInt8)(s:S8):S8:=
  match s,Z3r (Q8s (bN l) 80) s 80 with
  |(a,b,c,d,e,f,g,h),(a',b',c',d',e',f',g',h')=>((a+a') % n64,(b+b') % n64,(c+c') % n64,(d+d') % n64,(e+e') % n64,(f+f') % n64,(g+g') % n64,(h+h') % n64)
theorem V2h {l:List UInt8}{v:Nat→Int}{s:S8}(h:Wn8 v s):Wn8 (prs v (bt l)) (V2g l s):=by
  have h2:=Z3s (l:=l) h 80 (Nat.le_refl _);unfold V2g;generalize Z3r (Q8s (bN l) 80) s 80=s2 at*;obtain⟨a,b,c,d,e,f,g,h'⟩:=s;obtain⟨a2,b2,c2,d2,e2,f2,g2,k2⟩:=s2;obtain⟨h0,h1,D,h3,h4,h5,h6,h7⟩:=h;obtain⟨k0,k1,G,k3,k4,k5,k6,k7⟩:=h2;exact⟨h0.ad k0,h1.ad k1,D.ad G,h3.ad k3,h4.ad k4,h5.ad k5,h6.ad k6,h7.ad k7⟩
def H0N:S8:=(7640891576956012808,13503953896175478587,4354685564936845355,11912009170470909681,5840696475078001361,11170449401992604703,2270897969802886507,6620516959819538809)
theorem V75:Wn8 hf H0N:=by refine⟨⟨?_,?_⟩,⟨?_,?_⟩,⟨?_,?_⟩,⟨?_,?_⟩,⟨?_,?_⟩,⟨?_,?_⟩,⟨?_,?_⟩,⟨?_,?_⟩⟩<;>decide+kernel
def HsN (P:List UInt8):Nat→S8
  |0=>H0N
  |j+1=>V2g (P.drop (128*j)) (HsN P j)
theorem Y87 (P:List UInt8):∀j,Wn8 (Hs P j) (HsN P j)
  |0=>V75
  |j+1=>V2h (Y87 P j)
def wle (a:Nat):Nat:=a / 2^56 % 256+256*(a / 2^48 % 256+256*(a / 2^40 % 256+256*(a / 2^32 % 256+256*(a / 2^24 % 256+256*(a / 2^16 % 256+256*(a / 2^8 % 256+256*(a % 256)))))))
def V9k:S8→Nat
  |(a,b,c,d,e,f,g,h)=>wle a+256^(8*1)*wle b+256^(8*2)*wle c+256^(8*3)*wle d+256^(8*4)*wle e+256^(8*5)*wle f+256^(8*6)*wle g+256^(8*7)*wle h
def V2i (F:List UInt8):Nat:=V9k (HsN (pad F) (nb F.length))
theorem Q59:∀l m:List UInt8,le (l++m)=le l+256^l.length*le m
  |[],m=>by simp[le]
  |x::r,m=>by
    show x.toNat+256*le (r++m)=x.toNat+256*le r+_;rw[Q59 r m,List.length_cons,Nat.pow_succ,Nat.mul_add,←Nat.mul_assoc,Nat.mul_comm 256 (256^r.length),Nat.add_assoc]
theorem Q1e {H:Nat→Int}{a i:Nat}(h:Wn (H i) a)(k:Nat)(hk:k<8):(bo H (8*i+k)).toNat=a / 2^(8*(7-k)) % 256:=by
  have e:=Y7w H (8*i+k);have h2:=(h.sr (8*(7-k))).1;unfold ob at e;rw[show(8*i+k) / 8=i by omega,show(8*i+k) % 8=k by omega,h2] at e;generalize a / 2^(8*(7-k))=z at*;unfold w8 at e;rw[IntKind.wrap_u8] at e;omega
theorem Q1f {H:Nat→Int}{a i:Nat}(h:Wn (H i) a):le (wb H (8*(i+1)))=le (wb H (8*i))+256^(8*i)*wle a:=by
  rw[←Y5c];simp only[List.append_assoc,List.cons_append,List.nil_append];rw[Q59,Q55]
  congr 2
  unfold wle;simp only[le];rw[Q1e h 0 (by decide),Q1e h 1 (by decide),Q1e h 2 (by decide),Q1e h 3 (by decide),Q1e h 4 (by decide),Q1e h 5 (by decide),Q1e h 6 (by decide),Q1e h 7 (by decide)];simp only[Nat.mul_zero,Nat.add_zero,Nat.sub_zero,Nat.reduceMul,Nat.reduceSub,Nat.pow_zero,Nat.div_one]
theorem V2j (F:List UInt8):hs F=V2i F:=by
  have h:=Y87 (pad F) (nb F.length);unfold hs smb V2i;generalize HsN (pad F) (nb F.length)=s at*;generalize Hs (pad F) (nb F.length)=H at*;obtain⟨a,b,c,d,e,f,g,k⟩:=s;obtain⟨h0,h1,h2,h3,h4,h5,h6,h7⟩:=h;have z:le (wb H (8*0))=0:=rfl;show le (wb H (8*(7+1)))=_;rw[Q1f h7,Q1f h6,Q1f h5,Q1f h4,Q1f h3,Q1f h2,Q1f h1,Q1f h0,z];show _=wle a+256^(8*1)*wle b+256^(8*2)*wle c+256^(8*3)*wle d+256^(8*4)*wle e+256^(8*5)*wle f+256^(8*6)*wle g+256^(8*7)*wle k;rw[Nat.mul_zero,Nat.pow_zero,Nat.one_mul,Nat.zero_add]
end

section
open Sc (LL J0p)
theorem V2k {s:Q4}{a:Pr}{x y:Nat}(h:RQ4 s a)(ex:x*s.2.2.1 % PP=s.1)(ey:y*s.2.2.1 % PP=s.2.1):a=(fp x,fp y):=by
  obtain⟨hz,hx,hy,_⟩:=h.rc;rw[←ex,J0y,J0m] at hx;rw[←ey,J0y,J0m] at hy;have hi:=J14 hz;have e1:a.1=fp x:=by grind
  have e2:a.2=fp y:=by grind
  exact Prod.ext e1 e2
theorem Y5q {x y:Nat}(hx:x<PP)(hy:y<PP):enc (fp x,fp y)=y+2^255*(x % 2):=by
  show(fp y).val+2^255*((fp x).val % 2)=_;rw[Q6r,Q6r,Nat.mod_eq_of_lt hx,Nat.mod_eq_of_lt hy]
theorem V2l {F:List UInt8}{h:Nat}(e:V2i F=h):hs F=h:=(V2j F).trans e
end

section
set_option maxHeartbeats 1500000
attribute [local irreducible] wpList Y5 wpX
variable {kn : Kn}

theorem J37 (w:World):
  Calls Tryz.prog 155 #[] w fun e w' =>X5 (L4 1) w w' e:=by
 have hS:=SH.nil [] w
 go_enter Tryz.func155,Tryz.ntmps155
 go_upto_region 0 with fail;refine RL hS ?_;clear hS;refine MN (z:=c4 0) (t:=152) ?_;intro D;refine MZ fun W hS=> ?_;go_upto_region 1 with fail;refine RL hS ?_;clear hS;refine MC (v:=.agg (c4 1)) (fun W hS=>Y4p 1 (by decide) W) ?_;refine MR 0 ?_;refine MZ fun W hS=> ?_;go_wp2;exact bodyPost_ret (Z8 rfl rfl (hS.blk (i:=0) rfl) (by kernel_rfl) (by kernel_rfl)) rfl ⟨rfl,hS.ext⟩
theorem Y7h {X Y:Nat}(hX:X<PP)(hY:Y<PP)(on:OnC (fp X,fp Y)):
  ∃T,RN X Y 1 T (fp X,fp Y)∧∀w,GE kn w→Calls Tryz.prog 112 #[L4 X,L4 Y] w fun e w' =>X5 (.agg (p4 X Y 1 T)) w w' e:=by
 have G:=K7 X Y (Q8 hX) (Q8 hY);obtain⟨N1,D⟩:=exn (X*Y % PP);rw[←D] at G;have J:=bpp D;have R:=Q8 J;have M:=Lib.hid D;clear D;refine⟨N1,Y7i hX hY on M.out,fun w hG=> ?_⟩;have hS:=SH.nil [] w
 go_enter Tryz.func112,Tryz.ntmps112
 go_upto_region 0 with fail;refine RL hS ?_;clear hS;refine MN (z:=c4 X) (t:=152) ?_;intro K1;refine MN (z:=c4 Y) (t:=152) ?_;intro N;refine MN (z:=p4 0 0 0 0) (t:=154) ?_;intro S;refine MZ fun W hS=> ?_;go_upto_region 1 with fail;refine RX 7 hS ?_;clear hS;refine ML 2 ?_;refine ML 1 ?_;refine MC (v:=.agg (c4 1)) (fun W hS=>J37 W) ?_;refine ML 2 ?_;refine ML 1 ?_;refine MC (v:=.agg (c4 N1)) (fun W hS=>G W (J6 hG hS.ext).1) ?_;refine MW ?_ (v:=.agg (p4 X Y 1 N1)) (hv:=by intro W;kernel_rfl);refine MZt ?_;refine MR 0 ?_;refine MZn fun W hS=> ?_;go_wp2;exact bodyPost_ret (Z8 rfl rfl (hS.blk (i:=0) rfl) (by kernel_rfl) (by kernel_rfl)) rfl ⟨rfl,hS.ext⟩
theorem Z9q {X1 Y1 Z1 T1:Nat}(hb:Z1<Q3)(hz:Z1≠0)(w:World)(hG:GE kn w):
  Calls Tryz.prog 113 #[.agg (p4 X1 Y1 Z1 T1)] w fun e w' =>X5 (.agg (p4 X1 Y1 Z1 T1)) w w' e:=by
 have hS:=SH.nil [] w
 go_enter Tryz.func113,Tryz.ntmps113
 go_upto_region 0 with fail;refine RL hS ?_;clear hS;refine MN (z:=p4 X1 Y1 Z1 T1) (t:=154) ?_;intro G;refine MN (z:=p4 0 0 0 0) (t:=154) ?_;intro J;refine MZ fun W hS=> ?_;go_upto_region 1 with fail;refine RL hS ?_;clear hS;refine MV ?_;refine Ml 1 J7g ?_;refine MW ?_ (v:=.agg (c4 0)) (hv:=by intro W;kernel_rfl);have D:=V15 Z1 0 hb (by decide);rw[decide_eq_false hz] at D;refine MW ?_ (v:=.bool false) (hv:=fun _=>J7r ((D) _) (by kernel_rfl) rfl rfl rfl);refine MZ fun W hS=> ?_;go_upto_region 3 with fail;refine RL hS ?_;clear hS;refine ML 1 ?_;refine MR 0 ?_;refine MZ fun W hS=> ?_;go_wp2;exact bodyPost_ret (Z8 rfl rfl (hS.blk (i:=0) rfl) (by kernel_rfl) (by kernel_rfl)) rfl ⟨rfl,hS.ext⟩
theorem Z9r {X1 Y1 T1:Nat}(w:World)(hG:GE kn w):
  Calls Tryz.prog 113 #[.agg (p4 X1 Y1 0 T1)] w fun e w' =>X5 (.agg (p4 0 1 1 0)) w w' e:=by
 have hS:=SH.nil [] w
 go_enter Tryz.func113,Tryz.ntmps113
 go_upto_region 0 with fail;refine RL hS ?_;clear hS;refine MN (z:=p4 X1 Y1 0 T1) (t:=154) ?_;intro G;refine MN (z:=p4 0 0 0 0) (t:=154) ?_;intro J;refine MZ fun W hS=> ?_;go_upto_region 1 with fail;refine RL hS ?_;clear hS;refine MV ?_;refine Ml 1 J7g ?_;refine MW ?_ (v:=.agg (c4 0)) (hv:=by intro W;kernel_rfl);have D:=V15 0 0 (by decide) (by decide);rw[decide_eq_true rfl] at D;refine MW ?_ (v:=.bool true) (hv:=fun _=>J7r ((D) _) (by kernel_rfl) rfl rfl rfl);refine MZ fun W hS=> ?_;go_upto_region 2 with fail;refine RL hS ?_;clear hS;refine MC (v:=.agg (c4 1)) (fun W hS=>J37 W) ?_;refine MC (v:=.agg (c4 1)) (fun W hS=>J37 W) ?_;refine MW ?_ (v:=.agg (p4 0 1 1 0)) (hv:=by intro W;kernel_rfl);refine MR 0 ?_;refine MZ fun W hS=> ?_;go_wp2;exact bodyPost_ret (Z8 rfl rfl (hS.blk (i:=0) rfl) (by kernel_rfl) (by kernel_rfl)) rfl ⟨rfl,hS.ext⟩
theorem J4a {X Y Z T:Nat}{a:Pr}(h:RW X Y Z T a):∃X' Y' Z' T',RN X' Y' Z' T' a∧∀w,GE kn w→Calls Tryz.prog 113 #[.agg (p4 X Y Z T)] w fun e w' =>X5 (.agg (p4 X' Y' Z' T')) w w' e:=by
 rcases h.cases with⟨hz,h1⟩|⟨rfl,rfl⟩
 ·
  exact⟨X,Y,Z,T,h1,fun w hG=>Z9q h.z hz w hG⟩
 exact⟨0,1,1,0,Y7j,fun w hG=>Z9r w hG⟩
theorem Q02 {X1 Y1 Z1 T1:Nat}{p1:Pr}(h1:RN X1 Y1 Z1 T1 p1):
  ∃X Y Z T,RN X Y Z T (J1k p1 p1)∧∀w,GE kn w→Calls Tryz.prog 114 #[.agg (p4 X1 Y1 Z1 T1)] w fun e w' =>X5 (.agg (p4 X Y Z T)) w w' e:=by
 have D0:=K7 X1 X1 (Q8 h1.x) (Q8 h1.x);obtain⟨N1,ε⟩:=exn (X1*X1 % PP);rw[←ε] at D0;have N0:=bpp ε;have D3:=Q8 N0;have G8:=Lib.hid ε;clear ε;have ω:=K7 Y1 Y1 (Q8 h1.y) (Q8 h1.y);obtain⟨N2,S⟩:=exn (Y1*Y1 % PP);rw[←S] at ω;have G9:=bpp S;have D6:=Q8 G9;have M3:=Lib.hid S;clear S;have ψ:=K7 Z1 Z1 (Q8 h1.z) (Q8 h1.z);obtain⟨N3,κ⟩:=exn (Z1*Z1 % PP);rw[←κ] at ψ;have M4:=bpp κ;have D7:=Q8 M4;have M1:=Lib.hid κ;clear κ;have χ:=J4l N3 N3 D7 D7;obtain⟨N4,η⟩:=exn ((N3+N3) % PP);rw[←η] at χ;have R2:=bpp η;have M8:=Q8 R2;have M5:=Lib.hid η;clear η;have ξ:=J4l N1 N2 D3 D6;obtain⟨N5,ζ⟩:=exn ((N1+N2) % PP);rw[←ζ] at ξ;have R6:=bpp ζ;have ρ:=Q8 R6;have M2:=Lib.hid ζ;clear ζ;have φ:=J4l X1 Y1 (Q8 h1.x) (Q8 h1.y);obtain⟨N6,α⟩:=exn ((X1+Y1) % PP);rw[←α] at φ;have M9:=bpp α;have D5:=Q8 M9;have R0:=Lib.hid α;clear α;have Γ:=K7 N6 N6 D5 D5;obtain⟨N7,β⟩:=exn (N6*N6 % PP);rw[←β] at Γ;have R1:=bpp β;have M7:=Q8 R1;have R5:=Lib.hid β;clear β;have Θ:=J7y N5 N7 ρ M7;obtain⟨N8,ν⟩:=exn ((N5+(PP-N7 % PP)) % PP);rw[←ν] at Θ;have M6:=bpp ν;have D4:=Q8 M6;have R4:=Lib.hid ν;clear ν;have τ:=J7y N1 N2 D3 D6;obtain⟨N9,μ⟩:=exn ((N1+(PP-N2 % PP)) % PP);rw[←μ] at τ;have R3:=bpp μ;have σ:=Q8 R3;have M0:=Lib.hid μ;clear μ;have γ:=J4l N4 N9 M8 σ;obtain⟨R,D⟩:=exn ((N4+N9) % PP);rw[←D] at γ;have G0:=bpp D;have Ψ:=Q8 G0;have G7:=Lib.hid D;clear D;have V:=K7 N8 R D4 Ψ;obtain⟨Δ,J⟩:=exn (N8*R % PP);rw[←J] at V;have G6:=bpp J;have R7:=Q8 G6;have G3:=Lib.hid J;clear J;have θ:=K7 N9 N5 σ ρ;obtain⟨Ξ,M⟩:=exn (N9*N5 % PP);rw[←M] at θ;have G4:=bpp M;have R8:=Q8 G4;have G5:=Lib.hid M;clear M;have U:=K7 R N9 Ψ σ;obtain⟨D1,G⟩:=exn (R*N9 % PP);rw[←G] at U;have G2:=bpp G;have R9:=Q8 G2;have D9:=Lib.hid G;clear G;have δ:=K7 N8 N5 D4 ρ;obtain⟨Ω,N⟩:=exn (N8*N5 % PP);rw[←N] at δ;have D8:=bpp N;have S2:=Q8 D8;have G1:=Lib.hid N;clear N;refine⟨Δ,Ξ,D1,Ω,Q8h h1 G8.out M3.out M1.out M5.out M2.out R0.out R5.out R4.out M0.out G7.out G3.out G5.out D9.out G1.out,fun w hG=> ?_⟩;have hS:=SH.nil [] w
 go_enter Tryz.func114,Tryz.ntmps114
 go_upto_region 0 with fail;refine RL hS ?_;clear hS;refine MN (z:=p4 X1 Y1 Z1 T1) (t:=154) ?_;intro T2;refine MN (z:=p4 0 0 0 0) (t:=154) ?_;intro S3;refine MZ fun W hS=> ?_;go_upto_region 1 with fail;refine RXn 10 [⟨10,3,c4 0,152⟩,⟨11,4,c4 0,152⟩] hS ?_ (by simp only[List.forall_mem_cons];exact⟨⟨_,rfl,rfl,rfl,fun _ _=>by kernel_rfl⟩,⟨_,rfl,rfl,rfl,fun _ _=>by kernel_rfl⟩,fun _ h=>by cases h⟩);clear hS;refine MV ?_;refine Ml 1 J9b ?_;refine MV ?_;refine Ml 1 J9b ?_;refine MC (v:=.agg (c4 N1)) (fun W hS=>D0 W (J6 hG hS.ext).1) ?_;refine MV ?_;refine Ml 1 Q1t ?_;refine MV ?_;refine Ml 1 Q1t ?_;refine MC (v:=.agg (c4 N2)) (fun W hS=>ω W (J6 hG hS.ext).1) ?_;refine MZB fun T6=> ?_;refine MR 0 ?_;refine MR 1 ?_;refine MZn fun W hS=> ?_;go_upto_region 2 with fail;refine RL hS ?_;clear hS;refine MV ?_;refine Ml 3 J7g ?_;refine MV ?_;refine Ml 3 J7g ?_;refine MC (v:=.agg (c4 N3)) (fun W hS=>ψ W (J6 hG hS.ext).1) ?_;refine MN (z:=c4 0) (t:=152) ?_;intro S5;refine MR 0 ?_;refine MZ fun W hS=> ?_;go_upto_region 3 with fail;refine RL hS ?_;clear hS;refine ML 0 ?_;refine ML 0 ?_;refine MC (v:=.agg (c4 N4)) (fun W hS=>χ W (J6 hG hS.ext).1) ?_;refine MR 0 ?_;refine MZ fun W hS=> ?_;go_upto_region 4 with fail;refine RL hS ?_;clear hS;refine ML 1 ?_;refine ML 2 ?_;refine MC (v:=.agg (c4 N5)) (fun W hS=>ξ W (J6 hG hS.ext).1) ?_;refine MN (z:=c4 0) (t:=152) ?_;intro S4;refine MR 0 ?_;refine MZ fun W hS=> ?_;go_upto_region 5 with fail;refine RL hS ?_;clear hS;refine MV ?_;refine Ml 5 J9b ?_;refine MV ?_;refine Ml 5 Q1t ?_;refine MC (v:=.agg (c4 N6)) (fun W hS=>φ W (J6 hG hS.ext).1) ?_;refine MN (z:=c4 0) (t:=152) ?_;intro S6;refine MR 0 ?_;refine MZ fun W hS=> ?_;go_upto_region 6 with fail;refine RXn 5 [⟨5,8,c4 0,152⟩] hS ?_ (by simp only[List.forall_mem_cons];exact⟨⟨_,rfl,rfl,rfl,fun _ _=>by kernel_rfl⟩,fun _ h=>by cases h⟩);clear hS;refine ML 1 ?_;refine ML 0 ?_;refine ML 0 ?_;refine MC (v:=.agg (c4 N7)) (fun W hS=>Γ W (J6 hG hS.ext).1) ?_;refine MC (v:=.agg (c4 N8)) (fun W hS=>Θ W (J6 hG hS.ext).1) ?_;refine MZB fun T5=> ?_;refine MR 0 ?_;refine MZn fun W hS=> ?_;go_upto_region 7 with fail;refine RL hS ?_;clear hS;refine ML 4 ?_;refine ML 5 ?_;refine MC (v:=.agg (c4 N9)) (fun W hS=>τ W (J6 hG hS.ext).1) ?_;refine MN (z:=c4 0) (t:=152) ?_;intro S7;refine MR 0 ?_;refine MZ fun W hS=> ?_;go_upto_region 8 with fail;refine RL hS ?_;clear hS;refine ML 4 ?_;refine ML 0 ?_;refine MC (v:=.agg (c4 R)) (fun W hS=>γ W (J6 hG hS.ext).1) ?_;refine MN (z:=c4 0) (t:=152) ?_;intro S9;refine MR 0 ?_;refine MZ fun W hS=> ?_;go_upto_region 9 with fail;refine RX 13 hS ?_;clear hS;refine ML 2 ?_;refine ML 0 ?_;refine MC (v:=.agg (c4 Δ)) (fun W hS=>V W (J6 hG hS.ext).1) ?_;refine ML 1 ?_;refine ML 4 ?_;refine MC (v:=.agg (c4 Ξ)) (fun W hS=>θ W (J6 hG hS.ext).1) ?_;refine ML 0 ?_;refine ML 1 ?_;refine MC (v:=.agg (c4 D1)) (fun W hS=>U W (J6 hG hS.ext).1) ?_;refine ML 2 ?_;refine ML 4 ?_;refine MC (v:=.agg (c4 Ω)) (fun W hS=>δ W (J6 hG hS.ext).1) ?_;refine MW ?_ (v:=.agg (p4 Δ Ξ D1 Ω)) (hv:=by intro W;kernel_rfl);refine MZt ?_;refine MR 8 ?_;refine MZn fun W hS=> ?_;go_wp2;exact bodyPost_ret (Z8 rfl rfl (hS.blk (i:=8) rfl) (by kernel_rfl) (by kernel_rfl)) rfl ⟨rfl,hS.ext⟩
theorem V17 (hd:kn.d){X1 Y1 Z1 T1:Nat}{p1:Pr}{X2 Y2 Z2 T2:Nat}{p2:Pr}(h1:RW X1 Y1 Z1 T1 p1)(h2:RW X2 Y2 Z2 T2 p2):
  ∃X Y Z T,RN X Y Z T (J1k p1 p2)∧∀w,GE kn w→Calls Tryz.prog 71 #[.agg (p4 X1 Y1 Z1 T1),.agg (p4 X2 Y2 Z2 T2)] w fun e w' =>X5 (.agg (p4 X Y Z T)) w w' e:=by
 obtain⟨x1,y2,z3,t4,r5,c6⟩:=J4a (kn:=kn) h1;obtain⟨x7,y8,z9,G6,D,c12⟩:=J4a (kn:=kn) h2;have ω:=J7y y2 x1 (Q8 r5.y) (Q8 r5.x);obtain⟨M9,R⟩:=exn ((y2+(PP-x1 % PP)) % PP);rw[←R] at ω;have S9:=bpp R;have T5:=Q8 S9;have R1:=Lib.hid R;clear R;have D1:=J7y y8 x7 (Q8 D.y) (Q8 D.x);obtain⟨M6,ε⟩:=exn ((y8+(PP-x7 % PP)) % PP);rw[←ε] at D1;have N9:=bpp ε;have T6:=Q8 N9;have R4:=Lib.hid ε;clear ε;have G1:=K7 M9 M6 T5 T6;obtain⟨σ,ζ⟩:=exn (M9*M6 % PP);rw[←ζ] at G1;have Y4:=bpp ζ;have M8:=Q8 Y4;have R7:=Lib.hid ζ;clear ζ;have G0:=J4l y2 x1 (Q8 r5.y) (Q8 r5.x);obtain⟨G3,V⟩:=exn ((y2+x1) % PP);rw[←V] at G0;have R5:=bpp V;have R2:=Q8 R5;have N5:=Lib.hid V;clear V;have D3:=J4l y8 x7 (Q8 D.y) (Q8 D.x);obtain⟨N0,G⟩:=exn ((y8+x7) % PP);rw[←G] at D3;have R3:=bpp G;have N6:=Q8 R3;have N3:=Lib.hid G;clear G;have Ξ:=K7 G3 N0 R2 N6;obtain⟨ξ,θ⟩:=exn (G3*N0 % PP);rw[←θ] at Ξ;have Y3:=bpp θ;have M2:=Q8 Y3;have T7:=Lib.hid θ;clear θ;have D0:=K7 t4 D2 (Q8 r5.t) V5s;obtain⟨M7,γ⟩:=exn (t4*D2 % PP);rw[←γ] at D0;have R9:=bpp γ;have R6:=Q8 R9;have S4:=Lib.hid γ;clear γ;have Θ:=K7 M7 G6 R6 (Q8 D.t);obtain⟨ψ,μ⟩:=exn (M7*G6 % PP);rw[←μ] at Θ;have X4:=bpp μ;have G2:=Q8 X4;have X3:=Lib.hid μ;clear μ;have D4:=J4l z3 z3 (Q8 r5.z) (Q8 r5.z);obtain⟨G7,η⟩:=exn ((z3+z3) % PP);rw[←η] at D4;have N2:=bpp η;have bN21:=Q8 N2;have S6:=Lib.hid η;clear η;have Ψ:=K7 G7 z9 bN21 (Q8 D.z);obtain⟨τ,N⟩:=exn (G7*z9 % PP);rw[←N] at Ψ;have N1:=bpp N;have M3:=Q8 N1;have R8:=Lib.hid N;clear N;have D8:=J7y ξ σ M2 M8;obtain⟨χ,M⟩:=exn ((ξ+(PP-σ % PP)) % PP);rw[←M] at D8;have T8:=bpp M;have M0:=Q8 T8;have T9:=Lib.hid M;clear M;have Δ:=J7y τ ψ M3 G2;obtain⟨ν,S⟩:=exn ((τ+(PP-ψ % PP)) % PP);rw[←S] at Δ;have S5:=bpp S;have M4:=Q8 S5;have HN24:=Lib.hid S;clear S;have D6:=J4l τ ψ M3 G2;obtain⟨φ,κ⟩:=exn ((τ+ψ) % PP);rw[←κ] at D6;have N8:=bpp κ;have M5:=Q8 N8;have Z3:=Lib.hid κ;clear κ;have D9:=J4l ξ σ M2 M8;obtain⟨ρ,J⟩:=exn ((ξ+σ) % PP);rw[←J] at D9;have N7:=bpp J;have M1:=Q8 N7;have V4:=Lib.hid J;clear J;have Ω:=K7 χ ν M0 M4;obtain⟨G8,U⟩:=exn (χ*ν % PP);rw[←U] at Ω;have Z4:=bpp U;have bN27:=Q8 Z4;have X0:=Lib.hid U;clear U;have D5:=K7 φ ρ M5 M1;obtain⟨G9,α⟩:=exn (φ*ρ % PP);rw[←α] at D5;have S2:=bpp α;have bN28:=Q8 S2;have Y7:=Lib.hid α;clear α;have D7:=K7 ν φ M4 M5;obtain⟨G4,β⟩:=exn (ν*φ % PP);rw[←β] at D7;have N4:=bpp β;have bN29:=Q8 N4;have R0:=Lib.hid β;clear β;have Γ:=K7 χ ρ M0 M1;obtain⟨G5,δ⟩:=exn (χ*ρ % PP);rw[←δ] at Γ;have S7:=bpp δ;have bN30:=Q8 S7;have S3:=Lib.hid δ;clear δ;refine⟨G8,G9,G4,G5,Z9s r5 D R1.out R4.out R7.out N5.out N3.out T7.out S4.out X3.out S6.out R8.out T9.out HN24.out Z3.out V4.out X0.out Y7.out R0.out S3.out,fun w hG=> ?_⟩;have hS:=SH.nil [] w
 go_enter Tryz.func71,Tryz.ntmps71
 go_upto_region 0 with fail;refine RL hS ?_;clear hS;refine MN (z:=p4 X1 Y1 Z1 T1) (t:=154) ?_;intro K1;refine MN (z:=p4 X2 Y2 Z2 T2) (t:=154) ?_;intro J1x;refine MN (z:=p4 0 0 0 0) (t:=154) ?_;intro Z0f;refine MZ fun W hS=> ?_;go_upto_region 1 with fail;refine RX 4 hS ?_;clear hS;refine ML 2 ?_;refine MC (v:=.agg (p4 x1 y2 z3 t4)) (fun W hS=>c6 W (J6 hG hS.ext)) ?_;refine ML 1 ?_;refine MC (v:=.agg (p4 x7 y8 z9 G6)) (fun W hS=>c12 W (J6 hG hS.ext)) ?_;refine MZt ?_;refine MR 2 ?_;refine MR 1 ?_;refine MZn fun W hS=> ?_;go_upto_region 2 with fail;refine RXn 11 [⟨11,5,c4 0,152⟩] hS ?_ (by simp only[List.forall_mem_cons];exact⟨⟨_,rfl,rfl,rfl,fun _ _=>by kernel_rfl⟩,fun _ h=>by cases h⟩);clear hS;refine MV ?_;refine Ml 2 Q1t ?_;refine MV ?_;refine Ml 2 J9b ?_;refine MC (v:=.agg (c4 M9)) (fun W hS=>ω W (J6 hG hS.ext).1) ?_;refine MV ?_;refine Ml 1 Q1t ?_;refine MV ?_;refine Ml 1 J9b ?_;refine MC (v:=.agg (c4 M6)) (fun W hS=>D1 W (J6 hG hS.ext).1) ?_;refine MC (v:=.agg (c4 σ)) (fun W hS=>G1 W (J6 hG hS.ext).1) ?_;refine MZB fun β4=> ?_;refine MR 0 ?_;refine MZn fun W hS=> ?_;go_upto_region 3 with fail;refine RXn 11 [⟨11,6,c4 0,152⟩] hS ?_ (by simp only[List.forall_mem_cons];exact⟨⟨_,rfl,rfl,rfl,fun _ _=>by kernel_rfl⟩,fun _ h=>by cases h⟩);clear hS;refine MV ?_;refine Ml 3 Q1t ?_;refine MV ?_;refine Ml 3 J9b ?_;refine MC (v:=.agg (c4 G3)) (fun W hS=>G0 W (J6 hG hS.ext).1) ?_;refine MV ?_;refine Ml 2 Q1t ?_;refine MV ?_;refine Ml 2 J9b ?_;refine MC (v:=.agg (c4 N0)) (fun W hS=>D3 W (J6 hG hS.ext).1) ?_;refine MC (v:=.agg (c4 ξ)) (fun W hS=>Ξ W (J6 hG hS.ext).1) ?_;refine MZB fun β5=> ?_;refine MR 0 ?_;refine MZn fun W hS=> ?_;go_upto_region 4 with fail;refine RXn 7 [⟨7,7,c4 0,152⟩] hS ?_ (by simp only[List.forall_mem_cons];exact⟨⟨_,rfl,rfl,rfl,fun _ _=>by kernel_rfl⟩,fun _ h=>by cases h⟩);clear hS;refine MV ?_;refine Ml 4 V5t ?_;refine MF (v:=.agg (c4 D2)) (fun W hS=>J28 rfl rfl ((J6 hG hS.ext).2.2.2.1 hd) (by kernel_rfl) (by kernel_rfl)) ?_;refine MC (v:=.agg (c4 M7)) (fun W hS=>D0 W (J6 hG hS.ext).1) ?_;refine MV ?_;refine Ml 3 V5t ?_;refine MC (v:=.agg (c4 ψ)) (fun W hS=>Θ W (J6 hG hS.ext).1) ?_;refine MZB fun β6=> ?_;refine MR 0 ?_;refine MZn fun W hS=> ?_;go_upto_region 5 with fail;refine RXn 8 [⟨8,8,c4 0,152⟩] hS ?_ (by simp only[List.forall_mem_cons];exact⟨⟨_,rfl,rfl,rfl,fun _ _=>by kernel_rfl⟩,fun _ h=>by cases h⟩);clear hS;refine MV ?_;refine Ml 5 J7g ?_;refine MV ?_;refine Ml 5 J7g ?_;refine MC (v:=.agg (c4 G7)) (fun W hS=>D4 W (J6 hG hS.ext).1) ?_;refine MV ?_;refine Ml 4 J7g ?_;refine MC (v:=.agg (c4 τ)) (fun W hS=>Ψ W (J6 hG hS.ext).1) ?_;refine MZB fun β7=> ?_;refine MR 0 ?_;refine MZn fun W hS=> ?_;go_upto_region 6 with fail;refine RXn 12 [⟨12,9,c4 0,152⟩,⟨13,10,c4 0,152⟩,⟨14,11,c4 0,152⟩,⟨15,12,c4 0,152⟩] hS ?_ (by simp only[List.forall_mem_cons];exact⟨⟨_,rfl,rfl,rfl,fun _ _=>by kernel_rfl⟩,⟨_,rfl,rfl,rfl,fun _ _=>by kernel_rfl⟩,⟨_,rfl,rfl,rfl,fun _ _=>by kernel_rfl⟩,⟨_,rfl,rfl,rfl,fun _ _=>by kernel_rfl⟩,fun _ h=>by cases h⟩);clear hS;refine ML 2 ?_;refine ML 3 ?_;refine MC (v:=.agg (c4 χ)) (fun W hS=>D8 W (J6 hG hS.ext).1) ?_;refine ML 0 ?_;refine ML 1 ?_;refine MC (v:=.agg (c4 ν)) (fun W hS=>Δ W (J6 hG hS.ext).1) ?_;refine ML 0 ?_;refine ML 1 ?_;refine MC (v:=.agg (c4 φ)) (fun W hS=>D6 W (J6 hG hS.ext).1) ?_;refine ML 2 ?_;refine ML 3 ?_;refine MC (v:=.agg (c4 ρ)) (fun W hS=>D9 W (J6 hG hS.ext).1) ?_;refine MZB fun β8=> ?_;refine MR 0 ?_;refine MR 1 ?_;refine MR 2 ?_;refine MR 3 ?_;refine MZn fun W hS=> ?_;go_upto_region 7 with fail;refine RX 13 hS ?_;clear hS;refine ML 0 ?_;refine ML 1 ?_;refine MC (v:=.agg (c4 G8)) (fun W hS=>Ω W (J6 hG hS.ext).1) ?_;refine ML 2 ?_;refine ML 3 ?_;refine MC (v:=.agg (c4 G9)) (fun W hS=>D5 W (J6 hG hS.ext).1) ?_;refine ML 1 ?_;refine ML 2 ?_;refine MC (v:=.agg (c4 G4)) (fun W hS=>D7 W (J6 hG hS.ext).1) ?_;refine ML 0 ?_;refine ML 3 ?_;refine MC (v:=.agg (c4 G5)) (fun W hS=>Γ W (J6 hG hS.ext).1) ?_;refine MW ?_ (v:=.agg (p4 G8 G9 G4 G5)) (hv:=by intro W;kernel_rfl);refine MZt ?_;refine MR 8 ?_;refine MZn fun W hS=> ?_;go_wp2;exact bodyPost_ret (Z8 rfl rfl (hS.blk (i:=8) rfl) (by kernel_rfl) (by kernel_rfl)) rfl ⟨rfl,hS.ext⟩
theorem pm8 {a:Pr}(h:OnC a):pm a 8=J1k (J1k (J1k a a) (J1k a a)) (J1k (J1k a a) (J1k a a)):=by
 rw[show 8=2*(2*(2*1)) from rfl,J6b h,J6b h,J6b h,V18]
theorem Q03 {X1 Y1 Z1 T1:Nat}{p1:Pr}(h1:RW X1 Y1 Z1 T1 p1):
  ∃X Y Z T,RN X Y Z T (pm p1 8)∧∀w,GE kn w→Calls Tryz.prog 108 #[.agg (p4 X1 Y1 Z1 T1)] w fun e w' =>X5 (.agg (p4 X Y Z T)) w w' e:=by
 obtain⟨x1,y2,z3,t4,r5,c6⟩:=J4a (kn:=kn) h1;obtain⟨x7,y8,z9,δ,R,γ⟩:=Q02 (kn:=kn) r5;obtain⟨U,S,N,α,β,ζ⟩:=Q02 (kn:=kn) R;obtain⟨M,G,D,J,V,ε⟩:=Q02 (kn:=kn) β;refine⟨M,G,D,J,pm8 h1.on▸V,fun w hG=> ?_⟩;have hS:=SH.nil [] w
 go_enter Tryz.func108,Tryz.ntmps108
 go_upto_region 0 with fail;refine RL hS ?_;clear hS;refine MN (z:=p4 X1 Y1 Z1 T1) (t:=154) ?_;intro η;refine MN (z:=p4 0 0 0 0) (t:=154) ?_;intro θ;refine MZ fun W hS=> ?_;go_upto_region 1 with fail;refine RL hS ?_;clear hS;refine ML 1 ?_;refine MC (v:=.agg (p4 x1 y2 z3 t4)) (fun W hS=>c6 W (J6 hG hS.ext)) ?_;refine MC (v:=.agg (p4 x7 y8 z9 δ)) (fun W hS=>γ W (J6 hG hS.ext)) ?_;refine MC (v:=.agg (p4 U S N α)) (fun W hS=>ζ W (J6 hG hS.ext)) ?_;refine MC (v:=.agg (p4 M G D J)) (fun W hS=>ε W (J6 hG hS.ext)) ?_;refine MR 0 ?_;refine MZ fun W hS=> ?_;go_wp2;exact bodyPost_ret (Z8 rfl rfl (hS.blk (i:=0) rfl) (by kernel_rfl) (by kernel_rfl)) rfl ⟨rfl,hS.ext⟩
theorem Z36 (hb:kn.b):
  ∃X Y Z T,RN X Y Z T BP∧∀w,GE kn w→Calls Tryz.prog 69 #[] w fun e w' =>X5 (.agg (p4 X Y Z T)) w w' e:=by
 obtain⟨t1,r2,c3⟩:=Y7h (kn:=kn) (X:=BX) (Y:=BY) (by decide) (by decide) V5u;refine⟨BX,BY,1,t1,r2,fun w hG=> ?_⟩;have hS:=SH.nil [] w
 go_enter Tryz.func69,Tryz.ntmps69
 go_upto_region 0 with fail;refine RL hS ?_;clear hS;refine MN (z:=p4 0 0 0 0) (t:=154) ?_;intro D;refine MZ fun W hS=> ?_;go_upto_region 1 with fail;refine RL hS ?_;clear hS;refine MF (v:=.agg (c4 BX)) (fun W hS=>J28 rfl rfl ((J6 hG hS.ext).2.2.2.2.1 hb) (by kernel_rfl) (by kernel_rfl)) ?_;refine MF (v:=.agg (c4 BY)) (fun W hS=>J28 rfl rfl ((J6 hG hS.ext).2.2.2.2.2 hb) (by kernel_rfl) (by kernel_rfl)) ?_;refine MC (v:=.agg (p4 BX BY 1 t1)) (fun W hS=>c3 W (J6 hG hS.ext)) ?_;refine MR 0 ?_;refine MZ fun W hS=> ?_;go_wp2;exact bodyPost_ret (Z8 rfl rfl (hS.blk (i:=0) rfl) (by kernel_rfl) (by kernel_rfl)) rfl ⟨rfl,hS.ext⟩
end

section
set_option maxHeartbeats 1500000
attribute [local irreducible] wpList Y5 wpX
variable {kn : Kn}
theorem Z37 {A:Nat}(h:A<PP):A<2^256:=Nat.lt_trans h (by decide)
theorem V19 {X1 Y1 Z1 X2 Y2 Z2 m1 m2 m3 m4:Nat}{p q:Pr}(r1:RD X1 Y1 Z1 p)(r2:RD X2 Y2 Z2 q)(e1:m1=X1*Z2 % PP)(e2:m2=X2*Z1 % PP)(e3:m3=Y1*Z2 % PP)(e4:m4=Y2*Z1 % PP)(h1:m1=m2)(h2:m3=m4):decide (p=q)=true:=
 decide_eq_true ((Q3j r1 r2 e1 e2 e3 e4).1 ⟨h1,h2⟩)
theorem Y4u {X1 Y1 Z1 X2 Y2 Z2 m1 m2 m3 m4:Nat}{p q:Pr}(r1:RD X1 Y1 Z1 p)(r2:RD X2 Y2 Z2 q)(e1:m1=X1*Z2 % PP)(e2:m2=X2*Z1 % PP)(e3:m3=Y1*Z2 % PP)(e4:m4=Y2*Z1 % PP)(h1:¬m1=m2):decide (p=q)=false:=
 decide_eq_false fun h=>h1 ((Q3j r1 r2 e1 e2 e3 e4).2 h).1
theorem Y4v {X1 Y1 Z1 X2 Y2 Z2 m1 m2 m3 m4:Nat}{p q:Pr}(r1:RD X1 Y1 Z1 p)(r2:RD X2 Y2 Z2 q)(e1:m1=X1*Z2 % PP)(e2:m2=X2*Z1 % PP)(e3:m3=Y1*Z2 % PP)(e4:m4=Y2*Z1 % PP)(h1:¬m3=m4):decide (p=q)=false:=
 decide_eq_false fun h=>h1 ((Q3j r1 r2 e1 e2 e3 e4).2 h).2
theorem V5v {X Y Z i x y:Nat}{a:Pr}(r:RD X Y Z a)(ei:i=pw Z (PP-2))(ex:x=X*i % PP)(ey:y=Y*i % PP)(ho:x % 2=1):J1 .u8 32 (upd (J4 y) 31 (bits .or .u8 (J4 y 31) 128))=J1 .u8 32 (J4 (enc a)):=by
 obtain⟨h1,h2⟩:=Z9t r ei ex ey;rw[V5w (Nat.lt_trans (ey▸J4n _) Z0i)];unfold enc;rw[←h1,←h2,ho]
theorem V5x {X Y Z i x y:Nat}{a:Pr}(r:RD X Y Z a)(ei:i=pw Z (PP-2))(ex:x=X*i % PP)(ey:y=Y*i % PP)(ho:¬x % 2=1):J1 .u8 32 (J4 y)=J1 .u8 32 (J4 (enc a)):=by
 obtain⟨h1,h2⟩:=Z9t r ei ex ey;have:x % 2=0:=by omega
 unfold enc;rw[←h1,←h2,this,Nat.mul_zero,Nat.add_zero]

theorem Q6o {X1 Y1 Z1 T1:Nat}{p1:Pr}{X2 Y2 Z2 T2:Nat}{p2:Pr}(h1:RW X1 Y1 Z1 T1 p1)(h2:RW X2 Y2 Z2 T2 p2):
  ∀w,GE kn w→Calls Tryz.prog 109 #[.agg (p4 X1 Y1 Z1 T1),.agg (p4 X2 Y2 Z2 T2)] w fun e w' =>X5 (.bool (decide (p1=p2))) w w' e:=by
 obtain⟨x1,y2,z3,t4,r5,c6⟩:=J4a (kn:=kn) h1;obtain⟨x7,y8,z9,φ,M,τ⟩:=J4a (kn:=kn) h2;have J:=K7 x1 z9 (Q8 r5.x) (Q8 M.z);obtain⟨Y,R⟩:=exn (x1*z9 % PP);rw[←R] at J;have θ:=bpp R;have ν:=Q8 θ;have α:=Lib.hid R;clear R;have G:=K7 x7 z3 (Q8 M.x) (Q8 r5.z);obtain⟨Z,V⟩:=exn (x7*z3 % PP);rw[←V] at G;have η:=bpp V;have ρ:=Q8 η;have β:=Lib.hid V;clear V;have D:=J5k Y Z ν ρ;rw[Nat.mod_eq_of_lt θ,Nat.mod_eq_of_lt η] at D;have X:=K7 y2 z9 (Q8 r5.y) (Q8 M.z);obtain⟨ε,S⟩:=exn (y2*z9 % PP);rw[←S] at X;have μ:=bpp S;have ξ:=Q8 μ;have δ:=Lib.hid S;clear S;have U:=K7 y8 z3 (Q8 M.y) (Q8 r5.z);obtain⟨ζ,T⟩:=exn (y8*z3 % PP);rw[←T] at U;have κ:=bpp T;have σ:=Q8 κ;have γ:=Lib.hid T;clear T;have N:=J5k ε ζ ξ σ;rw[Nat.mod_eq_of_lt μ,Nat.mod_eq_of_lt κ] at N;intro w hG;have hS:=SH.nil [] w
 go_enter Tryz.func109,Tryz.ntmps109
 go_upto_region 0 with fail;refine RL hS ?_;clear hS;refine MN (z:=p4 X1 Y1 Z1 T1) (t:=154) ?_;intro K1;refine MN (z:=p4 X2 Y2 Z2 T2) (t:=154) ?_;intro χ;refine Wf ?_;refine MZ fun W hS=> ?_;go_upto_region 1 with fail;refine RX 4 hS ?_;clear hS;refine ML 1 ?_;refine MC (v:=.agg (p4 x1 y2 z3 t4)) (fun W hS=>c6 W (J6 hG hS.ext)) ?_;refine ML 0 ?_;refine MC (v:=.agg (p4 x7 y8 z9 φ)) (fun W hS=>τ W (J6 hG hS.ext)) ?_;refine MZt ?_;refine MR 1 ?_;refine MR 0 ?_;refine MZn fun W hS=> ?_
 by_cases hx:Y=Z
 ·
  by_cases hy:ε=ζ
  ·
   go_upto_region 2 with fail;refine RS hS ?_;clear hS;refine MV ?_;refine Ml 1 J9b ?_;refine MV ?_;refine Ml 0 J7g ?_;refine MC (v:=.agg (c4 Y)) (fun W hS=>J W (J6 hG hS.ext).1) ?_;refine MV ?_;refine Ml 0 J9b ?_;refine MV ?_;refine Ml 1 J7g ?_;refine MC (v:=.agg (c4 Z)) (fun W hS=>G W (J6 hG hS.ext).1) ?_;rw[decide_eq_true hx] at D;refine MC (v:=.bool true) (fun W hS=>D W (J6 hG hS.ext).1) ?_;refine Wt ?_;refine MV ?_;refine Ml 1 Q1t ?_;refine MV ?_;refine Ml 0 J7g ?_;refine MC (v:=.agg (c4 ε)) (fun W hS=>X W (J6 hG hS.ext).1) ?_;refine MV ?_;refine Ml 0 Q1t ?_;refine MV ?_;refine Ml 1 J7g ?_;refine MC (v:=.agg (c4 ζ)) (fun W hS=>U W (J6 hG hS.ext).1) ?_;rw[decide_eq_true hy] at N;refine MC (v:=.bool true) (fun W hS=>N W (J6 hG hS.ext).1) ?_;refine Wt ?_;refine Wt ?_;refine MZx fun W hS=> ?_;go_wp2;rw[V19 r5.rr M.rr α.out β.out δ.out γ.out hx hy];exact bodyPost_ret (v:=.bool true) (by simp only[results,Tryz.results109];go_simp) rfl ⟨rfl,hS.ext⟩
  go_upto_region 2 with fail;refine RS hS ?_;clear hS;refine MV ?_;refine Ml 1 J9b ?_;refine MV ?_;refine Ml 0 J7g ?_;refine MC (v:=.agg (c4 Y)) (fun W hS=>J W (J6 hG hS.ext).1) ?_;refine MV ?_;refine Ml 0 J9b ?_;refine MV ?_;refine Ml 1 J7g ?_;refine MC (v:=.agg (c4 Z)) (fun W hS=>G W (J6 hG hS.ext).1) ?_;rw[decide_eq_true hx] at D;refine MC (v:=.bool true) (fun W hS=>D W (J6 hG hS.ext).1) ?_;refine Wt ?_;refine MV ?_;refine Ml 1 Q1t ?_;refine MV ?_;refine Ml 0 J7g ?_;refine MC (v:=.agg (c4 ε)) (fun W hS=>X W (J6 hG hS.ext).1) ?_;refine MV ?_;refine Ml 0 Q1t ?_;refine MV ?_;refine Ml 1 J7g ?_;refine MC (v:=.agg (c4 ζ)) (fun W hS=>U W (J6 hG hS.ext).1) ?_;rw[decide_eq_false hy] at N;refine MC (v:=.bool false) (fun W hS=>N W (J6 hG hS.ext).1) ?_;refine Wf ?_;refine Wf ?_;refine MZx fun W hS=> ?_;go_wp2;rw[Y4v r5.rr M.rr α.out β.out δ.out γ.out hy];exact bodyPost_ret (v:=.bool false) (by simp only[results,Tryz.results109];go_simp) rfl ⟨rfl,hS.ext⟩
 go_upto_region 2 with fail;refine RS hS ?_;clear hS;refine MV ?_;refine Ml 1 J9b ?_;refine MV ?_;refine Ml 0 J7g ?_;refine MC (v:=.agg (c4 Y)) (fun W hS=>J W (J6 hG hS.ext).1) ?_;refine MV ?_;refine Ml 0 J9b ?_;refine MV ?_;refine Ml 1 J7g ?_;refine MC (v:=.agg (c4 Z)) (fun W hS=>G W (J6 hG hS.ext).1) ?_;rw[decide_eq_false hx] at D;refine MC (v:=.bool false) (fun W hS=>D W (J6 hG hS.ext).1) ?_;refine Wf ?_;(iterate 11 refine MS ?_);refine Wf ?_;refine Wf ?_;refine MZx fun W hS=> ?_;go_wp2;rw[Y4u r5.rr M.rr α.out β.out δ.out γ.out hx];exact bodyPost_ret (v:=.bool false) (by simp only[results,Tryz.results109];go_simp) rfl ⟨rfl,hS.ext⟩
theorem V1a {X1 Y1 Z1 T1:Nat}{p1:Pr}(h1:RW X1 Y1 Z1 T1 p1):
  ∀w,GE kn w→Calls Tryz.prog 91 #[.agg (p4 X1 Y1 Z1 T1)] w fun e w' =>X5 (.agg (J1 .u8 32 (J4 (enc p1)))) w w' e:=by
 obtain⟨x1,y2,z3,t4,r5,c6⟩:=J4a (kn:=kn) h1;have S:=V14 z3 (Q8 r5.z);obtain⟨N7,M⟩:=exn (pw z3 (PP-2));rw[←M] at S;have ζ:=bpp M;have γ:=Q8 ζ;have Z:=Lib.hid M;clear M;have U:=K7 y2 N7 (Q8 r5.y) γ;obtain⟨N8,N⟩:=exn (y2*N7 % PP);rw[←N] at U;have β:=bpp N;have ε:=Q8 β;have X:=Lib.hid N;clear N;have α:=Q3i N8 ε;rw[Nat.mod_eq_of_lt β] at α;have J:=K7 x1 N7 (Q8 r5.x) γ;obtain⟨R,G⟩:=exn (x1*N7 % PP);rw[←G] at J;have T:=bpp G;have δ:=Q8 T;have V:=Lib.hid G;clear G;have D:=Z0g R δ;rw[Nat.mod_eq_of_lt T] at D;intro w hG;have hS:=SH.nil [] w
 go_enter Tryz.func91,Tryz.ntmps91
 go_upto_region 0 with fail;refine RL hS ?_;clear hS;refine MN (z:=p4 X1 Y1 Z1 T1) (t:=154) ?_;intro η;refine MN (z:=J1 .u8 32 (J4 0)) (t:=23) ?_;intro κ;refine MZ fun W hS=> ?_;go_upto_region 1 with fail;refine RL hS ?_;clear hS;refine ML 1 ?_;refine MC (v:=.agg (p4 x1 y2 z3 t4)) (fun W hS=>c6 W (J6 hG hS.ext)) ?_;refine MR 1 ?_;refine MZ fun W hS=> ?_;go_upto_region 2 with fail;refine RL hS ?_;clear hS;refine MV ?_;refine Ml 1 J7g ?_;refine MC (v:=.agg (c4 N7)) (fun W hS=>S W (J6 hG hS.ext).1) ?_;refine MN (z:=c4 0) (t:=152) ?_;intro θ;refine MR 0 ?_;refine MZ fun W hS=> ?_;go_upto_region 3 with fail;refine RL hS ?_;clear hS;refine MV ?_;refine Ml 2 Q1t ?_;refine ML 0 ?_;refine MC (v:=.agg (c4 N8)) (fun W hS=>U W (J6 hG hS.ext).1) ?_;refine MC (v:=.agg (J1 .u8 32 (J4 N8))) (fun W hS=>α W (J6 hG hS.ext).1) ?_;refine MN (z:=J1 .u8 32 (J4 0)) (t:=23) ?_;intro Y;refine MR 0 ?_;refine MZ fun W hS=> ?_
 by_cases ho:R % 2=1
 ·
  go_upto_region 4 with fail;refine RL hS ?_;clear hS;refine MV ?_;refine Ml 3 J9b ?_;refine ML 1 ?_;refine MC (v:=.agg (c4 R)) (fun W hS=>J W (J6 hG hS.ext).1) ?_;rw[decide_eq_true ho] at D;refine MC (v:=.bool true) (fun W hS=>D W (J6 hG hS.ext).1) ?_;refine MZ fun W hS=> ?_;go_upto_region 5 with fail;refine RL hS ?_;clear hS;refine MW ?_ (v:=.pointer (some ⟨Y,0+31,none⟩)) (hv:=fun _=>rxa Tryz.underlying23 (by decide));refine MG 0 ?_ (j:=0+31) (v:=.int .u8 ((J4 N8) 31)) (hj:=ag0 (by decide));refine MW ?_ (v:=.int .u8 (bits .or .u8 (J4 N8 31) 128)) (hv:=by intro W;exact Y4x rfl rfl rfl rfl);refine MW ?_ (v:=.pointer (some ⟨Y,0+31,none⟩)) (hv:=fun _=>rxa Tryz.underlying23 (by decide));refine MP 0 (v:=.int .u8 (bits .or .u8 (J4 N8 31) 128)) (cs' :=J1 .u8 32 (upd (J4 N8) 31 (bits .or .u8 (J4 N8 31) 128))) ?_ (hs:=by rw[J0,Nat.zero_add];decide) (hc:=by rw[Nat.zero_add];exact K3 _ _ _ _ _);refine MT (fun W hS=>by rw[V5v r5.rr Z.out V.out X.out ho] at hS;exact hS) ?_;refine MZ fun W hS=> ?_;go_upto_region 6 with fail;refine RL hS ?_;clear hS;refine ML 0 ?_;refine MR 2 ?_;refine MZ fun W hS=> ?_;go_wp2;exact bodyPost_ret (Z8 rfl rfl (hS.blk (i:=2) rfl) (by kernel_rfl) (by rw[J0];kernel_rfl)) rfl ⟨rfl,hS.ext⟩
 go_upto_region 4 with fail;refine RL hS ?_;clear hS;refine MV ?_;refine Ml 3 J9b ?_;refine ML 1 ?_;refine MC (v:=.agg (c4 R)) (fun W hS=>J W (J6 hG hS.ext).1) ?_;rw[decide_eq_false ho] at D;refine MC (v:=.bool false) (fun W hS=>D W (J6 hG hS.ext).1) ?_;refine MZ fun W hS=> ?_;rw[V5x r5.rr Z.out V.out X.out ho] at hS;go_upto_region 6 with fail;refine RL hS ?_;clear hS;refine ML 0 ?_;refine MR 2 ?_;refine MZ fun W hS=> ?_;go_wp2;exact bodyPost_ret (Z8 rfl rfl (hS.blk (i:=2) rfl) (by kernel_rfl) (by rw[J0];kernel_rfl)) rfl ⟨rfl,hS.ext⟩
end
end Go.Proofs.YteehbddkcnkhfaaGreatDoor.S8

/- Contracts and plain laws for superSeals_holds. Conditions: the tables hold their numbers. -/
import Derived.Test.YtdjacgmmidbieaaGreatDoorJ12
open Go renaming World->AA,Value->AB,bodyPost_ret->BH,Calls->BI,IntKind->AI
open Go.Lib renaming hid->BK
open _root_.List renaming length_append->Ao,forall_mem_cons->BR,cons_append->BT
open _root_.Nat renaming mod_eq_of_lt->AL,le_refl->AM,zero_le->An,lt_of_lt_of_le->BA,lt_of_le_of_lt->AN,lt_trans->BL,mod_lt->AO,zero_add->AP,div_eq_of_lt->AR
open _root_.Array renaming size_append->BS
open Go.RowKit
set_option maxRecDepth 100000
set_option linter.unusedSimpArgs false
set_option linter.unusedVariables false
namespace Go.Proofs.YtdjacgmmidbieaaGreatDoor.S8
section
open Sc (LL J1r)
/-! ### Bytes and numbers -/
theorem V0s (m n V:Nat):lb (m+n) V=lb m V++lb n (V / 2^(8*m)):=by
  induction m generalizing V with
  |zero=>simp[show lb 0 V=[] from rfl]
  |succ m ih=>
    rw[show m+1+n=(m+n)+1 by omega,J8b,J8b,ih,BT,Nat.div_div_eq_div_mul,show 256*2^(8*m)=2^(8*(m+1)) by rw[show 8*(m+1)=8*m+8 by omega,Nat.pow_add];omega]
def lo (V:Nat):Nat:=V % 2^256
def hi (V:Nat):Nat:=V / 2^256
theorem Y7j (V:Nat):lo V<2^256:=AO _ (by decide)
theorem Y7h {V:Nat}(h:V<2^(256+256)):hi V<2^256:=by unfold hi;rw[Nat.div_lt_iff_lt_mul (by decide),←Nat.pow_add];exact h
theorem V0t {V j:Nat}(hj:j<32):J6 (lo V) j=J6 V j:=by
  unfold J6 lo;have e:(2:Nat)^256=2^(8*j)*2^(256-8*j):=by rw[←Nat.pow_add];congr 1;omega
  have e2:(2:Nat)^(256-8*j)=256*2^(248-8*j):=by rw[show 256-8*j=8+(248-8*j) by omega,Nat.pow_add]
  rw[e,Nat.mod_mul_right_div_self,e2,Nat.mod_mul_right_mod]
theorem V0u (V j:Nat):J6 (hi V) j=J6 V (32+j):=by
  unfold J6 hi;rw[Nat.div_div_eq_div_mul,←Nat.pow_add,show 256+8*j=8*(32+j) by omega]
theorem Z9y (V:Nat):lb 64 V=lb 32 (lo V)++lb 32 (hi V):=by
  rw[show(64:Nat)=32+32 from rfl,V0s,lo,←Y8u 32 V];rfl
theorem Q94 {V:Nat}:∀i v,(J0 .u8 32 (J6 (lo V)))[i]?=some v→(J0 .u8 64 (J6 V))[0+i]?=some v:=fun i v h=>by
  have hi:i<32:=by have:=(Array.getElem?_eq_some_iff.1 h).1;rwa [J1] at this
  rw[Q6 _ _ _ _ hi,V0t hi] at h;rw[AP,Q6 _ _ _ _ (by omega)];exact h
theorem Y43 {V:Nat}:∀i v,(J0 .u8 32 (J6 (hi V)))[i]?=some v→(J0 .u8 64 (J6 V))[32+i]?=some v:=fun i v h=>by
  have hi:i<32:=by have:=(Array.getElem?_eq_some_iff.1 h).1;rwa [J1] at this
  rw[Q6 _ _ _ _ hi,V0u] at h;rw[Q6 _ _ _ _ (by omega)];exact h
/-! ### Sums -/
def hs (F:List UInt8):Nat:=le (smb F)
theorem Q7f (F:List UInt8):hs F<2^(8*64):=by have:=Q82 (smb F);rwa [Q3n] at this
theorem V7n:8*64=256+256:=rfl
theorem V52 (F:List UInt8):hs F<2^(256+256):=by have:=Q7f F;rwa [V7n] at this
theorem Y07 (F:List UInt8):smb F=lb 64 (hs F):=(Z0b (Q3n F)).symm
theorem V4v (F:List UInt8):J0 .u8 64 (sm F)=J0 .u8 64 (J6 (hs F)):=Q81 (by rw[Z5o,Y07,J79,J25])
/-! ### Secrets -/
def clN (V:Nat):Nat:=J0t (J1r (J6 V)) 32
theorem Q3r (V j:Nat):J4v (J1r (J6 V) j):=by
  have h0:=J2v V 0;have h1:=J2v V 31;have h2:=J2v V j;unfold J1r J4v at*
  split
  · omega
  split
  · omega
  exact h2
theorem Z17 (V:Nat):clN V<2^256:=J5j _ (Q3r V) 32
theorem Y42 (V:Nat):J0 .u8 32 (J1r (J6 V))=J0 .u8 32 (J6 (clN V)):=K6 _ _ _ _ fun j hj=>(Q2z _ (Q3r V) 32 j hj).symm
def kN (S:Nat):Nat:=clN (lo (hs (lb 32 S)))
def kD (S:Nat):Nat:=hi (hs (lb 32 S))
def kP (S:Nat):Nat:=enc (pm BP (kN S))
theorem Y7f (S:Nat):kN S<2^256:=Z17 _
theorem Y7g (S:Nat):kD S<2^256:=Y7h (V52 _)
/-! ### Signatures -/
def sR (S:Nat)(L:List UInt8):Nat:=hs (lb 32 (kD S)++L) % LL
def sA (S:Nat)(L:List UInt8):Nat:=enc (pm BP (sR S L))
def sK (S:Nat)(L:List UInt8):Nat:=hs (lb 32 (sA S L)++lb 32 (kP S)++L) % LL
def sT (S:Nat)(L:List UInt8):Nat:=(sR S L+sK S L*(kN S % LL) % LL) % LL
def sig (S:Nat)(L:List UInt8):Nat:=sA S L+2^256*sT S L
def vK (V:Nat)(L:List UInt8)(G:Nat):Nat:=hs (lb 32 (lo G)++lb 32 V++L) % LL
def vP (V:Nat)(L:List UInt8)(G:Nat):Pr:=J15 (pm BP (hi G)) (pm (J6o (dPt V)) (vK V L G))
def vfy (V:Nat)(L:List UInt8)(G:Nat):Nat:=if LL≤hi G then 16 else if dOk V=false then 15 else if enc (vP V L G)=lo G then 0 else 16
theorem J9b (a:Pr):enc a<2^256:=by
  unfold enc;have h:a.2.val<2^255:=BL a.2.isLt Q71;have h2:a.1.val % 2<2:=AO _ (by decide);have e:(2:Nat)^256=2^255+2^255:=by decide
  generalize (2:Nat)^255=T at*;have:T*(a.1.val % 2)≤T*1:=Nat.mul_le_mul_left T (by omega);omega
theorem kP_lt (S:Nat):kP S<2^256:=J9b _
theorem V0v:0<LL:=by decide
theorem J1c:LL<2^256:=by decide
theorem mLL (n:Nat):n % LL<LL:=AO _ V0v
theorem Y08 (S:Nat)(L:List UInt8):sA S L<2^256:=J9b _
theorem Y7k (S:Nat)(L:List UInt8):sT S L<LL:=mLL _
theorem Y09 (S:Nat)(L:List UInt8):lo (sig S L)=sA S L:=by
  unfold lo sig;rw[Nat.add_mul_mod_self_left,AL (Y08 S L)]
theorem Y0a (S:Nat)(L:List UInt8):hi (sig S L)=sT S L:=by
  unfold hi sig;rw[Nat.add_mul_div_left _ _ (by decide),AR (Y08 S L),AP]
end

section
def n64:Nat:=18446744073709551616
theorem Y4c (n:Int)(h0:0≤n)(h1:n<2^64):AI.u64.wrap n=n:=by rw[AI.wrap_u64];omega
theorem J2i (k:AI)(j:Nat)(hj:j≤k.bits)(hk:∀n:Int,0≤n→n<2^j→k.wrap n=n)(a b:Nat)(ha:a<2^j)(hb:b<2^j):bits .xor k a b=((a^^^b:Nat):Int):=by
  have hp:2^j≤2^k.bits:=Nat.pow_le_pow_right (by decide) hj;have ha' :a % 2^k.bits=a:=AL (BA ha hp);have hb' :b % 2^k.bits=b:=AL (BA hb hp);simp only[bits,BitVec.ofInt_natCast,BitVec.toNat_xor,BitVec.toNat_ofNat,ha',hb'];exact hk _ (Int.natCast_nonneg _) (by exact_mod_cast Nat.xor_lt_two_pow ha hb)
def Wn (x:Int)(a:Nat):Prop:=x=(a:Int)∧a<2^64
section
variable {x y : Int} {a b : Nat}
theorem Wn.xo (h:Wn x a)(k:Wn y b):Wn (xo x y) (a^^^b):=⟨by rw[h.1,k.1];exact J2i .u64 64 (by decide) Y4c a b h.2 k.2,Nat.xor_lt_two_pow h.2 k.2⟩
theorem Wn.an (h:Wn x a)(k:Wn y b):Wn (an x y) (a &&& b):=⟨by rw[h.1,k.1];exact(bits_nat .u64 64 (by decide) Y4c a b h.2 k.2).1,Nat.and_lt_two_pow _ k.2⟩
theorem Wn.oo (h:Wn x a)(k:Wn y b):Wn (oo x y) (a |||b):=⟨by rw[h.1,k.1];exact(bits_nat .u64 64 (by decide) Y4c a b h.2 k.2).2,Nat.or_lt_two_pow h.2 k.2⟩
theorem Wn.nt (h:Wn x a):Wn (nt x) (18446744073709551615^^^a):=⟨by rw[h.1];exact J2i .u64 64 (by decide) Y4c _ a (by decide) h.2,Nat.xor_lt_two_pow (by decide) h.2⟩
theorem Wn.ad (h:Wn x a)(k:Wn y b):Wn (ad x y) ((a+b) % n64):=⟨by rw[h.1,k.1];show AI.wrap .u64 ((a:Int)+b)=_;unfold n64;rw[AI.wrap_u64];omega,AO _ (by decide)⟩
theorem Wn.sl (h:Wn x a)(n:Nat):Wn (sl x n) (a*2^n % n64):=⟨by
  rw[h.1];show AI.wrap .u64 ((a:Int)*2^n)=_;unfold n64
  rw[AI.wrap_u64,Int.natCast_emod,Int.natCast_mul,Int.natCast_pow];rfl,AO _ (by decide)⟩
theorem Wn.sr (h:Wn x a)(n:Nat):Wn (sr x n) (a / 2^n):=⟨by
  rw[h.1];show(a:Int) / 2^n=_
  rw[Int.natCast_ediv,Int.natCast_pow];rfl,AN (Nat.div_le_self _ _) h.2⟩
end
def rtN (a n:Nat):Nat:=a / 2^n |||a*2^(64-n) % n64
theorem Wn.rt {x:Int}{a:Nat}(h:Wn x a)(n:Nat):Wn (rt x n) (rtN a n):=(h.sr n).oo (h.sl (64-n))
/-! ### The words of a block -/
def bN (l:List UInt8)(j:Nat):Nat:=(l.getD j 0).toNat
def sgN (l:List Nat):Nat:=
  let p:=l.getD 14 0
  let q:=l.getD 1 0
  (((l.getD 15 0+(rtN p 1^^^rtN p 8^^^p / 2^7)) % n64+l.getD 6 0) % n64+(rtN q 19^^^rtN q 61^^^q / 2^6)) % n64
/-! ### The rounds -/
abbrev S8:=Nat×Nat×Nat×Nat×Nat×Nat×Nat×Nat
end

section
open Sc (LL J1r)
end

section
set_option maxHeartbeats 1500000
attribute [local irreducible] wpList K1 wpX
variable {kn : Kn}

theorem J2z (w:AA):
  BI Tryz.prog 129 #[] w fun e w' =>V4 (L4 1) w w' e:=by
 have hS:=SH.nil [] w
 go_enter Tryz.func129,Tryz.ntmps129
 go_upto_region 0 with fail;refine RL hS ?_;clear hS;refine MN (z:=c4 0) (t:=107) ?_;intro D;refine MZ fun W hS=> ?_;go_upto_region 1 with fail;refine RL hS ?_;clear hS;refine MC (v:=.agg (c4 1)) (fun W hS=>Y37 1 (by decide) W) ?_;refine MR 0 ?_;refine MZ fun W hS=> ?_;go_wp2;exact BH (Z5 rfl rfl (hS.blk (i:=0) rfl) (by kernel_rfl) (by kernel_rfl)) rfl ⟨rfl,hS.ext⟩
theorem Y6t {X Y:Nat}(hX:X<PP)(hY:Y<PP)(on:OnC (fp X,fp Y)):
  ∃T,RN X Y 1 T (fp X,fp Y)∧∀w,GE kn w→BI Tryz.prog 101 #[L4 X,L4 Y] w fun e w' =>V4 (.agg (p4 X Y 1 T)) w w' e:=by
 have G:=J08 X Y (Q5 hX) (Q5 hY);obtain⟨N1,D⟩:=exn (X*Y % PP);rw[←D] at G;have J:=bpp D;have S:=Q5 J;have M:=BK D;clear D;refine⟨N1,Z8r hX hY on M.out,fun w hG=> ?_⟩;have hS:=SH.nil [] w
 go_enter Tryz.func101,Tryz.ntmps101
 go_upto_region 0 with fail;refine RL hS ?_;clear hS;refine MN (z:=c4 X) (t:=107) ?_;intro K9;refine MN (z:=c4 Y) (t:=107) ?_;intro N;refine MN (z:=p4 0 0 0 0) (t:=109) ?_;intro R;refine MZ fun W hS=> ?_;go_upto_region 1 with fail;refine RX 7 hS ?_;clear hS;refine ML 2 ?_;refine ML 1 ?_;refine MC (v:=.agg (c4 1)) (fun W hS=>J2z W) ?_;refine ML 2 ?_;refine ML 1 ?_;refine MC (v:=.agg (c4 N1)) (fun W hS=>G W (J9 hG hS.ext).1) ?_;refine MW ?_ (v:=.agg (p4 X Y 1 N1)) (hv:=by intro W;kernel_rfl);refine MZt ?_;refine MR 0 ?_;refine MZn fun W hS=> ?_;go_wp2;exact BH (Z5 rfl rfl (hS.blk (i:=0) rfl) (by kernel_rfl) (by kernel_rfl)) rfl ⟨rfl,hS.ext⟩
theorem Z8s {X1 Y1 Z1 T1:Nat}(hb:Z1<J8)(hz:Z1≠0)(w:AA)(hG:GE kn w):
  BI Tryz.prog 102 #[.agg (p4 X1 Y1 Z1 T1)] w fun e w' =>V4 (.agg (p4 X1 Y1 Z1 T1)) w w' e:=by
 have hS:=SH.nil [] w
 go_enter Tryz.func102,Tryz.ntmps102
 go_upto_region 0 with fail;refine RL hS ?_;clear hS;refine MN (z:=p4 X1 Y1 Z1 T1) (t:=109) ?_;intro G;refine MN (z:=p4 0 0 0 0) (t:=109) ?_;intro J;refine MZ fun W hS=> ?_;go_upto_region 1 with fail;refine RL hS ?_;clear hS;refine MV ?_;refine Ml 1 Q6x ?_;refine MW ?_ (v:=.agg (c4 0)) (hv:=by intro W;kernel_rfl);have D:=Y9g Z1 0 hb (by decide);rw[decide_eq_false hz] at D;refine MW ?_ (v:=.bool false) (hv:=fun _=>J62 ((D) _) (by kernel_rfl) rfl rfl rfl);refine MZ fun W hS=> ?_;go_upto_region 3 with fail;refine RL hS ?_;clear hS;refine ML 1 ?_;refine MR 0 ?_;refine MZ fun W hS=> ?_;go_wp2;exact BH (Z5 rfl rfl (hS.blk (i:=0) rfl) (by kernel_rfl) (by kernel_rfl)) rfl ⟨rfl,hS.ext⟩
theorem Z8t {X1 Y1 T1:Nat}(w:AA)(hG:GE kn w):
  BI Tryz.prog 102 #[.agg (p4 X1 Y1 0 T1)] w fun e w' =>V4 (.agg (p4 0 1 1 0)) w w' e:=by
 have hS:=SH.nil [] w
 go_enter Tryz.func102,Tryz.ntmps102
 go_upto_region 0 with fail;refine RL hS ?_;clear hS;refine MN (z:=p4 X1 Y1 0 T1) (t:=109) ?_;intro G;refine MN (z:=p4 0 0 0 0) (t:=109) ?_;intro J;refine MZ fun W hS=> ?_;go_upto_region 1 with fail;refine RL hS ?_;clear hS;refine MV ?_;refine Ml 1 Q6x ?_;refine MW ?_ (v:=.agg (c4 0)) (hv:=by intro W;kernel_rfl);have D:=Y9g 0 0 (by decide) (by decide);rw[decide_eq_true rfl] at D;refine MW ?_ (v:=.bool true) (hv:=fun _=>J62 ((D) _) (by kernel_rfl) rfl rfl rfl);refine MZ fun W hS=> ?_;go_upto_region 2 with fail;refine RL hS ?_;clear hS;refine MC (v:=.agg (c4 1)) (fun W hS=>J2z W) ?_;refine MC (v:=.agg (c4 1)) (fun W hS=>J2z W) ?_;refine MW ?_ (v:=.agg (p4 0 1 1 0)) (hv:=by intro W;kernel_rfl);refine MR 0 ?_;refine MZ fun W hS=> ?_;go_wp2;exact BH (Z5 rfl rfl (hS.blk (i:=0) rfl) (by kernel_rfl) (by kernel_rfl)) rfl ⟨rfl,hS.ext⟩
theorem J68 {X Y Z T:Nat}{a:Pr}(h:RW X Y Z T a):∃X' Y' Z' T',RN X' Y' Z' T' a∧∀w,GE kn w→BI Tryz.prog 102 #[.agg (p4 X Y Z T)] w fun e w' =>V4 (.agg (p4 X' Y' Z' T')) w w' e:=by
 rcases h.cases with⟨hz,h1⟩|⟨rfl,rfl⟩
 ·
  exact⟨X,Y,Z,T,h1,fun w hG=>Z8s h.z hz w hG⟩
 exact⟨0,1,1,0,rn_p0,fun w hG=>Z8t w hG⟩
theorem Z8u {X1 Y1 Z1 T1:Nat}{p1:Pr}(h1:RN X1 Y1 Z1 T1 p1):
  ∃X Y Z T,RN X Y Z T (J15 p1 p1)∧∀w,GE kn w→BI Tryz.prog 103 #[.agg (p4 X1 Y1 Z1 T1)] w fun e w' =>V4 (.agg (p4 X Y Z T)) w w' e:=by
 have ψ:=J08 X1 X1 (Q5 h1.x) (Q5 h1.x);obtain⟨N1,ε⟩:=exn (X1*X1 % PP);rw[←ε] at ψ;have N0:=bpp ε;have D4:=Q5 N0;have M8:=BK ε;clear ε;have D1:=J08 Y1 Y1 (Q5 h1.y) (Q5 h1.y);obtain⟨N2,U⟩:=exn (Y1*Y1 % PP);rw[←U] at D1;have M9:=bpp U;have D7:=Q5 M9;have R6:=BK U;clear U;have σ:=J08 Z1 Z1 (Q5 h1.z) (Q5 h1.z);obtain⟨N3,η⟩:=exn (Z1*Z1 % PP);rw[←η] at σ;have R3:=bpp η;have D5:=Q5 R3;have R4:=BK η;clear η;have Ξ:=J4p N3 N3 D5 D5;obtain⟨N4,ν⟩:=exn ((N3+N3) % PP);rw[←ν] at Ξ;have M6:=bpp ν;have M4:=Q5 M6;have M5:=BK ν;clear ν;have Δ:=J4p N1 N2 D4 D7;obtain⟨N5,β⟩:=exn ((N1+N2) % PP);rw[←β] at Δ;have M0:=bpp β;have ω:=Q5 M0;have G9:=BK β;clear β;have ρ:=J4p X1 Y1 (Q5 h1.x) (Q5 h1.y);obtain⟨N6,ζ⟩:=exn ((X1+Y1) % PP);rw[←ζ] at ρ;have R0:=bpp ζ;have D6:=Q5 R0;have M1:=BK ζ;clear ζ;have ξ:=J08 N6 N6 D6 D6;obtain⟨N7,V⟩:=exn (N6*N6 % PP);rw[←V] at ξ;have M7:=bpp V;have R1:=Q5 M7;have R2:=BK V;clear V;have τ:=J7p N5 N7 ω R1;obtain⟨N8,S⟩:=exn ((N5+(PP-N7 % PP)) % PP);rw[←S] at τ;have R5:=bpp S;have D3:=Q5 R5;have M2:=BK S;clear S;have φ:=J7p N1 N2 D4 D7;obtain⟨N9,μ⟩:=exn ((N1+(PP-N2 % PP)) % PP);rw[←μ] at φ;have G8:=bpp μ;have D0:=Q5 G8;have M3:=BK μ;clear μ;have κ:=J4p N4 N9 M4 D0;obtain⟨R,J⟩:=exn ((N4+N9) % PP);rw[←J] at κ;have G7:=bpp J;have Ω:=Q5 G7;have G4:=BK J;clear J;have α:=J08 N8 R D3 Ω;obtain⟨χ,D⟩:=exn (N8*R % PP);rw[←D] at α;have G1:=bpp D;have R8:=Q5 G1;have G3:=BK D;clear D;have θ:=J08 N9 N5 D0 ω;obtain⟨Γ,M⟩:=exn (N9*N5 % PP);rw[←M] at θ;have G5:=bpp M;have R7:=Q5 G5;have G6:=BK M;clear M;have δ:=J08 R N9 Ω D0;obtain⟨Ψ,N⟩:=exn (R*N9 % PP);rw[←N] at δ;have G2:=bpp N;have R9:=Q5 G2;have G0:=BK N;clear N;have γ:=J08 N8 N5 D3 ω;obtain⟨Θ,G⟩:=exn (N8*N5 % PP);rw[←G] at γ;have D8:=bpp G;have S0:=Q5 D8;have D9:=BK G;clear G;refine⟨χ,Γ,Ψ,Θ,Q8s h1 M8.out R6.out R4.out M5.out G9.out M1.out R2.out M2.out M3.out G4.out G3.out G6.out G0.out D9.out,fun w hG=> ?_⟩;have hS:=SH.nil [] w
 go_enter Tryz.func103,Tryz.ntmps103
 go_upto_region 0 with fail;refine RL hS ?_;clear hS;refine MN (z:=p4 X1 Y1 Z1 T1) (t:=109) ?_;intro S1;refine MN (z:=p4 0 0 0 0) (t:=109) ?_;intro S6;refine MZ fun W hS=> ?_;go_upto_region 1 with fail;refine RXn 10 [⟨10,3,c4 0,107⟩,⟨11,4,c4 0,107⟩] hS ?_ (by simp only[BR];exact⟨⟨_,rfl,rfl,rfl,fun _ _=>by kernel_rfl⟩,⟨_,rfl,rfl,rfl,fun _ _=>by kernel_rfl⟩,fun _ h=>by cases h⟩);clear hS;refine MV ?_;refine Ml 1 Q4m ?_;refine MV ?_;refine Ml 1 Q4m ?_;refine MC (v:=.agg (c4 N1)) (fun W hS=>ψ W (J9 hG hS.ext).1) ?_;refine MV ?_;refine Ml 1 Q6y ?_;refine MV ?_;refine Ml 1 Q6y ?_;refine MC (v:=.agg (c4 N2)) (fun W hS=>D1 W (J9 hG hS.ext).1) ?_;refine MZB fun T2=> ?_;refine MR 0 ?_;refine MR 1 ?_;refine MZn fun W hS=> ?_;go_upto_region 2 with fail;refine RL hS ?_;clear hS;refine MV ?_;refine Ml 3 Q6x ?_;refine MV ?_;refine Ml 3 Q6x ?_;refine MC (v:=.agg (c4 N3)) (fun W hS=>σ W (J9 hG hS.ext).1) ?_;refine MN (z:=c4 0) (t:=107) ?_;intro S5;refine MR 0 ?_;refine MZ fun W hS=> ?_;go_upto_region 3 with fail;refine RL hS ?_;clear hS;refine ML 0 ?_;refine ML 0 ?_;refine MC (v:=.agg (c4 N4)) (fun W hS=>Ξ W (J9 hG hS.ext).1) ?_;refine MR 0 ?_;refine MZ fun W hS=> ?_;go_upto_region 4 with fail;refine RL hS ?_;clear hS;refine ML 1 ?_;refine ML 2 ?_;refine MC (v:=.agg (c4 N5)) (fun W hS=>Δ W (J9 hG hS.ext).1) ?_;refine MN (z:=c4 0) (t:=107) ?_;intro S2;refine MR 0 ?_;refine MZ fun W hS=> ?_;go_upto_region 5 with fail;refine RL hS ?_;clear hS;refine MV ?_;refine Ml 5 Q4m ?_;refine MV ?_;refine Ml 5 Q6y ?_;refine MC (v:=.agg (c4 N6)) (fun W hS=>ρ W (J9 hG hS.ext).1) ?_;refine MN (z:=c4 0) (t:=107) ?_;intro S4;refine MR 0 ?_;refine MZ fun W hS=> ?_;go_upto_region 6 with fail;refine RXn 5 [⟨5,8,c4 0,107⟩] hS ?_ (by simp only[BR];exact⟨⟨_,rfl,rfl,rfl,fun _ _=>by kernel_rfl⟩,fun _ h=>by cases h⟩);clear hS;refine ML 1 ?_;refine ML 0 ?_;refine ML 0 ?_;refine MC (v:=.agg (c4 N7)) (fun W hS=>ξ W (J9 hG hS.ext).1) ?_;refine MC (v:=.agg (c4 N8)) (fun W hS=>τ W (J9 hG hS.ext).1) ?_;refine MZB fun S9=> ?_;refine MR 0 ?_;refine MZn fun W hS=> ?_;go_upto_region 7 with fail;refine RL hS ?_;clear hS;refine ML 4 ?_;refine ML 5 ?_;refine MC (v:=.agg (c4 N9)) (fun W hS=>φ W (J9 hG hS.ext).1) ?_;refine MN (z:=c4 0) (t:=107) ?_;intro S3;refine MR 0 ?_;refine MZ fun W hS=> ?_;go_upto_region 8 with fail;refine RL hS ?_;clear hS;refine ML 4 ?_;refine ML 0 ?_;refine MC (v:=.agg (c4 R)) (fun W hS=>κ W (J9 hG hS.ext).1) ?_;refine MN (z:=c4 0) (t:=107) ?_;intro S7;refine MR 0 ?_;refine MZ fun W hS=> ?_;go_upto_region 9 with fail;refine RX 13 hS ?_;clear hS;refine ML 2 ?_;refine ML 0 ?_;refine MC (v:=.agg (c4 χ)) (fun W hS=>α W (J9 hG hS.ext).1) ?_;refine ML 1 ?_;refine ML 4 ?_;refine MC (v:=.agg (c4 Γ)) (fun W hS=>θ W (J9 hG hS.ext).1) ?_;refine ML 0 ?_;refine ML 1 ?_;refine MC (v:=.agg (c4 Ψ)) (fun W hS=>δ W (J9 hG hS.ext).1) ?_;refine ML 2 ?_;refine ML 4 ?_;refine MC (v:=.agg (c4 Θ)) (fun W hS=>γ W (J9 hG hS.ext).1) ?_;refine MW ?_ (v:=.agg (p4 χ Γ Ψ Θ)) (hv:=by intro W;kernel_rfl);refine MZt ?_;refine MR 8 ?_;refine MZn fun W hS=> ?_;go_wp2;exact BH (Z5 rfl rfl (hS.blk (i:=8) rfl) (by kernel_rfl) (by kernel_rfl)) rfl ⟨rfl,hS.ext⟩
theorem Z8v (hd:kn.d){X1 Y1 Z1 T1:Nat}{p1:Pr}{X2 Y2 Z2 T2:Nat}{p2:Pr}(h1:RW X1 Y1 Z1 T1 p1)(h2:RW X2 Y2 Z2 T2 p2):
  ∃X Y Z T,RN X Y Z T (J15 p1 p2)∧∀w,GE kn w→BI Tryz.prog 90 #[.agg (p4 X1 Y1 Z1 T1),.agg (p4 X2 Y2 Z2 T2)] w fun e w' =>V4 (.agg (p4 X Y Z T)) w w' e:=by
 obtain⟨x1,y2,z3,t4,r5,c6⟩:=J68 (kn:=kn) h1;obtain⟨x7,y8,z9,M2,D,c12⟩:=J68 (kn:=kn) h2;have D7:=J7p y2 x1 (Q5 r5.y) (Q5 r5.x);obtain⟨M9,μ⟩:=exn ((y2+(PP-x1 % PP)) % PP);rw[←μ] at D7;have S2:=bpp μ;have T8:=Q5 S2;have N6:=BK μ;clear μ;have Ψ:=J7p y8 x7 (Q5 D.y) (Q5 D.x);obtain⟨M7,ε⟩:=exn ((y8+(PP-x7 % PP)) % PP);rw[←ε] at Ψ;have N3:=bpp ε;have X0:=Q5 N3;have N4:=BK ε;clear ε;have D8:=J08 M9 M7 T8 X0;obtain⟨ψ,U⟩:=exn (M9*M7 % PP);rw[←U] at D8;have V7:=bpp U;have G4:=Q5 V7;have N5:=BK U;clear U;have G0:=J4p y2 x1 (Q5 r5.y) (Q5 r5.x);obtain⟨M5,N⟩:=exn ((y2+x1) % PP);rw[←N] at G0;have S6:=bpp N;have R7:=Q5 S6;have T5:=BK N;clear N;have D1:=J4p y8 x7 (Q5 D.y) (Q5 D.x);obtain⟨N0,η⟩:=exn ((y8+x7) % PP);rw[←η] at D1;have lN17:=bpp η;have S1:=Q5 lN17;have S5:=BK η;clear η;have Γ:=J08 M5 N0 R7 S1;obtain⟨σ,ζ⟩:=exn (M5*N0 % PP);rw[←ζ] at Γ;have R3:=bpp ζ;have M4:=Q5 R3;have HN18:=BK ζ;clear ζ;have Θ:=J08 t4 D2 (Q5 r5.t) V3y;obtain⟨G5,δ⟩:=exn (t4*D2 % PP);rw[←δ] at Θ;have X5:=bpp δ;have R4:=Q5 X5;have R8:=BK δ;clear δ;have D3:=J08 G5 M2 R4 (Q5 D.t);obtain⟨χ,J⟩:=exn (G5*M2 % PP);rw[←J] at D3;have R5:=bpp J;have G3:=Q5 R5;have R6:=BK J;clear J;have ω:=J4p z3 z3 (Q5 r5.z) (Q5 r5.z);obtain⟨M1,θ⟩:=exn ((z3+z3) % PP);rw[←θ] at ω;have N8:=bpp θ;have bN21:=Q5 N8;have HN21:=BK θ;clear θ;have D4:=J08 M1 z9 bN21 (Q5 D.z);obtain⟨ρ,M⟩:=exn (M1*z9 % PP);rw[←M] at D4;have T7:=bpp M;have G8:=Q5 T7;have T6:=BK M;clear M;have D6:=J7p σ ψ M4 G4;obtain⟨ν,R⟩:=exn ((σ+(PP-ψ % PP)) % PP);rw[←R] at D6;have S0:=bpp R;have M3:=Q5 S0;have R1:=BK R;clear R;have G1:=J7p ρ χ G8 G3;obtain⟨ξ,γ⟩:=exn ((ρ+(PP-χ % PP)) % PP);rw[←γ] at G1;have R9:=bpp γ;have G2:=Q5 R9;have N7:=BK γ;clear γ;have Ξ:=J4p ρ χ G8 G3;obtain⟨φ,V⟩:=exn ((ρ+χ) % PP);rw[←V] at Ξ;have S3:=bpp V;have G6:=Q5 S3;have S9:=BK V;clear V;have D5:=J4p σ ψ M4 G4;obtain⟨τ,β⟩:=exn ((σ+ψ) % PP);rw[←β] at D5;have R2:=bpp β;have M6:=Q5 R2;have HN26:=BK β;clear β;have Ω:=J08 ν ξ M3 G2;obtain⟨M8,S⟩:=exn (ν*ξ % PP);rw[←S] at Ω;have R0:=bpp S;have bN27:=Q5 R0;have T9:=BK S;clear S;have Δ:=J08 φ τ G6 M6;obtain⟨G7,G⟩:=exn (φ*τ % PP);rw[←G] at Δ;have N9:=bpp G;have bN28:=Q5 N9;have S7:=BK G;clear G;have D9:=J08 ξ φ G2 G6;obtain⟨M0,κ⟩:=exn (ξ*φ % PP);rw[←κ] at D9;have N1:=bpp κ;have bN29:=Q5 N1;have S4:=BK κ;clear κ;have D0:=J08 ν τ M3 M6;obtain⟨G9,α⟩:=exn (ν*τ % PP);rw[←α] at D0;have lN30:=bpp α;have bN30:=Q5 lN30;have N2:=BK α;clear α;refine⟨M8,G7,M0,G9,Z8w r5 D N6.out N4.out N5.out T5.out S5.out HN18.out R8.out R6.out HN21.out T6.out R1.out N7.out S9.out HN26.out T9.out S7.out S4.out N2.out,fun w hG=> ?_⟩;have hS:=SH.nil [] w
 go_enter Tryz.func90,Tryz.ntmps90
 go_upto_region 0 with fail;refine RL hS ?_;clear hS;refine MN (z:=p4 X1 Y1 Z1 T1) (t:=109) ?_;intro K9;refine MN (z:=p4 X2 Y2 Z2 T2) (t:=109) ?_;intro J18;refine MN (z:=p4 0 0 0 0) (t:=109) ?_;intro Q1k;refine MZ fun W hS=> ?_;go_upto_region 1 with fail;refine RX 4 hS ?_;clear hS;refine ML 2 ?_;refine MC (v:=.agg (p4 x1 y2 z3 t4)) (fun W hS=>c6 W (J9 hG hS.ext)) ?_;refine ML 1 ?_;refine MC (v:=.agg (p4 x7 y8 z9 M2)) (fun W hS=>c12 W (J9 hG hS.ext)) ?_;refine MZt ?_;refine MR 2 ?_;refine MR 1 ?_;refine MZn fun W hS=> ?_;go_upto_region 2 with fail;refine RXn 11 [⟨11,5,c4 0,107⟩] hS ?_ (by simp only[BR];exact⟨⟨_,rfl,rfl,rfl,fun _ _=>by kernel_rfl⟩,fun _ h=>by cases h⟩);clear hS;refine MV ?_;refine Ml 2 Q6y ?_;refine MV ?_;refine Ml 2 Q4m ?_;refine MC (v:=.agg (c4 M9)) (fun W hS=>D7 W (J9 hG hS.ext).1) ?_;refine MV ?_;refine Ml 1 Q6y ?_;refine MV ?_;refine Ml 1 Q4m ?_;refine MC (v:=.agg (c4 M7)) (fun W hS=>Ψ W (J9 hG hS.ext).1) ?_;refine MC (v:=.agg (c4 ψ)) (fun W hS=>D8 W (J9 hG hS.ext).1) ?_;refine MZB fun β4=> ?_;refine MR 0 ?_;refine MZn fun W hS=> ?_;go_upto_region 3 with fail;refine RXn 11 [⟨11,6,c4 0,107⟩] hS ?_ (by simp only[BR];exact⟨⟨_,rfl,rfl,rfl,fun _ _=>by kernel_rfl⟩,fun _ h=>by cases h⟩);clear hS;refine MV ?_;refine Ml 3 Q6y ?_;refine MV ?_;refine Ml 3 Q4m ?_;refine MC (v:=.agg (c4 M5)) (fun W hS=>G0 W (J9 hG hS.ext).1) ?_;refine MV ?_;refine Ml 2 Q6y ?_;refine MV ?_;refine Ml 2 Q4m ?_;refine MC (v:=.agg (c4 N0)) (fun W hS=>D1 W (J9 hG hS.ext).1) ?_;refine MC (v:=.agg (c4 σ)) (fun W hS=>Γ W (J9 hG hS.ext).1) ?_;refine MZB fun β5=> ?_;refine MR 0 ?_;refine MZn fun W hS=> ?_;go_upto_region 4 with fail;refine RXn 7 [⟨7,7,c4 0,107⟩] hS ?_ (by simp only[BR];exact⟨⟨_,rfl,rfl,rfl,fun _ _=>by kernel_rfl⟩,fun _ h=>by cases h⟩);clear hS;refine MV ?_;refine Ml 4 Y9i ?_;refine MF (v:=.agg (c4 D2)) (fun W hS=>J0a rfl rfl ((J9 hG hS.ext).2.2.2.1 hd) (by kernel_rfl) (by kernel_rfl)) ?_;refine MC (v:=.agg (c4 G5)) (fun W hS=>Θ W (J9 hG hS.ext).1) ?_;refine MV ?_;refine Ml 3 Y9i ?_;refine MC (v:=.agg (c4 χ)) (fun W hS=>D3 W (J9 hG hS.ext).1) ?_;refine MZB fun β6=> ?_;refine MR 0 ?_;refine MZn fun W hS=> ?_;go_upto_region 5 with fail;refine RXn 8 [⟨8,8,c4 0,107⟩] hS ?_ (by simp only[BR];exact⟨⟨_,rfl,rfl,rfl,fun _ _=>by kernel_rfl⟩,fun _ h=>by cases h⟩);clear hS;refine MV ?_;refine Ml 5 Q6x ?_;refine MV ?_;refine Ml 5 Q6x ?_;refine MC (v:=.agg (c4 M1)) (fun W hS=>ω W (J9 hG hS.ext).1) ?_;refine MV ?_;refine Ml 4 Q6x ?_;refine MC (v:=.agg (c4 ρ)) (fun W hS=>D4 W (J9 hG hS.ext).1) ?_;refine MZB fun β7=> ?_;refine MR 0 ?_;refine MZn fun W hS=> ?_;go_upto_region 6 with fail;refine RXn 12 [⟨12,9,c4 0,107⟩,⟨13,10,c4 0,107⟩,⟨14,11,c4 0,107⟩,⟨15,12,c4 0,107⟩] hS ?_ (by simp only[BR];exact⟨⟨_,rfl,rfl,rfl,fun _ _=>by kernel_rfl⟩,⟨_,rfl,rfl,rfl,fun _ _=>by kernel_rfl⟩,⟨_,rfl,rfl,rfl,fun _ _=>by kernel_rfl⟩,⟨_,rfl,rfl,rfl,fun _ _=>by kernel_rfl⟩,fun _ h=>by cases h⟩);clear hS;refine ML 2 ?_;refine ML 3 ?_;refine MC (v:=.agg (c4 ν)) (fun W hS=>D6 W (J9 hG hS.ext).1) ?_;refine ML 0 ?_;refine ML 1 ?_;refine MC (v:=.agg (c4 ξ)) (fun W hS=>G1 W (J9 hG hS.ext).1) ?_;refine ML 0 ?_;refine ML 1 ?_;refine MC (v:=.agg (c4 φ)) (fun W hS=>Ξ W (J9 hG hS.ext).1) ?_;refine ML 2 ?_;refine ML 3 ?_;refine MC (v:=.agg (c4 τ)) (fun W hS=>D5 W (J9 hG hS.ext).1) ?_;refine MZB fun β8=> ?_;refine MR 0 ?_;refine MR 1 ?_;refine MR 2 ?_;refine MR 3 ?_;refine MZn fun W hS=> ?_;go_upto_region 7 with fail;refine RX 13 hS ?_;clear hS;refine ML 0 ?_;refine ML 1 ?_;refine MC (v:=.agg (c4 M8)) (fun W hS=>Ω W (J9 hG hS.ext).1) ?_;refine ML 2 ?_;refine ML 3 ?_;refine MC (v:=.agg (c4 G7)) (fun W hS=>Δ W (J9 hG hS.ext).1) ?_;refine ML 1 ?_;refine ML 2 ?_;refine MC (v:=.agg (c4 M0)) (fun W hS=>D9 W (J9 hG hS.ext).1) ?_;refine ML 0 ?_;refine ML 3 ?_;refine MC (v:=.agg (c4 G9)) (fun W hS=>D0 W (J9 hG hS.ext).1) ?_;refine MW ?_ (v:=.agg (p4 M8 G7 M0 G9)) (hv:=by intro W;kernel_rfl);refine MZt ?_;refine MR 8 ?_;refine MZn fun W hS=> ?_;go_wp2;exact BH (Z5 rfl rfl (hS.blk (i:=8) rfl) (by kernel_rfl) (by kernel_rfl)) rfl ⟨rfl,hS.ext⟩
theorem Y9j {X1 Y1 Z1 T1:Nat}{p1:Pr}(h1:RW X1 Y1 Z1 T1 p1):
  ∃X Y Z T,RN X Y Z T (J6o p1)∧∀w,GE kn w→BI Tryz.prog 91 #[.agg (p4 X1 Y1 Z1 T1)] w fun e w' =>V4 (.agg (p4 X Y Z T)) w w' e:=by
 obtain⟨x1,y2,z3,t4,r5,c6⟩:=J68 (kn:=kn) h1;have J:=J97 x1 (Q5 r5.x);obtain⟨N7,G⟩:=exn ((PP-x1 % PP) % PP);rw[←G] at J;have N:=bpp G;have α:=Q5 N;have R:=BK G;clear G;have M:=J97 t4 (Q5 r5.t);obtain⟨N8,D⟩:=exn ((PP-t4 % PP) % PP);rw[←D] at M;have U:=bpp D;have V:=Q5 U;have S:=BK D;clear D;refine⟨N7,y2,z3,N8,Y9k r5 R.out S.out,fun w hG=> ?_⟩;have hS:=SH.nil [] w
 go_enter Tryz.func91,Tryz.ntmps91
 go_upto_region 0 with fail;refine RL hS ?_;clear hS;refine MN (z:=p4 X1 Y1 Z1 T1) (t:=109) ?_;intro γ;refine MN (z:=p4 0 0 0 0) (t:=109) ?_;intro β;refine MZ fun W hS=> ?_;go_upto_region 1 with fail;refine RL hS ?_;clear hS;refine ML 1 ?_;refine MC (v:=.agg (p4 x1 y2 z3 t4)) (fun W hS=>c6 W (J9 hG hS.ext)) ?_;refine MR 1 ?_;refine MZ fun W hS=> ?_;go_upto_region 2 with fail;refine RX 11 hS ?_;clear hS;refine MV ?_;refine Ml 1 Q4m ?_;refine MC (v:=.agg (c4 N7)) (fun W hS=>J W (J9 hG hS.ext).1) ?_;refine MV ?_;refine Ml 1 Q6y ?_;refine MV ?_;refine Ml 1 Q6x ?_;refine MV ?_;refine Ml 1 Y9i ?_;refine MC (v:=.agg (c4 N8)) (fun W hS=>M W (J9 hG hS.ext).1) ?_;refine MW ?_ (v:=.agg (p4 N7 y2 z3 N8)) (hv:=by intro W;kernel_rfl);refine MZt ?_;refine MR 0 ?_;refine MZn fun W hS=> ?_;go_wp2;exact BH (Z5 rfl rfl (hS.blk (i:=0) rfl) (by kernel_rfl) (by kernel_rfl)) rfl ⟨rfl,hS.ext⟩
theorem Q6z (hb:kn.b):
  ∃X Y Z T,RN X Y Z T BP∧∀w,GE kn w→BI Tryz.prog 57 #[] w fun e w' =>V4 (.agg (p4 X Y Z T)) w w' e:=by
 obtain⟨t1,r2,c3⟩:=Y6t (kn:=kn) (X:=BX) (Y:=BY) (by decide) (by decide) Q02;refine⟨BX,BY,1,t1,r2,fun w hG=> ?_⟩;have hS:=SH.nil [] w
 go_enter Tryz.func57,Tryz.ntmps57
 go_upto_region 0 with fail;refine RL hS ?_;clear hS;refine MN (z:=p4 0 0 0 0) (t:=109) ?_;intro D;refine MZ fun W hS=> ?_;go_upto_region 1 with fail;refine RL hS ?_;clear hS;refine MF (v:=.agg (c4 BX)) (fun W hS=>J0a rfl rfl ((J9 hG hS.ext).2.2.2.2.1 hb) (by kernel_rfl) (by kernel_rfl)) ?_;refine MF (v:=.agg (c4 BY)) (fun W hS=>J0a rfl rfl ((J9 hG hS.ext).2.2.2.2.2 hb) (by kernel_rfl) (by kernel_rfl)) ?_;refine MC (v:=.agg (p4 BX BY 1 t1)) (fun W hS=>c3 W (J9 hG hS.ext)) ?_;refine MR 0 ?_;refine MZ fun W hS=> ?_;go_wp2;exact BH (Z5 rfl rfl (hS.blk (i:=0) rfl) (by kernel_rfl) (by kernel_rfl)) rfl ⟨rfl,hS.ext⟩
end

section
set_option maxHeartbeats 1500000
attribute [local irreducible] wpList K1 wpX
variable {kn : Kn}
theorem Z34 {A:Nat}(h:A<PP):A<2^256:=BL h (by decide)
theorem V3z {X Y Z i x y:Nat}{a:Pr}(r:RD X Y Z a)(ei:i=pw Z (PP-2))(ex:x=X*i % PP)(ey:y=Y*i % PP)(ho:x % 2=1):J0 .u8 32 (upd (J6 y) 31 (bits .or .u8 (J6 y 31) 128))=J0 .u8 32 (J6 (enc a)):=by
 obtain⟨h1,h2⟩:=Q70 r ei ex ey;rw[Y6u (BL (ey▸J1y _) Q71)];unfold enc;rw[←h1,←h2,ho]
theorem V40 {X Y Z i x y:Nat}{a:Pr}(r:RD X Y Z a)(ei:i=pw Z (PP-2))(ex:x=X*i % PP)(ey:y=Y*i % PP)(ho:¬x % 2=1):J0 .u8 32 (J6 y)=J0 .u8 32 (J6 (enc a)):=by
 obtain⟨h1,h2⟩:=Q70 r ei ex ey;have:x % 2=0:=by omega
 unfold enc;rw[←h1,←h2,this,Nat.mul_zero,Nat.add_zero]

theorem Y9l {X1 Y1 Z1 T1:Nat}{p1:Pr}(h1:RW X1 Y1 Z1 T1 p1):
  ∀w,GE kn w→BI Tryz.prog 59 #[.agg (p4 X1 Y1 Z1 T1)] w fun e w' =>V4 (.agg (J0 .u8 32 (J6 (enc p1)))) w w' e:=by
 obtain⟨x1,y2,z3,t4,r5,c6⟩:=J68 (kn:=kn) h1;have T:=Y9f z3 (Q5 r5.z);obtain⟨N7,R⟩:=exn (pw z3 (PP-2));rw[←R] at T;have ζ:=bpp R;have X:=Q5 ζ;have Y:=BK R;clear R;have U:=J08 y2 N7 (Q5 r5.y) X;obtain⟨N8,M⟩:=exn (y2*N7 % PP);rw[←M] at U;have γ:=bpp M;have ε:=Q5 γ;have Z:=BK M;clear M;have α:=Q3e N8 ε;rw[AL γ] at α;have G:=J08 x1 N7 (Q5 r5.x) X;obtain⟨N,J⟩:=exn (x1*N7 % PP);rw[←J] at G;have V:=bpp J;have δ:=Q5 V;have S:=BK J;clear J;have D:=Z0t N δ;rw[AL V] at D;intro w hG;have hS:=SH.nil [] w
 go_enter Tryz.func59,Tryz.ntmps59
 go_upto_region 0 with fail;refine RL hS ?_;clear hS;refine MN (z:=p4 X1 Y1 Z1 T1) (t:=109) ?_;intro θ;refine MN (z:=J0 .u8 32 (J6 0)) (t:=22) ?_;intro η;refine MZ fun W hS=> ?_;go_upto_region 1 with fail;refine RL hS ?_;clear hS;refine ML 1 ?_;refine MC (v:=.agg (p4 x1 y2 z3 t4)) (fun W hS=>c6 W (J9 hG hS.ext)) ?_;refine MR 1 ?_;refine MZ fun W hS=> ?_;go_upto_region 2 with fail;refine RL hS ?_;clear hS;refine MV ?_;refine Ml 1 Q6x ?_;refine MC (v:=.agg (c4 N7)) (fun W hS=>T W (J9 hG hS.ext).1) ?_;refine MN (z:=c4 0) (t:=107) ?_;intro κ;refine MR 0 ?_;refine MZ fun W hS=> ?_;go_upto_region 3 with fail;refine RL hS ?_;clear hS;refine MV ?_;refine Ml 2 Q6y ?_;refine ML 0 ?_;refine MC (v:=.agg (c4 N8)) (fun W hS=>U W (J9 hG hS.ext).1) ?_;refine MC (v:=.agg (J0 .u8 32 (J6 N8))) (fun W hS=>α W (J9 hG hS.ext).1) ?_;refine MN (z:=J0 .u8 32 (J6 0)) (t:=22) ?_;intro β;refine MR 0 ?_;refine MZ fun W hS=> ?_
 by_cases ho:N % 2=1
 ·
  go_upto_region 4 with fail;refine RL hS ?_;clear hS;refine MV ?_;refine Ml 3 Q4m ?_;refine ML 1 ?_;refine MC (v:=.agg (c4 N)) (fun W hS=>G W (J9 hG hS.ext).1) ?_;rw[decide_eq_true ho] at D;refine MC (v:=.bool true) (fun W hS=>D W (J9 hG hS.ext).1) ?_;refine MZ fun W hS=> ?_;go_upto_region 5 with fail;refine RL hS ?_;clear hS;refine MW ?_ (v:=.pointer (some ⟨β,0+31,none⟩)) (hv:=fun _=>X3 Tryz.underlying22 (by decide));refine MG 0 ?_ (j:=0+31) (v:=.int .u8 ((J6 N8) 31)) (hj:=ag0 (by decide));refine MW ?_ (v:=.int .u8 (bits .or .u8 (J6 N8 31) 128)) (hv:=by intro W;exact Z35 rfl rfl rfl rfl);refine MW ?_ (v:=.pointer (some ⟨β,0+31,none⟩)) (hv:=fun _=>X3 Tryz.underlying22 (by decide));refine MP 0 (v:=.int .u8 (bits .or .u8 (J6 N8 31) 128)) (cs' :=J0 .u8 32 (upd (J6 N8) 31 (bits .or .u8 (J6 N8 31) 128))) ?_ (hs:=by rw[J1,AP];decide) (hc:=by rw[AP];exact Y9 _ _ _ _ _);refine MT (fun W hS=>by rw[V3z r5.rr Y.out S.out Z.out ho] at hS;exact hS) ?_;refine MZ fun W hS=> ?_;go_upto_region 6 with fail;refine RL hS ?_;clear hS;refine ML 0 ?_;refine MR 2 ?_;refine MZ fun W hS=> ?_;go_wp2;exact BH (Z5 rfl rfl (hS.blk (i:=2) rfl) (by kernel_rfl) (by rw[J1];kernel_rfl)) rfl ⟨rfl,hS.ext⟩
 go_upto_region 4 with fail;refine RL hS ?_;clear hS;refine MV ?_;refine Ml 3 Q4m ?_;refine ML 1 ?_;refine MC (v:=.agg (c4 N)) (fun W hS=>G W (J9 hG hS.ext).1) ?_;rw[decide_eq_false ho] at D;refine MC (v:=.bool false) (fun W hS=>D W (J9 hG hS.ext).1) ?_;refine MZ fun W hS=> ?_;rw[V40 r5.rr Y.out S.out Z.out ho] at hS;go_upto_region 6 with fail;refine RL hS ?_;clear hS;refine ML 0 ?_;refine MR 2 ?_;refine MZ fun W hS=> ?_;go_wp2;exact BH (Z5 rfl rfl (hS.blk (i:=2) rfl) (by kernel_rfl) (by rw[J1];kernel_rfl)) rfl ⟨rfl,hS.ext⟩
end

section
set_option maxHeartbeats 1500000
attribute [local irreducible] wpList K1 wpX
variable {kn : Kn}
theorem Z8z {p:Int}{x:Nat}(h:p=(x:Int))(hx:x<256):bits .and .u8 p 1=((x % 2:Nat):Int):=by
 subst h;refine(u8_and_nat x 1 hx (by decide)).trans ?_;rw[Nat.and_one_is_mod]
theorem Z3a (n q r:Nat)(hr:r<8):bits .and .u8 (J6 n q / 2^r) 1=((n / 2^(8*q+r) % 2:Nat):Int):=by
 have h0:n / 2^(8*q) % 256 / 2^r % 2=n / 2^(8*q+r) % 2:=by
  rw[Nat.pow_add,←Nat.div_div_eq_div_mul];generalize n / 2^(8*q)=x;obtain⟨d,hd⟩:∃d,8=r+(1+d):=⟨7-r,by omega⟩
  rw[show 256=2^8 by decide,hd,Nat.pow_add 2 r,Nat.mod_mul_right_div_self,Nat.pow_add 2 1 d,Nat.pow_one,Nat.mod_mul_right_mod]
 have e:J6 n q / 2^r=((n / 2^(8*q) % 256 / 2^r:Nat):Int):=by
  unfold J6;rw[Int.natCast_ediv,Int.natCast_pow];rfl
 rw[Z8z e (AN (Nat.div_le_self _ _) (AO _ (by decide))),h0]
theorem Z3b {a:Pr}(ha:OnC a){n i:Nat}(h:n / 2^i % 2=0):pm a (n / 2^i)=J15 (pm a (n / 2^(i+1))) (pm a (n / 2^(i+1))):=by
 rw[←Q3i ha]
 congr 1
 rw[Nat.pow_succ,←Nat.div_div_eq_div_mul];omega
theorem Q8u {a:Pr}(ha:OnC a){n i:Nat}(h:n / 2^i % 2=1):pm a (n / 2^i)=J15 (J15 (pm a (n / 2^(i+1))) (pm a (n / 2^(i+1)))) a:=by
 rw[←Y9o ha]
 congr 1
 rw[Nat.pow_succ,←Nat.div_div_eq_div_mul];omega
abbrev T4:=Nat×Nat×Nat×Nat
def pc (s:T4):Array AB:=p4 s.1 s.2.1 s.2.2.1 s.2.2.2
def RT (s:T4)(a:Pr):Prop:=RN s.1 s.2.1 s.2.2.1 s.2.2.2 a
structure TStep (kn:Kn)(P:T4)(n j:Nat)(s g s' :T4):Prop where
 tw:∀w,GE kn w→BI Tryz.prog 103 #[.agg (pc s)] w fun e w' =>V4 (.agg (pc g)) w w' e
 ad:n / 2^j % 2=1→∀w,GE kn w→BI Tryz.prog 90 #[.agg (pc g),.agg (pc P)] w fun e w' =>V4 (.agg (pc s')) w w' e
 no:¬n / 2^j % 2=1→s' =g
theorem V42 (hd:kn.d){P s:T4}{a:Pr}{n j:Nat}(hP:RT P a)(hs:RT s (pm a (n / 2^(j+1)))):∃g s',TStep kn P n j s g s' ∧RT s' (pm a (n / 2^j)):=by
 obtain⟨x,y,z,t,r,c⟩:=Z8u (kn:=kn) hs
 by_cases h:n / 2^j % 2=1
 ·
  obtain⟨x',y',z',t',r',c'⟩:=Z8v hd r.rw hP.rw;exact⟨(x,y,z,t),(x',y',z',t'),⟨c,fun _=>c',fun h0=>absurd h h0⟩,by rw[Q8u hP.on h];exact r'⟩
 exact⟨(x,y,z,t),(x,y,z,t),⟨c,fun h0=>absurd h0 h,fun _=>rfl⟩,by rw[Z3b hP.on (by omega)];exact r⟩
theorem V43 (hd:kn.d){P s0:T4}{a:Pr}{n:Nat}(hP:RT P a)(h0:RT s0 (pm a (n / 2^256))):∀m,m≤256→∃f g:Nat→T4,f 256=s0∧(∀j,256-m≤j→j≤256→RT (f j) (pm a (n / 2^j)))∧∀j,256-m≤j→j<256→TStep kn P n j (f (j+1)) (g j) (f j)
 |0,_=>⟨fun _=>s0,fun _=>s0,rfl,fun j h1 h2=>by rw[show j=256 by omega];exact h0,fun j h1 h2=>by omega⟩
 |m+1,hm=>by
  obtain⟨f,g,e0,e1,e2⟩:=V43 hd hP h0 m (by omega);obtain⟨k,hk⟩:∃k,k=255-m:=⟨_,rfl⟩
  obtain⟨x,s',st,hr⟩:=V42 hd (j:=k) hP (e1 (k+1) (by omega) (by omega));refine⟨fun j=>if j=k then s' else f j,fun j=>if j=k then x else g j,?_,fun j h1 h2=> ?_,fun j h1 h2=> ?_⟩
  ·
   show(if 256=k then s' else f 256)=s0;rw[if_neg (by omega)];exact e0
  ·
   show RT (if j=k then s' else f j) _
   by_cases h:j=k
   ·
    rw[if_pos h,h];exact hr
   ·
    rw[if_neg h];exact e1 j (by omega) h2
  ·
   show TStep kn P n j (if j+1=k then s' else f (j+1)) (if j=k then x else g j) (if j=k then s' else f j);rw[if_neg (by omega)]
   by_cases h:j=k
   ·
    rw[if_pos h,if_pos h,h];exact st
   ·
    rw[if_neg h,if_neg h];exact e2 j (by omega) h2

theorem Q03 (hd:kn.d){X1 Y1 Z1 T1:Nat}{p1:Pr}(h1:RW X1 Y1 Z1 T1 p1){N:Nat}(hN:N<2^256):
  ∃X Y Z T,RN X Y Z T (pm p1 N)∧∀w,GE kn w→BI Tryz.prog 58 #[.agg (p4 X1 Y1 Z1 T1),.agg (J0 .u8 32 (J6 N))] w fun e w' =>V4 (.agg (p4 X Y Z T)) w w' e:=by
 obtain⟨x1,y2,z3,t4,r5,c6⟩:=J68 (kn:=kn) Y3g;obtain⟨x7,y8,z9,R,α,ε⟩:=J68 (kn:=kn) h1;obtain⟨f,gg,U,γ,δ⟩:=V43 hd (P:=(x7,y8,z9,R)) (s0:=(x1,y2,z3,t4)) (n:=N) α (by rw[AR hN];exact r5) 256 (AM _);have β:=BK U;clear U;refine⟨(f 0).1,(f 0).2.1,(f 0).2.2.1,(f 0).2.2.2,(by have:=γ 0 (An _) (An _);rw[Nat.pow_zero,Nat.div_one] at this;exact this),fun w hG=> ?_⟩;have hS:=SH.nil [] w
 go_enter Tryz.func58,Tryz.ntmps58
 go_upto_region 0 with fail;refine RL hS ?_;clear hS;refine MN (z:=p4 X1 Y1 Z1 T1) (t:=109) ?_;intro K9;refine MN (z:=J0 .u8 32 (J6 N)) (t:=22) ?_;intro S;refine MN (z:=p4 0 0 0 0) (t:=109) ?_;intro V;refine MZ fun W hS=> ?_;go_upto_region 1 with fail;refine RL hS ?_;clear hS;refine MW ?_ (v:=.agg (p4 0 0 0 0)) (hv:=by intro W;kernel_rfl);refine MC (v:=.agg (p4 x1 y2 z3 t4)) (fun W hS=>c6 W (J9 hG hS.ext)) ?_;refine MN (z:=p4 0 0 0 0) (t:=109) ?_;intro ζ;refine MR 0 ?_;refine MZ fun W hS=> ?_;go_upto_region 2 with fail;refine RL hS ?_;clear hS;refine ML 3 ?_;refine MC (v:=.agg (p4 x7 y8 z9 R)) (fun W hS=>ε W (J9 hG hS.ext)) ?_;refine MR 3 ?_;refine MZ fun W hS=> ?_
 go_wp2_with fail
 go_loopw [6] (fun si wr=> ∃(j:Nat),(j≤256)∧(si=.int .i64 ((j:Int)-1))∧SH [] w wr [.b ζ (pc (f j)) 109,.b V (p4 0 0 0 0) 109,.b S (J0 .u8 32 (J6 N)) 22,.b K9 (p4 x7 y8 z9 R) 109])
  (fun si _=>(intOf si+1).toNat)
 case atStart=>exact⟨256,AM _,rfl,(by rw[β.out];exact hS)⟩
 clear hS
 case round=>
  obtain⟨j,hj,rfl,hS⟩:=hrel
  by_cases hz:j=0
  ·
   subst hz;go_upto_region 4 with fail;refine RL hS ?_;clear hS;refine MV ?_;refine Wf ?_;refine MZ fun W hS=> ?_;go_upto_region 9 with fail;refine RL hS ?_;clear hS;refine ML 0 ?_;refine MR 1 ?_;refine MZ fun W hS=> ?_;go_wp2;exact BH (Z5 rfl rfl (hS.blk (i:=1) rfl) (by kernel_rfl) (by kernel_rfl)) rfl ⟨rfl,hS.ext⟩
  obtain⟨i,rfl⟩:∃i,j=i+1:=⟨j-1,by omega⟩
  have M:=δ i (by omega) (by omega);rw[show((i+1:Nat):Int)-1=(i:Int) by omega];go_upto_region 4 with fail;refine RL hS ?_;clear hS;refine MV ?_;refine Wt ?_;refine MZ fun W hS=> ?_;go_upto_region 6 with fail;refine RL hS ?_;clear hS;refine ML 0 ?_;refine MC (v:=.agg (pc (gg i))) (fun W hS=>M.tw W (J9 hG hS.ext)) ?_;refine MR 0 ?_;refine MZ fun W hS=> ?_
  by_cases D:N / 2^i % 2=1
  ·
   have _f:=D;have G:bits .and .u8 (J6 N (i / 8) / 2^(i % 8)) 1=1:=by rw[Z3a _ _ _ (by omega),show 8*(i / 8)+i % 8=i by omega,D];rfl
   clear _f;have J:=BK D;clear D;go_upto_region 7 with fail;refine RL hS ?_;clear hS;refine MV ?_;refine MW ?_ (v:=.int .i64 ((i / 8:Nat):Int)) (hv:=by intro W;exact Q89 (m:=8) (by decide) (by omega) rfl rfl rfl);refine MW ?_ (v:=.pointer (some ⟨S,0+(i / 8),none⟩)) (hv:=fun _=>X3 Tryz.underlying22 (by omega));refine MG 2 ?_ (j:=0+(i / 8)) (v:=.int .u8 ((J6 N) (i / 8))) (hj:=ag0 (by omega));refine MV ?_;refine MW ?_ (v:=.int .i64 ((i % 8:Nat):Int)) (hv:=by intro W;exact Q2x (m:=8) (by decide) (by omega) rfl rfl rfl);refine MW ?_ (v:=.int .u8 (J6 N (i / 8) / 2^(i % 8))) (hv:=by intro W;exact Q2y (by omega) rfl rfl rfl);refine MW ?_ (v:=.int .u8 1) (hv:=by intro W;exact J69 G rfl rfl rfl);refine Wt ?_;refine MZ fun W hS=> ?_;go_upto_region 8 with fail;refine RL hS ?_;clear hS;refine ML 0 ?_;refine ML 3 ?_;refine MC (v:=.agg (pc (f i))) (fun W hS=>M.ad J.out W (J9 hG hS.ext)) ?_;refine MR 0 ?_;refine MZ fun W hS=> ?_;go_wp2;go_roundw
   case rel=>exact⟨i,by omega,by go_num,hS⟩
   case measure=>first|(simp[intOf];done)|(simp[intOf];omega)
  have _f:=D;have G:bits .and .u8 (J6 N (i / 8) / 2^(i % 8)) 1=0:=by rw[Z3a _ _ _ (by omega),show 8*(i / 8)+i % 8=i by omega,show N / 2^i % 2=0 by omega];rfl
  clear _f;have J:=BK D;clear D;go_upto_region 7 with fail;refine RL hS ?_;clear hS;refine MV ?_;refine MW ?_ (v:=.int .i64 ((i / 8:Nat):Int)) (hv:=by intro W;exact Q89 (m:=8) (by decide) (by omega) rfl rfl rfl);refine MW ?_ (v:=.pointer (some ⟨S,0+(i / 8),none⟩)) (hv:=fun _=>X3 Tryz.underlying22 (by omega));refine MG 2 ?_ (j:=0+(i / 8)) (v:=.int .u8 ((J6 N) (i / 8))) (hj:=ag0 (by omega));refine MV ?_;refine MW ?_ (v:=.int .i64 ((i % 8:Nat):Int)) (hv:=by intro W;exact Q2x (m:=8) (by decide) (by omega) rfl rfl rfl);refine MW ?_ (v:=.int .u8 (J6 N (i / 8) / 2^(i % 8))) (hv:=by intro W;exact Q2y (by omega) rfl rfl rfl);refine MW ?_ (v:=.int .u8 0) (hv:=by intro W;exact J69 G rfl rfl rfl);refine Wf ?_;refine MZ fun W hS=> ?_;go_wp2;go_roundw
  case rel=>exact⟨i,by omega,by go_num,(by rw[M.no J.out];exact hS)⟩
  case measure=>first|(simp[intOf];done)|(simp[intOf];omega)
end

section
set_option maxHeartbeats 1000000
attribute [local irreducible] wpList K1 wpX
variable {kn : Kn}
open Sc (LL J1r)
def GA (kn:Kn)(w:AA):Prop:=GE kn w∧GS w∧Sc.GL w∧(kn.r→GR w)
theorem V0k {w W:AA}(h:Sc.GL w)(k:Ext w W):Sc.GL W:=⟨U0 h.1 k,U0 h.2.1 k,U0 h.2.2.1 k,U0 h.2.2.2.1 k,BA h.2.2.2.2 k.size⟩
theorem GA_ext {w W:AA}(h:GA kn w)(k:Ext w W):GA kn W:=⟨J9 h.1 k,Q6h h.2.1 k,V0k h.2.2.1 k,fun x=>GR_ext (h.2.2.2 x) k⟩
def s3 (N D P:Nat):Array AB:=J0 .u8 32 (J6 N)++J0 .u8 32 (J6 D)++J0 .u8 32 (J6 P)
section
variable {N D P : Nat}
theorem V4t:∀i v,(J0 .u8 32 (J6 N))[i]?=some v→(s3 N D P)[0+i]?=some v:=fun i v h=>by rw[AP];exact J3l (J3l h)
theorem V4u:∀i v,(J0 .u8 32 (J6 D))[i]?=some v→(s3 N D P)[32+i]?=some v:=fun i v h=>J3l (J6x (J1 _ _ _) h)
theorem Z9u:∀i v,(J0 .u8 32 (J6 P))[i]?=some v→(s3 N D P)[64+i]?=some v:=fun i v h=>J6x (by rw[BS,J1,J1]) h
theorem J1z:(s3 N D P).size=96:=by unfold s3;rw[BS,BS,J1,J1,J1]
theorem Z16:(s3 N D P).all (·.oneCell')=true:=by unfold s3;rw[Array.all_append,Array.all_append,Z8,Z8,Z8];rfl
end
theorem Z9v (a:List AB):∀(vs b:List AB),b.length=vs.length→spl (a++b).toArray a.length vs=(a++vs).toArray
 |[],b,h=>by rw[List.eq_nil_of_length_eq_zero h];rfl
 |v::vs,[],h=>by simp at h
 |v::vs,x::b,h=>by
  show spl ((a++x::b).toArray.setIfInBounds a.length v) (a.length+1) vs=_;rw[List.setIfInBounds_toArray,List.set_append_right _ _ (AM _),Nat.sub_self,List.set_cons_zero];have:=Z9v (a++[v]) vs b (by simpa using h)
  simpa using this
theorem V0l (N D P Q:Nat):spl (s3 N D Q) 64 (J0 .u8 32 (J6 P)).toList=s3 N D P:=by
 have h:=Z9v (J5g .u8 32 (J6 N)++J5g .u8 32 (J6 D)) (J5g .u8 32 (J6 P)) (J5g .u8 32 (J6 Q)) (by rw[J5l,J5l]);rw[Ao,J5l,J5l] at h
 have e:∀X,s3 N D X=(J5g .u8 32 (J6 N)++J5g .u8 32 (J6 D)++J5g .u8 32 (J6 X)).toArray:=fun X=>by
  unfold s3;apply Array.ext';simp only[Array.toList_append,J25]
 rw[e,e,J25];exact h
theorem Z9w {H:Nat}{F:List UInt8}(hH:H=hs F)(ps:List (List UInt8))(A:Option Addr)(c:Nat)(hF:ps.flatten=F)(hlen:F.length≤70368744177664)(hpn:ps.length≤9223372036854775000)(w:AA)(hps:∀i l,ps[i]?=some l→∃ad u,A=some ad∧w.cell? (ad.add i)=some u∧Sl w u l)(hG:GS w):
  BI Tryz.prog 55 #[.slice A ps.length c] w fun e w' =>V4 (.agg (J0 .u8 64 (J6 H))) w w' e:=by
 rw[hH,←V4v];exact V4w ps A c F hF hlen hpn w hps hG
theorem Y7d {X:Nat}{w:AA}{b off n c V:Nat}{cs:Array AB}{t:TypeId}(hX:X=V % LL)(hB:Blk w b cs t)(hc:∀i v,(J0 .u8 n (J6 V))[i]?=some v→cs[off+i]?=some v)(hn:n≤700)(hV:V<2^(8*n))(hG:Sc.GL w):
  BI Tryz.prog 67 #[.slice (some ⟨b,off,none⟩) n c] w fun e w' =>V4 (L4 X) w w' e:=by
 have h:=Sc.of_c (J6 V) (J2v V) b off n c w hG hn (fun j hj=>by rw[J5 hB];exact hc j _ (Q6 _ _ _ _ hj)) (Q3 hB);rw[J4b,AL hV,←hX] at h;exact h
theorem Q07 {V:Nat}(hV:V<LL)(w:AA)(hG:Sc.GL w):BI Tryz.prog 64 #[L4 V] w fun e w' =>V4 (.agg (J0 .u8 32 (J6 V))) w w' e:=by
 have h:=Sc.bytes_c V (BL hV J1c) w hG;rw[AL hV] at h;exact h
theorem V0m {X A B:Nat}(hX:X=A*B % LL)(hA:A<J8)(hB:B<J8)(w:AA)(hG:Sc.GL w):BI Tryz.prog 66 #[L4 A,L4 B] w fun e w' =>V4 (L4 X) w w' e:=hX▸Sc.mul_c A B hA hB w hG
theorem V0n {X A B:Nat}(hX:X=(A+B) % LL)(hA:A<J8)(hB:B<J8)(w:AA)(hG:Sc.GL w):BI Tryz.prog 65 #[L4 A,L4 B] w fun e w' =>V4 (L4 X) w w' e:=hX▸Sc.add_c A B hA hB w hG
theorem Z9x {X V:Nat}(hX:X=clN V)(w:AA):BI Tryz.prog 56 #[.agg (J0 .u8 32 (J6 V))] w fun e w' =>V4 (.agg (J0 .u8 32 (J6 X))) w w' e:=by
 have h:=Sc.clamp_c (J6 V) (J2v V) w;rw[Y42,←hX] at h;exact h
theorem Q7e {X X1 Y1 Z1 T1:Nat}{p1:Pr}(h1:RW X1 Y1 Z1 T1 p1)(hX:X=enc p1)(w:AA)(hG:GE kn w):BI Tryz.prog 59 #[.agg (p4 X1 Y1 Z1 T1)] w fun e w' =>V4 (.agg (J0 .u8 32 (J6 X))) w w' e:=hX▸Y9l h1 w hG

theorem J58 {X:Nat}{F:List UInt8}(hX:X=hs F % LL)(ps:List (List UInt8))(A:Option Addr)(c:Nat)(hF:ps.flatten=F)(hlen:F.length≤70368744177664)(hpn:ps.length≤9223372036854775000)(w:AA)(hps:∀i l,ps[i]?=some l→∃ad u,A=some ad∧w.cell? (ad.add i)=some u∧Sl w u l)(hG:GA kn w):
  BI Tryz.prog 63 #[.slice A ps.length c] w fun e w' =>V4 (L4 X) w w' e:=by
 have N:=BK hps;clear hps;rw[hX];clear hX;have hS:=SH.nil [] w
 go_enter Tryz.func63,Tryz.ntmps63
 go_upto_region 0 with fail;refine RL hS ?_;clear hS;refine MN (z:=c4 0) (t:=118) ?_;intro K9;refine MZ fun W hS=> ?_;go_upto_region 1 with fail;refine RL hS ?_;clear hS;refine MV ?_;obtain⟨U1,G⟩:=exh (hs F);refine MC (v:=.agg (J0 .u8 64 (J6 U1))) (fun W hS=>Z9w G.out ps A c hF hlen hpn W (Z7t hS.off N.out) (GA_ext hG hS.ext).2.1) ?_;refine MN (z:=J0 .u8 64 (J6 0)) (t:=24) ?_;intro M;refine MR 0 ?_;refine MZ fun W hS=> ?_;go_upto_region 2 with fail;refine RL hS ?_;clear hS;refine MW ?_ (v:=.slice (some ⟨M,0,none⟩) 64 64);obtain⟨U2,D⟩:=exn (U1 % LL);have R:U2<LL:=by rw[D];exact mLL _
 have S:U2<2^256:=BL R J1c;have J:=BK D;clear D;refine MC (v:=.agg (c4 U2)) (fun W hS=>Y7d J.out (n:=64) (off:=0) (hS.blk (i:=0) rfl) ap0 (by decide) (by rw[G.out];exact Q7f _) (GA_ext hG hS.ext).2.2.1) ?_;refine MR 1 ?_;refine MZ fun W hS=> ?_;go_wp2;rw[J.out,G.out] at hS;exact BH (Z5 rfl rfl (hS.blk (i:=1) rfl) (by kernel_rfl) (by kernel_rfl)) rfl ⟨rfl,hS.ext⟩
theorem Z5v (hd:kn.d)(hb:kn.b)(S:Nat):
  ∀w,GA kn w→BI Tryz.prog 29 #[.agg (J0 .u8 32 (J6 S))] w fun e w' =>V4 (.agg (s3 (kN S) (kD S) (kP S))) w w' e:=by
 obtain⟨U1,T⟩:=exh (hs ((lb 32 S)));obtain⟨U2,G⟩:=exn (clN (lo U1));have Y:U2<2^256:=by rw[G];exact Z17 _
 have U:=BK G;clear G;obtain⟨x1,y2,z3,t4,r5,c6⟩:=Q6z hb;obtain⟨x7,y8,z9,Z,α,β⟩:=Q03 hd r5.rw (N:=U2) Y;obtain⟨U3,J⟩:=exn (enc (pm BP U2));have δ:U3<2^256:=by rw[J];exact J9b _
 have R:=BK J;clear J;intro w hG;have hS:=SH.nil [] w
 go_enter Tryz.func29,Tryz.ntmps29
 go_upto_region 0 with fail;refine RL hS ?_;clear hS;refine MN (z:=J0 .u8 32 (J6 S)) (t:=22) ?_;intro M;refine MN (z:=s3 0 0 0) (t:=76) ?_;intro γ;refine MZ fun W hS=> ?_;go_upto_region 1 with fail;refine RL hS ?_;clear hS;refine MW ?_ (v:=.slice (some ⟨M,0,none⟩) 32 32);refine MB (z:= #[.slice (some ⟨M,0,none⟩) 32 32]) (t:=45) (n:=1) (c:=1) ?_ (hr:=fun W hS=>J0p [.slice (some ⟨M,0,none⟩) 32 32] rfl rfl (vsc (V9 (V2 (V:=S) (n:=32) (off:=0) (c:=32) (hS.blk (i:=1) rfl) ap0 (by decide) (by decide))).1 vs0) Tryz.underlying158 (by kernel_rfl) (by kernel_rfl) rfl (by decide) (by decide));intro X;refine MC (v:=.agg (J0 .u8 64 (J6 U1))) (fun W hS=>Z9w T.out [lb 32 S] (some ⟨X,0,none⟩) 1 (by simp only[List.flatten_cons,List.flatten_nil,List.append_nil,List.nil_append,List.append_assoc,BT]) (by first|omega|(simp only[Ao,List.length_cons,List.length_nil,J2];omega)) (by simp) W (J1w (hS.blk (i:=0) rfl) (pvc (V2 (V:=S) (n:=32) (off:=0) (c:=32) (hS.blk (i:=2) rfl) ap0 (by decide) (by decide)) pv0)) (GA_ext hG hS.ext).2.1) ?_;refine MN (z:=J0 .u8 64 (J6 0)) (t:=24) ?_;intro D;refine MR 0 ?_;refine MZ fun W hS=> ?_;go_upto_region 2 with fail;refine RXn 8 [⟨8,4,s3 0 0 0,76⟩] hS ?_ (by simp only[BR];exact⟨⟨_,rfl,rfl,rfl,fun _ _=>by kernel_rfl⟩,fun _ h=>by cases h⟩);clear hS;refine MW ?_ (v:=.slice (some ⟨D,0,none⟩) 32 64);refine MW ?_ (v:=.pointer (some ⟨D,0,none⟩)) (hv:=by intro W;first|rfl|(go_simp;done)|(go_simp;with_reducible rfl));refine Ml 0 Q94 ?_;refine MC (v:=.agg (J0 .u8 32 (J6 U2))) (fun W hS=>Z9x U.out W) ?_;refine MW ?_ (v:=.slice (some ⟨D,32,none⟩) 32 32);refine MW ?_ (v:=.pointer (some ⟨D,32,none⟩)) (hv:=by intro W;first|rfl|(go_simp;done)|(go_simp;with_reducible rfl));refine Ml 0 Y43 ?_;refine MW ?_ (v:=.agg (s3 U2 (hi U1) 0)) (hv:=by intro W;kernel_rfl);refine MZB fun ε=> ?_;refine MR 0 ?_ (hz:=by rw[J1z];kernel_rfl) (hs:=by first|rw[J1z,J1z]|rw[J1z]|kernel_rfl) (h1:=Z16);refine MZn fun W hS=> ?_;go_upto_region 3 with fail;refine RX 6 hS ?_;clear hS;refine MC (v:=.agg (p4 x1 y2 z3 t4)) (fun W hS=>c6 W (GA_ext hG hS.ext).1) ?_;refine MV ?_;refine Ml 0 V4t ?_;refine MC (v:=.agg (p4 x7 y8 z9 Z)) (fun W hS=>β W (GA_ext hG hS.ext).1) ?_;refine MC (v:=.agg (J0 .u8 32 (J6 U3))) (fun W hS=>Q7e α.rw R.out W (GA_ext hG hS.ext).1) ?_;refine MV ?_;refine MZt ?_;refine Mr 0 (off:=64) (V0l _ _ _ _) ?_ (hs:=by rw[J1,J1z];decide);refine MZn fun W hS=> ?_;go_upto_region 4 with fail;refine RL hS ?_;clear hS;refine ML 0 ?_ (hs:=by rw[J1z];kernel_rfl);refine MR 3 ?_ (hz:=by rw[J1z];kernel_rfl) (hs:=by first|rw[J1z,J1z]|rw[J1z]|kernel_rfl) (h1:=Z16);refine MZ fun W hS=> ?_;go_wp2;rw[show s3 U2 (hi U1) U3=s3 (kN S) (kD S) (kP S) by rw[R.out,U.out,T.out];rfl] at hS;exact BH (Z5 rfl rfl (hS.blk (i:=3) rfl) (by kernel_rfl) (by rw[J1z];kernel_rfl)) rfl ⟨rfl,hS.ext⟩
end
end Go.Proofs.YtdjacgmmidbieaaGreatDoor.S8

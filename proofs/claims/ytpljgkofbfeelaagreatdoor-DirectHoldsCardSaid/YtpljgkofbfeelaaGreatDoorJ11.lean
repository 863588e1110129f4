/- Contracts and plain laws for directHolds_holds. Conditions: the tables hold their numbers. -/
import Derived.Test.YtpljgkofbfeelaaGreatDoorJ10
open Go renaming World->AA,Value->AB,execOp->AQ,Oper->AT
open _root_.Nat renaming mod_eq_of_lt->AI,lt_trans->BG,mod_lt->BH
open Go.RowKit
set_option linter.unusedSimpArgs false
set_option linter.unusedVariables false
namespace Go.Proofs.YtpljgkofbfeelaaGreatDoor.S8
section

def DD:Nat:=37095705934669439343138083508754565189542113879843219016388785533085940283555
def dd:Fp:=fp DD
def ii:Fp:=fp II
theorem Y9y:ii*ii= -1:=Y9x
theorem V4c:pw DD ((PP-1) / 2)=PP-1:=by rw[V9l _ _ (by decide)];decide+kernel
theorem Y9z (s:Fp):s*s≠dd:=by
  intro h;have h1:fp (s.val*s.val)=fp DD:=by rw[J0u,J4j];exact h
  obtain⟨E,hE⟩:∃E,E=(PP-1) / 2:=⟨_,rfl⟩
  have D:2*E=PP-1:=by rw[hE];decide+kernel
  have hp:=V4c;rw[←hE] at hp;unfold pw at hp;obtain⟨M,hM⟩:∃M,M=PP-1:=⟨_,rfl⟩
  have hf:¬s.val % PP=0→s.val^M % PP=1:=fun h0=>by rw[hM];exact genP.fermat h0
  have G:0<M:=by rw[hM];decide+kernel
  have J:M≠1:=by rw[hM];decide+kernel
  rw[←hM] at D hp;clear hM hE
  have h2:(s.val*s.val)^E % PP=M:=by
    rw[Nat.pow_mod,fp_eq.1 h1,←Nat.pow_mod];exact hp
  have h3:(s.val*s.val)^E=s.val^M:=by
    rw[show s.val*s.val=s.val^2 by rw[Nat.pow_succ,Nat.pow_one],←Nat.pow_mul,D]
  rw[h3] at h2
  by_cases h0:s.val % PP=0
  · rw[Nat.pow_mod,h0,Nat.zero_pow G,Nat.zero_mod] at h2
    omega
  rw[hf h0] at h2;omega
abbrev Pr:=Fp×Fp
def OnC (p:Pr):Prop:=p.2*p.2-p.1*p.1=1+dd*(p.1*p.1)*(p.2*p.2)
theorem J0e {x y:Fp}(hx:x≠0)(hy:y≠0):x*y≠0:=fun h=>(J4b h).elim hx hy
theorem Q8i {a b:Fp}(hb:b≠0):a*a≠dd*(b*b):=by
  intro h;have hi:=J0y hb;exact Y9z (a*J4t b) (by grind)
theorem V9x:dd≠0:=fun h=>Y9z 0 (by grind)
theorem Z0f {x1 y1 x2 y2 s:Fp}(h1:y1*y1-x1*x1=1+dd*(x1*x1)*(y1*y1))(h2:y2*y2-x2*x2=1+dd*(x2*x2)*(y2*y2))(hs:s*s=1)(he:dd*(x1*x2*y1*y2)=s):False:=by
  have hi:=Y9y;have k1:(ii*x1+s*y1)*(ii*x1+s*y1)=dd*((x1*y1*(ii*x2+y2))*(x1*y1*(ii*x2+y2))):=by grind
  have k2:(ii*x1-s*y1)*(ii*x1-s*y1)=dd*((x1*y1*(ii*x2-y2))*(x1*y1*(ii*x2-y2))):=by grind
  have e1:x1*y1*(ii*x2+y2)=0:=Classical.byContradiction fun h=>Q8i h k1;have e2:x1*y1*(ii*x2-y2)=0:=Classical.byContradiction fun h=>Q8i h k2
  have n1:x1*y1≠0:=by
    intro h;have:s=0:=by grind
    rw[this] at hs;have:(1:Fp)=0:=by grind
    revert this;decide+kernel
  rcases J4b e1 with h|h
  · exact n1 h
  rcases J4b e2 with h' |h'
  · exact n1 h'
  have hx:x2+x2=0:=by
    have:ii*(x2+x2)=0:=by grind
    exact(J4b this).resolve_left fun h=>by rw[h] at hi;revert hi;decide+kernel
  have D:s+s=0:=by rw[←he];clear he hs k1 k2 e1 e2 h h' h1 h2 n1 hi;grind
  have h4:(4:Fp)=(s+s)*(s+s):=by
    have:(s+s)*(s+s)=4*(s*s):=by clear he k1 k2 e1 e2 h h' h1 h2 n1 hi hx hs D;grind
    rw[this,hs];decide+kernel
  rw[D] at h4;exact absurd h4 (by decide+kernel)
theorem Q56 {p q:Pr}(hp:OnC p)(hq:OnC q):1+dd*(p.1*q.1*p.2*q.2)≠0:=fun h=>
  Z0f (s:= -1) hp hq (by grind) (by grind)
theorem Q2p {p q:Pr}(hp:OnC p)(hq:OnC q):1-dd*(p.1*q.1*p.2*q.2)≠0:=fun h=>
  Z0f (s:=1) hp hq (by grind) (by grind)
def V9 (p q:Pr):Pr:=((p.1*q.2+q.1*p.2)*J4t (1+dd*(p.1*q.1*p.2*q.2)),(p.2*q.2+p.1*q.1)*J4t (1-dd*(p.1*q.1*p.2*q.2)))
def J40 (p:Pr):Pr:=(-p.1,p.2)
def p0:Pr:=(0,1)
theorem Z0g:OnC p0:=by unfold OnC p0;grind
theorem J7l {p:Pr}(h:OnC p):OnC (J40 p):=by unfold OnC J40 at*;grind
theorem J71 (p q:Pr):V9 p q=V9 q p:=by
  unfold V9;rw[show p.1*q.1*p.2*q.2=q.1*p.1*q.2*p.2 by grind,show p.1*q.2+q.1*p.2=q.1*p.2+p.1*q.2 by grind,show p.2*q.2+p.1*q.1=q.2*p.2+q.1*p.1 by grind]
theorem Z0h:J4t 1=1:=by
  have:=J0y (x:=1) (by decide+kernel)
  grind
theorem K2y (a b:Fp):(1:Fp)+dd*(0*a*1*b)=1:=by
  have:dd*((0:Fp)*a*1*b)=0:=by grind
  rw[this];exact Fin.add_zero 1
theorem V9y (a b:Fp):(1:Fp)-dd*(0*a*1*b)=1:=by
  have:dd*((0:Fp)*a*1*b)=0:=by grind
  rw[this];show(1:Fp)-0=1;decide+kernel
theorem Q15 (p:Pr):V9 p0 p=p:=by
  unfold V9 p0;refine Prod.ext ?_ ?_
  · show(0*p.2+p.1*1)*J4t (1+dd*(0*p.1*1*p.2))=p.1
    rw[K2y,Z0h];grind
  show(1*p.2+0*p.1)*J4t (1-dd*(0*p.1*1*p.2))=p.2;rw[V9y,Z0h];grind
theorem Z7t {x1 y1 x2 y2 u v d:Fp}(h1:y1*y1-x1*x1=1+d*(x1*x1)*(y1*y1))(h2:y2*y2-x2*x2=1+d*(x2*x2)*(y2*y2))
    (hu:(1+d*(x1*x2*y1*y2))*u=1) (hv:(1-d*(x1*x2*y1*y2))*v=1):
    (y1*y2+x1*x2)*v*((y1*y2+x1*x2)*v)-(x1*y2+x2*y1)*u*((x1*y2+x2*y1)*u)=1+d*((x1*y2+x2*y1)*u*((x1*y2+x2*y1)*u))*((y1*y2+x1*x2)*v*((y1*y2+x1*x2)*v)):=by
  have e:∀D M:Fp,D=d*(x1*x2*y1*y2)→(y1*y2+x1*x2)*(y1*y2+x1*x2)*((1+D)*(1+D))-(x1*y2+x2*y1)*(x1*y2+x2*y1)*((1-D)*(1-D))=(1+D)*(1+D)*((1-D)*(1-D))+d*((x1*y2+x2*y1)*(x1*y2+x2*y1))*((y1*y2+x1*x2)*(y1*y2+x1*x2)):=by
    intro D M hD
    grind
  have e' :=e _ 0 rfl;generalize (y1*y2+x1*x2)=B at*;generalize (x1*y2+x2*y1)=A at*;generalize d*(x1*x2*y1*y2)=D at*;clear h1 h2 e
  grind
theorem J4k {p q:Pr}(hp:OnC p)(hq:OnC q):OnC (V9 p q):=
  Z7t hp hq (J0y (Q56 hp hq)) (J0y (Q2p hp hq))
theorem Z5y {a b c d:Fp}(hb:b≠0)(hd:d≠0)(h:a*d=c*b):a*J4t b=c*J4t d:=by
  have h1:=J0y hb;have h2:=J0y hd;have:a*J4t b=a*d*(J4t b*J4t d):=by grind
  rw[this,h]
  grind
theorem Y6t {c x1 y1 x2 y2 x3 y3 A B S M A' B' S' M' :Fp}(h1:x1*x1*(y1*y1)=c*(y1*y1-x1*x1-1))(h2:x2*x2*(y2*y2)=c*(y2*y2-x2*x2-1))(h3:x3*x3*(y3*y3)=c*(y3*y3-x3*x3-1))
    (hA:A=x1*y2+x2*y1) (hB:B=y1*y2+x1*x2) (hS:S=c+x1*x2*y1*y2) (hM:M=c-x1*x2*y1*y2)
    (hA' :A' =x2*y3+x3*y2) (hB' :B' =y2*y3+x2*x3) (hS' :S' =c+x2*x3*y2*y3) (hM' :M' =c-x2*x3*y2*y3):
    (A*M*y3+x3*B*S)*(S' *M' +c*x1*A' *y1*B')=(x1*B' *S' +A' *M' *y1)*(S*M+c*A*x3*B*y3):=by
  subst hA hB hS hM hA' hB' hS' hM'
  grind
theorem Y6u {c x1 y1 x2 y2 x3 y3 A B S M A' B' S' M' :Fp}(h1:x1*x1*(y1*y1)=c*(y1*y1-x1*x1-1))(h2:x2*x2*(y2*y2)=c*(y2*y2-x2*x2-1))(h3:x3*x3*(y3*y3)=c*(y3*y3-x3*x3-1))
    (hA:A=x1*y2+x2*y1) (hB:B=y1*y2+x1*x2) (hS:S=c+x1*x2*y1*y2) (hM:M=c-x1*x2*y1*y2)
    (hA' :A' =x2*y3+x3*y2) (hB' :B' =y2*y3+x2*x3) (hS' :S' =c+x2*x3*y2*y3) (hM' :M' =c-x2*x3*y2*y3):
    (B*S*y3+A*M*x3)*(S' *M' -c*x1*A' *y1*B')=(y1*B' *S' +x1*A' *M')*(S*M-c*A*x3*B*y3):=by
  subst hA hB hS hM hA' hB' hS' hM'
  grind
theorem Z7u {c x y:Fp}(hc:dd*c=1)(h:y*y-x*x=1+dd*(x*x)*(y*y)):x*x*(y*y)=c*(y*y-x*x-1):=by grind
theorem Q29 {k a b:Fp}(hk:k≠0)(h:k*a=k*b):a=b:=by
  have h1:=J0y hk
  grind
theorem V9z {c d D1 D2 E1 E2 A B A' B' S M S' M' X Y X' Y' :Fp}(hc:d*c=1)(hS:S=c*D1)(hM:M=c*D2)(hS' :S' =c*E1)(hM' :M' =c*E2)(hA:A=X*D1)(hB:B=Y*D2)(hA' :A' =X' *E1)(hB' :B' =Y' *E2)(x1 y1 x3 y3:Fp)
    (h:(A*M*y3+x3*B*S)*(S' *M' +c*x1*A' *y1*B')=(x1*B' *S' +A' *M' *y1)*(S*M+c*A*x3*B*y3)):
    (c*c*c*(D1*D2)*(E1*E2))*((X*y3+x3*Y)*(1+d*(x1*X' *y1*Y')))=(c*c*c*(D1*D2)*(E1*E2))*((x1*Y' +X' *y1)*(1+d*(X*x3*Y*y3))):=by
  have e1:A*M*y3+x3*B*S=c*(D1*D2)*(X*y3+x3*Y):=by rw[hA,hM,hB,hS];clear h;grind
  have e2:S' *M' +c*x1*A' *y1*B' =c*c*(E1*E2)*(1+d*(x1*X' *y1*Y')):=by rw[hS',hM',hA',hB'];clear h e1;grind
  have e3:x1*B' *S' +A' *M' *y1=c*(E1*E2)*(x1*Y' +X' *y1):=by rw[hS',hM',hA',hB'];clear h e1 e2;grind
  have e4:S*M+c*A*x3*B*y3=c*c*(D1*D2)*(1+d*(X*x3*Y*y3)):=by rw[hS,hM,hA,hB];clear h e1 e2 e3;grind
  rw[e1,e2,e3,e4] at h;generalize X*y3+x3*Y=a at*;generalize 1+d*(x1*X' *y1*Y')=b at*;generalize x1*Y' +X' *y1=e at*;generalize 1+d*(X*x3*Y*y3)=f at*;clear e1 e2 e3 e4 hS hM hS' hM' hA hB hA' hB'
  grind
theorem V4d {c d D1 D2 E1 E2 A B A' B' S M S' M' X Y X' Y' :Fp}(hc:d*c=1)(hS:S=c*D1)(hM:M=c*D2)(hS' :S' =c*E1)(hM' :M' =c*E2)(hA:A=X*D1)(hB:B=Y*D2)(hA' :A' =X' *E1)(hB' :B' =Y' *E2)(x1 y1 x3 y3:Fp)
    (h:(B*S*y3+A*M*x3)*(S' *M' -c*x1*A' *y1*B')=(y1*B' *S' +x1*A' *M')*(S*M-c*A*x3*B*y3)):
    (c*c*c*(D1*D2)*(E1*E2))*((Y*y3+X*x3)*(1-d*(x1*X' *y1*Y')))=(c*c*c*(D1*D2)*(E1*E2))*((y1*Y' +x1*X')*(1-d*(X*x3*Y*y3))):=by
  have e1:B*S*y3+A*M*x3=c*(D1*D2)*(Y*y3+X*x3):=by rw[hA,hM,hB,hS];clear h;grind
  have e2:S' *M' -c*x1*A' *y1*B' =c*c*(E1*E2)*(1-d*(x1*X' *y1*Y')):=by rw[hS',hM',hA',hB'];clear h e1;grind
  have e3:y1*B' *S' +x1*A' *M' =c*(E1*E2)*(y1*Y' +x1*X'):=by rw[hS',hM',hA',hB'];clear h e1 e2;grind
  have e4:S*M-c*A*x3*B*y3=c*c*(D1*D2)*(1-d*(X*x3*Y*y3)):=by rw[hS,hM,hA,hB];clear h e1 e2 e3;grind
  rw[e1,e2,e3,e4] at h;generalize Y*y3+X*x3=a at*;generalize 1-d*(x1*X' *y1*Y')=b at*;generalize y1*Y' +x1*X' =e at*;generalize 1-d*(X*x3*Y*y3)=f at*;clear e1 e2 e3 e4 hS hM hS' hM' hA hB hA' hB'
  grind
theorem Q8j {a b x:Fp}(hb:b≠0)(hx:x=a*J4t b):a=x*b:=by
  have:=J0y hb
  grind
theorem sS {c d:Fp}(hc:d*c=1)(t:Fp):c+t=c*(1+d*t):=by grind
theorem sM {c d:Fp}(hc:d*c=1)(t:Fp):c-t=c*(1-d*t):=by grind
theorem J1j {p q r:Pr}(hp:OnC p)(hq:OnC q)(hr:OnC r):V9 (V9 p q) r=V9 p (V9 q r):=by
  have hc:=J0y V9x;have pq:=J4k hp hq;have qr:=J4k hq hr;have d1:=Q56 hp hq;have d2:=Q2p hp hq;have e1:=Q56 hq hr;have e2:=Q2p hq hr;have b1:=Q56 pq hr;have b2:=Q2p pq hr;have b3:=Q56 hp qr;have b4:=Q2p hp qr
  have hk:J4t dd*J4t dd*J4t dd*((1+dd*(p.1*q.1*p.2*q.2))*(1-dd*(p.1*q.1*p.2*q.2)))*((1+dd*(q.1*r.1*q.2*r.2))*(1-dd*(q.1*r.1*q.2*r.2)))≠0:=by
    have D:J4t dd≠0:=fun h=>by
      rw[h] at hc;revert hc;generalize dd=z;intro hc;have:(1:Fp)=0:=by rw[←hc];exact Fin.mul_zero z
      revert this;decide+kernel
    exact J0e (J0e (J0e (J0e D D) D) (J0e d1 d2)) (J0e e1 e2)
  obtain⟨X,hX⟩:∃X,X=(V9 p q).1:=⟨_,rfl⟩
  obtain⟨Y,hY⟩:∃X,X=(V9 p q).2:=⟨_,rfl⟩
  obtain⟨X',J⟩:∃X,X=(V9 q r).1:=⟨_,rfl⟩
  obtain⟨Y',G⟩:∃X,X=(V9 q r).2:=⟨_,rfl⟩
  have kA:=Q8j d1 hX;have kB:=Q8j d2 hY;have kA' :=Q8j e1 J;have kB' :=Q8j e2 G;have hS:=sS hc;have hM:=sM hc
  have f1:=V9z hc (hS (p.1*q.1*p.2*q.2)) (hM _) (hS (q.1*r.1*q.2*r.2)) (hM _) kA kB kA' kB' p.1 p.2 r.1 r.2
    (Y6t (Z7u hc hp) (Z7u hc hq) (Z7u hc hr) rfl rfl rfl rfl rfl rfl rfl rfl)
  have f2:=V4d hc (hS (p.1*q.1*p.2*q.2)) (hM _) (hS (q.1*r.1*q.2*r.2)) (hM _) kA kB kA' kB' p.1 p.2 r.1 r.2
    (Y6u (Z7u hc hp) (Z7u hc hq) (Z7u hc hr) rfl rfl rfl rfl rfl rfl rfl rfl)
  have g1:=Q29 hk f1;have g2:=Q29 hk f2;rw[hX,hY,J,G] at g1 g2;refine Prod.ext ?_ ?_
  · exact Z5y b1 b3 g1
  exact Z5y b2 b4 g2
theorem Q16 {p:Pr}(hp:OnC p):V9 p (J40 p)=p0:=by
  have d2:=Q2p hp (J7l hp);have h2:=J0y d2;unfold V9 J40 p0 at*;refine Prod.ext ?_ ?_
  · show(p.1*p.2+ -p.1*p.2)*_=0
    have:p.1*p.2+ -p.1*p.2=0:=by grind
    rw[this];exact Fin.zero_mul _
  have e:p.2*p.2+p.1* -p.1=1-dd*(p.1* -p.1*p.2*p.2):=by unfold OnC at hp;grind
  show(p.2*p.2+p.1* -p.1)*J4t (1-dd*(p.1* -p.1*p.2*p.2))=1;rw[e];exact h2
theorem Q17 (p:Pr):V9 p p0=p:=by rw[J71,Q15]
def pm (p:Pr):Nat→Pr
  |0=>p0
  |n+1=>V9 (pm p n) p
theorem pm_on {p:Pr}(hp:OnC p):∀n,OnC (pm p n)
  |0=>Z0g
  |n+1=>J4k (pm_on hp n) hp
theorem Q06 {p:Pr}(hp:OnC p)(m:Nat):∀n,pm p (m+n)=V9 (pm p m) (pm p n)
  |0=>(Q17 _).symm
  |n+1=>by
    show V9 (pm p (m+n)) p=V9 (pm p m) (V9 (pm p n) p);rw[Q06 hp m n,J1j (pm_on hp m) (pm_on hp n) hp]
theorem Z2s (p:Pr):pm p 1=p:=Q15 p
theorem J6y {p:Pr}(hp:OnC p)(m:Nat):pm p (2*m)=V9 (pm p m) (pm p m):=by rw[Nat.two_mul,Q06 hp]
theorem V47 {p:Pr}(hp:OnC p)(m:Nat):pm p (2*m+1)=V9 (V9 (pm p m) (pm p m)) p:=by rw[←J6y hp];rfl
theorem Z5z:∀n,pm p0 n=p0
  |0=>rfl
  |n+1=>by show V9 (pm p0 n) p0=p0;rw[Z5z n,Q15]
theorem Q07 {p:Pr}(hp:OnC p)(m:Nat):∀n,pm p (m*n)=pm (pm p m) n
  |0=>rfl
  |n+1=>by rw[Nat.mul_succ,Q06 hp,Q07 hp m n];rfl
theorem J8i {p q:Pr}(hp:OnC p)(hq:OnC q):V9 (V9 p q) (J40 p)=q:=by
  rw[J71 p q,J1j hq hp (J7l hp),Q16 hp,Q17]
theorem Z7v {p q:Pr}:J40 (V9 p q)=V9 (J40 p) (J40 q):=by
  unfold V9 J40;refine Prod.ext ?_ ?_
  · show-((p.1*q.2+q.1*p.2)*J4t (1+dd*(p.1*q.1*p.2*q.2)))=(-p.1*q.2+ -q.1*p.2)*J4t (1+dd*(-p.1* -q.1*p.2*q.2))
    rw[show-p.1* -q.1*p.2*q.2=p.1*q.1*p.2*q.2 by grind];grind
  show(p.2*q.2+p.1*q.1)*J4t (1-dd*(p.1*q.1*p.2*q.2))=(p.2*q.2+ -p.1* -q.1)*J4t (1-dd*(-p.1* -q.1*p.2*q.2));rw[show-p.1* -q.1*p.2*q.2=p.1*q.1*p.2*q.2 by grind,show-p.1* -q.1=p.1*q.1 by grind]
theorem pneg_p0:J40 p0=p0:=by
  unfold J40 p0;refine Prod.ext ?_ rfl;show-(0:Fp)=0;decide+kernel
theorem Z60 (p:Pr):∀n,pm (J40 p) n=J40 (pm p n)
  |0=>pneg_p0.symm
  |n+1=>by show V9 (pm (J40 p) n) (J40 p)=J40 (V9 (pm p n) p);rw[Z60 p n,Z7v]
/-! ### the formulas of the code: a point is (X : Y : Z : T) -/
def Rc (X Y Z T:Fp)(a:Pr):Prop:=Z≠0∧X=a.1*Z∧Y=a.2*Z∧T=a.1*a.2*Z
def Rr (X Y Z:Fp)(a:Pr):Prop:=Z≠0∧X=a.1*Z∧Y=a.2*Z
theorem Rc.rr {X Y Z T:Fp}{a:Pr}(h:Rc X Y Z T a):Rr X Y Z a:=⟨h.1,h.2.1,h.2.2.1⟩
theorem V4e:(2:Fp)≠0:=by decide+kernel
theorem V00 {E F G H:Fp}{x y:Fp}(hF:F≠0)(hG:G≠0)(hx:E=x*G)(hy:H=y*F):Rc (E*F) (G*H) (F*G) (E*H) (x,y):=
  ⟨J0e hF hG,by subst hx hy;show x*G*F=x*(F*G);grind,by subst hx hy;show G*(y*F)=y*(F*G);grind,by subst hx hy;show x*G*(y*F)=x*y*(F*G);grind⟩
theorem V4f {X1 Y1 Z1 T1 X2 Y2 Z2 T2:Fp}{a b:Pr}(ha:OnC a)(hb:OnC b)(h1:Rc X1 Y1 Z1 T1 a)(h2:Rc X2 Y2 Z2 T2 b){A B C D:Fp}
    (hA:A=(Y1-X1)*(Y2-X2)) (hB:B=(Y1+X1)*(Y2+X2)) (hC:C=T1*(2*dd)*T2) (hD:D=(Z1+Z1)*Z2):
    Rc ((B-A)*(D-C)) ((D+C)*(B+A)) ((D-C)*(D+C)) ((B-A)*(B+A)) (V9 a b):=by
  obtain⟨z1,x1,y1,t1⟩:=h1;obtain⟨z2,x2,y2,t2⟩:=h2;have dp:=Q56 ha hb;have dm:=Q2p ha hb;have eF:D-C=2*Z1*Z2*(1-dd*(a.1*b.1*a.2*b.2)):=by subst hC hD t1 t2;grind
  have eG:D+C=2*Z1*Z2*(1+dd*(a.1*b.1*a.2*b.2)):=by subst hC hD t1 t2;clear eF;grind
  have nz:2*Z1*Z2≠0:=J0e (J0e V4e z1) z2;refine V00 (by rw[eF];exact J0e nz dm) (by rw[eG];exact J0e nz dp) ?_ ?_
  · have k:=J0y dp
    rw[eG];have e:B-A=2*Z1*Z2*(a.1*b.2+b.1*a.2):=by subst hA hB x1 x2 y1 y2;clear eF eG k;grind
    rw[e];generalize 1+dd*(a.1*b.1*a.2*b.2)=u at*;generalize a.1*b.2+b.1*a.2=s at*;clear eF eG e hA hB hC hD x1 x2 y1 y2 t1 t2 nz z1 z2 dm dp ha hb
    grind
  have k:=J0y dm;rw[eF];have e:B+A=2*Z1*Z2*(a.2*b.2+a.1*b.1):=by subst hA hB x1 x2 y1 y2;clear eF eG k;grind
  rw[e];generalize 1-dd*(a.1*b.1*a.2*b.2)=u at*;generalize a.2*b.2+a.1*b.1=s at*;clear eF eG e hA hB hC hD x1 x2 y1 y2 t1 t2 nz z1 z2 dm dp ha hb
  grind
theorem Y2k {X Y Z T:Fp}{a:Pr}(ha:OnC a)(h:Rc X Y Z T a){A B C E G H F:Fp}(hA:A=X*X)(hB:B=Y*Y)(hC:C=Z*Z+Z*Z)(hH:H=A+B)(hE:E=H-(X+Y)*(X+Y))(hG:G=A-B)(hF:F=C+G):
    Rc (E*F) (G*H) (F*G) (E*H) (V9 a a):=by
  obtain⟨z,x,y,t⟩:=h;have dp:=Q56 ha ha;have dm:=Q2p ha ha;unfold OnC at ha;have eG:G= -(Z*Z)*(1+dd*(a.1*a.1*a.2*a.2)):=by subst hG hA hB x y;clear hE hH hF hC;grind
  have eF:F=Z*Z*(1-dd*(a.1*a.1*a.2*a.2)):=by rw[hF,eG,hC];clear hE hH hF hC hG eG;grind
  have zz:=J0e z z;have D: -(Z*Z)≠0:=fun h=>zz (by grind);refine V00 (by rw[eF];exact J0e zz dm) (by rw[eG];exact J0e D dp) ?_ ?_
  · have k:=J0y dp
    have e:E= -(Z*Z)*(a.1*a.2+a.1*a.2):=by subst hE hH hA hB x y;clear eF eG k hG hF hC;grind
    rw[eG,e];generalize 1+dd*(a.1*a.1*a.2*a.2)=u at*;generalize a.1*a.2+a.1*a.2=s at*;clear eF eG e hA hB hC hE hG hF hH x y t D zz z dm dp ha
    grind
  have k:=J0y dm;have e:H=Z*Z*(a.2*a.2+a.1*a.1):=by subst hH hA hB x y;clear eF eG k hG hF hC hE;grind
  rw[eF,e];generalize 1-dd*(a.1*a.1*a.2*a.2)=u at*;generalize a.2*a.2+a.1*a.1=s at*;clear eF eG e hA hB hC hE hG hF hH x y t D zz z dm dp ha
  grind
theorem Y6v {X1 Y1 Z1 X2 Y2 Z2:Fp}{a b:Pr}(h1:Rr X1 Y1 Z1 a)(h2:Rr X2 Y2 Z2 b):(X1*Z2=X2*Z1∧Y1*Z2=Y2*Z1)↔a=b:=by
  obtain⟨z1,x1,y1⟩:=h1;obtain⟨z2,x2,y2⟩:=h2;have zz:=J0e z1 z2;constructor
  · rintro⟨e1,e2⟩
    refine Prod.ext (Q29 zz ?_) (Q29 zz ?_)
    · subst x1 x2;clear e2 y1 y2;grind
    subst y1 y2;clear e1 x1 x2;grind
  rintro rfl;subst x1 x2 y1 y2;constructor<;>grind
theorem V4g {X Y Z:Fp}{a:Pr}(h:Rr X Y Z a):X*J4t Z=a.1∧Y*J4t Z=a.2:=by
  obtain⟨z,x,y⟩:=h;have:=J0y z;subst x y;constructor<;>grind
end

section

/-! ### The root of a quotient -/
theorem Z2y (A n:Nat):fp (pw (A % PP) n)=fp (A^n):=by
  unfold pw;rw[J14];exact fp_eq.2 (by rw[←Nat.pow_mod])
theorem Y2l (u v E:Nat)(hE:E=7237005577332262213973186563042994240829374041602535252466099000494570602493):fp (rtX u v)=fp u*(fp v*fp v*fp v)*fp ((u*v7 v)^E):=by
  unfold rtX;rw[←hE,J14,J0u,J14,J0u,Y9w,Z2y]
theorem Y6w (V X E:Nat)(hE:8*E+4=PP-1)(hV:V % PP≠0)(hX:X % PP≠0):fp ((V*V*(V*V)*(V*V*(V*V))*(X*X))^(2*E+1))*fp ((V*V*(V*V)*(V*V*(V*V))*(X*X))^(2*E+1))=1:=by
  rw[←J0u,←Q28];refine fp_eq.2 ?_;obtain⟨M,hM⟩:∃M,M=PP-1:=⟨_,rfl⟩
  have f1:V^M % PP=1:=by rw[hM];exact genP.fermat hV
  have f2:X^M % PP=1:=by rw[hM];exact genP.fermat hX
  rw[←hM] at hE;clear hM
  have e:(V*V*(V*V)*(V*V*(V*V))*(X*X))^(2*E+1)*(V*V*(V*V)*(V*V*(V*V))*(X*X))^(2*E+1)=(V^M*V^M*(V^M*V^M))*X^M:=by
    have a1:V*V*(V*V)*(V*V*(V*V))=V^8:=by simp only[Nat.pow_succ,Nat.pow_zero,Nat.one_mul,Nat.mul_assoc]
    have a2:X*X=X^2:=by simp only[Nat.pow_succ,Nat.pow_zero,Nat.one_mul]
    rw[a1,a2];simp only[←Nat.pow_add,Nat.mul_pow,←Nat.pow_mul];rw[Nat.mul_mul_mul_comm,←Nat.pow_add,←Nat.pow_add,show 8*(2*E+1)+8*(2*E+1)=M+M+(M+M) by omega,show 2*(2*E+1)+2*(2*E+1)=M by omega]
  rw[e];have g1:V^M*V^M % PP=1:=by rw[Nat.mul_mod,f1];decide+kernel
  have g2:V^M*V^M*(V^M*V^M) % PP=1:=by rw[Nat.mul_mod,g1];decide+kernel
  rw[Nat.mul_mod,g2,f2]
theorem V4h (v:Nat):fp (v7 v)=fp (v*v*v*(v*v*v)*v):=by rw[V9v,Y9w];simp only[J0u]
theorem Q8k {A B:Nat}(h:fp A=fp B)(n:Nat):fp (A^n)=fp (B^n):=fp_eq.2 (by rw[Nat.pow_mod,fp_eq.1 h,←Nat.pow_mod])
theorem Y6x {u v X:Nat}(hv:fp v≠0)(h:fp u=fp v*(fp X*fp X)):rtB u v=true:=by
  unfold rtB
  by_cases hx:fp X=0
  · have hu:fp u=0:=by rw[h,hx];grind
    have:rtW u v=u % PP:=Q8h (BH _ J50) (BH _ J50) (by
      rw[V4b,J14,Y2l u v _ rfl,hu];generalize fp _=z;grind)
    rw[decide_eq_true this,Bool.true_or]
  obtain⟨E,hE⟩:∃E,E=7237005577332262213973186563042994240829374041602535252466099000494570602493:=⟨_,rfl⟩
  have D:8*E+4=PP-1:=by rw[hE];decide+kernel
  have hk:=Y6w v X E D (Y2i hv) (Y2i hx)
  have hW:fp (rtW u v)=fp u*fp ((v*v*(v*v)*(v*v*(v*v))*(X*X))^(2*E+1)):=by
    rw[V4b,Y2l u v E hE];have e1:fp (u*v7 v)=fp (v*v*(v*v)*(v*v*(v*v))*(X*X)):=by rw[J0u,V4h,h];simp only[J0u];grind
    rw[Q8k e1 E];generalize hA:v*v*(v*v)*(v*v*(v*v))*(X*X)=A;have hA' :fp A=fp v*fp v*(fp v*fp v)*(fp v*fp v*(fp v*fp v))*(fp X*fp X):=by rw[←hA];simp only[J0u]
    rw[show A^(2*E+1)=A^E*A^E*A by rw[←Nat.pow_add,←Nat.pow_succ];congr 1;omega,J0u,J0u,hA',h];generalize fp (A^E)=z;clear hA' hA e1 hk D
    grind
  rcases Z2x hk with hs|hs
  · have:rtW u v=u % PP:=Q8h (BH _ J50) (BH _ J50) (by rw[hW,hs,J14];grind)
    rw[decide_eq_true this,Bool.true_or]
  have:rtW u v=(PP-u % PP) % PP:=Q8h (BH _ J50) (BH _ J50) (by rw[hW,hs,J14,Q05];grind);rw[decide_eq_true this,Bool.or_true]
theorem Q8e (u v:Nat):rtR u v<PP:=by
  unfold rtR
  split
  · exact V4a _ _
  split
  · exact BH _ J50
  exact J50
/-! ### A point's bytes -/
def dU (y:Nat):Nat:=(y*y % PP+(PP-1 % PP)) % PP
def dV (y:Nat):Nat:=(DD*(y*y % PP) % PP+1) % PP
def dX (y:Nat):Nat:=rtR (dU y) (dV y)
def dB (y:Nat):Bool:=rtB (dU y) (dV y)
def top (V:Nat):Bool:=decide (2^255≤V)
def Z7s (x:Nat):Bool:=decide (x % PP % 2=1)
def dXf (y:Nat)(o:Bool):Nat:=if Z7s (dX y)=o then dX y else(PP-dX y % PP) % PP
def dOk (V:Nat):Bool:=decide (V % 2^255<PP) && dB (V % 2^255) && !(top V && decide (dX (V % 2^255)=0))
def dPt (V:Nat):Pr:=(fp (dXf (V % 2^255) (top V)),fp (V % 2^255))
def enc (a:Pr):Nat:=a.2.val+2^255*(a.1.val % 2)
theorem V01 (y:Nat):fp (dU y)=fp y*fp y-1:=by unfold dU;rw[J14,Q27,J14,Q05,J0u,Q28];grind
theorem Y2m (y:Nat):fp (dV y)=dd*(fp y*fp y)+1:=by unfold dV;rw[J14,Q27,J14,J0u,J14,J0u,Q28];rfl
theorem K00 (y:Nat):fp (dV y)≠0:=by
  rw[Y2m];intro h
  by_cases hy:fp y=0
  · rw[hy] at h
    have e:dd*(0*0)+1=(1:Fp):=by
      have:dd*(0*0)=0:=by rw[Fin.mul_zero,Fin.mul_zero]
      rw[this];decide+kernel
    rw[e] at h;exact absurd h (by decide+kernel)
  exact Q8i (a:=ii) hy (by have:=Y9y;grind)
theorem V02 {y:Nat}(h:dB y=true):fp (dV y)*(fp (dX y)*fp (dX y))=fp (dU y):=V9w h
theorem Y2n (y:Nat)(o:Bool):fp (dXf y o)*fp (dXf y o)=fp (dX y)*fp (dX y):=by
  unfold dXf
  split
  · rfl
  rw[J14,Q05];grind
theorem Q54 {V:Nat}(h:dOk V=true):OnC (dPt V):=by
  unfold dOk at h;simp only[Bool.and_eq_true] at h;have h1:=V02 h.1.2;have h2:=Y2n (V % 2^255) (top V);rw[Y2m,V01] at h1;unfold OnC dPt;show fp (V % 2^255)*fp (V % 2^255)-fp (dXf (V % 2^255) (top V))*fp (dXf (V % 2^255) (top V))=1+dd*(fp (dXf (V % 2^255) (top V))*fp (dXf (V % 2^255) (top V)))*(fp (V % 2^255)*fp (V % 2^255));rw[h2];generalize fp (V % 2^255)=y at*;generalize fp (dX (V % 2^255))=x at*;clear h2 h
  grind
theorem Z2u (y:Nat):dX y<PP:=Q8e _ _
theorem V4i:PP % 2=1:=by decide+kernel
theorem Z2t:PP<2^255:=by decide+kernel
theorem Z61 {x:Nat}(h0:x≠0)(hx:x<PP):(PP-x) % 2=1-x % 2:=by
  have:=V4i;omega
theorem Z62 {y:Nat}{o:Bool}(h:¬(o=true∧dX y=0)):dXf y o<PP∧decide (dXf y o % 2=1)=o:=by
  have hl:=Z2u y;unfold dXf Z7s;rw[AI hl]
  split
  · rename_i h1;exact⟨hl,h1⟩
  rename_i h1
  by_cases h0:dX y=0
  · rw[h0] at h1
    have:o=false:=by
      cases o
      · rfl
      exact absurd ⟨rfl,h0⟩ h
    rw[this] at h1;exact absurd (by decide) h1
  have h2:=Z61 h0 hl;have hP:(PP-dX y) % PP=PP-dX y:=AI (by omega);rw[hP,h2];refine⟨by omega,?_⟩;have hp:=Nat.mod_two_eq_zero_or_one (dX y);rcases hp with hp|hp<;>rw[hp] at h1⊢ <;>cases o<;>simp_all
theorem Y6y {V:Nat}(hV:V<2^256)(h:dOk V=true):enc (dPt V)=V:=by
  unfold dOk at h;simp only[Bool.and_eq_true,decide_eq_true_eq,Bool.not_eq_true',Bool.and_eq_false_iff,decide_eq_false_iff_not] at h;obtain⟨⟨h1,h2⟩,h3⟩:=h
  obtain⟨h4,h5⟩:=Z62 (y:=V % 2^255) (o:=top V) (by
    rintro⟨a,b⟩;rcases h3 with h3|h3
    · rw[a] at h3;cases h3
    exact h3 b)
  unfold enc dPt;show(V % 2^255) % PP+2^255*(dXf (V % 2^255) (top V) % PP % 2)=V;rw[AI h1,AI h4]
  have h6:(dXf (V % 2^255) (top V)) % 2=if 2^255≤V then 1 else 0:=by
    generalize dXf (V % 2^255) (top V)=z at*;unfold top at h5
    by_cases hz:2^255≤V
    · rw[if_pos hz];simpa[hz] using h5
    rw[if_neg hz];have:¬z % 2=1:=by simpa[hz] using h5
    omega
  rw[h6];have h7:=Nat.div_add_mod V (2^255)
  by_cases hz:2^255≤V
  · rw[if_pos hz]
    have:V / 2^255=1:=by omega
    rw[this] at h7;omega
  rw[if_neg hz];have:V / 2^255=0:=by omega
  rw[this] at h7;omega
theorem Y6z (a:Pr):enc a % 2^255=a.2.val∧top (enc a)=decide (a.1.val % 2=1)∧enc a<2^256:=by
  have h1:=a.2.isLt;have h2:=Z2t;unfold enc top;refine⟨by omega,?_,by omega⟩
  by_cases h:a.1.val % 2=1
  · rw[decide_eq_true h,h];exact decide_eq_true (by omega)
  rw[decide_eq_false h];exact decide_eq_false (by omega)
theorem dec_enc {a:Pr}(h:OnC a):dOk (enc a)=true∧dPt (enc a)=a:=by
  obtain⟨e1,e2,e3⟩:=Y6z a;have hv:=K00 a.2.val
  have hu:fp (dU a.2.val)=fp (dV a.2.val)*(fp a.1.val*fp a.1.val):=by
    rw[V01,Y2m,J4j,J4j];unfold OnC at h
    grind
  have hb:dB a.2.val=true:=Y6x hv hu;have hs:=V02 hb;rw[hu] at hs
  have hx:fp (dX a.2.val)=a.1∨fp (dX a.2.val)= -a.1:=by
    have:=Q29 hv hs;rw[J4j] at this;exact Y2j this
  have hl:=Z2u a.2.val
  have G:dX a.2.val=0→a.1.val=0:=by
    intro h0;rw[h0,Q8g] at hx;have:a.1=0:=by rcases hx with h|h<;>grind
    rw[this];rfl
  have hn:¬(top (enc a)=true∧dX a.2.val=0):=by
    rintro⟨p1,p2⟩;rw[e2,G p2] at p1;cases p1
  refine⟨?_,?_⟩
  · unfold dOk
    rw[e1,hb,decide_eq_true a.2.isLt];cases ht:top (enc a)
    · rfl
    have:¬dX a.2.val=0:=fun h0=>hn ⟨ht,h0⟩;simp[this]
  unfold dPt;rw[e1];refine Prod.ext ?_ (J4j _);show fp (dXf a.2.val (top (enc a)))=a.1;obtain⟨p1,p2⟩:=Z62 hn
  have hz:fp (dXf a.2.val (top (enc a)))=a.1∨fp (dXf a.2.val (top (enc a)))= -a.1:=by
    have:=Y2n a.2.val (top (enc a));have h3:=Q29 hv hs;rw[J4j] at h3;exact Y2j (by rw[this,h3])
  rcases hz with hz|hz
  · exact hz
  rw[e2] at p1 p2 hz⊢;generalize dXf a.2.val (decide (a.1.val % 2=1))=z at*;have D:z=(PP-a.1.val % PP) % PP:=Q8h p1 (BH _ J50) (by rw[hz,J14,Q05,J4j]);rw[AI a.1.isLt] at D
  by_cases h0:a.1.val=0
  · have:a.1=0:=Fin.ext h0
    rw[hz,this];decide+kernel
  exfalso;rw[AI (by omega:PP-a.1.val<PP)] at D;have h4:=Z61 h0 a.1.isLt;rw[←D] at h4;have h5:=Nat.mod_two_eq_zero_or_one a.1.val;rcases h5 with h5|h5<;>rw[h5] at h4 p2<;>rw[h4] at p2<;>cases p2
end

section

def D2:Nat:=16295367250680780974490674513165176452449235426866156013048779062215315747161
def BX:Nat:=15112221349535400772501151409588531511454012693041857206046113283949847762202
def BY:Nat:=46316835694926478169428394003475163141307993866256225615783033603165251855960
def BP:Pr:=(fp BX,fp BY)
theorem Q2n:OnC BP:=by unfold OnC;decide+kernel
theorem K01:fp D2=2*dd:=by decide+kernel
theorem Y9s:DD<Q3:=by decide
theorem V9d:D2<Q3:=by decide
theorem Q5 {A:Nat}(h:A<PP):A<Q3:=BG h (by decide)
theorem J3w (A:Nat):A % PP<PP:=BH _ J50
theorem bpp {X n:Nat}(h:X=n % PP):X<PP:=h▸J3w n
def p4 (X Y Z T:Nat):Array AB:=c4 X++c4 Y++c4 Z++c4 T
def p3 (X Y Z:Nat):Array AB:=J0 .i64 16 (l16 X)++J0 .i64 16 (l16 Y)++J0 .i64 16 (l16 Z)
section
variable {X Y Z T : Nat}
theorem J9j:∀i v,(c4 X)[i]?=some v→(p4 X Y Z T)[0+i]?=some v:=fun i v h=>by rw[Nat.zero_add];exact J2p (J2p (J2p h))
theorem Q25:∀i v,(c4 Y)[i]?=some v→(p4 X Y Z T)[4+i]?=some v:=fun i v h=>J2p (J2p (J69 rfl h))
theorem J7k:∀i v,(c4 Z)[i]?=some v→(p4 X Y Z T)[8+i]?=some v:=fun i v h=>J2p (J69 rfl h)
theorem V42:∀i v,(c4 T)[i]?=some v→(p4 X Y Z T)[12+i]?=some v:=fun i v h=>J69 rfl h
end
structure RN (X Y Z T:Nat)(a:Pr):Prop where
  x:X<PP
  y:Y<PP
  z:Z<PP
  t:T<PP
  on:OnC a
  rc:Rc (fp X) (fp Y) (fp Z) (fp T) a
def RW (X Y Z T:Nat)(a:Pr):Prop:=RN X Y Z T a∨(X=0∧Y=0∧Z=0∧T=0∧a=p0)
structure RD (X Y Z:Nat)(a:Pr):Prop where
  x:X<PP
  y:Y<PP
  z:Z<PP
  on:OnC a
  rr:Rr (fp X) (fp Y) (fp Z) a
section
variable {X Y Z T : Nat} {a : Pr}
theorem RN.rw (h:RN X Y Z T a):RW X Y Z T a:=.inl h
theorem RW.on (h:RW X Y Z T a):OnC a:=by
  rcases h with h|h
  · exact h.on
  rw[h.2.2.2.2];exact Z0g
theorem J9a:RW 0 0 0 0 p0:=.inr ⟨rfl,rfl,rfl,rfl,rfl⟩
theorem RW.x (h:RW X Y Z T a):X<Q3:=by
  rcases h with h|h
  · exact Q5 h.x
  rw[h.1];decide
theorem RW.y (h:RW X Y Z T a):Y<Q3:=by
  rcases h with h|h
  · exact Q5 h.y
  rw[h.2.1];decide
theorem RW.z (h:RW X Y Z T a):Z<Q3:=by
  rcases h with h|h
  · exact Q5 h.z
  rw[h.2.2.1];decide
theorem RW.t (h:RW X Y Z T a):T<Q3:=by
  rcases h with h|h
  · exact Q5 h.t
  rw[h.2.2.2.1];decide
theorem RN.nz (h:RN X Y Z T a):Z≠0:=fun e=>h.rc.1 (by rw[e];rfl)
theorem RW.cases (h:RW X Y Z T a):(Z≠0∧RN X Y Z T a)∨(Z=0∧a=p0):=by
  rcases h with h|h
  · exact .inl ⟨h.nz,h⟩
  exact .inr ⟨h.2.2.1,h.2.2.2.2⟩
theorem Y9q:RN 0 1 1 0 p0:=⟨by decide,by decide,by decide,by decide,Z0g,by
  refine⟨by decide+kernel,?_,?_,?_⟩<;>decide+kernel⟩
theorem RN.rr (h:RN X Y Z T a):RD X Y Z a:=⟨h.x,h.y,h.z,h.on,h.rc.rr⟩
theorem J9b (A B:Nat):fp ((A+(PP-B % PP)) % PP)=fp A-fp B:=by rw[J14,Q27,Q05];grind
theorem J5b (A B:Nat):fp ((A+B) % PP)=fp A+fp B:=by rw[J14,Q27]
theorem J1l (A B:Nat):fp (A*B % PP)=fp A*fp B:=by rw[J14,J0u]
theorem Z63 (A:Nat):fp ((PP-A % PP) % PP)= -fp A:=by rw[J14,Q05]
theorem Y2a {X1 Y1 Z1 T1 X2 Y2 Z2 T2 s1 s2 A a1 a2 B m C zz D E F G H x y z t:Nat}{p q:Pr}(r1:RN X1 Y1 Z1 T1 p)(r2:RN X2 Y2 Z2 T2 q)
    (e1:s1=(Y1+(PP-X1 % PP)) % PP) (e2:s2=(Y2+(PP-X2 % PP)) % PP) (eA:A=s1*s2 % PP) (e3:a1=(Y1+X1) % PP) (e4:a2=(Y2+X2) % PP) (eB:B=a1*a2 % PP)
    (e5:m=T1*D2 % PP) (eC:C=m*T2 % PP) (e6:zz=(Z1+Z1) % PP) (eD:D=zz*Z2 % PP) (eE:E=(B+(PP-A % PP)) % PP) (eF:F=(D+(PP-C % PP)) % PP) (eG:G=(D+C) % PP) (eH:H=(B+A) % PP)
    (ex:x=E*F % PP) (ey:y=G*H % PP) (ez:z=F*G % PP) (et:t=E*H % PP):RN x y z t (V9 p q):=by
  have k:=V4f (A:=fp A) (B:=fp B) (C:=fp C) (D:=fp D) r1.on r2.on r1.rc r2.rc (by rw[eA,J1l,e1,e2,J9b,J9b]) (by rw[eB,J1l,e3,e4,J5b,J5b])
    (by rw[eC,J1l,e5,J1l,K01]) (by rw[eD,J1l,e6,J5b])
  refine⟨ex▸J3w _,ey▸J3w _,ez▸J3w _,et▸J3w _,J4k r1.on r2.on,?_⟩;rw[ex,ey,ez,et,J1l,J1l,J1l,J1l,eE,eF,eG,eH,J9b,J9b,J5b,J5b];exact k
theorem Z0c {A B c C H S q E G F x y z t:Nat}(r:RN X Y Z T a)(eA:A=X*X % PP)(eB:B=Y*Y % PP)(e1:c=Z*Z % PP)(eC:C=(c+c) % PP)(eH:H=(A+B) % PP)(eS:S=(X+Y) % PP)(e2:q=S*S % PP)
    (eE:E=(H+(PP-q % PP)) % PP) (eG:G=(A+(PP-B % PP)) % PP) (eF:F=(C+G) % PP) (ex:x=E*F % PP) (ey:y=G*H % PP) (ez:z=F*G % PP) (et:t=E*H % PP):RN x y z t (V9 a a):=by
  have k:=Y2k (A:=fp A) (B:=fp B) (C:=fp C) (E:=fp E) (G:=fp G) (H:=fp H) (F:=fp F) r.on r.rc (by rw[eA,J1l]) (by rw[eB,J1l]) (by rw[eC,J5b,e1,J1l]) (by rw[eH,J5b])
    (by rw[eE,J9b,e2,J1l,eS,J5b]) (by rw[eG,J9b]) (by rw[eF,J5b])
  refine⟨ex▸J3w _,ey▸J3w _,ez▸J3w _,et▸J3w _,J4k r.on r.on,?_⟩;rw[ex,ey,ez,et,J1l,J1l,J1l,J1l];exact k
theorem V43 {x t:Nat}(r:RN X Y Z T a)(ex:x=(PP-X % PP) % PP)(et:t=(PP-T % PP) % PP):RN x Y Z t (J40 a):=by
  refine⟨ex▸J3w _,r.y,r.z,et▸J3w _,J7l r.on,?_⟩;obtain⟨h1,h2,h3,h4⟩:=r.rc;rw[ex,et,Z63,Z63];refine⟨h1,?_,h3,?_⟩
  · show-fp X= -a.1*fp Z
    rw[h2];grind
  show-fp T= -a.1*a.2*fp Z;rw[h4];grind
theorem Z4l {t:Nat}(hX:X<PP)(hY:Y<PP)(on:OnC (fp X,fp Y))(et:t=X*Y % PP):RN X Y 1 t (fp X,fp Y):=by
  refine⟨hX,hY,by decide,et▸J3w _,on,?_⟩;rw[et,J1l,Q28];refine⟨by decide+kernel,?_,?_,?_⟩
  · show fp X=fp X*1
    grind
  · show fp Y=fp Y*1
    grind
  show fp X*fp Y=fp X*fp Y*1
  grind
theorem Q53 {X1 Y1 Z1 X2 Y2 Z2 m1 m2 m3 m4:Nat}{p q:Pr}(r1:RD X1 Y1 Z1 p)(r2:RD X2 Y2 Z2 q)(e1:m1=X1*Z2 % PP)(e2:m2=X2*Z1 % PP)(e3:m3=Y1*Z2 % PP)(e4:m4=Y2*Z1 % PP):(m1=m2∧m3=m4)↔p=q:=by
  rw[←Y6v r1.rr r2.rr,←J0u,←J0u,←J0u,←J0u,fp_eq,fp_eq,←e1,←e2,←e3,←e4]
theorem Y2c {i x y:Nat}(r:RD X Y Z a)(ei:i=pw Z (PP-2))(ex:x=X*i % PP)(ey:y=Y*i % PP):x=a.1.val∧y=a.2.val:=by
  have k:=V4g r.rr
  have hi:fp i=J4t (fp Z):=by
    rw[ei,V9u];show _=fp ((fp Z).val^(PP-2));rw[Q8f,AI r.z]
  rw[←hi,←J0u,←J0u] at k;rw[ex,ey];exact⟨congrArg Fin.val k.1,congrArg Fin.val k.2⟩
end
theorem V4j {w W:AA}(h:GI w)(e:Ext w W):GI W:=Rd.ext (show Rd w 13 imaC from h) e
structure Kn where
  d:Prop
  b:Prop
  c:Prop
  r:Prop
abbrev GE (kn:Kn)(w:AA):Prop:=GF w∧(kn.c→GI w)∧(kn.c→Rd w 8 (c4 DD))∧(kn.d→Rd w 2 (c4 D2))∧(kn.b→Rd w 0 (c4 BX))∧(kn.b→Rd w 1 (c4 BY))
theorem J8 {kn:Kn}{w W:AA}(h:GE kn w)(k:Ext w W):GE kn W:=⟨V2 h.1 k,fun x=>V4j (h.2.1 x) k,fun x=>(h.2.2.1 x).ext k,fun x=>(h.2.2.2.1 x).ext k,fun x=>(h.2.2.2.2.1 x).ext k,fun x=>(h.2.2.2.2.2 x).ext k⟩
end

section

theorem Y2o:∀a,a<256→a &&& 128=if 128≤a then 128 else 0:=by decide+kernel
theorem K02:∀a,a<128→a |||128=a+128:=by decide+kernel
theorem Y70:∀a,a<256→a &&&(255-128)=a % 128:=by decide+kernel
section
variable {P : Program} {w : AA} {o : AT} {a : Act} {x y : Operand} {t t' : TypeId} {p q r : Int}
theorem J70 (h:bits .and .u8 p q=r)(ho:o.op=.binOp .and t x y t')(hx:a.eval x=.int .u8 p)(hy:a.eval y=.int .u8 q):(AQ a.eval o).run P w=.ok (.value (.int .u8 r)) w:=by
  subst h;simp only[AQ,ho,hx,hy];rfl
theorem Y6q (h:bits .or .u8 p q=r)(ho:o.op=.binOp .or t x y t')(hx:a.eval x=.int .u8 p)(hy:a.eval y=.int .u8 q):(AQ a.eval o).run P w=.ok (.value (.int .u8 r)) w:=by
  subst h;simp only[AQ,ho,hx,hy];rfl
theorem J99 (h:bits .andNot .u8 p q=r)(ho:o.op=.binOp .andNot t x y t')(hx:a.eval x=.int .u8 p)(hy:a.eval y=.int .u8 q):(AQ a.eval o).run P w=.ok (.value (.int .u8 r)) w:=by
  subst h;simp only[AQ,ho,hx,hy];rfl
end
theorem Z0i {V:Nat}(hV:V<2^256):J2 V 31=((V / 2^248:Nat):Int)∧V / 2^248<256:=by
  have h:V / 2^248<256:=Nat.div_lt_of_lt_mul (by rw[←show(2:Nat)^256=2^248*256 by decide];exact hV);unfold J2;rw[show 8*31=248 by decide,AI h];exact⟨rfl,h⟩
theorem Z64 (V:Nat):top V=true↔128≤V / 2^248:=by
  unfold top;rw[decide_eq_true_iff];generalize hP:(2:Nat)^248=P;have e:(2:Nat)^255=128*P:=by rw[←hP]
  rw[e,Nat.le_div_iff_mul_le (by subst hP;decide)]
theorem Z5u {V:Nat}(hV:V<2^256)(ht:top V=true):bits .and .u8 (J2 V 31) 128=128:=by
  obtain⟨h1,h2⟩:=Z0i hV;rw[h1];refine(u8_and_nat _ 128 h2 (by decide)).trans ?_;rw[Y2o _ h2,if_pos ((Z64 V).1 ht)];rfl
theorem Z5w {V:Nat}(hV:V<2^256)(ht:¬top V=true):bits .and .u8 (J2 V 31) 128=0:=by
  obtain⟨h1,h2⟩:=Z0i hV;rw[h1];refine(u8_and_nat _ 128 h2 (by decide)).trans ?_;rw[Y2o _ h2,if_neg fun h=>ht ((Z64 V).2 h)];rfl
theorem Z65 {V j:Nat}(hj:j<31):J2 (V % 2^255) j=J2 V j:=by
  unfold J2
  congr 1
  obtain⟨d,hd⟩:∃d,255=8*j+(8+d):=⟨247-8*j,by omega⟩
  rw[hd,Nat.pow_add 2 (8*j),Nat.mod_mul_right_div_self,Nat.pow_add 2 8 d,Nat.mod_mul_right_mod]
theorem Y71 (V:Nat):J2 (V % 2^255) 31=((V / 2^248 % 128:Nat):Int):=by
  unfold J2
  congr 1
  rw[show 8*31=248 by decide,show(2:Nat)^255=2^248*128 by decide,Nat.mod_mul_right_div_self];omega
theorem Z5v {V:Nat}{r:Int}(hr:r=((V / 2^248 % 128:Nat):Int)):J0 .u8 32 (upd (J2 V) 31 r)=J0 .u8 32 (J2 (V % 2^255)):=by
  apply X7;intro j hj
  by_cases h:j=31
  · subst h;rw[J35,Y71];exact hr
  rw[J12 _ _ _ _ h,Z65 (by omega)]
theorem Q3m {V:Nat}(hV:V<2^256):bits .andNot .u8 (J2 V 31) 128=((V / 2^248 % 128:Nat):Int):=by
  obtain⟨h1,h2⟩:=Z0i hV;rw[h1];refine(u8_andNot_nat _ 128 h2 (by decide)).trans ?_;rw[Y70 _ h2]
theorem Y72 {V:Nat}(hV:V<2^255):bits .or .u8 (J2 V 31) 128=J2 (V+2^255) 31:=by
  obtain⟨h1,h2⟩:=Z0i (V:=V) (BG hV (by decide));obtain⟨h3,h4⟩:=Z0i (V:=V+2^255) (by omega);have h5:V / 2^248<128:=Nat.div_lt_of_lt_mul (by rw[←show(2:Nat)^255=2^248*128 by decide];exact hV);rw[h1,h3];refine(u8_or_nat _ 128 h2 (by decide)).trans ?_;rw[K02 _ h5,show(2:Nat)^255=2^248*128 by decide,Nat.add_mul_div_left _ _ (by decide)]
theorem V9f {V:Nat}(hV:V<2^255):J0 .u8 32 (upd (J2 V) 31 (bits .or .u8 (J2 V 31) 128))=J0 .u8 32 (J2 (V+2^255)):=by
  apply X7;intro j hj
  by_cases h:j=31
  · subst h;rw[J35,Y72 hV]
  rw[J12 _ _ _ _ h,←Z65 (V:=V+2^255) (by omega),Nat.add_mod_right,AI hV]
end

section
section
variable {w : AA} {o : AT} {a : Act} {x y : Operand} {t t' : TypeId}
theorem Z0j {l:List UInt8}{i:Nat}{c:UInt8}(h:l[i]?=some c)(ho:o.op=.index 9 x y)(hx:a.eval x=V3 l)(hy:a.eval y=.int .i64 (i:Int)):(AQ a.eval o).run Tryz.prog w=.ok (.value (.int .u8 (c.toNat:Int))) w:=by
  have hs:=J7d l;have hi:=(List.getElem?_eq_some_iff.1 h).1;have hg:=(List.getElem?_eq_some_iff.1 h).2
  have D : (⟨l.toArray⟩ : ByteArray)[i]'(by rw [hs]; exact hi) = c := by
    show l.toArray[i]'(by simpa using hi) = c
    simpa using hg
  simp only[AQ,ho,hx,hy,V3,Sem.run_bind];simp[Instr.index,asIntOf,run_underlying Tryz.underlying9,hs,hi,D,Sem.run_bind]
end
section
variable {ops : Array AT} {w : AA} {r : List AT} {o : AT} {a : Act} {E : Act → Prop}
end
theorem take_set {cs:Array AB}{V V' :Nat}{v:AB}(h:cs.toList.take 32=bs8 (lb 32 V))(he:(J0 .u8 32 (J2 V)).setIfInBounds 31 v=J0 .u8 32 (J2 V')):(cs.setIfInBounds 31 v).toList.take 32=bs8 (lb 32 V'):=by
  rw[Array.toList_setIfInBounds,List.take_set,h,J9s,J9s,←J2v,←J2v,←he,Array.toList_setIfInBounds]
end
end Go.Proofs.YtpljgkofbfeelaaGreatDoor.S8

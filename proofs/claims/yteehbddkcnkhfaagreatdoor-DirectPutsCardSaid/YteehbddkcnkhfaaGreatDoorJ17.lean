/- Contracts and plain laws for directPuts_holds. Conditions: the tables hold their numbers. -/
import Derived.Test.YteehbddkcnkhfaaGreatDoorJ16
open Go.RowKit
set_option linter.unusedSimpArgs false
set_option linter.unusedVariables false
namespace Go.Proofs.YteehbddkcnkhfaaGreatDoor
section
def GR4 (w:World):Prop:=Rd w 7 (J0 .i64 64 U0)∧Rd w 6 (J0 .i64 8 hf4)
theorem Q0t {w W:World}(h:GR4 w)(e:Ext w W):GR4 W:=⟨h.1.ext e,h.2.ext e⟩
theorem Y4x:W4 0:=⟨by decide,by decide⟩
theorem V6z (l:List UInt8)(j:Nat):W4 (bt l j):=by have:=Q41 l j;unfold W4;omega
theorem Q73:∀(l:List Int) (i:Nat),l.all (fun x=>decide (0≤x∧x<4294967296))=true→W4 (l.getD i 0)
  |[],i,_=>by simp;exact Y4x
  |x::r,0,h=>by simp at h⊢;exact h.1
  |x::r,i+1,h=>by
    have h' :(r.all (fun x=>decide (0≤x∧x<4294967296)))=true:=by simp only[List.all_cons,Bool.and_eq_true] at h;exact h.2
    have:=Q73 r i h'
    simpa using this
theorem Y96 (i:Nat):W4 (U0 i):=Q73 _ _ (by decide)
theorem V70 (i:Nat):W4 (hf4 i):=Q73 _ _ (by decide)
theorem V1b {b:Nat→Int}(hb:∀j,W4 (b j))(i:Nat):∀k,W4 (J40 b i k)
  |0=>Y4x
  |k+1=>Y94 Y95 (hb _)
theorem Q93 {x:Int}(hx:W4 x)(p q r:Nat):W4 (J2l x p q r):=J5h (J5h (J2t hx) (J2t hx)) (Z3i hx)
theorem Q74 {x:Int}(hx:W4 x)(p q r:Nat):W4 (Q2y x p q r):=J5h (J5h (J2t hx) (J2t hx)) (J2t hx)
theorem V1c {f:Nat→Int}{i:Nat}{x:Int}(hf:∀j,W4 (f j))(hx:W4 x):∀j,W4 (upd f i x j):=fun j=>by unfold upd;split;exact hx;exact hf j
theorem Q75 {b:Nat→Int}(hb:∀j,W4 (b j)):∀i j,W4 (Q2 b i j)
  |0,_=>Y4x
  |i+1,j=>V1c (Q75 hb i) (by
      split
      · exact V1b hb i 4
      · exact Z3h) j
theorem V1d {k w v:Nat→Int}{i:Nat}(hv:∀j,W4 (v j)):∀j,W4 (Z1d k w i v j):=fun j=>by
  unfold Z1d
  split<;>first|exact Z3h|exact hv _|exact Y4x
theorem Q76 {k w v:Nat→Int}(hv:∀j,W4 (v j)):∀i j,W4 (Q3 k w v i j)
  |0,j=>hv j
  |i+1,j=>V1d (Q76 hv i) j
theorem V71 (P:List UInt8):∀j i,W4 (Hs4 P j i)
  |0,i=>V70 i
  |_+1,_=>Z3h
theorem V72 {h v:Nat→Int}(hh:∀j,W4 (h j))(i j:Nat):W4 (mx4 h v i j):=by unfold mx4;split;exact Z3h;exact hh j
/-! ### a word out of four bytes -/
theorem Z3j {x c:Int}(h0:0≤x)(h1:x<16777216)(hc0:0≤c)(hc1:c<256):oo4 (sl4 x 8) c=x*256+c:=by
  obtain⟨a,rfl⟩:=Int.eq_ofNat_of_zero_le h0;obtain⟨b,rfl⟩:=Int.eq_ofNat_of_zero_le hc0;have e:sl4 (a:Int) 8=((a*256:Nat):Int):=by unfold sl4;rw[IntKind.wrap_u32];omega
  have hb:b<2^8:=by omega
  rw[e,V18 (by omega) (by omega),Nat.mul_comm,show(256:Nat)=2^8 by decide,←Nat.two_pow_add_eq_or_of_lt hb];omega
theorem Y4y {b:Nat→Int}(hb:∀j,0≤b j∧b j≤255)(i:Nat):J40 b i 4=b (4*i)*16777216+b (4*i+1)*65536+b (4*i+2)*256+b (4*i+3):=by
  have h0:=hb (4*i);have h1:=hb (4*i+1);have h2:=hb (4*i+2);have h3:=hb (4*i+3)
  have e1:J40 b i 1=b (4*i):=by
    show oo4 (sl4 0 8) (b (4*i+0))=_;rw[Nat.add_zero,Z3j (by omega) (by omega) (by omega) (by omega)];omega
  have e2:J40 b i 2=b (4*i)*256+b (4*i+1):=by
    show oo4 (sl4 (J40 b i 1) 8) (b (4*i+1))=_;rw[e1,Z3j (by omega) (by omega) (by omega) (by omega)]
  have e3:J40 b i 3=(b (4*i)*256+b (4*i+1))*256+b (4*i+2):=by
    show oo4 (sl4 (J40 b i 2) 8) (b (4*i+2))=_;rw[e2,Z3j (by omega) (by omega) (by omega) (by omega)]
  show oo4 (sl4 (J40 b i 3) 8) (b (4*i+3))=_;rw[e3,Z3j (by omega) (by omega) (by omega) (by omega)];omega
theorem Q42 (k:Nat){x c:Nat}(hk:k≤32)(hx:x<2^30)(hc:c<2^k):bits .or .i64 ((x*2^k:Nat):Int) (c:Int)=((x*2^k+c:Nat):Int):=by
  have h1:2^k≤2^32:=Nat.pow_le_pow_right (by decide) hk
  have h2:x*2^k<2^63:=by
    calc x*2^k≤x*2^32:=Nat.mul_le_mul_left _ h1
      _<2^63:=by omega
  rw[V6v h2 (Nat.lt_of_lt_of_le hc (Nat.le_trans h1 (by decide))),Nat.mul_comm,←Nat.two_pow_add_eq_or_of_lt hc]
theorem Z8t {a b c d:Int}(ha:0≤a∧a≤255)(hb:0≤b∧b≤255)(hc:0≤c∧c≤255)(hd:0≤d∧d≤255):
    bits .or .i64 (bits .or .i64 (bits .or .i64 (a*2^24) (b*2^16)) (c*2^8)) d=a*16777216+b*65536+c*256+d:=by
  obtain⟨a,rfl⟩:=Int.eq_ofNat_of_zero_le ha.1;obtain⟨b,rfl⟩:=Int.eq_ofNat_of_zero_le hb.1;obtain⟨c,rfl⟩:=Int.eq_ofNat_of_zero_le hc.1;obtain⟨d,rfl⟩:=Int.eq_ofNat_of_zero_le hd.1;have e1:((a:Int)*2^24)=((a*2^24:Nat):Int):=by omega
  have e2:((b:Int)*2^16)=((b*2^16:Nat):Int):=by omega
  have e3:((c:Int)*2^8)=((c*2^8:Nat):Int):=by omega
  rw[e1,e2,e3,Q42 24 (by decide) (by omega) (by omega),show a*2^24+b*2^16=(a*256+b)*2^16 by omega,Q42 16 (by decide) (by omega) (by omega),
    show(a*256+b)*2^16+c*2^8=(a*65536+b*256+c)*2^8 by omega,Q42 8 (by decide) (by omega) (by omega)]
  omega
/-! ### sums with one mask -/
theorem V1e (f:Nat→Int)(i:Nat):sg4 f i=(f (i-16)+J2l (f (i-15)) 7 18 3+f (i-7)+J2l (f (i-2)) 17 19 10) % 4294967296:=by
  unfold sg4;simp only[Q1r];generalize J2l (f (i-15)) 7 18 3=a;generalize J2l (f (i-2)) 17 19 10=b;omega
def rTs (k w:Nat→Int)(i:Nat)(v:Nat→Int):Int:=v 7+Q2y (v 4) 6 11 25+xo4 (an4 (v 4) (v 5)) (an4 (nt4 (v 4)) (v 6))+k i+w i
def rUs (v:Nat→Int):Int:=Q2y (v 0) 2 13 22+xo4 (xo4 (an4 (v 0) (v 1)) (an4 (v 0) (v 2))) (an4 (v 1) (v 2))
theorem Z8u (k w:Nat→Int)(i:Nat)(v:Nat→Int):rT4 k w i v=rTs k w i v % 4294967296:=by
  unfold rT4 rTs;simp only[Q1r];generalize Q2y (v 4) 6 11 25=a;generalize xo4 (an4 (v 4) (v 5)) (an4 (nt4 (v 4)) (v 6))=b;omega
theorem V1f (v:Nat→Int):rU4 v=rUs v % 4294967296:=by unfold rU4 rUs;rw[Q1r]
theorem V1g {k w v:Nat→Int}(i:Nat)(hk:W4 (k i))(hw:W4 (w i))(hv:∀j,W4 (v j)):0≤rTs k w i v∧rTs k w i v<21474836480:=by
  have h1:=hv 7;have h2:=Q74 (hv 4) 6 11 25;have h3:=J5h (J4r (hv 4) (hv 5)) (J4r (Z3g (hv 4)) (hv 6));unfold rTs W4 at*;omega
theorem V1h {v:Nat→Int}(hv:∀j,W4 (v j)):0≤rUs v∧rUs v<8589934592:=by
  have h2:=Q74 (hv 0) 2 13 22;have h3:=J5h (J5h (J4r (hv 0) (hv 1)) (J4r (hv 0) (hv 2))) (J4r (hv 1) (hv 2));unfold rUs W4 at*;omega
theorem K2j (k w:Nat→Int)(i:Nat)(v:Nat→Int):(rTs k w i v+rUs v) % 4294967296=Z1d k w i v 0:=by
  show _=ad4 (rT4 k w i v) (rU4 v);rw[Z8u,V1f,Q1r];omega
theorem V73 (k w:Nat→Int)(i:Nat)(v:Nat→Int):(v 3+rTs k w i v) % 4294967296=Z1d k w i v 4:=by
  show _=ad4 (v 3) (rT4 k w i v);rw[Z8u,Q1r];omega
/-! ### the bytes of the words -/
def bo4 (H:Nat→Int)(j:Nat):UInt8:=u8 (ob4 H j).toNat
theorem Z8v (H:Nat→Int)(j:Nat):((bo4 H j).toNat:Int)=ob4 H j:=by
  have:=Y99 (sr4 (H (j / 4)) (8*(3-j % 4)));unfold bo4;rw[J5l];unfold ob4;omega
theorem Q0u (H:Nat→Int)(i k:Nat)(hk:k<4):w8 (sr4 (H i) (8*(3-k)))=((bo4 H (4*i+k)).toNat:Int):=by
  rw[Z8v];unfold ob4;rw[show(4*i+k) / 4=i by omega,show(4*i+k) % 4=k by omega]
def wb4 (H:Nat→Int)(n:Nat):List UInt8:=(List.range n).map (bo4 H)
theorem J0t (H:Nat→Int)(n:Nat):(wb4 H n).length=n:=by simp[wb4]
theorem Z8x (H:Nat→Int)(i:Nat):wb4 H (4*i)++[bo4 H (4*i+0),bo4 H (4*i+1),bo4 H (4*i+2),bo4 H (4*i+3)]=wb4 H (4*(i+1)):=by
  unfold wb4;rw[show 4*(i+1)=4*i+3+1 by omega];simp only[List.range_succ,List.map_append,List.map_cons,List.map_nil,List.append_assoc,Nat.add_zero,List.cons_append,List.nil_append]
def Z1e (l:List UInt8):List UInt8:=wb4 (Hs4 (J0e l) (nb4 l.length)) 32
def hs4 (l:List UInt8):Nat:=le (Z1e l)
theorem Q2m (l:List UInt8):(Z1e l).length=32:=J0t _ _
theorem Z1f (l:List UInt8):(J0 .u8 32 (sm4 l)).toList=bs8 (Z1e l):=by
  unfold J0 bs8 Z1e wb4;rw[List.map_map];simp only[List.map_inj_left,Function.comp];intro j _;rw[Z8v];rfl
theorem Z3k (F:List UInt8):Z1e F=lb 32 (hs4 F):=(Z1g (Q2m F)).symm
theorem Z8y (F:List UInt8):J0 .u8 32 (sm4 F)=J0 .u8 32 (J7 (hs4 F)):=Q94 (by rw[Z1f,Z3k,Q1s,J3r])
theorem V1i (F:List UInt8):hs4 F<2^256:=by have:=Z3l (Z1e F);rwa [Q2m] at this
end

section
set_option maxHeartbeats 3000000
set_option maxRecDepth 100000
attribute [local irreducible] wpList Y8 wpX
theorem Q1o {w:World}{o:Oper}{a:Act}{x:Operand}{c:UInt8}(ho:o.op=.convert 5 3 x)(hx:a.eval x=.int .u8 (c.toNat:Int)):(execOp a.eval o).run Tryz.prog w=.ok (.value (.int .i64 (c.toNat:Int))) w:=by
 have hc:=c.toNat_lt;have hw:IntKind.wrap .i64 (c.toNat:Int)=(c.toNat:Int):=by rw[IntKind.wrap_i64];omega
 simp[execOp,ho,hx,convert,run_underlying Tryz.underlying5,run_underlying Tryz.underlying3,Sem.run_bind,Conv.intToInt,hw]
theorem J30 {P:Program}{w:World}{o:Oper}{a:Act}{x y:Operand}{t t' :TypeId}{p q:Int}(h:0≤p+q∧p+q<9223372036854775808)(ho:o.op=.binOp .add t x y t')(hx:a.eval x=.int .i64 p)(hy:a.eval y=.int .i64 q):(execOp a.eval o).run P w=.ok (.value (.int .i64 (p+q))) w:=by
 have h2:IntKind.i64.wrap (p+q)=p+q:=IntWalk.i64_in _ (by omega);simp only[execOp,ho,hx,hy,eqGuard,binOp,Sem.run_bind];simp[go_sem,Sem.run_bind,h2]
theorem J66 {P:Program}{w:World}{o:Oper}{a:Act}{x y:Operand}{t t' :TypeId}{p q:Int}(hp:W4 p)(hq:W4 q)(ho:o.op=.binOp .xor t x y t')(hx:a.eval x=.int .i64 p)(hy:a.eval y=.int .i64 q):(execOp a.eval o).run P w=.ok (.value (.int .i64 (xo4 p q))) w:=by rw[←Z8r hp hq];exact Q6z ho hx hy
theorem Q5l {P:Program}{w:World}{o:Oper}{a:Act}{x y:Operand}{t t' :TypeId}{p q:Int}(hp:W4 p)(hq:W4 q)(ho:o.op=.binOp .and t x y t')(hx:a.eval x=.int .i64 p)(hy:a.eval y=.int .i64 q):(execOp a.eval o).run P w=.ok (.value (.int .i64 (an4 p q))) w:=by rw[←V19 hp hq];exact J4l ho hx hy
theorem V6a {P:Program}{w:World}{o:Oper}{a:Act}{x y:Operand}{t t' :TypeId}{q:Int}(hq:W4 q)(ho:o.op=.binOp .xor t x y t')(hx:a.eval x=.int .i64 4294967295)(hy:a.eval y=.int .i64 q):(execOp a.eval o).run P w=.ok (.value (.int .i64 (nt4 q))) w:=by rw[←V6x hq];exact Q6z ho hx hy
theorem shb (P:List UInt8)(J:Nat){n:Nat}(hn:n≤32):IntKind.wrap .i64 (bt P J*2^n)=bt P J*2^n:=by
 have h:=Q41 P J;obtain⟨b,hb⟩:=Int.eq_ofNat_of_zero_le h.1;have h3:2^n≤2^32:=Nat.pow_le_pow_right (by decide) hn;have e2:((b:Int)*2^n)=((b*2^n:Nat):Int):=by rw[Int.natCast_mul,Int.natCast_pow];rfl
 have l2:b*2^n<2^63:=by
  calc b*2^n≤b*2^32:=Nat.mul_le_mul_left _ h3
   _<2^63:=by omega
 rw[hb,e2];exact Z1c _ (Int.natCast_nonneg _) (by exact_mod_cast l2)
theorem Y8m (P:List UInt8)(n i J:Nat)(hJ:n+4*i=J):J40 (bt (P.drop n)) i 4=bits .or .i64 (bits .or .i64 (bits .or .i64 (bt P J*2^24) (bt P (J+1)*2^16)) (bt P (J+2)*2^8)) (bt P (J+3)):=by
 rw[Z8t (Q41 _ _) (Q41 _ _) (Q41 _ _) (Q41 _ _),Y4y (fun j=>Q41 _ j)];rw[J7h,J7h,J7h,J7h,←Nat.add_assoc,←Nat.add_assoc,←Nat.add_assoc,hJ]
theorem Y8n {b:Nat→Int}{i:Nat}(h:i<16):upd (Q2 b i) i (J40 b i 4)=Q2 b (i+1):=by
 show _=upd (Q2 b i) i (if i<16 then J40 b i 4 else sg4 (Q2 b i) i);rw[if_pos h]
theorem Y8o (h b:Nat→Int):J0 .i64 8 (mx4 h (Q3 U0 (Q2 b 64) h 64) 8)=J0 .i64 8 (J6y h b):=X8 _ _ _ _ fun j hj=>by unfold mx4 J6y;rw[if_pos hj]
theorem K1n (x:Int):sr4 x 0=x:=by unfold sr4;simp

theorem Y8p (l:List UInt8)(hlen:l.length≤70368744177664)(w:World)(hG:GR4 w):
  Calls Tryz.prog 102 #[K6 l] w fun e w' =>K7 (K6 (Z1e l)) w w' e:=by
 have HG:=Lib.hid hG;clear hG;have δ:=Q2w l;have G0:=(J9c l.length).2;have φ:nb4 l.length≤1099511628000:=by unfold nb4;omega
 have hS:=SH.nil [] w
 go_enter Tryz.func102,Tryz.ntmps102
 go_upto_region 1 with fail;refine RL hS ?_;clear hS;refine MV ?_;refine MW ?_ (v:=.int .i64 (l.length:Int)) (hv:=fun _=>J0r (l:=l) rfl rfl);refine MV ?_;refine MZ fun W hS=> ?_;go_upto_region 2 with fail;refine RL hS ?_;clear hS;refine MV ?_;refine MY (m:=l) (by first|omega|(simp only[List.length_append,List.length_cons,List.length_nil,List.length_replicate,J0t];omega)) ?_;intro Ψ;refine MO (m:=[128]) (n:=1) (z:= #[.int .u8 128]) ?_;intro ω;refine MAz 1 (xs:=l) (ys:=[128]) (fun W hS=>(hS.osl (i:=0) rfl)) (by first|omega|(simp only[List.length_append,List.length_cons,List.length_nil,List.length_replicate,J0t];omega)) ?_;intro G1;refine MV ?_;refine MZ fun W hS=> ?_
 go_wp2_with fail
 go_loopw [4] (fun sv wr=> ∃(k:Nat)(bv:Value),(k≤zc4 l.length)∧(bv=sv)∧SH [] w wr [.w bv (l++[128]++List.replicate k 0)])
  (fun sv _=>l.length+300-Q2t sv)
 case atStart=>exact⟨0,_,Nat.zero_le _,rfl,(by rw[List.replicate_zero,List.append_nil];exact(hS.pick [1]))⟩
 clear hS
 case round=>
  obtain⟨k,bv,hk,rfl,hS⟩:=hrel;have lb:=J6w (hS.ozl (i:=0) rfl)
  by_cases hz:k<zc4 l.length
  ·
   have ξ:=Y4c hz;go_upto_region 3 with fail;refine RL hS ?_;clear hS;refine MV ?_;refine MF (v:=.int .i64 ((l++[128]++List.replicate k 0).length:Int)) (fun W hS=>Z9 (hS.ozl (i:=0) rfl) rfl rfl) ?_;refine MW ?_ (v:=.int .i64 (((l.length+1+k) % 64:Nat):Int)) (hv:=by intro W;go_simp;(try simp only[List.length_append,List.length_cons,List.length_nil,List.length_replicate]);rw[Int.tmod_eq_emod_of_nonneg (by omega)];omega);refine MW ?_ (v:=.bool true) (hv:=by intro W;go_simp;omega);refine MZ fun W hS=> ?_;go_upto_region 4 with fail;refine RL hS ?_;clear hS;refine MV ?_;refine MO (m:=[0]) (n:=1) (z:= #[.int .u8 0]) ?_;intro D8;refine MAz 1 (xs:=(l++[128]++List.replicate k 0)) (ys:=[0]) (fun W hS=>(hS.osl (i:=0) rfl)) (by first|omega|(simp only[List.length_append,List.length_cons,List.length_nil,List.length_replicate,J0t];omega)) ?_;intro D3;refine MV ?_;refine MZ fun W hS=> ?_;have la:=J6w (hS.ozl (i:=1) rfl);simp only[List.length_append,List.length_cons,List.length_nil,List.length_replicate] at la lb;go_wp2;go_roundw
   case rel=>exact⟨k+1,_,by omega,rfl,(by have h_:=(hS.pick [1]);rw[List.append_assoc _ (List.replicate k 0),←List.replicate_succ'] at h_;exact h_)⟩
   case measure=>simp only[la,lb];omega
  obtain rfl:k=zc4 l.length:=by omega
  have ξ:=(J9c l.length).1;go_upto_region 3 with fail;refine RL hS ?_;clear hS;refine MV ?_;refine MF (v:=.int .i64 ((l++[128]++List.replicate (zc4 l.length) 0).length:Int)) (fun W hS=>Z9 (hS.ozl (i:=0) rfl) rfl rfl) ?_;refine MW ?_ (v:=.int .i64 (((l.length+1+zc4 l.length) % 64:Nat):Int)) (hv:=by intro W;go_simp;(try simp only[List.length_append,List.length_cons,List.length_nil,List.length_replicate]);rw[Int.tmod_eq_emod_of_nonneg (by omega)];omega);refine MW ?_ (v:=.bool false) (hv:=by intro W;first|(go_simp;done)|(go_simp;omega));refine MZ fun W hS=> ?_
  go_wp2_with fail
  refine wp_loop_rounds 9 ?_;rw[rounds_succ];go_upto_region 8 with fail;refine RL hS ?_;clear hS;refine MV ?_;refine MV ?_;refine MW ?_ (v:=.int .i64 (((8*l.length:Nat):Int))) (hv:=by intro W;go_simp;(try simp only[IntKind.wrap_u64,IntKind.wrap_i64]);(try omega));refine MW ?_ (v:=.int .i64 56);refine MW ?_ (v:=.int .i64 (((8*l.length / 72057594037927936:Nat):Int))) (hv:=by intro W;rw[←J80 (8*l.length) 56 72057594037927936 (by decide)];exact J0z (n:=56) (by decide) rfl rfl rfl);refine MW ?_ (v:=.int .u8 ((u8 ((8*l.length) / 72057594037927936)).toNat:Int)) (hv:=by intro W;rw[←J7z (8*l.length) 72057594037927936];exact J2h rfl rfl);refine MO (m:=[u8 ((8*l.length) / 72057594037927936)]) (n:=1) (z:= #[.int .u8 ((u8 ((8*l.length) / 72057594037927936)).toNat:Int)]) ?_;intro D1;refine MAz 1 (xs:=(l++[128]++List.replicate (zc4 l.length) 0)) (ys:=[u8 ((8*l.length) / 72057594037927936)]) (fun W hS=>(hS.osl (i:=0) rfl)) (by first|omega|(simp only[List.length_append,List.length_cons,List.length_nil,List.length_replicate,J0t];omega)) ?_;intro χ;refine MV ?_;refine MZ fun W hS=> ?_
  go_wp2_with fail
  rw[rounds_succ];go_upto_region 8 with fail;refine RL hS ?_;clear hS;refine MV ?_;refine MV ?_;refine MW ?_ (v:=.int .i64 (((8*l.length:Nat):Int))) (hv:=by intro W;go_simp;(try simp only[IntKind.wrap_u64,IntKind.wrap_i64]);(try omega));refine MW ?_ (v:=.int .i64 48);refine MW ?_ (v:=.int .i64 (((8*l.length / 281474976710656:Nat):Int))) (hv:=by intro W;rw[←J80 (8*l.length) 48 281474976710656 (by decide)];exact J0z (n:=48) (by decide) rfl rfl rfl);refine MW ?_ (v:=.int .u8 ((u8 ((8*l.length) / 281474976710656)).toNat:Int)) (hv:=by intro W;rw[←J7z (8*l.length) 281474976710656];exact J2h rfl rfl);refine MD 0 ?_;refine MO (m:=[u8 ((8*l.length) / 281474976710656)]) (n:=1) (z:= #[.int .u8 ((u8 ((8*l.length) / 281474976710656)).toNat:Int)]) ?_;intro D4;refine MAz 1 (xs:=((l++[128]++List.replicate (zc4 l.length) 0)++[u8 ((8*l.length) / 72057594037927936)])) (ys:=[u8 ((8*l.length) / 281474976710656)]) (fun W hS=>(hS.osl (i:=0) rfl)) (by first|omega|(simp only[List.length_append,List.length_cons,List.length_nil,List.length_replicate,J0t];omega)) ?_;intro D5;refine MV ?_;refine MZ fun W hS=> ?_
  go_wp2_with fail
  rw[rounds_succ];go_upto_region 8 with fail;refine RL hS ?_;clear hS;refine MV ?_;refine MV ?_;refine MW ?_ (v:=.int .i64 (((8*l.length:Nat):Int))) (hv:=by intro W;go_simp;(try simp only[IntKind.wrap_u64,IntKind.wrap_i64]);(try omega));refine MW ?_ (v:=.int .i64 40);refine MW ?_ (v:=.int .i64 (((8*l.length / 1099511627776:Nat):Int))) (hv:=by intro W;rw[←J80 (8*l.length) 40 1099511627776 (by decide)];exact J0z (n:=40) (by decide) rfl rfl rfl);refine MW ?_ (v:=.int .u8 ((u8 ((8*l.length) / 1099511627776)).toNat:Int)) (hv:=by intro W;rw[←J7z (8*l.length) 1099511627776];exact J2h rfl rfl);refine MD 0 ?_;refine MO (m:=[u8 ((8*l.length) / 1099511627776)]) (n:=1) (z:= #[.int .u8 ((u8 ((8*l.length) / 1099511627776)).toNat:Int)]) ?_;intro D0;refine MAz 1 (xs:=(((l++[128]++List.replicate (zc4 l.length) 0)++[u8 ((8*l.length) / 72057594037927936)])++[u8 ((8*l.length) / 281474976710656)])) (ys:=[u8 ((8*l.length) / 1099511627776)]) (fun W hS=>(hS.osl (i:=0) rfl)) (by first|omega|(simp only[List.length_append,List.length_cons,List.length_nil,List.length_replicate,J0t];omega)) ?_;intro Ξ;refine MV ?_;refine MZ fun W hS=> ?_
  go_wp2_with fail
  rw[rounds_succ];go_upto_region 8 with fail;refine RL hS ?_;clear hS;refine MV ?_;refine MV ?_;refine MW ?_ (v:=.int .i64 (((8*l.length:Nat):Int))) (hv:=by intro W;go_simp;(try simp only[IntKind.wrap_u64,IntKind.wrap_i64]);(try omega));refine MW ?_ (v:=.int .i64 32);refine MW ?_ (v:=.int .i64 (((8*l.length / 4294967296:Nat):Int))) (hv:=by intro W;rw[←J80 (8*l.length) 32 4294967296 (by decide)];exact J0z (n:=32) (by decide) rfl rfl rfl);refine MW ?_ (v:=.int .u8 ((u8 ((8*l.length) / 4294967296)).toNat:Int)) (hv:=by intro W;rw[←J7z (8*l.length) 4294967296];exact J2h rfl rfl);refine MD 0 ?_;refine MO (m:=[u8 ((8*l.length) / 4294967296)]) (n:=1) (z:= #[.int .u8 ((u8 ((8*l.length) / 4294967296)).toNat:Int)]) ?_;intro D9;refine MAz 1 (xs:=((((l++[128]++List.replicate (zc4 l.length) 0)++[u8 ((8*l.length) / 72057594037927936)])++[u8 ((8*l.length) / 281474976710656)])++[u8 ((8*l.length) / 1099511627776)])) (ys:=[u8 ((8*l.length) / 4294967296)]) (fun W hS=>(hS.osl (i:=0) rfl)) (by first|omega|(simp only[List.length_append,List.length_cons,List.length_nil,List.length_replicate,J0t];omega)) ?_;intro D7;refine MV ?_;refine MZ fun W hS=> ?_
  go_wp2_with fail
  rw[rounds_succ];go_upto_region 8 with fail;refine RL hS ?_;clear hS;refine MV ?_;refine MV ?_;refine MW ?_ (v:=.int .i64 (((8*l.length:Nat):Int))) (hv:=by intro W;go_simp;(try simp only[IntKind.wrap_u64,IntKind.wrap_i64]);(try omega));refine MW ?_ (v:=.int .i64 24);refine MW ?_ (v:=.int .i64 (((8*l.length / 16777216:Nat):Int))) (hv:=by intro W;rw[←J80 (8*l.length) 24 16777216 (by decide)];exact J0z (n:=24) (by decide) rfl rfl rfl);refine MW ?_ (v:=.int .u8 ((u8 ((8*l.length) / 16777216)).toNat:Int)) (hv:=by intro W;rw[←J7z (8*l.length) 16777216];exact J2h rfl rfl);refine MD 0 ?_;refine MO (m:=[u8 ((8*l.length) / 16777216)]) (n:=1) (z:= #[.int .u8 ((u8 ((8*l.length) / 16777216)).toNat:Int)]) ?_;intro σ;refine MAz 1 (xs:=(((((l++[128]++List.replicate (zc4 l.length) 0)++[u8 ((8*l.length) / 72057594037927936)])++[u8 ((8*l.length) / 281474976710656)])++[u8 ((8*l.length) / 1099511627776)])++[u8 ((8*l.length) / 4294967296)])) (ys:=[u8 ((8*l.length) / 16777216)]) (fun W hS=>(hS.osl (i:=0) rfl)) (by first|omega|(simp only[List.length_append,List.length_cons,List.length_nil,List.length_replicate,J0t];omega)) ?_;intro G2;refine MV ?_;refine MZ fun W hS=> ?_
  go_wp2_with fail
  rw[rounds_succ];go_upto_region 8 with fail;refine RL hS ?_;clear hS;refine MV ?_;refine MV ?_;refine MW ?_ (v:=.int .i64 (((8*l.length:Nat):Int))) (hv:=by intro W;go_simp;(try simp only[IntKind.wrap_u64,IntKind.wrap_i64]);(try omega));refine MW ?_ (v:=.int .i64 16);refine MW ?_ (v:=.int .i64 (((8*l.length / 65536:Nat):Int))) (hv:=by intro W;rw[←J80 (8*l.length) 16 65536 (by decide)];exact J0z (n:=16) (by decide) rfl rfl rfl);refine MW ?_ (v:=.int .u8 ((u8 ((8*l.length) / 65536)).toNat:Int)) (hv:=by intro W;rw[←J7z (8*l.length) 65536];exact J2h rfl rfl);refine MD 0 ?_;refine MO (m:=[u8 ((8*l.length) / 65536)]) (n:=1) (z:= #[.int .u8 ((u8 ((8*l.length) / 65536)).toNat:Int)]) ?_;intro τ;refine MAz 1 (xs:=((((((l++[128]++List.replicate (zc4 l.length) 0)++[u8 ((8*l.length) / 72057594037927936)])++[u8 ((8*l.length) / 281474976710656)])++[u8 ((8*l.length) / 1099511627776)])++[u8 ((8*l.length) / 4294967296)])++[u8 ((8*l.length) / 16777216)])) (ys:=[u8 ((8*l.length) / 65536)]) (fun W hS=>(hS.osl (i:=0) rfl)) (by first|omega|(simp only[List.length_append,List.length_cons,List.length_nil,List.length_replicate,J0t];omega)) ?_;intro Δ;refine MV ?_;refine MZ fun W hS=> ?_
  go_wp2_with fail
  rw[rounds_succ];go_upto_region 8 with fail;refine RL hS ?_;clear hS;refine MV ?_;refine MV ?_;refine MW ?_ (v:=.int .i64 (((8*l.length:Nat):Int))) (hv:=by intro W;go_simp;(try simp only[IntKind.wrap_u64,IntKind.wrap_i64]);(try omega));refine MW ?_ (v:=.int .i64 8);refine MW ?_ (v:=.int .i64 (((8*l.length / 256:Nat):Int))) (hv:=by intro W;rw[←J80 (8*l.length) 8 256 (by decide)];exact J0z (n:=8) (by decide) rfl rfl rfl);refine MW ?_ (v:=.int .u8 ((u8 ((8*l.length) / 256)).toNat:Int)) (hv:=by intro W;rw[←J7z (8*l.length) 256];exact J2h rfl rfl);refine MD 0 ?_;refine MO (m:=[u8 ((8*l.length) / 256)]) (n:=1) (z:= #[.int .u8 ((u8 ((8*l.length) / 256)).toNat:Int)]) ?_;intro Θ;refine MAz 1 (xs:=(((((((l++[128]++List.replicate (zc4 l.length) 0)++[u8 ((8*l.length) / 72057594037927936)])++[u8 ((8*l.length) / 281474976710656)])++[u8 ((8*l.length) / 1099511627776)])++[u8 ((8*l.length) / 4294967296)])++[u8 ((8*l.length) / 16777216)])++[u8 ((8*l.length) / 65536)])) (ys:=[u8 ((8*l.length) / 256)]) (fun W hS=>(hS.osl (i:=0) rfl)) (by first|omega|(simp only[List.length_append,List.length_cons,List.length_nil,List.length_replicate,J0t];omega)) ?_;intro Γ;refine MV ?_;refine MZ fun W hS=> ?_
  go_wp2_with fail
  rw[rounds_succ];go_upto_region 8 with fail;refine RL hS ?_;clear hS;refine MV ?_;refine MV ?_;refine MW ?_ (v:=.int .i64 (((8*l.length:Nat):Int))) (hv:=by intro W;go_simp;(try simp only[IntKind.wrap_u64,IntKind.wrap_i64]);(try omega));refine W0 ?_;refine MW ?_ (v:=.int .i64 (((8*l.length:Nat):Int))) (hv:=by intro W;exact Z38 rfl rfl rfl);refine MW ?_ (v:=.int .u8 ((u8 (8*l.length)).toNat:Int)) (hv:=by intro W;rw[←Y8e (8*l.length)];exact J2h rfl rfl);refine MD 0 ?_;refine MO (m:=[u8 (8*l.length)]) (n:=1) (z:= #[.int .u8 ((u8 (8*l.length)).toNat:Int)]) ?_;intro Ω;refine MAz 1 (xs:=((((((((l++[128]++List.replicate (zc4 l.length) 0)++[u8 ((8*l.length) / 72057594037927936)])++[u8 ((8*l.length) / 281474976710656)])++[u8 ((8*l.length) / 1099511627776)])++[u8 ((8*l.length) / 4294967296)])++[u8 ((8*l.length) / 16777216)])++[u8 ((8*l.length) / 65536)])++[u8 ((8*l.length) / 256)])) (ys:=[u8 (8*l.length)]) (fun W hS=>(hS.osl (i:=0) rfl)) (by first|omega|(simp only[List.length_append,List.length_cons,List.length_nil,List.length_replicate,J0t];omega)) ?_;intro U;refine MV ?_;refine MZ fun W hS=> ?_
  go_wp2_with fail
  rw[rounds_succ];go_upto_region 9 with fail;refine RL hS ?_;clear hS;refine MF (v:=.agg (J0 .i64 8 hf4)) (fun W hS=>J2a rfl rfl ((Q0t HG.out hS.ext).2) (by kernel_rfl) (by rw[J1];kernel_rfl)) ?_;refine MN (z:=J0 .i64 8 (fun _=>0)) (t:=248) ?_;intro M;refine MR 0 ?_;refine MZ fun W hS=> ?_;rw[Q8l] at hS;have hS:=hS.readw (i:=2) rfl (hS.ozl (i:=2) rfl) J8h
  go_wp2_with fail
  go_loopw [7] (fun ii wr=> ∃(j:Nat),(j≤nb4 l.length)∧(ii=.int .i64 ((64*j:Nat):Int))∧SH [] w wr [.b M (J0 .i64 8 (Hs4 (J0e l) j)) 248,.s U (J0e l)])
   (fun ii _=>64*nb4 l.length-(intOf ii).toNat)
  case atStart=>exact⟨0,Nat.zero_le _,rfl,(hS.pick [0,2])⟩
  clear hS
  case round=>
   obtain⟨j,hj,rfl,hS⟩:=hrel
   by_cases ε:j<nb4 l.length
   ·
    obtain⟨h_,V⟩:=exn (Hs4 (J0e l) j);obtain⟨b_,β⟩:=exn (bt (List.drop (64*j) (J0e l)));rw[←V] at hS;have hh:=V71 (J0e l) j;have hb:=V6z (List.drop (64*j) (J0e l));rw[←V] at hh;rw[←β] at hb;have Hh:=Lib.hid V;have Hb:=Lib.hid β;clear V β;go_upto_region 11 with fail;refine RL hS ?_;clear hS;refine MV ?_;refine MV ?_;refine MF (v:=.int .i64 ((J0e l).length:Int)) (fun W hS=>Z9 (hS.sl (i:=1) rfl) rfl rfl) ?_;refine MW ?_ (v:=.bool true) (hv:=by intro W;first|(go_simp;done)|(go_simp;(try simp only[δ]);omega));refine MZ fun W hS=> ?_;go_upto_region 13 with fail;refine RL hS ?_;clear hS;refine MN (z:=J0 .i64 64 (fun _=>0)) (t:=249) ?_;intro N;refine MZ fun W hS=> ?_
    go_wp2_with fail
    go_loopw [9] (fun ii wr=> ∃(i:Nat),(i≤64)∧(ii=.int .i64 (i:Int))∧SH [] w wr [.b N (J0 .i64 64 (Q2 b_ i)) 249,.b M (J0 .i64 8 h_) 248,.s U (J0e l)])
     (fun ii _=>64-(intOf ii).toNat)
    case atStart=>exact⟨0,Nat.zero_le _,rfl,hS⟩
    clear hS
    case round=>
     obtain⟨i,hi,rfl,hS⟩:=hrel;have G:=Q75 hb i
     by_cases S:i<64
     ·
      go_upto_region 15 with fail;refine RL hS ?_;clear hS;refine MV ?_;refine Wt ?_;refine MZ fun W hS=> ?_
      by_cases R:i<16
      ·
       obtain⟨J,ρ⟩:∃J,64*j+4*i=J:=⟨_,rfl⟩
       have hJ:J+3<(J0e l).length:=by rw[δ];omega
       have T:=Y8m (J0e l) (64*j) i J ρ;rw[←Hb.out] at T;have ν:=Lib.hid T;clear T;go_upto_region 17 with fail;refine RL hS ?_;clear hS;refine MV ?_;refine Wt ?_;refine MZ fun W hS=> ?_;go_upto_region 18 with fail;refine RL hS ?_;clear hS;refine MV ?_;refine MV ?_;refine MW ?_ (v:=.int .i64 (((4*i:Nat):Int))) (hv:=by intro W;go_simp;(try simp only[IntKind.wrap_u64,IntKind.wrap_i64]);(try omega));refine MW ?_ (v:=.int .i64 (((J:Nat):Int))) (hv:=by intro W;go_simp;(try simp only[IntKind.wrap_u64,IntKind.wrap_i64]);(try omega));refine MV ?_;refine MZ fun W hS=> ?_;go_upto_region 19 with fail;refine RX 31 hS ?_;clear hS;(iterate 3 refine MV ?_);refine MJ 2 J (b:=((J0e l).getD (J) 0)) (J2k (by omega)) ?_;intro η c_ Z;refine MF (v:=.int .u8 (((J0e l).getD (J) 0).toNat:Int)) (fun W hS=>Q9 rfl rfl (Q4q (by rw[←Z.out];exact(hS.sl (i:=2) rfl)) (J2k (by omega))) (by kernel_rfl)) ?_;refine MW ?_ (hv:=fun _=>Q1o rfl rfl);refine MW ?_ (v:=.int .i64 ((bt (J0e l) (J))*2^24)) (hv:=by intro W;rw[←shb (J0e l) (J) (n:=24) (by decide)];exact J9w (n:=24) (by decide) rfl rfl rfl);refine MV ?_;refine MV ?_;refine MW ?_ (v:=.int .i64 (((J+1:Nat):Int))) (hv:=by intro W;go_simp;(try simp only[IntKind.wrap_u64,IntKind.wrap_i64]);(try omega));refine MJ 2 (J+1) (b:=((J0e l).getD (J+1) 0)) (J2k (by omega)) ?_;intro θ c_ α;refine MF (v:=.int .u8 (((J0e l).getD (J+1) 0).toNat:Int)) (fun W hS=>Q9 rfl rfl (Q4q (by rw[←α.out];exact(hS.sl (i:=2) rfl)) (J2k (by omega))) (by kernel_rfl)) ?_;refine MW ?_ (hv:=fun _=>Q1o rfl rfl);refine MW ?_ (v:=.int .i64 ((bt (J0e l) (J+1))*2^16)) (hv:=by intro W;rw[←shb (J0e l) (J+1) (n:=16) (by decide)];exact J9w (n:=16) (by decide) rfl rfl rfl);refine MW ?_ (hv:=fun _=>Q1m rfl rfl rfl);refine MV ?_;refine MV ?_;refine MW ?_ (v:=.int .i64 (((J+2:Nat):Int))) (hv:=by intro W;go_simp;(try simp only[IntKind.wrap_u64,IntKind.wrap_i64]);(try omega));refine MJ 2 (J+2) (b:=((J0e l).getD (J+2) 0)) (J2k (by omega)) ?_;intro κ c_ X;refine MF (v:=.int .u8 (((J0e l).getD (J+2) 0).toNat:Int)) (fun W hS=>Q9 rfl rfl (Q4q (by rw[←X.out];exact(hS.sl (i:=2) rfl)) (J2k (by omega))) (by kernel_rfl)) ?_;refine MW ?_ (hv:=fun _=>Q1o rfl rfl);refine MW ?_ (v:=.int .i64 ((bt (J0e l) (J+2))*2^8)) (hv:=by intro W;rw[←shb (J0e l) (J+2) (n:=8) (by decide)];exact J9w (n:=8) (by decide) rfl rfl rfl);refine MW ?_ (hv:=fun _=>Q1m rfl rfl rfl);refine MV ?_;refine MV ?_;refine MW ?_ (v:=.int .i64 (((J+3:Nat):Int))) (hv:=by intro W;go_simp;(try simp only[IntKind.wrap_u64,IntKind.wrap_i64]);(try omega));refine MJ 2 (J+3) (b:=((J0e l).getD (J+3) 0)) (J2k (by omega)) ?_;intro ζ c_ Y;refine MF (v:=.int .u8 (((J0e l).getD (J+3) 0).toNat:Int)) (fun W hS=>Q9 rfl rfl (Q4q (by rw[←Y.out];exact(hS.sl (i:=2) rfl)) (J2k (by omega))) (by kernel_rfl)) ?_;refine MW ?_ (hv:=fun _=>Q1o rfl rfl);refine MW ?_ (v:=.int .i64 (J40 b_ i 4)) (hv:=by intro W;rw[ν.out];exact Q1m rfl rfl rfl);refine MW ?_ (v:=.pointer (some ⟨N,0+i,none⟩)) (hv:=fun _=>rxa Tryz.underlying249 (by omega));refine MZt ?_;refine MP 0 (v:=.int .i64 (J40 b_ i 4)) (cs' :=J0 .i64 64 (upd (Q2 b_ i) i (J40 b_ i 4))) ?_ (hs:=by rw[J1,Nat.zero_add];omega) (hc:=by rw[Nat.zero_add];exact V8 _ _ _ _ _);refine MZn fun W hS=> ?_;rw[Y8n R] at hS;go_wp2;go_roundw
       case rel=>exact⟨i+1,by omega,by go_num,hS⟩
       case measure=>simp[intOf];omega
      replace R:16≤i:=by omega
      have p1:=G (i-16);have p2:=Q93 (G (i-15)) 7 18 3;have p3:=G (i-7);have p4:=Q93 (G (i-2)) 17 19 10;unfold W4 at p1 p2 p3 p4;go_upto_region 17 with fail;refine RL hS ?_;clear hS;refine MV ?_;refine Wf ?_;refine MZ fun W hS=> ?_;go_upto_region 20 with fail;refine RS hS ?_;clear hS;refine MV ?_;refine MW ?_ (v:=.int .i64 (((i-15:Nat):Int))) (hv:=by intro W;go_simp;(try simp only[IntKind.wrap_u64,IntKind.wrap_i64]);(try omega));refine MW ?_ (v:=.pointer (some ⟨N,0+(i-15),none⟩)) (hv:=fun _=>rxa Tryz.underlying249 (by omega));refine MG 0 ?_ (j:=0+(i-15)) (v:=.int .i64 ((Q2 b_ i) (i-15))) (hj:=ag0 (by omega));refine MV ?_;refine MW ?_ (v:=.int .i64 (((i-2:Nat):Int))) (hv:=by intro W;go_simp;(try simp only[IntKind.wrap_u64,IntKind.wrap_i64]);(try omega));refine MW ?_ (v:=.pointer (some ⟨N,0+(i-2),none⟩)) (hv:=fun _=>rxa Tryz.underlying249 (by omega));refine MG 0 ?_ (j:=0+(i-2)) (v:=.int .i64 ((Q2 b_ i) (i-2))) (hj:=ag0 (by omega));refine MV ?_;refine MV ?_;refine MZx fun W hS=> ?_;go_upto_region 21 with fail;refine RX 30 hS ?_;clear hS;refine MV ?_;refine MV ?_;refine MW ?_ (v:=.int .i64 (((i-16:Nat):Int))) (hv:=by intro W;go_simp;(try simp only[IntKind.wrap_u64,IntKind.wrap_i64]);(try omega));refine MW ?_ (v:=.pointer (some ⟨N,0+(i-16),none⟩)) (hv:=fun _=>rxa Tryz.underlying249 (by omega));refine MG 0 ?_ (j:=0+(i-16)) (v:=.int .i64 ((Q2 b_ i) (i-16))) (hj:=ag0 (by omega));refine MV ?_;refine MC (v:=.int .i64 (rt4 ((Q2 b_ i) (i-15)) 7)) (fun W hS=>J3h ((Q2 b_ i) (i-15)) (G (i-15)) 7 (by decide) (by decide) W) ?_;refine MV ?_;refine MC (v:=.int .i64 (rt4 ((Q2 b_ i) (i-15)) 18)) (fun W hS=>J3h ((Q2 b_ i) (i-15)) (G (i-15)) 18 (by decide) (by decide) W) ?_;refine MW ?_ (hv:=fun _=>J66 (J2t (G (i-15))) (J2t (G (i-15))) rfl rfl rfl);refine MV ?_;refine MW ?_ (hv:=fun _=>J0z (n:=3) (by decide) rfl rfl rfl);refine MW ?_ (v:=.int .i64 (J2l (Q2 b_ i (i-15)) 7 18 3)) (hv:=fun _=>J66 (J5h (J2t (G (i-15))) (J2t (G (i-15)))) (Z3i (G (i-15))) rfl rfl rfl);refine MW ?_ (hv:=fun _=>J30 (by omega) rfl rfl rfl);refine MV ?_;refine MW ?_ (v:=.int .i64 (((i-7:Nat):Int))) (hv:=by intro W;go_simp;(try simp only[IntKind.wrap_u64,IntKind.wrap_i64]);(try omega));refine MW ?_ (v:=.pointer (some ⟨N,0+(i-7),none⟩)) (hv:=fun _=>rxa Tryz.underlying249 (by omega));refine MG 0 ?_ (j:=0+(i-7)) (v:=.int .i64 ((Q2 b_ i) (i-7))) (hj:=ag0 (by omega));refine MW ?_ (hv:=fun _=>J30 (by omega) rfl rfl rfl);refine MV ?_;refine MC (v:=.int .i64 (rt4 ((Q2 b_ i) (i-2)) 17)) (fun W hS=>J3h ((Q2 b_ i) (i-2)) (G (i-2)) 17 (by decide) (by decide) W) ?_;refine MV ?_;refine MC (v:=.int .i64 (rt4 ((Q2 b_ i) (i-2)) 19)) (fun W hS=>J3h ((Q2 b_ i) (i-2)) (G (i-2)) 19 (by decide) (by decide) W) ?_;refine MW ?_ (hv:=fun _=>J66 (J2t (G (i-2))) (J2t (G (i-2))) rfl rfl rfl);refine MV ?_;refine MW ?_ (hv:=fun _=>J0z (n:=10) (by decide) rfl rfl rfl);refine MW ?_ (v:=.int .i64 (J2l (Q2 b_ i (i-2)) 17 19 10)) (hv:=fun _=>J66 (J5h (J2t (G (i-2))) (J2t (G (i-2)))) (Z3i (G (i-2))) rfl rfl rfl);refine MW ?_ (hv:=fun _=>J30 (by omega) rfl rfl rfl);refine MW ?_ (v:=.int .i64 (sg4 (Q2 b_ i) i)) (hv:=by intro W;rw[V1e,←Q40 (by omega) (by omega)];exact J4l rfl rfl rfl);refine MW ?_ (v:=.pointer (some ⟨N,0+i,none⟩)) (hv:=fun _=>rxa Tryz.underlying249 (by omega));refine MZt ?_;refine MP 0 (v:=.int .i64 (sg4 (Q2 b_ i) i)) (cs' :=J0 .i64 64 (upd (Q2 b_ i) i (sg4 (Q2 b_ i) i))) ?_ (hs:=by rw[J1,Nat.zero_add];omega) (hc:=by rw[Nat.zero_add];exact V8 _ _ _ _ _);refine MZn fun W hS=> ?_;rw[Z65 R] at hS;go_wp2;go_roundw
      case rel=>exact⟨i+1,by omega,by go_num,hS⟩
      case measure=>simp[intOf];omega
     obtain rfl:i=64:=by omega
     go_upto_region 15 with fail;refine RL hS ?_;clear hS;refine MV ?_;refine Wf ?_;refine MZ fun W hS=> ?_;go_upto_region 22 with fail;refine RL hS ?_;clear hS;refine ML 1 ?_;refine MN (z:=J0 .i64 8 (fun _=>0)) (t:=248) ?_;intro D;refine MR 0 ?_;refine MZ fun W hS=> ?_
     go_wp2_with fail
     go_loopw [14] (fun ii wr=> ∃(i:Nat),(i≤64)∧(ii=.int .i64 (i:Int))∧SH [] w wr [.b D (J0 .i64 8 (Q3 U0 (Q2 b_ 64) h_ i)) 248,.b N (J0 .i64 64 (Q2 b_ 64)) 249,.b M (J0 .i64 8 h_) 248,.s U (J0e l)])
      (fun ii _=>64-(intOf ii).toNat)
     case atStart=>exact⟨0,Nat.zero_le _,rfl,hS⟩
     clear hS
     case round=>
      obtain⟨i,hi,rfl,hS⟩:=hrel;have hv:=Q76 (k:=U0) (w:=Q2 b_ 64) hh i;have q7:=hv 7;have q3:=hv 3;have qk:=Y96 i;have qw:=Q75 hb 64 i;have qb:=Q74 (hv 4) 6 11 25;have qc:=J5h (J4r (hv 4) (hv 5)) (J4r (Z3g (hv 4)) (hv 6));have qB:=Q74 (hv 0) 2 13 22;have qM:=J5h (J5h (J4r (hv 0) (hv 1)) (J4r (hv 0) (hv 2))) (J4r (hv 1) (hv 2));have qT:=V1g i (Y96 i) (Q75 hb 64 i) hv;have qU:=V1h hv;unfold W4 at q7 q3 qk qw qb qc qB qM
      by_cases S:i<64
      ·
       go_upto_region 24 with fail;refine RL hS ?_;clear hS;refine MV ?_;refine Wt ?_;refine MZ fun W hS=> ?_;go_upto_region 26 with fail;refine RS hS ?_;clear hS;refine MW ?_ (v:=.pointer (some ⟨D,0+7,none⟩)) (hv:=fun _=>rxa Tryz.underlying248 (by omega));refine MG 0 ?_ (j:=0+7) (v:=.int .i64 ((Q3 U0 (Q2 b_ 64) h_ i) 7)) (hj:=ag0 (by omega));refine MW ?_ (v:=.pointer (some ⟨D,0+4,none⟩)) (hv:=fun _=>rxa Tryz.underlying248 (by omega));refine MG 0 ?_ (j:=0+4) (v:=.int .i64 ((Q3 U0 (Q2 b_ 64) h_ i) 4)) (hj:=ag0 (by omega));refine MC (v:=.int .i64 (rt4 ((Q3 U0 (Q2 b_ 64) h_ i) 4) 6)) (fun W hS=>J3h ((Q3 U0 (Q2 b_ 64) h_ i) 4) (hv 4) 6 (by decide) (by decide) W) ?_;refine MW ?_ (v:=.pointer (some ⟨D,0+4,none⟩)) (hv:=fun _=>rxa Tryz.underlying248 (by omega));refine MG 0 ?_ (j:=0+4) (v:=.int .i64 ((Q3 U0 (Q2 b_ 64) h_ i) 4)) (hj:=ag0 (by omega));refine MC (v:=.int .i64 (rt4 ((Q3 U0 (Q2 b_ 64) h_ i) 4) 11)) (fun W hS=>J3h ((Q3 U0 (Q2 b_ 64) h_ i) 4) (hv 4) 11 (by decide) (by decide) W) ?_;refine MW ?_ (hv:=fun _=>J66 (J2t (hv 4)) (J2t (hv 4)) rfl rfl rfl);refine MW ?_ (v:=.pointer (some ⟨D,0+4,none⟩)) (hv:=fun _=>rxa Tryz.underlying248 (by omega));refine MG 0 ?_ (j:=0+4) (v:=.int .i64 ((Q3 U0 (Q2 b_ 64) h_ i) 4)) (hj:=ag0 (by omega));refine MC (v:=.int .i64 (rt4 ((Q3 U0 (Q2 b_ 64) h_ i) 4) 25)) (fun W hS=>J3h ((Q3 U0 (Q2 b_ 64) h_ i) 4) (hv 4) 25 (by decide) (by decide) W) ?_;refine MW ?_ (v:=.int .i64 (Q2y (Q3 U0 (Q2 b_ 64) h_ i 4) 6 11 25)) (hv:=fun _=>J66 (J5h (J2t (hv 4)) (J2t (hv 4))) (J2t (hv 4)) rfl rfl rfl);refine MW ?_ (hv:=fun _=>J30 (by omega) rfl rfl rfl);refine MW ?_ (v:=.pointer (some ⟨D,0+4,none⟩)) (hv:=fun _=>rxa Tryz.underlying248 (by omega));refine MG 0 ?_ (j:=0+4) (v:=.int .i64 ((Q3 U0 (Q2 b_ 64) h_ i) 4)) (hj:=ag0 (by omega));refine MW ?_ (v:=.pointer (some ⟨D,0+5,none⟩)) (hv:=fun _=>rxa Tryz.underlying248 (by omega));refine MG 0 ?_ (j:=0+5) (v:=.int .i64 ((Q3 U0 (Q2 b_ 64) h_ i) 5)) (hj:=ag0 (by omega));refine MW ?_ (hv:=fun _=>Q5l (hv 4) (hv 5) rfl rfl rfl);refine MW ?_ (v:=.pointer (some ⟨D,0+4,none⟩)) (hv:=fun _=>rxa Tryz.underlying248 (by omega));refine MG 0 ?_ (j:=0+4) (v:=.int .i64 ((Q3 U0 (Q2 b_ 64) h_ i) 4)) (hj:=ag0 (by omega));refine MW ?_ (hv:=fun _=>V6a (hv 4) rfl rfl rfl);refine MW ?_ (v:=.pointer (some ⟨D,0+6,none⟩)) (hv:=fun _=>rxa Tryz.underlying248 (by omega));refine MG 0 ?_ (j:=0+6) (v:=.int .i64 ((Q3 U0 (Q2 b_ 64) h_ i) 6)) (hj:=ag0 (by omega));refine MW ?_ (hv:=fun _=>Q5l (Z3g (hv 4)) (hv 6) rfl rfl rfl);refine MW ?_ (hv:=fun _=>J66 (J4r (hv 4) (hv 5)) (J4r (Z3g (hv 4)) (hv 6)) rfl rfl rfl);refine MW ?_ (hv:=fun _=>J30 (by omega) rfl rfl rfl);refine MV ?_;refine MW ?_ (v:=.pointer (some ⟨7,0+i,none⟩)) (hv:=fun _=>rxa Tryz.underlying249 (by omega));refine MF (v:=.int .i64 (U0 i)) (fun W hS=>Q9 rfl rfl (((Q0t HG.out hS.ext).1).1 _ _ (ag0 (by omega))) (by kernel_rfl)) ?_;refine MW ?_ (hv:=fun _=>J30 (by omega) rfl rfl rfl);refine MV ?_;refine MW ?_ (v:=.pointer (some ⟨N,0+i,none⟩)) (hv:=fun _=>rxa Tryz.underlying249 (by omega));refine MG 1 ?_ (j:=0+i) (v:=.int .i64 ((Q2 b_ 64) i)) (hj:=ag0 (by omega));refine MW ?_ (v:=.int .i64 (rTs U0 (Q2 b_ 64) i (Q3 U0 (Q2 b_ 64) h_ i))) (hv:=by intro W;unfold rTs;exact J30 (by omega) rfl rfl rfl);refine MV ?_;refine MZx fun W hS=> ?_;go_upto_region 27 with fail;refine RS hS ?_;clear hS;refine MW ?_ (v:=.pointer (some ⟨D,0+0,none⟩)) (hv:=fun _=>rxa Tryz.underlying248 (by omega));refine MG 0 ?_ (j:=0+0) (v:=.int .i64 ((Q3 U0 (Q2 b_ 64) h_ i) 0)) (hj:=ag0 (by omega));refine MC (v:=.int .i64 (rt4 ((Q3 U0 (Q2 b_ 64) h_ i) 0) 2)) (fun W hS=>J3h ((Q3 U0 (Q2 b_ 64) h_ i) 0) (hv 0) 2 (by decide) (by decide) W) ?_;refine MW ?_ (v:=.pointer (some ⟨D,0+0,none⟩)) (hv:=fun _=>rxa Tryz.underlying248 (by omega));refine MG 0 ?_ (j:=0+0) (v:=.int .i64 ((Q3 U0 (Q2 b_ 64) h_ i) 0)) (hj:=ag0 (by omega));refine MC (v:=.int .i64 (rt4 ((Q3 U0 (Q2 b_ 64) h_ i) 0) 13)) (fun W hS=>J3h ((Q3 U0 (Q2 b_ 64) h_ i) 0) (hv 0) 13 (by decide) (by decide) W) ?_;refine MW ?_ (hv:=fun _=>J66 (J2t (hv 0)) (J2t (hv 0)) rfl rfl rfl);refine MW ?_ (v:=.pointer (some ⟨D,0+0,none⟩)) (hv:=fun _=>rxa Tryz.underlying248 (by omega));refine MG 0 ?_ (j:=0+0) (v:=.int .i64 ((Q3 U0 (Q2 b_ 64) h_ i) 0)) (hj:=ag0 (by omega));refine MC (v:=.int .i64 (rt4 ((Q3 U0 (Q2 b_ 64) h_ i) 0) 22)) (fun W hS=>J3h ((Q3 U0 (Q2 b_ 64) h_ i) 0) (hv 0) 22 (by decide) (by decide) W) ?_;refine MW ?_ (v:=.int .i64 (Q2y (Q3 U0 (Q2 b_ 64) h_ i 0) 2 13 22)) (hv:=fun _=>J66 (J5h (J2t (hv 0)) (J2t (hv 0))) (J2t (hv 0)) rfl rfl rfl);refine MW ?_ (v:=.pointer (some ⟨D,0+0,none⟩)) (hv:=fun _=>rxa Tryz.underlying248 (by omega));refine MG 0 ?_ (j:=0+0) (v:=.int .i64 ((Q3 U0 (Q2 b_ 64) h_ i) 0)) (hj:=ag0 (by omega));refine MW ?_ (v:=.pointer (some ⟨D,0+1,none⟩)) (hv:=fun _=>rxa Tryz.underlying248 (by omega));refine MG 0 ?_ (j:=0+1) (v:=.int .i64 ((Q3 U0 (Q2 b_ 64) h_ i) 1)) (hj:=ag0 (by omega));refine MW ?_ (hv:=fun _=>Q5l (hv 0) (hv 1) rfl rfl rfl);refine MW ?_ (v:=.pointer (some ⟨D,0+0,none⟩)) (hv:=fun _=>rxa Tryz.underlying248 (by omega));refine MG 0 ?_ (j:=0+0) (v:=.int .i64 ((Q3 U0 (Q2 b_ 64) h_ i) 0)) (hj:=ag0 (by omega));refine MW ?_ (v:=.pointer (some ⟨D,0+2,none⟩)) (hv:=fun _=>rxa Tryz.underlying248 (by omega));refine MG 0 ?_ (j:=0+2) (v:=.int .i64 ((Q3 U0 (Q2 b_ 64) h_ i) 2)) (hj:=ag0 (by omega));refine MW ?_ (hv:=fun _=>Q5l (hv 0) (hv 2) rfl rfl rfl);refine MW ?_ (hv:=fun _=>J66 (J4r (hv 0) (hv 1)) (J4r (hv 0) (hv 2)) rfl rfl rfl);refine MW ?_ (v:=.pointer (some ⟨D,0+1,none⟩)) (hv:=fun _=>rxa Tryz.underlying248 (by omega));refine MG 0 ?_ (j:=0+1) (v:=.int .i64 ((Q3 U0 (Q2 b_ 64) h_ i) 1)) (hj:=ag0 (by omega));refine MW ?_ (v:=.pointer (some ⟨D,0+2,none⟩)) (hv:=fun _=>rxa Tryz.underlying248 (by omega));refine MG 0 ?_ (j:=0+2) (v:=.int .i64 ((Q3 U0 (Q2 b_ 64) h_ i) 2)) (hj:=ag0 (by omega));refine MW ?_ (hv:=fun _=>Q5l (hv 1) (hv 2) rfl rfl rfl);refine MW ?_ (hv:=fun _=>J66 (J5h (J4r (hv 0) (hv 1)) (J4r (hv 0) (hv 2))) (J4r (hv 1) (hv 2)) rfl rfl rfl);refine MW ?_ (v:=.int .i64 (rUs (Q3 U0 (Q2 b_ 64) h_ i))) (hv:=by intro W;unfold rUs;exact J30 (by omega) rfl rfl rfl);refine MV ?_;refine MZx fun W hS=> ?_;go_upto_region 28 with fail;refine RL hS ?_;clear hS;refine MV ?_;refine MV ?_;refine MW ?_ (hv:=fun _=>J30 (by omega) rfl rfl rfl);refine MW ?_ (v:=.int .i64 (Z1d U0 (Q2 b_ 64) i (Q3 U0 (Q2 b_ 64) h_ i) 0)) (hv:=by intro W;rw[←K2j,←Q40 (by omega) (by omega)];exact J4l rfl rfl rfl);refine MW ?_ (v:=.pointer (some ⟨D,0+0,none⟩)) (hv:=fun _=>rxa Tryz.underlying248 (by omega));refine MG 0 ?_ (j:=0+0) (v:=.int .i64 ((Q3 U0 (Q2 b_ 64) h_ i) 0)) (hj:=ag0 (by omega));refine MW ?_ (v:=.pointer (some ⟨D,0+1,none⟩)) (hv:=fun _=>rxa Tryz.underlying248 (by omega));refine MG 0 ?_ (j:=0+1) (v:=.int .i64 ((Q3 U0 (Q2 b_ 64) h_ i) 1)) (hj:=ag0 (by omega));refine MW ?_ (v:=.pointer (some ⟨D,0+2,none⟩)) (hv:=fun _=>rxa Tryz.underlying248 (by omega));refine MG 0 ?_ (j:=0+2) (v:=.int .i64 ((Q3 U0 (Q2 b_ 64) h_ i) 2)) (hj:=ag0 (by omega));refine MW ?_ (v:=.pointer (some ⟨D,0+3,none⟩)) (hv:=fun _=>rxa Tryz.underlying248 (by omega));refine MG 0 ?_ (j:=0+3) (v:=.int .i64 ((Q3 U0 (Q2 b_ 64) h_ i) 3)) (hj:=ag0 (by omega));refine MV ?_;refine MW ?_ (hv:=fun _=>J30 (by omega) rfl rfl rfl);refine MW ?_ (v:=.int .i64 (Z1d U0 (Q2 b_ 64) i (Q3 U0 (Q2 b_ 64) h_ i) 4)) (hv:=by intro W;rw[←V73,←Q40 (by omega) (by omega)];exact J4l rfl rfl rfl);refine MW ?_ (v:=.pointer (some ⟨D,0+4,none⟩)) (hv:=fun _=>rxa Tryz.underlying248 (by omega));refine MG 0 ?_ (j:=0+4) (v:=.int .i64 ((Q3 U0 (Q2 b_ 64) h_ i) 4)) (hj:=ag0 (by omega));refine MW ?_ (v:=.pointer (some ⟨D,0+5,none⟩)) (hv:=fun _=>rxa Tryz.underlying248 (by omega));refine MG 0 ?_ (j:=0+5) (v:=.int .i64 ((Q3 U0 (Q2 b_ 64) h_ i) 5)) (hj:=ag0 (by omega));refine MW ?_ (v:=.pointer (some ⟨D,0+6,none⟩)) (hv:=fun _=>rxa Tryz.underlying248 (by omega));refine MG 0 ?_ (j:=0+6) (v:=.int .i64 ((Q3 U0 (Q2 b_ 64) h_ i) 6)) (hj:=ag0 (by omega));refine MW ?_ (v:=.agg (J0 .i64 8 (Q3 U0 (Q2 b_ 64) h_ (i+1)))) (hv:=by intro W;first|rfl|(go_simp;rfl));refine MR 0 ?_;refine MZ fun W hS=> ?_;go_wp2;go_roundw
       case rel=>exact⟨i+1,by omega,by go_num,hS⟩
       case measure=>simp[intOf];omega
      obtain rfl:i=64:=by omega
      go_upto_region 24 with fail;refine RL hS ?_;clear hS;refine MV ?_;refine Wf ?_;refine MZ fun W hS=> ?_
      go_wp2_with fail
      go_loopw [17] (fun ii wr=> ∃(i:Nat),(i≤8)∧(ii=.int .i64 (i:Int))∧SH [] w wr [.b D (J0 .i64 8 (Q3 U0 (Q2 b_ 64) h_ 64)) 248,.b M (J0 .i64 8 (mx4 h_ (Q3 U0 (Q2 b_ 64) h_ 64) i)) 248,.s U (J0e l)])
       (fun ii _=>8-(intOf ii).toNat)
      case atStart=>exact⟨0,Nat.zero_le _,rfl,(by rw[Z0x];exact(hS.pick [0,2,3]))⟩
      clear hS
      case round=>
       obtain⟨i,hi,rfl,hS⟩:=hrel;have qm:=V72 (v:=Q3 U0 (Q2 b_ 64) h_ 64) hh i i;have qv:=Q76 (k:=U0) (w:=Q2 b_ 64) hh 64 i;unfold W4 at qm qv
       by_cases h8:i<8
       ·
        go_upto_region 30 with fail;refine RL hS ?_;clear hS;refine MV ?_;refine Wt ?_;refine MZ fun W hS=> ?_;go_upto_region 32 with fail;refine RX 10 hS ?_;clear hS;refine MV ?_;refine MV ?_;refine MW ?_ (v:=.pointer (some ⟨M,0+i,none⟩)) (hv:=fun _=>rxa Tryz.underlying248 (by omega));refine MG 1 ?_ (j:=0+i) (v:=.int .i64 ((mx4 h_ (Q3 U0 (Q2 b_ 64) h_ 64) i) i)) (hj:=ag0 (by omega));refine MV ?_;refine MW ?_ (v:=.pointer (some ⟨D,0+i,none⟩)) (hv:=fun _=>rxa Tryz.underlying248 (by omega));refine MG 0 ?_ (j:=0+i) (v:=.int .i64 ((Q3 U0 (Q2 b_ 64) h_ 64) i)) (hj:=ag0 (by omega));refine MW ?_ (hv:=fun _=>J30 (by omega) rfl rfl rfl);refine MW ?_ (v:=.int .i64 (ad4 (mx4 h_ (Q3 U0 (Q2 b_ 64) h_ 64) i i) (Q3 U0 (Q2 b_ 64) h_ 64 i))) (hv:=by intro W;rw[Q1r,←Q40 (by omega) (by omega)];exact J4l rfl rfl rfl);refine MW ?_ (v:=.pointer (some ⟨M,0+i,none⟩)) (hv:=fun _=>rxa Tryz.underlying248 (by omega));refine MZt ?_;refine MP 1 (v:=.int .i64 (ad4 (mx4 h_ (Q3 U0 (Q2 b_ 64) h_ 64) i i) (Q3 U0 (Q2 b_ 64) h_ 64 i))) (cs' :=J0 .i64 8 (upd (mx4 h_ (Q3 U0 (Q2 b_ 64) h_ 64) i) i (ad4 (mx4 h_ (Q3 U0 (Q2 b_ 64) h_ 64) i i) (Q3 U0 (Q2 b_ 64) h_ 64 i)))) ?_ (hs:=by rw[J1,Nat.zero_add];omega) (hc:=by rw[Nat.zero_add];exact V8 _ _ _ _ _);refine MZn fun W hS=> ?_;go_wp2;go_roundw
        case rel=>exact⟨i+1,by omega,by go_num,(by rw[←Z0w];exact hS)⟩
        case measure=>simp[intOf];omega
       obtain rfl:i=8:=by omega
       rw[Y8o] at hS;go_upto_region 30 with fail;refine RL hS ?_;clear hS;refine MV ?_;refine Wf ?_;refine MZ fun W hS=> ?_;rw[Hh.out,Hb.out] at hS;go_wp2;go_roundw
       case rel=>exact⟨j+1,by omega,by first|go_num|(go_simp;omega),(hS.pick [1,2])⟩
       case measure=>simp[intOf];omega
   obtain rfl:j=nb4 l.length:=by omega
   obtain⟨n_,γ⟩:=exn (Hs4 (J0e l) (nb4 l.length));rw[←γ] at hS;have Hn:=Lib.hid γ;clear γ;go_upto_region 11 with fail;refine RL hS ?_;clear hS;refine MV ?_;refine MV ?_;refine MF (v:=.int .i64 ((J0e l).length:Int)) (fun W hS=>Z9 (hS.sl (i:=1) rfl) rfl rfl) ?_;refine MW ?_ (v:=.bool false) (hv:=by intro W;first|(go_simp;done)|(go_simp;(try simp only[δ]);omega));refine MZ fun W hS=> ?_;go_upto_region 33 with fail;refine RL hS ?_;clear hS;refine MO (m:=[]) (n:=0) (z:= #[]) ?_;intro D6;refine MV ?_;refine MZ fun W hS=> ?_
   go_wp2_with fail
   go_loopw [18,19] (fun sv ii wr=> ∃(i:Nat)(bv:Value),(i≤8)∧(bv=sv)∧(ii=.int .i64 (i:Int))∧SH [] w wr [.o bv (wb4 n_ (4*i)),.b M (J0 .i64 8 n_) 248])
    (fun sv ii _=>8-(intOf ii).toNat)
   case atStart=>exact⟨0,_,Nat.zero_le _,rfl,rfl,(hS.pick [0,1])⟩
   clear hS
   case round=>
    obtain⟨i,bv,hi,rfl,rfl,hS⟩:=hrel
    by_cases h8:i<8
    ·
     go_upto_region 35 with fail;refine RL hS ?_;clear hS;refine MV ?_;refine Wt ?_;refine MZ fun W hS=> ?_;go_upto_region 37 with fail;refine RX 20 hS ?_;clear hS;refine MV ?_;refine MV ?_;refine MW ?_ (v:=.pointer (some ⟨M,0+i,none⟩)) (hv:=fun _=>rxa Tryz.underlying248 (by omega));refine MG 1 ?_ (j:=0+i) (v:=.int .i64 (n_ i)) (hj:=ag0 (by omega));refine MW ?_ (hv:=fun _=>J0z (n:=24) (by decide) rfl rfl rfl);refine MW ?_ (v:=.int .u8 ((bo4 n_ (4*i+0)).toNat:Int)) (hv:=by intro W;rw[←Q0u _ i 0 (by decide)];exact J2h rfl rfl);refine MV ?_;refine MW ?_ (v:=.pointer (some ⟨M,0+i,none⟩)) (hv:=fun _=>rxa Tryz.underlying248 (by omega));refine MG 1 ?_ (j:=0+i) (v:=.int .i64 (n_ i)) (hj:=ag0 (by omega));refine MW ?_ (hv:=fun _=>J0z (n:=16) (by decide) rfl rfl rfl);refine MW ?_ (v:=.int .u8 ((bo4 n_ (4*i+1)).toNat:Int)) (hv:=by intro W;rw[←Q0u _ i 1 (by decide)];exact J2h rfl rfl);refine MV ?_;refine MW ?_ (v:=.pointer (some ⟨M,0+i,none⟩)) (hv:=fun _=>rxa Tryz.underlying248 (by omega));refine MG 1 ?_ (j:=0+i) (v:=.int .i64 (n_ i)) (hj:=ag0 (by omega));refine MW ?_ (hv:=fun _=>J0z (n:=8) (by decide) rfl rfl rfl);refine MW ?_ (v:=.int .u8 ((bo4 n_ (4*i+2)).toNat:Int)) (hv:=by intro W;rw[←Q0u _ i 2 (by decide)];exact J2h rfl rfl);refine MV ?_;refine MW ?_ (v:=.pointer (some ⟨M,0+i,none⟩)) (hv:=fun _=>rxa Tryz.underlying248 (by omega));refine MG 1 ?_ (j:=0+i) (v:=.int .i64 (n_ i)) (hj:=ag0 (by omega));refine MW ?_ (v:=.int .u8 ((bo4 n_ (4*i+3)).toNat:Int)) (hv:=by intro W;rw[←Q0u _ i 3 (by decide),show sr4 (n_ i) (8*(3-3))=n_ i from K1n _];exact J2h rfl rfl);refine MZt ?_;refine MO (m:=[bo4 n_ (4*i+0),bo4 n_ (4*i+1),bo4 n_ (4*i+2),bo4 n_ (4*i+3)]) (n:=4) (z:= #[.int .u8 ((bo4 n_ (4*i+0)).toNat:Int),.int .u8 ((bo4 n_ (4*i+1)).toNat:Int),.int .u8 ((bo4 n_ (4*i+2)).toNat:Int),.int .u8 ((bo4 n_ (4*i+3)).toNat:Int)]) ?_;intro ψ;refine MA 1 (xs:=(wb4 n_ (4*i))) (ys:=[bo4 n_ (4*i+0),bo4 n_ (4*i+1),bo4 n_ (4*i+2),bo4 n_ (4*i+3)]) (fun W hS=>(hS.osl (i:=0) rfl)) (by first|omega|(simp only[List.length_append,List.length_cons,List.length_nil,List.length_replicate,J0t];omega)) ?_;intro μ;refine MV ?_;refine MZn fun W hS=> ?_;go_wp2;go_roundw
     case rel=>exact⟨i+1,μ,by omega,rfl,by go_num,(by rw[←Z8x];exact(hS.pick [1,2]))⟩
     case measure=>simp[intOf];omega
    obtain rfl:i=8:=by omega
    rw[Hn.out] at hS;go_upto_region 35 with fail;refine RL hS ?_;clear hS;refine MV ?_;refine Wf ?_;refine MZ fun W hS=> ?_;go_upto_region 38 with fail;refine RL hS ?_;clear hS;refine MV ?_;refine MF (v:=K6 (wb4 (Hs4 (J0e l) (nb4 l.length)) (4*8))) (fun W hS=>J1z (hS.osl (i:=0) rfl) rfl rfl) ?_;refine MV ?_;refine MZ fun W hS=> ?_;go_wp2;exact bodyPost_ret (v:=K6 (wb4 (Hs4 (J0e l) (nb4 l.length)) (4*8))) (by simp only[results,Tryz.results102];go_simp) rfl ⟨rfl,hS.ext⟩
end
end Go.Proofs.YteehbddkcnkhfaaGreatDoor

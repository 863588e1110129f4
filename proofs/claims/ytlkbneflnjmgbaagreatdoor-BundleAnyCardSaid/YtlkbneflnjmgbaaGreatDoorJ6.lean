/- Contracts and plain laws for bundleAny_holds. Conditions: the tables hold their numbers. -/
import Derived.Lib.AppendZeros
import Derived.Test.YtlkbneflnjmgbaaGreatDoorJ5
open Go.RowKit
set_option maxRecDepth 100000
set_option linter.unusedSimpArgs false
set_option linter.unusedVariables false
namespace Go.Proofs.YtlkbneflnjmgbaaGreatDoor
section
set_option maxHeartbeats 4000000

def xo (p q:Int):Int:=bits .xor .u64 p q
def an (p q:Int):Int:=bits .and .u64 p q
def oo (p q:Int):Int:=bits .or .u64 p q
def nt (p:Int):Int:=bits .xor .u64 18446744073709551615 p
def ad (p q:Int):Int:=IntKind.wrap .u64 (p+q)
def sl (p:Int)(n:Nat):Int:=IntKind.wrap .u64 (p*2^n)
def sr (p:Int)(n:Nat):Int:=p / 2^n
def rt (p:Int)(n:Nat):Int:=oo (sr p n) (sl p (64-n))
theorem Y7f (p q:Int):oo p q=oo q p:=by unfold oo;simp only[bits,BitVec.or_comm]
section
variable {P : Program} {w : World} {o : Oper} {a : Act} {x y : Operand} {t t' : TypeId} {p q : Int}
theorem J40 (ho:o.op=.binOp .xor t x y t')(hx:a.eval x=.int .u64 p)(hy:a.eval y=.int .u64 q):(execOp a.eval o).run P w=.ok (.value (.int .u64 (xo p q))) w:=by
  simp only[execOp,ho,hx,hy];rfl
theorem Q1f (ho:o.op=.binOp .and t x y t')(hx:a.eval x=.int .u64 p)(hy:a.eval y=.int .u64 q):(execOp a.eval o).run P w=.ok (.value (.int .u64 (an p q))) w:=by
  simp only[execOp,ho,hx,hy];rfl
theorem Y1g (ho:o.op=.binOp .or t x y t')(hx:a.eval x=.int .u64 p)(hy:a.eval y=.int .u64 q):(execOp a.eval o).run P w=.ok (.value (.int .u64 (oo p q))) w:=by
  simp only[execOp,ho,hx,hy];rfl
theorem J5k (ho:o.op=.binOp .add t x y t')(hx:a.eval x=.int .u64 p)(hy:a.eval y=.int .u64 q):(execOp a.eval o).run P w=.ok (.value (.int .u64 (ad p q))) w:=by
  simp only[execOp,ho,hx,hy];rfl
theorem Y7g (ho:o.op=.unOp .xor t x)(hx:a.eval x=.int .u64 p):(execOp a.eval o).run P w=.ok (.value (.int .u64 (nt p))) w:=by
  simp only[execOp,ho,hx];rfl
theorem J41 {k:IntKind}{n:Nat}(hn:n≤64)(ho:o.op=.binOp .shl t x y t')(hx:a.eval x=.int .u64 p)(hy:a.eval y=.int k (n:Int)):(execOp a.eval o).run P w=.ok (.value (.int .u64 (sl p n))) w:=by
  have h:min ((n:Int)).toNat IntKind.u64.bits=n:=by rw[Int.toNat_natCast];exact Nat.min_eq_left hn
  simp only[execOp,ho,hx,hy,eqGuard,binOp,Sem.run_bind];simp[Op.shift,h,sl,go_sem,Sem.run_bind]
theorem J1b {k:IntKind}{n:Nat}(hn:n≤64)(ho:o.op=.binOp .shr t x y t')(hx:a.eval x=.int .u64 p)(hy:a.eval y=.int k (n:Int)):(execOp a.eval o).run P w=.ok (.value (.int .u64 (sr p n))) w:=by
  have h:min ((n:Int)).toNat IntKind.u64.bits=n:=by rw[Int.toNat_natCast];exact Nat.min_eq_left hn
  simp only[execOp,ho,hx,hy,eqGuard,binOp,Sem.run_bind];simp[Op.shift,h,sr,go_sem,Sem.run_bind]
end
end

section
set_option maxHeartbeats 4000000
attribute [local irreducible] wpList

theorem V8p (n:Nat)(h1:1≤n)(h2:n≤63):bits .and .u64 (18446744073709551616-(n:Int)) 63=((64-n:Nat):Int):=by
  obtain⟨m,hm⟩:∃m:Nat,m=18446744073709551616-n:=⟨_,rfl⟩
  have e:(18446744073709551616-(n:Int))=(m:Int):=by omega
  have D:(BitVec.ofInt 64 63).toNat=2^6-1:=by decide
  have G:(BitVec.ofInt 64 (m:Int) &&& BitVec.ofInt 64 63).toNat=m % 2^6:=by
    rw[BitVec.toNat_and,BitVec.toNat_ofInt,D,Nat.and_two_pow_sub_one_eq_mod];omega
  rw[e];show IntKind.u64.wrap ((BitVec.ofInt 64 (m:Int) &&& BitVec.ofInt 64 63).toNat:Nat)=_;rw[G,IntKind.wrap_u64];omega

theorem V3r (p:Int)(n:Nat)(h1:1≤n)(h2:n≤63)(w:World):
  Calls Tryz.prog 200 #[.int .u64 p,.int .i64 (-(n:Int))] w fun e w' =>Ret (.int .u64 (rt p n)) w w' e:=by
 have n0:(1:Int)≤(n:Int):=by omega
 have n1:(n:Int)≤63:=by omega
 have ha:=V8p n h1 h2;have D:Off [] w w:=Off.refl _ _
 go_enter Tryz.func200,Tryz.ntmps200
 go_upto_region 1 with fail;refine wp_region_lit ?_;refine Lv ?_;refine Lw ?_ (v:=.int .u64 (18446744073709551616-(n:Int))) (hv:=by go_simp;(try simp only[IntKind.wrap_u64,IntKind.wrap_i64]);(try omega));refine Lw ?_ (v:=.int .u64 (((64-n:Nat):Int))) (hv:=by first|(go_simp;done)|(go_simp;(try rw[ha]);(try omega)));refine Lv ?_;refine J2 ?_;go_upto_region 2 with fail;refine wp_region_lit ?_;refine Lv ?_;refine Lv ?_;refine Lw ?_ (v:=.int .u64 (sl p (64-n))) (hv:=J41 (n:=(64-n)) (by omega) rfl rfl rfl);refine Lv ?_;refine Lv ?_;refine Lw ?_ (v:=.int .u64 ((n:Int))) (hv:=by go_simp;(try simp only[IntKind.wrap_u64,IntKind.wrap_i64]);(try omega));refine Lw ?_ (v:=.int .u64 (sr p n)) (hv:=J1b (n:=n) (by omega) rfl rfl rfl);refine Lw ?_ (v:=.int .u64 (oo (sl p (64-n)) (sr p n))) (hv:=Y1g rfl rfl rfl);refine Lv ?_;refine J2 ?_;go_wp2;exact bodyPost_ret (v:=.int .u64 (oo (sl p (64-n)) (sr p n))) (by simp only[results,Tryz.results200];go_simp) rfl ⟨congrArg (fun z=>Ending.returned (.int .u64 z)) (Y7f _ _),D.ext⟩
theorem J6t (p:Int)(n:Nat)(h1:1≤n)(h2:n≤63)(w:World):
  Calls Tryz.prog 188 #[.int .u64 p,.int .i64 (n:Int)] w fun e w' =>Ret (.int .u64 (rt p n)) w w' e:=by
 have n0:(1:Int)≤(n:Int):=by omega
 have n1:(n:Int)≤63:=by omega
 have D:Off [] w w:=Off.refl _ _
 go_enter Tryz.func188,Tryz.ntmps188
 go_upto_region 1 with fail;refine wp_region_lit ?_;refine Lv ?_;refine Lv ?_;refine Lw ?_ (v:=.int .i64 (-(n:Int))) (hv:=by go_simp;(try simp only[IntKind.wrap_u64,IntKind.wrap_i64]);(try omega));refine Lr ?_ (V3r p n h1 h2 w);intro W1 hO;replace D:=D.o hO;clear hO;refine Lv ?_;refine J2 ?_;go_wp2;exact bodyPost_ret (v:=.int .u64 (rt p n)) (by simp only[results,Tryz.results188];go_simp) rfl ⟨rfl,D.ext⟩
end

section
set_option maxHeartbeats 4000000
attribute [local irreducible] wpList

theorem V3s {w:World}{o:Oper}{a:Act}{x:Operand}{c:UInt8}(ho:o.op=.convert 5 43 x)(hx:a.eval x=.int .u8 (c.toNat:Int)):(execOp a.eval o).run Tryz.prog w=.ok (.value (.int .u64 (c.toNat:Int))) w:=by
  have hc:=c.toNat_lt;have hw:IntKind.wrap .u64 (c.toNat:Int)=(c.toNat:Int):=by rw[IntKind.wrap_u64];omega
  simp[execOp,ho,hx,convert,run_underlying Tryz.underlying5,run_underlying Tryz.underlying43,Sem.run_bind,Conv.intToInt,hw]
def wrd (b:Nat→Int)(i:Nat):Nat→Int
  |0=>0
  |k+1=>oo (sl (wrd b i k) 8) (b (8*i+k))
def sg (f:Nat→Int)(i:Nat):Int:=ad (ad (ad (f (i-16)) (xo (xo (rt (f (i-15)) 1) (rt (f (i-15)) 8)) (sr (f (i-15)) 7))) (f (i-7))) (xo (xo (rt (f (i-2)) 19) (rt (f (i-2)) 61)) (sr (f (i-2)) 6))
def K2 (b:Nat→Int):Nat→Nat→Int
  |0=>fun _=>0
  |i+1=>upd (K2 b i) i (if i<16 then wrd b i 8 else sg (K2 b i) i)
theorem V3t {b:Nat→Int}{i:Nat}(h:16≤i):upd (K2 b i) i (sg (K2 b i) i)=K2 b (i+1):=by
  show _=upd (K2 b i) i (if i<16 then wrd b i 8 else sg (K2 b i) i);rw[if_neg (by omega)]
theorem Y1i (b:Nat→Int):∀i,i≤16→∀j,K2 b i j=if j<i then wrd b j 8 else 0
  |0,_,j=>by simp[K2]
  |i+1,h,j=>by
    show upd (K2 b i) i (if i<16 then wrd b i 8 else sg (K2 b i) i) j=_;rw[if_pos (by omega)];unfold upd
    by_cases hj:j=i
    · rw[if_pos hj,if_pos (by omega),hj]
    · rw[if_neg hj,Y1i b i (by omega) j]
      by_cases hl:j<i
      · rw[if_pos hl,if_pos (by omega)]
      · rw[if_neg hl,if_neg (by omega)]
def fst (b:Nat→Int)(n j:Nat):Int:=if j<n / 8 then wrd b j 8 else if j=n / 8 then wrd b j (n % 8) else 0
theorem Y1j (b:Nat→Int)(n:Nat):upd (fst b n) (n / 8) (oo (sl (fst b n (n / 8)) 8) (b n))=fst b (n+1):=by
  funext j
  have e:fst b n (n / 8)=wrd b (n / 8) (n % 8):=by unfold fst;rw[if_neg (by omega),if_pos rfl]
  have hb:b n=b (8*(n / 8)+n % 8):=by rw[Nat.div_add_mod]
  rw[e,hb];show(if j=n / 8 then wrd b (n / 8) (n % 8+1) else fst b n j)=fst b (n+1) j;unfold fst
  by_cases hm:n % 8=7
  · have h1:(n+1) / 8=n / 8+1:=by omega
    have h2:(n+1) % 8=0:=by omega
    rw[h1,h2,hm]
    by_cases hj:j=n / 8
    · rw[if_pos hj,if_pos (by omega),hj]
    rw[if_neg hj]
    by_cases hl:j<n / 8
    · rw[if_pos hl,if_pos (by omega)]
    rw[if_neg hl,if_neg hj,if_neg (by omega)]
    split
    · rfl
    rfl
  have h1:(n+1) / 8=n / 8:=by omega
  have h2:(n+1) % 8=n % 8+1:=by omega
  rw[h1,h2]
  by_cases hj:j=n / 8
  · rw[if_pos hj,if_neg (by omega),if_pos hj,hj]
  rw[if_neg hj]
  by_cases hl:j<n / 8
  · rw[if_pos hl,if_pos hl]
  rw[if_neg hl,if_neg hj,if_neg hl,if_neg hj]
theorem Y7h (b:Nat→Int):fst b 128=K2 b 16:=by
  funext j
  rw[Y1i b 16 (Nat.le_refl _) j];unfold fst
  by_cases h:j<16
  · rw[if_pos (by omega),if_pos h]
  rw[if_neg (by omega),if_neg h]
  split
  · rename_i h2;rw[show 128 % 8=0 by rfl];rfl
  rfl
theorem Y1k (b:Nat→Int):fst b 0=fun _=>0:=by
  funext j
  unfold fst;rw[if_neg (by omega)]
  split<;>rfl

theorem Y1l (l:List UInt8)(adr:Addr)(c:Nat)(hl:128≤l.length)(w:World)(hs:Sl w (.slice (some adr) l.length c) l):
  Calls Tryz.prog 187 #[.slice (some adr) l.length c] w fun e w' =>Ret (.agg (J0 .u64 80 (K2 (bt l) 80))) w w' e:=by
 have D:Off [] w w:=Off.refl _ _;have Q3:=hs
 go_enter Tryz.func187,Tryz.ntmps187
 go_upto_region 0 with fail;refine wp_region_lit ?_;refine Ln ?_ (z:=J0 .u64 80 (fun _=>0)) (t:=270);intro Z8 W1 X hO h_;have Z:=fbn D X;replace Q3:=Sl.off Q3 hO f0;replace D:=D.o hO;have J:=h_;clear hO h_ X;refine J2 ?_;go_upto_region 1 with fail;refine wp_region_lit ?_;refine Ln ?_ (z:=J0 .u64 80 (fun _=>0)) (t:=270);intro M W2 N hO h_;have Y:=bn J N;have T:=J3c (Sl.lt Q3) N;have V:=fbn D N;replace J:=J.o hO;replace Q3:=Sl.off Q3 hO f0;replace D:=D.o hO;have G:=h_;clear hO h_ N;refine J2 ?_
 go_wp2_with fail
 go_loopw [8] (fun ii wr=> ∃(n:Nat),(n≤128)∧(ii=.int .i64 (n:Int))∧Off [] w wr∧Blk wr Z8 (J0 .u64 80 (fun _=>0)) 270∧Blk wr M (J0 .u64 80 (fst (bt l) n)) 270∧Sl wr (.slice (some adr) l.length c) l)
  (fun ii _=>128-(intOf ii).toNat)
 case atStart=>exact⟨0,Nat.zero_le _,rfl,D,J,(by rw[Y1k];exact G),Q3⟩
 case round=>
  obtain⟨n,hn,rfl,D,J,G,Q3⟩:=hrel;obtain⟨W3,S⟩:=J76 D;subst S
  by_cases R:n<128
  ·
   go_upto_region 3 with fail;refine wp_region_lit ?_;refine Lw ?_ (v:=.bool true);refine J2 ?_;go_upto_region 5 with fail;refine J17 14 [] (by kernel_rfl) (fun x hx=>by cases hx) (by kernel_rfl) ?_;simp only[List.take_succ_cons,List.take_zero,List.take_nil]
   (try simp only[Act.put,mA,mB,mC])
   refine Xv ?_;refine Xw ?_ (v:=.int .i64 (((n / 8:Nat):Int))) (hv:=fun _ _=>by go_simp;(try simp only[IntKind.wrap_u64,IntKind.wrap_i64]);(try omega));refine Xv ?_;refine Xw ?_ (v:=.int .i64 (((n / 8:Nat):Int))) (hv:=fun _ _=>by go_simp;(try simp only[IntKind.wrap_u64,IntKind.wrap_i64]);(try omega));refine Xw ?_ (v:=.pointer (some ⟨M,0+(n / 8),none⟩)) (hv:=fun _ _=>rxa Tryz.underlying270 (by omega));refine Xc ?_ (v:=.int .u64 ((fst (bt l) n) (n / 8))) (V2 G) (hj:=ag0 (by omega));refine Xw ?_ (v:=.int .u64 (sl ((fst (bt l) n) (n / 8)) 8)) (hv:=fun _ _=>J41 (n:=8) (by decide) rfl rfl rfl);refine Xv ?_;refine Xv ?_;refine Xw ?_ (v:=.pointer (some (adr.add n))) (hv:=fun W hW=>J4l (j:=n) (by omega) rfl rfl rfl);refine J8y (by rfl) rfl rfl (fun W hW=>J0q (Y1a Q3 (Q6i (by omega))) hW) (by kernel_rfl) ?_
   (try simp only[Act.put,mA,mB,mC])
   refine Xw ?_ (v:=.int .u64 (bt l n)) (hv:=fun _ _=>by exact V3s rfl rfl);refine Xw ?_ (v:=.int .u64 (oo (sl ((fst (bt l) n) (n / 8)) 8) (bt l n))) (hv:=fun _ _=>Y1g rfl rfl rfl);refine Xw ?_ (v:=.pointer (some ⟨M,0+(n / 8),none⟩)) (hv:=fun _ _=>rxa Tryz.underlying270 (by omega));refine K3 ?_;intro β W4 hE hN hD;clear hN hD;simp only[J05,Act.put,mA,mB,mC,List.drop_succ_cons,List.drop_zero,List.drop_nil,List.length_nil,Nat.add_zero];have hO:=J0b hE;replace J:=J.o hO;replace G:=G.o hO;replace Q3:=Sl.off Q3 hO f0;replace D:=D.o hO;clear hO hE β;refine J1k (v:=.int .u64 (oo (sl ((fst (bt l) n) (n / 8)) 8) (bt l n))) ⟨rfl,rfl⟩ (by rfl) rfl rfl rfl G (by rw[J1,Nat.zero_add];omega) (by kernel_rfl) ?_
   (try simp only[Act.put,mA,mB,mC])
   intro W5 hO h_;rw[Nat.zero_add,X6] at h_;replace G:Blk W5 M (J0 .u64 80 (upd (fst (bt l) n) (n / 8) (oo (sl ((fst (bt l) n) (n / 8)) 8) (bt l n)))) 270:=h_;clear h_;replace J:=J.p hO Y;replace Q3:=Sl.off Q3 hO (f1 T);replace D:=D.p hO V;clear hO;refine LN ?_;go_wp2;go_roundw
   case rel=>exact⟨n+1,by omega,by go_num,D,J,(by rw[←Y1j];exact G),Q3⟩
   case measure=>simp[intOf];omega
  obtain rfl:n=128:=by omega
  rw[Y7h] at G;go_upto_region 3 with fail;refine wp_region_lit ?_;refine Lw ?_ (v:=.bool false);refine J2 ?_
  go_wp2_with fail
  go_loopw [5] (fun ii wr=> ∃(i:Nat),(16≤i∧i≤80)∧(ii=.int .i64 (i:Int))∧Off [] w wr∧Blk wr Z8 (J0 .u64 80 (fun _=>0)) 270∧Blk wr M (J0 .u64 80 (K2 (bt l) i)) 270∧Sl wr (.slice (some adr) l.length c) l)
   (fun ii _=>80-(intOf ii).toNat)
  case atStart=>exact⟨16,⟨Nat.le_refl _,by decide⟩,rfl,D,J,G,Q3⟩
  case round=>
   obtain⟨i,⟨hi,α⟩,rfl,D,J,G,Q3⟩:=hrel;obtain⟨W4,S⟩:=J76 D;subst S
   by_cases U:i<80
   ·
    go_upto_region 8 with fail;refine wp_region_lit ?_;refine Lv ?_;refine Lw ?_ (v:=.bool true);refine J2 ?_;go_upto_region 10 with fail;refine J17 10 [] (by kernel_rfl) (fun x hx=>by cases hx) (by kernel_rfl) ?_;simp only[List.take_succ_cons,List.take_zero,List.take_nil]
    (try simp only[Act.put,mA,mB,mC])
    refine Xv ?_;refine Xw ?_ (v:=.int .i64 (((i-15:Nat):Int))) (hv:=fun _ _=>by go_simp;(try simp only[IntKind.wrap_u64,IntKind.wrap_i64]);(try omega));refine Xw ?_ (v:=.pointer (some ⟨M,0+(i-15),none⟩)) (hv:=fun _ _=>rxa Tryz.underlying270 (by omega));refine Xc ?_ (v:=.int .u64 ((K2 (bt l) i) (i-15))) (V2 G) (hj:=ag0 (by omega));refine Xv ?_;refine Xw ?_ (v:=.int .i64 (((i-2:Nat):Int))) (hv:=fun _ _=>by go_simp;(try simp only[IntKind.wrap_u64,IntKind.wrap_i64]);(try omega));refine Xw ?_ (v:=.pointer (some ⟨M,0+(i-2),none⟩)) (hv:=fun _ _=>rxa Tryz.underlying270 (by omega));refine Xc ?_ (v:=.int .u64 ((K2 (bt l) i) (i-2))) (V2 G) (hj:=ag0 (by omega));refine Xv ?_;refine Xv ?_;refine K3 ?_;intro β W5 hE hN hD;clear hN hD;simp only[J05,Act.put,mA,mB,mC,List.drop_succ_cons,List.drop_zero,List.drop_nil,List.length_nil,Nat.add_zero];have hO:=J0b hE;replace J:=J.o hO;replace G:=G.o hO;replace Q3:=Sl.off Q3 hO f0;replace D:=D.o hO;clear hO hE β;refine LN ?_;go_upto_region 11 with fail;refine J17 29 [] (by kernel_rfl) (fun x hx=>by cases hx) (by kernel_rfl) ?_;simp only[List.take_succ_cons,List.take_zero,List.take_nil]
    (try simp only[Act.put,mA,mB,mC])
    refine Xv ?_;refine Xv ?_;refine Xw ?_ (v:=.int .i64 (((i-16:Nat):Int))) (hv:=fun _ _=>by go_simp;(try simp only[IntKind.wrap_u64,IntKind.wrap_i64]);(try omega));refine Xw ?_ (v:=.pointer (some ⟨M,0+(i-16),none⟩)) (hv:=fun _ _=>rxa Tryz.underlying270 (by omega));refine Xc ?_ (v:=.int .u64 ((K2 (bt l) i) (i-16))) (V2 G) (hj:=ag0 (by omega));refine Xv ?_;refine Xf ?_ (fun W hW=>J6t ((K2 (bt l) i) (i-15)) 1 (by decide) (by decide) W);refine Xv ?_;refine Xf ?_ (fun W hW=>J6t ((K2 (bt l) i) (i-15)) 8 (by decide) (by decide) W);refine Xw ?_ (v:=.int .u64 (xo (rt ((K2 (bt l) i) (i-15)) 1) (rt ((K2 (bt l) i) (i-15)) 8))) (hv:=fun _ _=>J40 rfl rfl rfl);refine Xv ?_;refine Xw ?_ (v:=.int .u64 (sr ((K2 (bt l) i) (i-15)) 7)) (hv:=fun _ _=>J1b (n:=7) (by decide) rfl rfl rfl);refine Xw ?_ (v:=.int .u64 (xo (xo (rt ((K2 (bt l) i) (i-15)) 1) (rt ((K2 (bt l) i) (i-15)) 8)) (sr ((K2 (bt l) i) (i-15)) 7))) (hv:=fun _ _=>J40 rfl rfl rfl);refine Xw ?_ (v:=.int .u64 (ad ((K2 (bt l) i) (i-16)) (xo (xo (rt ((K2 (bt l) i) (i-15)) 1) (rt ((K2 (bt l) i) (i-15)) 8)) (sr ((K2 (bt l) i) (i-15)) 7)))) (hv:=fun _ _=>J5k rfl rfl rfl);refine Xv ?_;refine Xw ?_ (v:=.int .i64 (((i-7:Nat):Int))) (hv:=fun _ _=>by go_simp;(try simp only[IntKind.wrap_u64,IntKind.wrap_i64]);(try omega));refine Xw ?_ (v:=.pointer (some ⟨M,0+(i-7),none⟩)) (hv:=fun _ _=>rxa Tryz.underlying270 (by omega));refine Xc ?_ (v:=.int .u64 ((K2 (bt l) i) (i-7))) (V2 G) (hj:=ag0 (by omega));refine Xw ?_ (v:=.int .u64 (ad (ad ((K2 (bt l) i) (i-16)) (xo (xo (rt ((K2 (bt l) i) (i-15)) 1) (rt ((K2 (bt l) i) (i-15)) 8)) (sr ((K2 (bt l) i) (i-15)) 7))) ((K2 (bt l) i) (i-7)))) (hv:=fun _ _=>J5k rfl rfl rfl);refine Xv ?_;refine Xf ?_ (fun W hW=>J6t ((K2 (bt l) i) (i-2)) 19 (by decide) (by decide) W);refine Xv ?_;refine Xf ?_ (fun W hW=>J6t ((K2 (bt l) i) (i-2)) 61 (by decide) (by decide) W);refine Xw ?_ (v:=.int .u64 (xo (rt ((K2 (bt l) i) (i-2)) 19) (rt ((K2 (bt l) i) (i-2)) 61))) (hv:=fun _ _=>J40 rfl rfl rfl);refine Xv ?_;refine Xw ?_ (v:=.int .u64 (sr ((K2 (bt l) i) (i-2)) 6)) (hv:=fun _ _=>J1b (n:=6) (by decide) rfl rfl rfl);refine Xw ?_ (v:=.int .u64 (xo (xo (rt ((K2 (bt l) i) (i-2)) 19) (rt ((K2 (bt l) i) (i-2)) 61)) (sr ((K2 (bt l) i) (i-2)) 6))) (hv:=fun _ _=>J40 rfl rfl rfl);refine Xw ?_ (v:=.int .u64 (ad (ad (ad ((K2 (bt l) i) (i-16)) (xo (xo (rt ((K2 (bt l) i) (i-15)) 1) (rt ((K2 (bt l) i) (i-15)) 8)) (sr ((K2 (bt l) i) (i-15)) 7))) ((K2 (bt l) i) (i-7))) (xo (xo (rt ((K2 (bt l) i) (i-2)) 19) (rt ((K2 (bt l) i) (i-2)) 61)) (sr ((K2 (bt l) i) (i-2)) 6)))) (hv:=fun _ _=>J5k rfl rfl rfl);refine Xw ?_ (v:=.pointer (some ⟨M,0+i,none⟩)) (hv:=fun _ _=>rxa Tryz.underlying270 (by omega));refine K3 ?_;intro β W6 hE hN hD;clear hN hD;simp only[J05,Act.put,mA,mB,mC,List.drop_succ_cons,List.drop_zero,List.drop_nil,List.length_nil,Nat.add_zero];have hO:=J0b hE;replace J:=J.o hO;replace G:=G.o hO;replace Q3:=Sl.off Q3 hO f0;replace D:=D.o hO;clear hO hE β;refine J1k (v:=.int .u64 (ad (ad (ad ((K2 (bt l) i) (i-16)) (xo (xo (rt ((K2 (bt l) i) (i-15)) 1) (rt ((K2 (bt l) i) (i-15)) 8)) (sr ((K2 (bt l) i) (i-15)) 7))) ((K2 (bt l) i) (i-7))) (xo (xo (rt ((K2 (bt l) i) (i-2)) 19) (rt ((K2 (bt l) i) (i-2)) 61)) (sr ((K2 (bt l) i) (i-2)) 6)))) ⟨rfl,rfl⟩ (by rfl) rfl rfl rfl G (by rw[J1,Nat.zero_add];omega) (by kernel_rfl) ?_
    (try simp only[Act.put,mA,mB,mC])
    intro W7 hO h_;rw[Nat.zero_add,X6] at h_;replace G:Blk W7 M (J0 .u64 80 (upd (K2 (bt l) i) i (ad (ad (ad ((K2 (bt l) i) (i-16)) (xo (xo (rt ((K2 (bt l) i) (i-15)) 1) (rt ((K2 (bt l) i) (i-15)) 8)) (sr ((K2 (bt l) i) (i-15)) 7))) ((K2 (bt l) i) (i-7))) (xo (xo (rt ((K2 (bt l) i) (i-2)) 19) (rt ((K2 (bt l) i) (i-2)) 61)) (sr ((K2 (bt l) i) (i-2)) 6))))) 270:=h_;clear h_;replace J:=J.p hO Y;replace Q3:=Sl.off Q3 hO (f1 T);replace D:=D.p hO V;clear hO;refine LN ?_;go_wp2;go_roundw
    case rel=>exact⟨i+1,⟨by omega,by omega⟩,by go_num,D,J,(by rw[←V3t hi];exact G),Q3⟩
    case measure=>simp[intOf];omega
   obtain rfl:i=80:=by omega
   go_upto_region 8 with fail;refine wp_region_lit ?_;refine Lv ?_;refine Lw ?_ (v:=.bool false);refine J2 ?_;go_upto_region 12 with fail;refine wp_region_lit ?_;refine L0A ?_ G;refine Lp ?_ J (cells:=J0 .u64 80 (K2 (bt l) 80)) (hi:=by rw[J1];kernel_rfl) (hs:=by rw[J1,J1]) (h1:=by exact J04 _ _ _);intro W5 hO h_;replace J:Blk W5 Z8 (J0 .u64 80 (K2 (bt l) 80)) 270:=h_;clear h_;replace D:=D.p hO Z;clear hO;refine J2 ?_;go_wp2;refine bodyPost_ret (Z0 rfl rfl J (by kernel_rfl) (by rw[J1];kernel_rfl)) rfl ⟨rfl,D.ext⟩
end

section
set_option maxHeartbeats 4000000
attribute [local irreducible] wpList

def kk:List Int:=[4794697086780616226,8158064640168781261,13096744586834688815,16840607885511220156,4131703408338449720,6480981068601479193,10538285296894168987,12329834152419229976,15566598209576043074,1334009975649890238,2608012711638119052,6128411473006802146,8268148722764581231,9286055187155687089,11230858885718282805,13951009754708518548,16472876342353939154,17275323862435702243,1135362057144423861,2597628984639134821,3308224258029322869,5365058923640841347,6679025012923562964,8573033837759648693,10970295158949994411,12119686244451234320,12683024718118986047,13788192230050041572,14330467153632333762,15395433587784984357,489312712824947311,1452737877330783856,2861767655752347644,3322285676063803686,5560940570517711597,5996557281743188959,7280758554555802590,8532644243296465576,9350256976987008742,10552545826968843579,11727347734174303076,12113106623233404929,14000437183269869457,14369950271660146224,15101387698204529176,15463397548674623760,17586052441742319658,1182934255886127544,1847814050463011016,2177327727835720531,2830643537854262169,3796741975233480872,4115178125766777443,5681478168544905931,6601373596472566643,7507060721942968483,8399075790359081724,8693463985226723168,9568029438360202098,10144078919501101548,10430055236837252648,11840083180663258601,13761210420658862357,14299343276471374635,14566680578165727644,15097957966210449927,16922976911328602910,17689382322260857208,500013540394364858,748580250866718886,1242879168328830382,1977374033974150939,2944078676154940804,3659926193048069267,4368137639120453308,4836135668995329356,5532061633213252278,6448918945643986474,6902733635092675308,7801388544844847127]
def hh:List Int:=[7640891576956012808,13503953896175478587,4354685564936845355,11912009170470909681,5840696475078001361,11170449401992604703,2270897969802886507,6620516959819538809]
def kf (i:Nat):Int:=kk.getD i 0
def hf (i:Nat):Int:=hh.getD i 0
def GS (w:World):Prop:=Rd w 12 (J0 .u64 80 kf)∧Rd w 3 (J0 .u64 8 hf)
theorem Q7r {w W:World}(h:GS w)(e:Ext w W):GS W:=⟨h.1.ext e,h.2.ext e⟩
def rT (k w:Nat→Int)(i:Nat)(v:Nat→Int):Int:=ad (ad (ad (ad (v 7) (xo (xo (rt (v 4) 14) (rt (v 4) 18)) (rt (v 4) 41))) (xo (an (v 4) (v 5)) (an (nt (v 4)) (v 6)))) (k i)) (w i)
def rU (v:Nat→Int):Int:=ad (xo (xo (rt (v 0) 28) (rt (v 0) 34)) (rt (v 0) 39)) (xo (xo (an (v 0) (v 1)) (an (v 0) (v 2))) (an (v 1) (v 2)))
def rnd (k w:Nat→Int)(i:Nat)(v:Nat→Int):Nat→Int
  |0=>ad (rT k w i v) (rU v)
  |1=>v 0
  |2=>v 1
  |3=>v 2
  |4=>ad (v 3) (rT k w i v)
  |5=>v 4
  |6=>v 5
  |7=>v 6
  |_=>0
def V3 (k w v:Nat→Int):Nat→Nat→Int
  |0=>v
  |i+1=>rnd k w i (V3 k w v i)
def prs (h b:Nat→Int)(j:Nat):Int:=ad (h j) (V3 kf (K2 b 80) h 80 j)
def mx (h v:Nat→Int)(i j:Nat):Int:=if j<i then ad (h j) (v j) else h j
theorem Y7i (h v:Nat→Int)(i:Nat):upd (mx h v i) i (ad (mx h v i i) (v i))=mx h v (i+1):=by
  funext j
  unfold upd mx
  by_cases hj:j=i
  · subst hj;rw[if_pos rfl,if_neg (by omega),if_pos (by omega)]
  rw[if_neg hj]
  by_cases hl:j<i
  · rw[if_pos hl,if_pos (by omega)]
  rw[if_neg hl,if_neg (by omega)]
theorem Y7j (h v:Nat→Int):mx h v 0=h:=by funext j;unfold mx;rw[if_neg (by omega)]
theorem V3u (h b:Nat→Int):J0 .u64 8 (mx h (V3 kf (K2 b 80) h 80) 8)=J0 .u64 8 (prs h b):=J0f _ _ _ _ fun j hj=>by unfold mx prs;rw[if_pos hj]

theorem Y7k (h:Nat→Int)(l:List UInt8)(adr:Addr)(c:Nat)(hl:128≤l.length)(w:World)(hs:Sl w (.slice (some adr) l.length c) l)(hG:GS w):
  Calls Tryz.prog 143 #[.agg (J0 .u64 8 h),.slice (some adr) l.length c] w fun e w' =>Ret (.agg (J0 .u64 8 (prs h (bt l)))) w w' e:=by
 have HG:=Lib.hid hG;clear hG;have G:Off [] w w:=Off.refl _ _;have Q3:=hs
 go_enter Tryz.func143,Tryz.ntmps143
 go_upto_region 0 with fail;refine wp_region_lit ?_;refine Ln ?_ (z:=J0 .u64 8 h) (t:=248);intro Z8 W1 ε hO h_;have ν:=J3c (Sl.lt Q3) ε;have σ:=fbn G ε;replace Q3:=Sl.off Q3 hO f0;replace G:=G.o hO;have J:=h_;clear hO h_ ε;refine Ln ?_ (z:=J0 .u64 8 (fun _=>0)) (t:=248);intro Y W2 γ hO h_;have U:=bn J γ;have θ:=fbn G γ;replace J:=J.o hO;replace Q3:=Sl.off Q3 hO f0;replace G:=G.o hO;have M:=h_;clear hO h_ γ;refine J2 ?_;go_upto_region 1 with fail;refine wp_region_lit ?_;refine Lv ?_;refine Lr ?_ (Y1l l adr c hl W2 Q3);intro W3 hO;replace J:=J.o hO;replace M:=M.o hO;replace Q3:=Sl.off Q3 hO f0;replace G:=G.o hO;clear hO;refine LnP ?_ (z:=J0 .u64 80 (fun _=>0)) (t:=270) (cells:=J0 .u64 80 (K2 (bt l) 80)) (hi:=by rw[J1];kernel_rfl) (hs:=by rw[J1,J1]) (h1:=by exact J04 _ _ _);intro α W5 η hO h_;have V:=bn J η;replace J:=J.o hO;replace M:=M.o hO;replace Q3:=Sl.off Q3 hO f0;replace G:=G.o hO;have R:=h_;clear hO h_ η;refine J2 ?_;go_upto_region 2 with fail;refine wp_region_lit ?_;refine L0A ?_ J;refine LnP ?_ (z:=J0 .u64 8 (fun _=>0)) (t:=248) (cells:=J0 .u64 8 h) (hi:=by rw[J1];kernel_rfl) (hs:=by rw[J1,J1]) (h1:=by exact J04 _ _ _);intro N W7 T hO h_;have S:=bn J T;have μ:=bn M T;have ξ:=bn R T;have ρ:=J3c (Sl.lt Q3) T;have κ:=fbn G T;replace J:=J.o hO;replace M:=M.o hO;replace R:=R.o hO;replace Q3:=Sl.off Q3 hO f0;replace G:=G.o hO;have D:=h_;clear hO h_ T;refine J2 ?_
 go_wp2_with fail
 go_loopw [14] (fun ii wr=> ∃(i:Nat),(i≤80)∧(ii=.int .i64 (i:Int))∧Off [] w wr∧Blk wr Z8 (J0 .u64 8 h) 248∧Blk wr Y (J0 .u64 8 (fun _=>0)) 248∧Blk wr α (J0 .u64 80 (K2 (bt l) 80)) 270∧Blk wr N (J0 .u64 8 (V3 kf (K2 (bt l) 80) h i)) 248∧Sl wr (.slice (some adr) l.length c) l)
  (fun ii _=>80-(intOf ii).toNat)
 case atStart=>exact⟨0,Nat.zero_le _,rfl,G,J,M,R,D,Q3⟩
 case round=>
  obtain⟨i,hi,rfl,G,J,M,R,D,Q3⟩:=hrel;obtain⟨W8,δ⟩:=J76 G;subst δ
  by_cases ζ:i<80
  ·
   go_upto_region 4 with fail;refine wp_region_lit ?_;refine Lw ?_ (v:=.bool true);refine J2 ?_;go_upto_region 6 with fail;refine J17 36 [] (by kernel_rfl) (fun x hx=>by cases hx) (by kernel_rfl) ?_;simp only[List.take_succ_cons,List.take_zero,List.take_nil]
   (try simp only[Act.put,mA,mB,mC])
   refine Xw ?_ (v:=.pointer (some ⟨N,0+7,none⟩)) (hv:=fun _ _=>rxa Tryz.underlying248 (by omega));refine Xc ?_ (v:=.int .u64 ((V3 kf (K2 (bt l) 80) h i) 7)) (V2 D) (hj:=ag0 (by omega));refine Xw ?_ (v:=.pointer (some ⟨N,0+4,none⟩)) (hv:=fun _ _=>rxa Tryz.underlying248 (by omega));refine Xc ?_ (v:=.int .u64 ((V3 kf (K2 (bt l) 80) h i) 4)) (V2 D) (hj:=ag0 (by omega));refine Xf ?_ (fun W hW=>J6t ((V3 kf (K2 (bt l) 80) h i) 4) 14 (by decide) (by decide) W);refine Xw ?_ (v:=.pointer (some ⟨N,0+4,none⟩)) (hv:=fun _ _=>rxa Tryz.underlying248 (by omega));refine Xc ?_ (v:=.int .u64 ((V3 kf (K2 (bt l) 80) h i) 4)) (V2 D) (hj:=ag0 (by omega));refine Xf ?_ (fun W hW=>J6t ((V3 kf (K2 (bt l) 80) h i) 4) 18 (by decide) (by decide) W);refine Xw ?_ (v:=.int .u64 (xo (rt ((V3 kf (K2 (bt l) 80) h i) 4) 14) (rt ((V3 kf (K2 (bt l) 80) h i) 4) 18))) (hv:=fun _ _=>J40 rfl rfl rfl);refine Xw ?_ (v:=.pointer (some ⟨N,0+4,none⟩)) (hv:=fun _ _=>rxa Tryz.underlying248 (by omega));refine Xc ?_ (v:=.int .u64 ((V3 kf (K2 (bt l) 80) h i) 4)) (V2 D) (hj:=ag0 (by omega));refine Xf ?_ (fun W hW=>J6t ((V3 kf (K2 (bt l) 80) h i) 4) 41 (by decide) (by decide) W);refine Xw ?_ (v:=.int .u64 (xo (xo (rt ((V3 kf (K2 (bt l) 80) h i) 4) 14) (rt ((V3 kf (K2 (bt l) 80) h i) 4) 18)) (rt ((V3 kf (K2 (bt l) 80) h i) 4) 41))) (hv:=fun _ _=>J40 rfl rfl rfl);refine Xw ?_ (v:=.int .u64 (ad ((V3 kf (K2 (bt l) 80) h i) 7) (xo (xo (rt ((V3 kf (K2 (bt l) 80) h i) 4) 14) (rt ((V3 kf (K2 (bt l) 80) h i) 4) 18)) (rt ((V3 kf (K2 (bt l) 80) h i) 4) 41)))) (hv:=fun _ _=>J5k rfl rfl rfl);refine Xw ?_ (v:=.pointer (some ⟨N,0+4,none⟩)) (hv:=fun _ _=>rxa Tryz.underlying248 (by omega));refine Xc ?_ (v:=.int .u64 ((V3 kf (K2 (bt l) 80) h i) 4)) (V2 D) (hj:=ag0 (by omega));refine Xw ?_ (v:=.pointer (some ⟨N,0+5,none⟩)) (hv:=fun _ _=>rxa Tryz.underlying248 (by omega));refine Xc ?_ (v:=.int .u64 ((V3 kf (K2 (bt l) 80) h i) 5)) (V2 D) (hj:=ag0 (by omega));refine Xw ?_ (v:=.int .u64 (an ((V3 kf (K2 (bt l) 80) h i) 4) ((V3 kf (K2 (bt l) 80) h i) 5))) (hv:=fun _ _=>Q1f rfl rfl rfl);refine Xw ?_ (v:=.pointer (some ⟨N,0+4,none⟩)) (hv:=fun _ _=>rxa Tryz.underlying248 (by omega));refine Xc ?_ (v:=.int .u64 ((V3 kf (K2 (bt l) 80) h i) 4)) (V2 D) (hj:=ag0 (by omega));refine Xw ?_ (v:=.int .u64 (nt ((V3 kf (K2 (bt l) 80) h i) 4))) (hv:=fun _ _=>Y7g rfl rfl);refine Xw ?_ (v:=.pointer (some ⟨N,0+6,none⟩)) (hv:=fun _ _=>rxa Tryz.underlying248 (by omega));refine Xc ?_ (v:=.int .u64 ((V3 kf (K2 (bt l) 80) h i) 6)) (V2 D) (hj:=ag0 (by omega));refine Xw ?_ (v:=.int .u64 (an (nt ((V3 kf (K2 (bt l) 80) h i) 4)) ((V3 kf (K2 (bt l) 80) h i) 6))) (hv:=fun _ _=>Q1f rfl rfl rfl);refine Xw ?_ (v:=.int .u64 (xo (an ((V3 kf (K2 (bt l) 80) h i) 4) ((V3 kf (K2 (bt l) 80) h i) 5)) (an (nt ((V3 kf (K2 (bt l) 80) h i) 4)) ((V3 kf (K2 (bt l) 80) h i) 6)))) (hv:=fun _ _=>J40 rfl rfl rfl);refine Xw ?_ (v:=.int .u64 (ad (ad ((V3 kf (K2 (bt l) 80) h i) 7) (xo (xo (rt ((V3 kf (K2 (bt l) 80) h i) 4) 14) (rt ((V3 kf (K2 (bt l) 80) h i) 4) 18)) (rt ((V3 kf (K2 (bt l) 80) h i) 4) 41))) (xo (an ((V3 kf (K2 (bt l) 80) h i) 4) ((V3 kf (K2 (bt l) 80) h i) 5)) (an (nt ((V3 kf (K2 (bt l) 80) h i) 4)) ((V3 kf (K2 (bt l) 80) h i) 6))))) (hv:=fun _ _=>J5k rfl rfl rfl);refine Xv ?_;refine Xw ?_ (v:=.pointer (some ⟨12,0+i,none⟩)) (hv:=fun _ _=>rxa Tryz.underlying270 (by omega));refine Xc ?_ (v:=.int .u64 (kf i)) ((Q7r HG.out G.ext).1) (hj:=ag0 (by omega));refine Xw ?_ (v:=.int .u64 (ad (ad (ad ((V3 kf (K2 (bt l) 80) h i) 7) (xo (xo (rt ((V3 kf (K2 (bt l) 80) h i) 4) 14) (rt ((V3 kf (K2 (bt l) 80) h i) 4) 18)) (rt ((V3 kf (K2 (bt l) 80) h i) 4) 41))) (xo (an ((V3 kf (K2 (bt l) 80) h i) 4) ((V3 kf (K2 (bt l) 80) h i) 5)) (an (nt ((V3 kf (K2 (bt l) 80) h i) 4)) ((V3 kf (K2 (bt l) 80) h i) 6)))) (kf i))) (hv:=fun _ _=>J5k rfl rfl rfl);refine Xv ?_;refine Xw ?_ (v:=.pointer (some ⟨α,0+i,none⟩)) (hv:=fun _ _=>rxa Tryz.underlying270 (by omega));refine Xc ?_ (v:=.int .u64 ((K2 (bt l) 80) i)) (V2 R) (hj:=ag0 (by omega));refine Xw ?_ (v:=.int .u64 (rT kf (K2 (bt l) 80) i (V3 kf (K2 (bt l) 80) h i)));refine Xv ?_;refine K3 ?_;intro β W9 hE hN hD;clear hN hD;simp only[J05,Act.put,mA,mB,mC,List.drop_succ_cons,List.drop_zero,List.drop_nil,List.length_nil,Nat.add_zero];have hO:=J0b hE;replace J:=J.o hO;replace M:=M.o hO;replace R:=R.o hO;replace D:=D.o hO;replace Q3:=Sl.off Q3 hO f0;replace G:=G.o hO;clear hO hE β;refine LN ?_;go_upto_region 7 with fail;refine J17 30 [] (by kernel_rfl) (fun x hx=>by cases hx) (by kernel_rfl) ?_;simp only[List.take_succ_cons,List.take_zero,List.take_nil]
   (try simp only[Act.put,mA,mB,mC])
   refine Xw ?_ (v:=.pointer (some ⟨N,0+0,none⟩)) (hv:=fun _ _=>rxa Tryz.underlying248 (by omega));refine Xc ?_ (v:=.int .u64 ((V3 kf (K2 (bt l) 80) h i) 0)) (V2 D) (hj:=ag0 (by omega));refine Xf ?_ (fun W hW=>J6t ((V3 kf (K2 (bt l) 80) h i) 0) 28 (by decide) (by decide) W);refine Xw ?_ (v:=.pointer (some ⟨N,0+0,none⟩)) (hv:=fun _ _=>rxa Tryz.underlying248 (by omega));refine Xc ?_ (v:=.int .u64 ((V3 kf (K2 (bt l) 80) h i) 0)) (V2 D) (hj:=ag0 (by omega));refine Xf ?_ (fun W hW=>J6t ((V3 kf (K2 (bt l) 80) h i) 0) 34 (by decide) (by decide) W);refine Xw ?_ (v:=.int .u64 (xo (rt ((V3 kf (K2 (bt l) 80) h i) 0) 28) (rt ((V3 kf (K2 (bt l) 80) h i) 0) 34))) (hv:=fun _ _=>J40 rfl rfl rfl);refine Xw ?_ (v:=.pointer (some ⟨N,0+0,none⟩)) (hv:=fun _ _=>rxa Tryz.underlying248 (by omega));refine Xc ?_ (v:=.int .u64 ((V3 kf (K2 (bt l) 80) h i) 0)) (V2 D) (hj:=ag0 (by omega));refine Xf ?_ (fun W hW=>J6t ((V3 kf (K2 (bt l) 80) h i) 0) 39 (by decide) (by decide) W);refine Xw ?_ (v:=.int .u64 (xo (xo (rt ((V3 kf (K2 (bt l) 80) h i) 0) 28) (rt ((V3 kf (K2 (bt l) 80) h i) 0) 34)) (rt ((V3 kf (K2 (bt l) 80) h i) 0) 39))) (hv:=fun _ _=>J40 rfl rfl rfl);refine Xw ?_ (v:=.pointer (some ⟨N,0+0,none⟩)) (hv:=fun _ _=>rxa Tryz.underlying248 (by omega));refine Xc ?_ (v:=.int .u64 ((V3 kf (K2 (bt l) 80) h i) 0)) (V2 D) (hj:=ag0 (by omega));refine Xw ?_ (v:=.pointer (some ⟨N,0+1,none⟩)) (hv:=fun _ _=>rxa Tryz.underlying248 (by omega));refine Xc ?_ (v:=.int .u64 ((V3 kf (K2 (bt l) 80) h i) 1)) (V2 D) (hj:=ag0 (by omega));refine Xw ?_ (v:=.int .u64 (an ((V3 kf (K2 (bt l) 80) h i) 0) ((V3 kf (K2 (bt l) 80) h i) 1))) (hv:=fun _ _=>Q1f rfl rfl rfl);refine Xw ?_ (v:=.pointer (some ⟨N,0+0,none⟩)) (hv:=fun _ _=>rxa Tryz.underlying248 (by omega));refine Xc ?_ (v:=.int .u64 ((V3 kf (K2 (bt l) 80) h i) 0)) (V2 D) (hj:=ag0 (by omega));refine Xw ?_ (v:=.pointer (some ⟨N,0+2,none⟩)) (hv:=fun _ _=>rxa Tryz.underlying248 (by omega));refine Xc ?_ (v:=.int .u64 ((V3 kf (K2 (bt l) 80) h i) 2)) (V2 D) (hj:=ag0 (by omega));refine Xw ?_ (v:=.int .u64 (an ((V3 kf (K2 (bt l) 80) h i) 0) ((V3 kf (K2 (bt l) 80) h i) 2))) (hv:=fun _ _=>Q1f rfl rfl rfl);refine Xw ?_ (v:=.int .u64 (xo (an ((V3 kf (K2 (bt l) 80) h i) 0) ((V3 kf (K2 (bt l) 80) h i) 1)) (an ((V3 kf (K2 (bt l) 80) h i) 0) ((V3 kf (K2 (bt l) 80) h i) 2)))) (hv:=fun _ _=>J40 rfl rfl rfl);refine Xw ?_ (v:=.pointer (some ⟨N,0+1,none⟩)) (hv:=fun _ _=>rxa Tryz.underlying248 (by omega));refine Xc ?_ (v:=.int .u64 ((V3 kf (K2 (bt l) 80) h i) 1)) (V2 D) (hj:=ag0 (by omega));refine Xw ?_ (v:=.pointer (some ⟨N,0+2,none⟩)) (hv:=fun _ _=>rxa Tryz.underlying248 (by omega));refine Xc ?_ (v:=.int .u64 ((V3 kf (K2 (bt l) 80) h i) 2)) (V2 D) (hj:=ag0 (by omega));refine Xw ?_ (v:=.int .u64 (an ((V3 kf (K2 (bt l) 80) h i) 1) ((V3 kf (K2 (bt l) 80) h i) 2))) (hv:=fun _ _=>Q1f rfl rfl rfl);refine Xw ?_ (v:=.int .u64 (xo (xo (an ((V3 kf (K2 (bt l) 80) h i) 0) ((V3 kf (K2 (bt l) 80) h i) 1)) (an ((V3 kf (K2 (bt l) 80) h i) 0) ((V3 kf (K2 (bt l) 80) h i) 2))) (an ((V3 kf (K2 (bt l) 80) h i) 1) ((V3 kf (K2 (bt l) 80) h i) 2)))) (hv:=fun _ _=>J40 rfl rfl rfl);refine Xw ?_ (v:=.int .u64 (rU (V3 kf (K2 (bt l) 80) h i)));refine Xv ?_;refine K3 ?_;intro β Z hE hN hD;clear hN hD;simp only[J05,Act.put,mA,mB,mC,List.drop_succ_cons,List.drop_zero,List.drop_nil,List.length_nil,Nat.add_zero];have hO:=J0b hE;replace J:=J.o hO;replace M:=M.o hO;replace R:=R.o hO;replace D:=D.o hO;replace Q3:=Sl.off Q3 hO f0;replace G:=G.o hO;clear hO hE β;refine LN ?_;go_upto_region 8 with fail;refine wp_region_lit ?_;refine Lv ?_;refine Lv ?_;refine Lw ?_ (v:=.int .u64 (ad (rT kf (K2 (bt l) 80) i (V3 kf (K2 (bt l) 80) h i)) (rU (V3 kf (K2 (bt l) 80) h i)))) (hv:=J5k rfl rfl rfl);refine Lw ?_ (v:=.pointer (some ⟨N,0+0,none⟩)) (hv:=rxa Tryz.underlying248 (by omega));refine Lg ?_ D (v:=.int .u64 ((V3 kf (K2 (bt l) 80) h i) 0)) (hj:=ag0 (by omega));refine Lw ?_ (v:=.pointer (some ⟨N,0+1,none⟩)) (hv:=rxa Tryz.underlying248 (by omega));refine Lg ?_ D (v:=.int .u64 ((V3 kf (K2 (bt l) 80) h i) 1)) (hj:=ag0 (by omega));refine Lw ?_ (v:=.pointer (some ⟨N,0+2,none⟩)) (hv:=rxa Tryz.underlying248 (by omega));refine Lg ?_ D (v:=.int .u64 ((V3 kf (K2 (bt l) 80) h i) 2)) (hj:=ag0 (by omega));refine Lw ?_ (v:=.pointer (some ⟨N,0+3,none⟩)) (hv:=rxa Tryz.underlying248 (by omega));refine Lg ?_ D (v:=.int .u64 ((V3 kf (K2 (bt l) 80) h i) 3)) (hj:=ag0 (by omega));refine Lv ?_;refine Lw ?_ (v:=.int .u64 (ad ((V3 kf (K2 (bt l) 80) h i) 3) (rT kf (K2 (bt l) 80) i (V3 kf (K2 (bt l) 80) h i)))) (hv:=J5k rfl rfl rfl);refine Lw ?_ (v:=.pointer (some ⟨N,0+4,none⟩)) (hv:=rxa Tryz.underlying248 (by omega));refine Lg ?_ D (v:=.int .u64 ((V3 kf (K2 (bt l) 80) h i) 4)) (hj:=ag0 (by omega));refine Lw ?_ (v:=.pointer (some ⟨N,0+5,none⟩)) (hv:=rxa Tryz.underlying248 (by omega));refine Lg ?_ D (v:=.int .u64 ((V3 kf (K2 (bt l) 80) h i) 5)) (hj:=ag0 (by omega));refine Lw ?_ (v:=.pointer (some ⟨N,0+6,none⟩)) (hv:=rxa Tryz.underlying248 (by omega));refine Lg ?_ D (v:=.int .u64 ((V3 kf (K2 (bt l) 80) h i) 6)) (hj:=ag0 (by omega));refine Lw ?_ (v:=.agg (J0 .u64 8 (V3 kf (K2 (bt l) 80) h (i+1)))) (hv:=by first|rfl|(go_simp;rfl));refine Lp ?_ D (cells:=J0 .u64 8 (V3 kf (K2 (bt l) 80) h (i+1))) (hi:=by rw[J1];kernel_rfl) (hs:=by rw[J1,J1]) (h1:=by exact J04 _ _ _);intro X hO h_;replace D:Blk X N (J0 .u64 8 (V3 kf (K2 (bt l) 80) h (i+1))) 248:=h_;clear h_;replace J:=J.p hO S;replace M:=M.p hO μ;replace R:=R.p hO ξ;replace Q3:=Sl.off Q3 hO (f1 ρ);replace G:=G.p hO κ;clear hO;refine J2 ?_;go_wp2;go_roundw
   case rel=>exact⟨i+1,by omega,by go_num,G,J,M,R,D,Q3⟩
   case measure=>simp[intOf];omega
  obtain rfl:i=80:=by omega
  go_upto_region 4 with fail;refine wp_region_lit ?_;refine Lw ?_ (v:=.bool false);refine J2 ?_
  go_wp2_with fail
  go_loopw [102] (fun ii wr=> ∃(i:Nat),(i≤8)∧(ii=.int .i64 (i:Int))∧Off [] w wr∧Blk wr Z8 (J0 .u64 8 (mx h (V3 kf (K2 (bt l) 80) h 80) i)) 248∧Blk wr Y (J0 .u64 8 (fun _=>0)) 248∧Blk wr α (J0 .u64 80 (K2 (bt l) 80)) 270∧Blk wr N (J0 .u64 8 (V3 kf (K2 (bt l) 80) h 80)) 248∧Sl wr (.slice (some adr) l.length c) l)
   (fun ii _=>8-(intOf ii).toNat)
  case atStart=>exact⟨0,Nat.zero_le _,rfl,G,(by rw[Y7j];exact J),M,R,D,Q3⟩
  case round=>
   obtain⟨i,hi,rfl,G,J,M,R,D,Q3⟩:=hrel;obtain⟨W9,δ⟩:=J76 G;subst δ
   by_cases h8:i<8
   ·
    go_upto_region 11 with fail;refine wp_region_lit ?_;refine Lw ?_ (v:=.bool true);refine J2 ?_;go_upto_region 13 with fail;refine J17 8 [] (by kernel_rfl) (fun x hx=>by cases hx) (by kernel_rfl) ?_;simp only[List.take_succ_cons,List.take_zero,List.take_nil]
    (try simp only[Act.put,mA,mB,mC])
    refine Xv ?_;refine Xw ?_ (v:=.pointer (some ⟨Z8,0+i,none⟩)) (hv:=fun _ _=>rxa Tryz.underlying248 (by omega));refine Xc ?_ (v:=.int .u64 ((mx h (V3 kf (K2 (bt l) 80) h 80) i) i)) (V2 J) (hj:=ag0 (by omega));refine Xv ?_;refine Xw ?_ (v:=.pointer (some ⟨N,0+i,none⟩)) (hv:=fun _ _=>rxa Tryz.underlying248 (by omega));refine Xc ?_ (v:=.int .u64 ((V3 kf (K2 (bt l) 80) h 80) i)) (V2 D) (hj:=ag0 (by omega));refine Xw ?_ (v:=.int .u64 (ad ((mx h (V3 kf (K2 (bt l) 80) h 80) i) i) ((V3 kf (K2 (bt l) 80) h 80) i))) (hv:=fun _ _=>J5k rfl rfl rfl);refine Xw ?_ (v:=.pointer (some ⟨Z8,0+i,none⟩)) (hv:=fun _ _=>rxa Tryz.underlying248 (by omega));refine K3 ?_;intro β Z hE hN hD;clear hN hD;simp only[J05,Act.put,mA,mB,mC,List.drop_succ_cons,List.drop_zero,List.drop_nil,List.length_nil,Nat.add_zero];have hO:=J0b hE;replace J:=J.o hO;replace M:=M.o hO;replace R:=R.o hO;replace D:=D.o hO;replace Q3:=Sl.off Q3 hO f0;replace G:=G.o hO;clear hO hE β;refine J1k (v:=.int .u64 (ad ((mx h (V3 kf (K2 (bt l) 80) h 80) i) i) ((V3 kf (K2 (bt l) 80) h 80) i))) ⟨rfl,rfl⟩ (by rfl) rfl rfl rfl J (by rw[J1,Nat.zero_add];omega) (by kernel_rfl) ?_
    (try simp only[Act.put,mA,mB,mC])
    intro X hO h_;rw[Nat.zero_add,X6] at h_;replace J:Blk X Z8 (J0 .u64 8 (upd (mx h (V3 kf (K2 (bt l) 80) h 80) i) i (ad ((mx h (V3 kf (K2 (bt l) 80) h 80) i) i) ((V3 kf (K2 (bt l) 80) h 80) i)))) 248:=h_;clear h_;replace M:=M.p hO U.symm;replace R:=R.p hO V.symm;replace D:=D.p hO S.symm;replace Q3:=Sl.off Q3 hO (f1 ν);replace G:=G.p hO σ;clear hO;refine LN ?_;go_wp2;go_roundw
    case rel=>exact⟨i+1,by omega,by go_num,G,(by rw[←Y7i];exact J),M,R,D,Q3⟩
    case measure=>simp[intOf];omega
   obtain rfl:i=8:=by omega
   rw[V3u] at J;go_upto_region 11 with fail;refine wp_region_lit ?_;refine Lw ?_ (v:=.bool false);refine J2 ?_;go_upto_region 15 with fail;refine wp_region_lit ?_;refine L0A ?_ J;refine Lp ?_ M (cells:=J0 .u64 8 (prs h (bt l))) (hi:=by rw[J1];kernel_rfl) (hs:=by rw[J1,J1]) (h1:=by exact J04 _ _ _);intro Z hO h_;replace M:Blk Z Y (J0 .u64 8 (prs h (bt l))) 248:=h_;clear h_;replace G:=G.p hO θ;clear hO;refine J2 ?_;go_wp2;refine bodyPost_ret (Z0 rfl rfl M (by kernel_rfl) (by rw[J1];kernel_rfl)) rfl ⟨rfl,G.ext⟩
end

section
theorem Y9h (n:Nat):(Builtin.zeroCells (Value.int .u8 0).cells n).toList=bs8 (List.replicate n 0):=by
  simp[Builtin.zeroCells,bs8,Value.cells,List.map_replicate,Nat.mod_one,List.map_const']
theorem J9a {P:Program}(w:World)(t tn ty e:TypeId)(i:TypeInfo)(k:IntKind)(ht:P.underlying t=some (.slice e))(htn:P.underlying tn=some (.int k))(hi:P.info? e=some i)(hz:i.zero=some (.int .u8 0))(hsz:i.size=1)(hby:i.bytes=1)
    (v:Value) (n:Nat) (xs:List Value) (hown:w.ownsRow 0 e 1 v n xs) (m:Nat) (hm:0<m) (hlen:n+m≤140737488355328):
    ∃v' w',(Builtin.append_ #[t,tn] ty #[v,.int .i64 (m:Int)]).run P w=.ok v' w' ∧w'.ownsRow 0 e 1 v' (n+m) (xs++bs8 (List.replicate m 0))∧w.grownBy w' v.ownBlock∧(v'.ownBlock=v.ownBlock∨v'.ownBlock=some w.heap.size):=by
  have hlen' :(xs++bs8 (List.replicate m 0)).length=(n+m)*1:=by rw[List.length_append,hown.1,V7,List.length_replicate];omega
  have N:∀(old:Nat),old<n+m→∀(Z:Option Nat),
      (w.drew.alloc (.cells (xs.toArray++(bs8 (List.replicate m 0)).toArray++Builtin.zeroCells (Value.int .u8 0).cells (grownCap w (n+m) old e-(n+m))) e)).ownsRow 0 e 1
        (.slice (some ⟨w.heap.size,0,none⟩) (n+m) (grownCap w (n+m) old e)) (n+m) (xs++bs8 (List.replicate m 0))∧
      w.grownBy (w.drew.alloc (.cells (xs.toArray++(bs8 (List.replicate m 0)).toArray++Builtin.zeroCells (Value.int .u8 0).cells (grownCap w (n+m) old e-(n+m))) e)) Z:=by
    intro old ho Z;have γ:=grownCap_ge w (n+m) old e;have R:grownCap w (n+m) old e≤maxLen:=grownCap_le_maxLen w (n+m) old e (by unfold maxLen;omega);refine⟨⟨hlen',.inr ⟨w.heap.size,_,_,rfl,Nat.zero_le _,heap_alloc_new w.drew _,γ,R,?_,?_⟩⟩,⟨rfl,rfl,rfl,by simp,fun k hk _=>_root_.Go.heap_alloc_old w.drew _ (by simpa using hk)⟩⟩
    · simp only[Array.size_append,List.size_toArray,size_zeroCells,hown.1,V7,List.length_replicate,Value.cells,List.size_toArray]
      simp;omega
    · simp only[Array.toList_append,List.append_assoc]
      rw[←List.append_assoc,←hlen'];exact List.take_left
  have hw:IntKind.i64.wrap (m:Int)=m:=by rw[IntKind.wrap_i64];omega
  have S:¬((m:Int)<0):=by omega
  have U:¬(281474976710656<(m:Int)):=by omega
  have T:Builtin.zeroCells (Value.int .u8 0).cells m=(bs8 (List.replicate m 0)).toArray:=Array.toList_inj.1 (Y9h m);rcases hown.2 with⟨rfl,rfl⟩|⟨g,D,M,rfl,_,hg,ε,R,δ,X⟩
  · have hx:xs=[]:=List.eq_nil_of_length_eq_zero (by simpa using hown.1)
    subst hx;have hr:=Lib.run_append_nil_zeros (P:=P) w t tn ty e i (.int .u8 0) .i64 k ht htn hi hz m hm (by omega) (by omega) (by rw[hby];omega);have G:=N 0 (by omega) (Value.ownBlock (.slice none 0 0));simp only[Nat.zero_add,List.nil_append,Array.empty_append] at G⊢;rw[T] at hr;exact⟨_,_,hr,by simpa using G.1,G.2,.inr rfl⟩
  by_cases J:n+m≤D
  · have α:=run_storeCells_at P g (n*1) e (bs8 (List.replicate m 0)) 0 M w hg (by rw[V7,List.length_replicate,δ];simp;omega) (Q19 _)
    simp only[Nat.add_zero,Nat.mul_one] at α;refine⟨.slice (some ⟨g,0,none⟩) (n+m) D,w.setRow g (M.toList.take n++bs8 (List.replicate m 0)++M.toList.drop (n+(bs8 (List.replicate m 0)).length)).toArray,?_,?_,?_,.inl rfl⟩
    · have V:m≠0:=by omega
      simp[Builtin.append_,run_underlying ht,run_underlying htn,sizeOf,typeInfo,zeroValue,hi,hz,asInt,asIntOf,hw,S,hby,U,hsz,V,J,T,Addr.add_lit,α]
    · refine⟨hlen',.inr ⟨g,D,_,rfl,Nat.zero_le _,setRow_heap w g M _ e _ hg,J,R,?_,?_⟩⟩
      · simp only[List.size_toArray,List.length_append,List.length_take,List.length_drop,Array.length_toList,V7,List.length_replicate]
        omega
      have ht' :M.toList.take n=xs:=by simpa using X
      rw[ht',←hlen'];exact List.take_left
    exact⟨rfl,rfl,rfl,by simp,fun k _ hk=>setRow_other w g k _ (fun e=>hk (by simp[Value.ownBlock,e]))⟩
  have Y:∀j u,xs[j]?=some u→w.cell? ((⟨g,0,none⟩:Addr).add j)=some u:=hown.cells (g:=g) rfl;have β:=run_firstCells_some (P:=P) w.drew 1 n ⟨g,0,none⟩ n D xs hown.1 (by simpa using Y);have G:=N D (by omega) (Value.ownBlock (.slice (some ⟨g,0,none⟩) n D));have h63' :¬(9223372036854775807<((n:Int)+(m:Int))):=by omega
  have hf:=growslice_fits (need:=n+m) (old:=D) (bytes:=1) (by omega) (by omega);have h48' :¬(281474976710656<Builtin.nextslicecap (n+m) D):=by omega
  refine⟨_,_,?_,G.1,G.2,.inr rfl⟩;have V:m≠0:=by omega
  simp[Builtin.append_,run_underlying ht,run_underlying htn,sizeOf,typeInfo,zeroValue,hi,hz,asInt,asIntOf,hw,S,hby,U,hsz,V,J,h63',h48',Question.forced,T,β,newRow,grownCap,Array.append_assoc]
  congr 2
  simp[←List.append_toArray]
theorem Z0u {ops:Array Oper}{Q:Exit→Act→World→Prop}{w:World}{l:List Oper}{o:Oper}{a:Act}{s x:Operand}{v:Value}{xs:List UInt8}{m:Nat}(hm:0<m)(hw:Region.wanted o (yielded ops a.tmps)=true)
    (ho:o.op=.call {callee:=.builtin .append,args:= #[s,x],argTypes:= #[35,3]}) (hs:a.eval s=v) (hx:a.eval x=.int .i64 (m:Int)) (hown:Own w v xs) (hlen:xs.length+m≤140737488355328)
    (h:∀v' W,Own W v' (xs++List.replicate m 0)→Off v.ownBlock.toList w W→Of v'.ownBlock v.ownBlock w.heap.size→wpList Tryz.prog ops Q l (a.put o.dst v') W):wpList Tryz.prog ops Q (o::l) a w:=by
  obtain⟨i,hi,hz,G,J⟩:=info_parts J7t;obtain⟨v',W,D,h1,h2,h3⟩:=J9a (P:=Tryz.prog) w 35 3 o.type 5 i .i64 Tryz.underlying35 Tryz.underlying3 hi hz G J v xs.length (bs8 xs) hown m hm hlen;refine J5i hw (v:=v') (W:=W) ?_ (h v' W ?_ (J9q h2) (Y11 h3))
  · unfold execOp
    simp only[ho,resolve,invoke,builtin,Sem.run_bind,Sem.run_pure,Result.andThen_ok,List.map_toArray,List.map_cons,List.map_nil,hs,hx,D]
  unfold Own;rw[List.length_append,Q0g,List.length_replicate];exact h1
end

section

section
variable {w : World} {o : Oper} {a : Act}
theorem Q8q {P:Program}{t e:TypeId}{k kk:IntKind}{m j:Nat}{f:Nat→Int}{x y:Operand}(hj:j<m)(ht:P.underlying t=some (.array m e))(he:(P.info? e).map (·.size)=some 1)(hg:(isAgg e).run P w=.ok false w)(ho:o.op=.index t x y)(hx:a.eval x=.agg (J0 kk m f))(hy:a.eval y=.int k (j:Int)):
    (execOp a.eval o).run P w=.ok (.value (.int kk (f j))) w:=by
  cases hq:P.info? e with
  |none=>simp[hq] at he
  |some i=>
    have hs:i.size=1:=by simpa[hq] using he
    have hp:=K7 kk m f j hj;simp[execOp,ho,hx,hy,Instr.index,asIntOf,part,run_underlying ht,Sem.run_bind,sizeOf,typeInfo,hq,hs,hj,hg,hp]
end
def Q54:Value→Nat
  | .slice _ n _=>n
  |_=>0
theorem Z5y {w:World}{v:Value}{l:List UInt8}(h:Own w v l):Q54 v=l.length:=by
  obtain⟨A,c,rfl,_⟩:=h.len;rfl
def u8 (n:Nat):UInt8:=UInt8.ofNat n
theorem J4f (n:Nat):(u8 n).toNat=n % 256:=UInt8.toNat_ofNat'
theorem J6e (n:Nat):((u8 n).toNat:Int)=(n:Int) % 256:=by rw[J4f];rfl
def be8 (X:Nat):List UInt8:=[u8 (X / 72057594037927936),u8 (X / 281474976710656),u8 (X / 1099511627776),u8 (X / 4294967296),u8 (X / 16777216),u8 (X / 65536),u8 (X / 256),u8 X]
def w8 (x:Int):Int:=IntKind.wrap .u8 x
theorem Q43 (ps:List (List UInt8))(i:Nat):(ps.take i).flatten.length≤ps.flatten.length:=by
  have:ps.flatten=(ps.take i).flatten++(ps.drop i).flatten:=by rw[←List.flatten_append,List.take_append_drop]
  rw[this,List.length_append];omega
theorem J5o {ps:List (List UInt8)}{i:Nat}{l:List UInt8}(h:ps[i]?=some l):(ps.take (i+1)).flatten=(ps.take i).flatten++l:=by
  rw[List.take_add_one,h];simp
theorem Z61 (L:List UInt8)(X:Nat):L++[u8 (X / 72057594037927936)]++[u8 (X / 281474976710656)]++[u8 (X / 1099511627776)]++[u8 (X / 4294967296)]++[u8 (X / 16777216)]++[u8 (X / 65536)]++[u8 (X / 256)]++[u8 X]=L++be8 X:=by
  simp only[be8,List.append_assoc,List.cons_append,List.nil_append]
theorem J96 {w:World}{v:Value}{l:List UInt8}(h:Sl w v l):Q54 v=l.length:=by
  obtain⟨A,c,rfl,_⟩:=h;rfl
theorem J30 {w:World}{o:Oper}{a:Act}{x:Operand}{p:Int}(ho:o.op=.convert 43 5 x)(hx:a.eval x=.int .u64 p):(execOp a.eval o).run Tryz.prog w=.ok (.value (.int .u8 (w8 p))) w:=by
  simp[execOp,ho,hx,convert,run_underlying Tryz.underlying5,run_underlying Tryz.underlying43,Sem.run_bind,Conv.intToInt,w8]
theorem J3l (X n D:Nat)(h:2^n=D):w8 (sr ((X:Nat):Int) n)=((u8 (X / D)).toNat:Int):=by
  subst h;unfold w8 sr;rw[J6e,IntKind.wrap_u8,Int.natCast_ediv,Int.natCast_pow];rfl
theorem Z5z (X:Nat):w8 (sr ((X:Nat):Int) 0)=((u8 X).toNat:Int):=by rw[J3l X 0 1 (by decide),Nat.div_one]
theorem Y97 {w:World}:(isAgg 43).run Tryz.prog w=.ok false w:=by
  simp[isAgg,run_underlying Tryz.underlying43,Sem.run_bind]
theorem V04 (x:Int):0≤w8 x∧w8 x<256:=by unfold w8;rw[IntKind.wrap_u8];omega
theorem Z8b {P:Program}{w:World}{o:Oper}{a:Act}{x y:Operand}{t t' :TypeId}{k:IntKind}{p:Int}{n:Nat}(hn:n≤64)(ho:o.op=.binOp .shr t x y t')(hx:a.eval x=.int .i64 p)(hy:a.eval y=.int k (n:Int)):(execOp a.eval o).run P w=.ok (.value (.int .i64 (p / 2^n))) w:=by
  have h:min ((n:Int)).toNat IntKind.i64.bits=n:=by rw[Int.toNat_natCast];exact Nat.min_eq_left hn
  simp only[execOp,ho,hx,hy,eqGuard,binOp,Sem.run_bind];simp[Op.shift,h,go_sem,Sem.run_bind]
theorem Q8v {w:World}{o:Oper}{a:Act}{x:Operand}{p:Int}(ho:o.op=.convert 3 5 x)(hx:a.eval x=.int .i64 p):(execOp a.eval o).run Tryz.prog w=.ok (.value (.int .u8 (w8 p))) w:=by
  simp[execOp,ho,hx,convert,run_underlying Tryz.underlying5,run_underlying Tryz.underlying3,Sem.run_bind,Conv.intToInt,w8]
section
variable {P : Program} {w : World} {o : Oper} {a : Act} {x y : Operand} {t t' : TypeId} {p q : Int}
theorem Z8c (ho:o.op=.binOp .and t x y t')(hx:a.eval x=.int .i64 p)(hy:a.eval y=.int .i64 q):(execOp a.eval o).run P w=.ok (.value (.int .i64 (bits .and .i64 p q))) w:=by
  simp only[execOp,ho,hx,hy];rfl
end
end

section
section
variable {w : World} {o : Oper} {a : Act}
theorem Y4v:(Tryz.prog.info? 35).map (·.size)=some 1:=by kernel_rfl
theorem Q7d {x y:Operand}{k:IntKind}{ad:Addr}{n c j:Nat}(hj:j<n)(ho:o.op=.indexAddr 187 x y)(hx:a.eval x=.slice (some ad) n c)(hy:a.eval y=.int k (j:Int)):
    (execOp a.eval o).run Tryz.prog w=.ok (.value (.pointer (some (ad.add j)))) w:=by
  have h1:=Y4v;cases hq:Tryz.prog.info? 35 with
  |none=>simp[hq] at h1
  |some i=>
    have hs:i.size=1:=by simpa[hq] using h1
    simp[execOp,ho,hx,hy,Instr.indexAt,asIntOf,run_underlying Tryz.underlying187,Sem.run_bind,sizeOf,typeInfo,hq,hs,hj]
end
end
end Go.Proofs.YtlkbneflnjmgbaaGreatDoor

namespace Go.Proofs.YtlkbneflnjmgbaaGreatDoor.S8
section
end

section

section
variable {w : World} {o : Oper} {a : Act}
end
section
variable {P : Program} {w : World} {o : Oper} {a : Act} {x y : Operand} {t t' : TypeId} {p q : Int}
end
end

section

def zc (n:Nat):Nat:=(239-n % 128) % 128
def pad (l:List UInt8):List UInt8:=l++[128]++List.replicate (zc l.length) 0++List.replicate 8 0++be8 (8*l.length)
def nb (n:Nat):Nat:=(n+1+zc n+16) / 128
theorem Q8n (n:Nat):(n+1+zc n) % 128=112∧zc n<128:=by unfold zc;omega
theorem K0d {n k:Nat}(h:k<zc n):(n+1+k) % 128≠112:=by unfold zc at h;omega
theorem Z2v (l:List UInt8):(pad l).length=128*nb l.length:=by
  have h:=Q8n l.length;unfold pad nb;simp only[List.length_append,List.length_cons,List.length_nil,List.length_replicate,be8];omega
def Hs (P:List UInt8):Nat→Nat→Int
  |0=>hf
  |j+1=>prs (Hs P j) (bt (P.drop (128*j)))
def ob (H:Nat→Int)(j:Nat):Int:=w8 (sr (H (j / 8)) (8*(7-j % 8)))
def Q5u (H:Nat→Int)(n j:Nat):Int:=if j<n then ob H j else 0
theorem Z7s (H:Nat→Int):Q5u H 0=fun _=>0:=by funext j;unfold Q5u;rw[if_neg (by omega)]
theorem Z7t (H:Nat→Int)(i k:Nat)(hk:k<8):upd (Q5u H (8*i+k)) (8*i+k) (w8 (sr (H i) (8*(7-k))))=Q5u H (8*i+(k+1)):=by
  funext j
  unfold upd Q5u
  by_cases h:j=8*i+k
  · subst h
    rw[if_pos rfl,if_pos (by omega),ob,show(8*i+k) / 8=i by omega,show(8*i+k) % 8=k by omega]
  rw[if_neg h]
  by_cases hl:j<8*i+k
  · rw[if_pos hl,if_pos (by omega)]
  rw[if_neg hl,if_neg (by omega)]
theorem Y3g (H:Nat→Int):J0 .u8 64 (Q5u H 64)=J0 .u8 64 (ob H):=J0f _ _ _ _ fun j hj=>by unfold Q5u;rw[if_pos hj]
def sm (l:List UInt8):Nat→Int:=ob (Hs (pad l) (nb l.length))
theorem Q2d (P:List UInt8)(j:Nat):List.drop 128 (List.drop (128*j) P)=List.drop (128*(j+1)) P:=by
  rw[List.drop_drop];congr 1
theorem Z7u {w:World}{v:Value}{l:List UInt8}(h:Own w v l):Sl w v (List.drop (128*0) l):=h.sl
end
end Go.Proofs.YtlkbneflnjmgbaaGreatDoor.S8

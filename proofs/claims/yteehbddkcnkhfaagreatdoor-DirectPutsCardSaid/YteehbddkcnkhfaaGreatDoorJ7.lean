/- Contracts and plain laws for directPuts_holds. Conditions: the tables hold their numbers. -/
import Derived.Test.YteehbddkcnkhfaaGreatDoorGc
import Derived.Lib.AppendZeros
open Go.RowKit
set_option maxRecDepth 100000
set_option linter.unusedSimpArgs false
set_option linter.unusedVariables false
namespace Go.Proofs.YteehbddkcnkhfaaGreatDoor
section
set_option maxHeartbeats 4000000

def xo (p q:Int):Int:=bits .xor .u64 p q
def an (p q:Int):Int:=bits .and .u64 p q
def oo (p q:Int):Int:=bits .or .u64 p q
def nt (p:Int):Int:=bits .xor .u64 18446744073709551615 p
def ad (p q:Int):Int:=IntKind.wrap .u64 (p+q)
def sl (p:Int)(n:Nat):Int:=IntKind.wrap .u64 (p*2^n)
def sr (p:Int)(n:Nat):Int:=p / 2^n
def rt (p:Int)(n:Nat):Int:=oo (sr p n) (sl p (64-n))
theorem Y6r (p q:Int):oo p q=oo q p:=by unfold oo;simp only[bits,BitVec.or_comm]
section
variable {P : Program} {w : World} {o : Oper} {a : Act} {x y : Operand} {t t' : TypeId} {p q : Int}
theorem J45 (ho:o.op=.binOp .xor t x y t')(hx:a.eval x=.int .u64 p)(hy:a.eval y=.int .u64 q):(execOp a.eval o).run P w=.ok (.value (.int .u64 (xo p q))) w:=by
  simp only[execOp,ho,hx,hy];rfl
theorem Q1a (ho:o.op=.binOp .and t x y t')(hx:a.eval x=.int .u64 p)(hy:a.eval y=.int .u64 q):(execOp a.eval o).run P w=.ok (.value (.int .u64 (an p q))) w:=by
  simp only[execOp,ho,hx,hy];rfl
theorem Y1c (ho:o.op=.binOp .or t x y t')(hx:a.eval x=.int .u64 p)(hy:a.eval y=.int .u64 q):(execOp a.eval o).run P w=.ok (.value (.int .u64 (oo p q))) w:=by
  simp only[execOp,ho,hx,hy];rfl
theorem J5n (ho:o.op=.binOp .add t x y t')(hx:a.eval x=.int .u64 p)(hy:a.eval y=.int .u64 q):(execOp a.eval o).run P w=.ok (.value (.int .u64 (ad p q))) w:=by
  simp only[execOp,ho,hx,hy];rfl
theorem Y6s (ho:o.op=.unOp .xor t x)(hx:a.eval x=.int .u64 p):(execOp a.eval o).run P w=.ok (.value (.int .u64 (nt p))) w:=by
  simp only[execOp,ho,hx];rfl
theorem J46 {k:IntKind}{n:Nat}(hn:n≤64)(ho:o.op=.binOp .shl t x y t')(hx:a.eval x=.int .u64 p)(hy:a.eval y=.int k (n:Int)):(execOp a.eval o).run P w=.ok (.value (.int .u64 (sl p n))) w:=by
  have h:min ((n:Int)).toNat IntKind.u64.bits=n:=by rw[Int.toNat_natCast];exact Nat.min_eq_left hn
  simp only[execOp,ho,hx,hy,eqGuard,binOp,Sem.run_bind];simp[Op.shift,h,sl,go_sem,Sem.run_bind]
theorem J18 {k:IntKind}{n:Nat}(hn:n≤64)(ho:o.op=.binOp .shr t x y t')(hx:a.eval x=.int .u64 p)(hy:a.eval y=.int k (n:Int)):(execOp a.eval o).run P w=.ok (.value (.int .u64 (sr p n))) w:=by
  have h:min ((n:Int)).toNat IntKind.u64.bits=n:=by rw[Int.toNat_natCast];exact Nat.min_eq_left hn
  simp only[execOp,ho,hx,hy,eqGuard,binOp,Sem.run_bind];simp[Op.shift,h,sr,go_sem,Sem.run_bind]
end
end

section
set_option maxHeartbeats 4000000
attribute [local irreducible] wpList

theorem V8w (n:Nat)(h1:1≤n)(h2:n≤63):bits .and .u64 (18446744073709551616-(n:Int)) 63=((64-n:Nat):Int):=by
  obtain⟨m,hm⟩:∃m:Nat,m=18446744073709551616-n:=⟨_,rfl⟩
  have e:(18446744073709551616-(n:Int))=(m:Int):=by omega
  have D:(BitVec.ofInt 64 63).toNat=2^6-1:=by decide
  have G:(BitVec.ofInt 64 (m:Int) &&& BitVec.ofInt 64 63).toNat=m % 2^6:=by
    rw[BitVec.toNat_and,BitVec.toNat_ofInt,D,Nat.and_two_pow_sub_one_eq_mod];omega
  rw[e];show IntKind.u64.wrap ((BitVec.ofInt 64 (m:Int) &&& BitVec.ofInt 64 63).toNat:Nat)=_;rw[G,IntKind.wrap_u64];omega

theorem V3f (p:Int)(n:Nat)(h1:1≤n)(h2:n≤63)(w:World):
  Calls Tryz.prog 200 #[.int .u64 p,.int .i64 (-(n:Int))] w fun e w' =>K7 (.int .u64 (rt p n)) w w' e:=by
 have n0:(1:Int)≤(n:Int):=by omega
 have n1:(n:Int)≤63:=by omega
 have ha:=V8w n h1 h2;have D:Off [] w w:=Off.refl _ _
 go_enter Tryz.func200,Tryz.ntmps200
 go_upto_region 1 with fail;refine wp_region_lit ?_;refine Lv ?_;refine Lw ?_ (v:=.int .u64 (18446744073709551616-(n:Int))) (hv:=by go_simp;(try simp only[IntKind.wrap_u64,IntKind.wrap_i64]);(try omega));refine Lw ?_ (v:=.int .u64 (((64-n:Nat):Int))) (hv:=by first|(go_simp;done)|(go_simp;(try rw[ha]);(try omega)));refine Lv ?_;refine J5 ?_;go_upto_region 2 with fail;refine wp_region_lit ?_;refine Lv ?_;refine Lv ?_;refine Lw ?_ (v:=.int .u64 (sl p (64-n))) (hv:=J46 (n:=(64-n)) (by omega) rfl rfl rfl);refine Lv ?_;refine Lv ?_;refine Lw ?_ (v:=.int .u64 ((n:Int))) (hv:=by go_simp;(try simp only[IntKind.wrap_u64,IntKind.wrap_i64]);(try omega));refine Lw ?_ (v:=.int .u64 (sr p n)) (hv:=J18 (n:=n) (by omega) rfl rfl rfl);refine Lw ?_ (v:=.int .u64 (oo (sl p (64-n)) (sr p n))) (hv:=Y1c rfl rfl rfl);refine Lv ?_;refine J5 ?_;go_wp2;exact bodyPost_ret (v:=.int .u64 (oo (sl p (64-n)) (sr p n))) (by simp only[results,Tryz.results200];go_simp) rfl ⟨congrArg (fun z=>Ending.returned (.int .u64 z)) (Y6r _ _),D.ext⟩
theorem J6q (p:Int)(n:Nat)(h1:1≤n)(h2:n≤63)(w:World):
  Calls Tryz.prog 174 #[.int .u64 p,.int .i64 (n:Int)] w fun e w' =>K7 (.int .u64 (rt p n)) w w' e:=by
 have n0:(1:Int)≤(n:Int):=by omega
 have n1:(n:Int)≤63:=by omega
 have D:Off [] w w:=Off.refl _ _
 go_enter Tryz.func174,Tryz.ntmps174
 go_upto_region 1 with fail;refine wp_region_lit ?_;refine Lv ?_;refine Lv ?_;refine Lw ?_ (v:=.int .i64 (-(n:Int))) (hv:=by go_simp;(try simp only[IntKind.wrap_u64,IntKind.wrap_i64]);(try omega));refine Lr ?_ (V3f p n h1 h2 w);intro W1 hO;replace D:=D.o hO;clear hO;refine Lv ?_;refine J5 ?_;go_wp2;exact bodyPost_ret (v:=.int .u64 (rt p n)) (by simp only[results,Tryz.results174];go_simp) rfl ⟨rfl,D.ext⟩
end

section
set_option maxHeartbeats 4000000
attribute [local irreducible] wpList

theorem V3g {w:World}{o:Oper}{a:Act}{x:Operand}{c:UInt8}(ho:o.op=.convert 5 99 x)(hx:a.eval x=.int .u8 (c.toNat:Int)):(execOp a.eval o).run Tryz.prog w=.ok (.value (.int .u64 (c.toNat:Int))) w:=by
  have hc:=c.toNat_lt;have hw:IntKind.wrap .u64 (c.toNat:Int)=(c.toNat:Int):=by rw[IntKind.wrap_u64];omega
  simp[execOp,ho,hx,convert,run_underlying Tryz.underlying5,run_underlying Tryz.underlying99,Sem.run_bind,Conv.intToInt,hw]
def wrd (b:Nat→Int)(i:Nat):Nat→Int
  |0=>0
  |k+1=>oo (sl (wrd b i k) 8) (b (8*i+k))
def sg (f:Nat→Int)(i:Nat):Int:=ad (ad (ad (f (i-16)) (xo (xo (rt (f (i-15)) 1) (rt (f (i-15)) 8)) (sr (f (i-15)) 7))) (f (i-7))) (xo (xo (rt (f (i-2)) 19) (rt (f (i-2)) 61)) (sr (f (i-2)) 6))
def K0 (b:Nat→Int):Nat→Nat→Int
  |0=>fun _=>0
  |i+1=>upd (K0 b i) i (if i<16 then wrd b i 8 else sg (K0 b i) i)
theorem V3h {b:Nat→Int}{i:Nat}(h:16≤i):upd (K0 b i) i (sg (K0 b i) i)=K0 b (i+1):=by
  show _=upd (K0 b i) i (if i<16 then wrd b i 8 else sg (K0 b i) i);rw[if_neg (by omega)]
theorem Y1e (b:Nat→Int):∀i,i≤16→∀j,K0 b i j=if j<i then wrd b j 8 else 0
  |0,_,j=>by simp[K0]
  |i+1,h,j=>by
    show upd (K0 b i) i (if i<16 then wrd b i 8 else sg (K0 b i) i) j=_;rw[if_pos (by omega)];unfold upd
    by_cases hj:j=i
    · rw[if_pos hj,if_pos (by omega),hj]
    · rw[if_neg hj,Y1e b i (by omega) j]
      by_cases hl:j<i
      · rw[if_pos hl,if_pos (by omega)]
      · rw[if_neg hl,if_neg (by omega)]
def fst (b:Nat→Int)(n j:Nat):Int:=if j<n / 8 then wrd b j 8 else if j=n / 8 then wrd b j (n % 8) else 0
theorem Y1f (b:Nat→Int)(n:Nat):upd (fst b n) (n / 8) (oo (sl (fst b n (n / 8)) 8) (b n))=fst b (n+1):=by
  funext j
  have e:fst b n (n / 8)=wrd b (n / 8) (n % 8):=by unfold fst;rw[if_neg (by omega),if_pos rfl]
  have hb:b n=b (8*(n / 8)+n % 8):=by rw[Nat.div_add_mod]
  rw[e,hb];show(if j=n / 8 then wrd b (n / 8) (n % 8+1) else fst b n j)=fst b (n+1) j;unfold fst
  by_cases hm:n % 8=7
  · have h1:(n+1) / 8=n / 8+1:=by omega
    have h2:(n+1) % 8=0:=by omega
    rw[h1,h2,hm]
    by_cases hj:j=n / 8
    · rw[if_pos hj,if_pos (by omega),hj]
    rw[if_neg hj]
    by_cases hl:j<n / 8
    · rw[if_pos hl,if_pos (by omega)]
    rw[if_neg hl,if_neg hj,if_neg (by omega)]
    split
    · rfl
    rfl
  have h1:(n+1) / 8=n / 8:=by omega
  have h2:(n+1) % 8=n % 8+1:=by omega
  rw[h1,h2]
  by_cases hj:j=n / 8
  · rw[if_pos hj,if_neg (by omega),if_pos hj,hj]
  rw[if_neg hj]
  by_cases hl:j<n / 8
  · rw[if_pos hl,if_pos hl]
  rw[if_neg hl,if_neg hj,if_neg hl,if_neg hj]
theorem Y6t (b:Nat→Int):fst b 128=K0 b 16:=by
  funext j
  rw[Y1e b 16 (Nat.le_refl _) j];unfold fst
  by_cases h:j<16
  · rw[if_pos (by omega),if_pos h]
  rw[if_neg (by omega),if_neg h]
  split
  · rename_i h2;rw[show 128 % 8=0 by rfl];rfl
  rfl
theorem Y1g (b:Nat→Int):fst b 0=fun _=>0:=by
  funext j
  unfold fst;rw[if_neg (by omega)]
  split<;>rfl

theorem Y1h (l:List UInt8)(adr:Addr)(c:Nat)(hl:128≤l.length)(w:World)(hs:Sl w (.slice (some adr) l.length c) l):
  Calls Tryz.prog 173 #[.slice (some adr) l.length c] w fun e w' =>K7 (.agg (J0 .u64 80 (K0 (bt l) 80))) w w' e:=by
 have D:Off [] w w:=Off.refl _ _;have Q8:=hs
 go_enter Tryz.func173,Tryz.ntmps173
 go_upto_region 0 with fail;refine wp_region_lit ?_;refine Ln ?_ (z:=J0 .u64 80 (fun _=>0)) (t:=234);intro V5 W1 V hO h_;have Z:=fbn D V;replace Q8:=Sl.off Q8 hO f0;replace D:=D.o hO;have J:=h_;clear hO h_ V;refine J5 ?_;go_upto_region 1 with fail;refine wp_region_lit ?_;refine Ln ?_ (z:=J0 .u64 80 (fun _=>0)) (t:=234);intro M W2 N hO h_;have X:=bn J N;have U:=J4h (Sl.lt Q8) N;have Y:=fbn D N;replace J:=J.o hO;replace Q8:=Sl.off Q8 hO f0;replace D:=D.o hO;have G:=h_;clear hO h_ N;refine J5 ?_
 go_wp2_with fail
 go_loopw [8] (fun ii wr=> ∃(n:Nat),(n≤128)∧(ii=.int .i64 (n:Int))∧Off [] w wr∧Blk wr V5 (J0 .u64 80 (fun _=>0)) 234∧Blk wr M (J0 .u64 80 (fst (bt l) n)) 234∧Sl wr (.slice (some adr) l.length c) l)
  (fun ii _=>128-(intOf ii).toNat)
 case atStart=>exact⟨0,Nat.zero_le _,rfl,D,J,(by rw[Y1g];exact G),Q8⟩
 case round=>
  obtain⟨n,hn,rfl,D,J,G,Q8⟩:=hrel;obtain⟨W3,R⟩:=J74 D;subst R
  by_cases S:n<128
  ·
   go_upto_region 3 with fail;refine wp_region_lit ?_;refine Lw ?_ (v:=.bool true);refine J5 ?_;go_upto_region 5 with fail;refine J21 14 [] (by kernel_rfl) (fun x hx=>by cases hx) (by kernel_rfl) ?_;simp only[List.take_succ_cons,List.take_zero,List.take_nil]
   (try simp only[Act.put,mA,mB,mC])
   refine Xv ?_;refine Xw ?_ (v:=.int .i64 (((n / 8:Nat):Int))) (hv:=fun _ _=>by go_simp;(try simp only[IntKind.wrap_u64,IntKind.wrap_i64]);(try omega));refine Xv ?_;refine Xw ?_ (v:=.int .i64 (((n / 8:Nat):Int))) (hv:=fun _ _=>by go_simp;(try simp only[IntKind.wrap_u64,IntKind.wrap_i64]);(try omega));refine Xw ?_ (v:=.pointer (some ⟨M,0+(n / 8),none⟩)) (hv:=fun _ _=>rxa Tryz.underlying234 (by omega));refine Xc ?_ (v:=.int .u64 ((fst (bt l) n) (n / 8))) (V6 G) (hj:=ag0 (by omega));refine Xw ?_ (v:=.int .u64 (sl ((fst (bt l) n) (n / 8)) 8)) (hv:=fun _ _=>J46 (n:=8) (by decide) rfl rfl rfl);refine Xv ?_;refine Xv ?_;refine Xw ?_ (v:=.pointer (some (adr.add n))) (hv:=fun W hW=>Q0w (j:=n) (by omega) rfl rfl rfl);refine Y16 (by rfl) rfl rfl (fun W hW=>J12 (Q4q Q8 (J2k (by omega))) hW) (by kernel_rfl) ?_
   (try simp only[Act.put,mA,mB,mC])
   refine Xw ?_ (v:=.int .u64 (bt l n)) (hv:=fun _ _=>by exact V3g rfl rfl);refine Xw ?_ (v:=.int .u64 (oo (sl ((fst (bt l) n) (n / 8)) 8) (bt l n))) (hv:=fun _ _=>Y1c rfl rfl rfl);refine Xw ?_ (v:=.pointer (some ⟨M,0+(n / 8),none⟩)) (hv:=fun _ _=>rxa Tryz.underlying234 (by omega));refine K4 ?_;intro β W4 hE hN hD;clear hN hD;simp only[J01,Act.put,mA,mB,mC,List.drop_succ_cons,List.drop_zero,List.drop_nil,List.length_nil,Nat.add_zero];have hO:=J08 hE;replace J:=J.o hO;replace G:=G.o hO;replace Q8:=Sl.off Q8 hO f0;replace D:=D.o hO;clear hO hE β;refine J44 (v:=.int .u64 (oo (sl ((fst (bt l) n) (n / 8)) 8) (bt l n))) ⟨rfl,rfl⟩ (by rfl) rfl rfl rfl G (by rw[J1,Nat.zero_add];omega) (by kernel_rfl) ?_
   (try simp only[Act.put,mA,mB,mC])
   intro W5 hO h_;rw[Nat.zero_add,V8] at h_;replace G:Blk W5 M (J0 .u64 80 (upd (fst (bt l) n) (n / 8) (oo (sl ((fst (bt l) n) (n / 8)) 8) (bt l n)))) 234:=h_;clear h_;replace J:=J.p hO X;replace Q8:=Sl.off Q8 hO (f1 U);replace D:=D.p hO Y;clear hO;refine LN ?_;go_wp2;go_roundw
   case rel=>exact⟨n+1,by omega,by go_num,D,J,(by rw[←Y1f];exact G),Q8⟩
   case measure=>simp[intOf];omega
  obtain rfl:n=128:=by omega
  rw[Y6t] at G;go_upto_region 3 with fail;refine wp_region_lit ?_;refine Lw ?_ (v:=.bool false);refine J5 ?_
  go_wp2_with fail
  go_loopw [5] (fun ii wr=> ∃(i:Nat),(16≤i∧i≤80)∧(ii=.int .i64 (i:Int))∧Off [] w wr∧Blk wr V5 (J0 .u64 80 (fun _=>0)) 234∧Blk wr M (J0 .u64 80 (K0 (bt l) i)) 234∧Sl wr (.slice (some adr) l.length c) l)
   (fun ii _=>80-(intOf ii).toNat)
  case atStart=>exact⟨16,⟨Nat.le_refl _,by decide⟩,rfl,D,J,G,Q8⟩
  case round=>
   obtain⟨i,⟨hi,α⟩,rfl,D,J,G,Q8⟩:=hrel;obtain⟨W4,R⟩:=J74 D;subst R
   by_cases T:i<80
   ·
    go_upto_region 8 with fail;refine wp_region_lit ?_;refine Lv ?_;refine Lw ?_ (v:=.bool true);refine J5 ?_;go_upto_region 10 with fail;refine J21 10 [] (by kernel_rfl) (fun x hx=>by cases hx) (by kernel_rfl) ?_;simp only[List.take_succ_cons,List.take_zero,List.take_nil]
    (try simp only[Act.put,mA,mB,mC])
    refine Xv ?_;refine Xw ?_ (v:=.int .i64 (((i-15:Nat):Int))) (hv:=fun _ _=>by go_simp;(try simp only[IntKind.wrap_u64,IntKind.wrap_i64]);(try omega));refine Xw ?_ (v:=.pointer (some ⟨M,0+(i-15),none⟩)) (hv:=fun _ _=>rxa Tryz.underlying234 (by omega));refine Xc ?_ (v:=.int .u64 ((K0 (bt l) i) (i-15))) (V6 G) (hj:=ag0 (by omega));refine Xv ?_;refine Xw ?_ (v:=.int .i64 (((i-2:Nat):Int))) (hv:=fun _ _=>by go_simp;(try simp only[IntKind.wrap_u64,IntKind.wrap_i64]);(try omega));refine Xw ?_ (v:=.pointer (some ⟨M,0+(i-2),none⟩)) (hv:=fun _ _=>rxa Tryz.underlying234 (by omega));refine Xc ?_ (v:=.int .u64 ((K0 (bt l) i) (i-2))) (V6 G) (hj:=ag0 (by omega));refine Xv ?_;refine Xv ?_;refine K4 ?_;intro β W5 hE hN hD;clear hN hD;simp only[J01,Act.put,mA,mB,mC,List.drop_succ_cons,List.drop_zero,List.drop_nil,List.length_nil,Nat.add_zero];have hO:=J08 hE;replace J:=J.o hO;replace G:=G.o hO;replace Q8:=Sl.off Q8 hO f0;replace D:=D.o hO;clear hO hE β;refine LN ?_;go_upto_region 11 with fail;refine J21 29 [] (by kernel_rfl) (fun x hx=>by cases hx) (by kernel_rfl) ?_;simp only[List.take_succ_cons,List.take_zero,List.take_nil]
    (try simp only[Act.put,mA,mB,mC])
    refine Xv ?_;refine Xv ?_;refine Xw ?_ (v:=.int .i64 (((i-16:Nat):Int))) (hv:=fun _ _=>by go_simp;(try simp only[IntKind.wrap_u64,IntKind.wrap_i64]);(try omega));refine Xw ?_ (v:=.pointer (some ⟨M,0+(i-16),none⟩)) (hv:=fun _ _=>rxa Tryz.underlying234 (by omega));refine Xc ?_ (v:=.int .u64 ((K0 (bt l) i) (i-16))) (V6 G) (hj:=ag0 (by omega));refine Xv ?_;refine Xf ?_ (fun W hW=>J6q ((K0 (bt l) i) (i-15)) 1 (by decide) (by decide) W);refine Xv ?_;refine Xf ?_ (fun W hW=>J6q ((K0 (bt l) i) (i-15)) 8 (by decide) (by decide) W);refine Xw ?_ (v:=.int .u64 (xo (rt ((K0 (bt l) i) (i-15)) 1) (rt ((K0 (bt l) i) (i-15)) 8))) (hv:=fun _ _=>J45 rfl rfl rfl);refine Xv ?_;refine Xw ?_ (v:=.int .u64 (sr ((K0 (bt l) i) (i-15)) 7)) (hv:=fun _ _=>J18 (n:=7) (by decide) rfl rfl rfl);refine Xw ?_ (v:=.int .u64 (xo (xo (rt ((K0 (bt l) i) (i-15)) 1) (rt ((K0 (bt l) i) (i-15)) 8)) (sr ((K0 (bt l) i) (i-15)) 7))) (hv:=fun _ _=>J45 rfl rfl rfl);refine Xw ?_ (v:=.int .u64 (ad ((K0 (bt l) i) (i-16)) (xo (xo (rt ((K0 (bt l) i) (i-15)) 1) (rt ((K0 (bt l) i) (i-15)) 8)) (sr ((K0 (bt l) i) (i-15)) 7)))) (hv:=fun _ _=>J5n rfl rfl rfl);refine Xv ?_;refine Xw ?_ (v:=.int .i64 (((i-7:Nat):Int))) (hv:=fun _ _=>by go_simp;(try simp only[IntKind.wrap_u64,IntKind.wrap_i64]);(try omega));refine Xw ?_ (v:=.pointer (some ⟨M,0+(i-7),none⟩)) (hv:=fun _ _=>rxa Tryz.underlying234 (by omega));refine Xc ?_ (v:=.int .u64 ((K0 (bt l) i) (i-7))) (V6 G) (hj:=ag0 (by omega));refine Xw ?_ (v:=.int .u64 (ad (ad ((K0 (bt l) i) (i-16)) (xo (xo (rt ((K0 (bt l) i) (i-15)) 1) (rt ((K0 (bt l) i) (i-15)) 8)) (sr ((K0 (bt l) i) (i-15)) 7))) ((K0 (bt l) i) (i-7)))) (hv:=fun _ _=>J5n rfl rfl rfl);refine Xv ?_;refine Xf ?_ (fun W hW=>J6q ((K0 (bt l) i) (i-2)) 19 (by decide) (by decide) W);refine Xv ?_;refine Xf ?_ (fun W hW=>J6q ((K0 (bt l) i) (i-2)) 61 (by decide) (by decide) W);refine Xw ?_ (v:=.int .u64 (xo (rt ((K0 (bt l) i) (i-2)) 19) (rt ((K0 (bt l) i) (i-2)) 61))) (hv:=fun _ _=>J45 rfl rfl rfl);refine Xv ?_;refine Xw ?_ (v:=.int .u64 (sr ((K0 (bt l) i) (i-2)) 6)) (hv:=fun _ _=>J18 (n:=6) (by decide) rfl rfl rfl);refine Xw ?_ (v:=.int .u64 (xo (xo (rt ((K0 (bt l) i) (i-2)) 19) (rt ((K0 (bt l) i) (i-2)) 61)) (sr ((K0 (bt l) i) (i-2)) 6))) (hv:=fun _ _=>J45 rfl rfl rfl);refine Xw ?_ (v:=.int .u64 (ad (ad (ad ((K0 (bt l) i) (i-16)) (xo (xo (rt ((K0 (bt l) i) (i-15)) 1) (rt ((K0 (bt l) i) (i-15)) 8)) (sr ((K0 (bt l) i) (i-15)) 7))) ((K0 (bt l) i) (i-7))) (xo (xo (rt ((K0 (bt l) i) (i-2)) 19) (rt ((K0 (bt l) i) (i-2)) 61)) (sr ((K0 (bt l) i) (i-2)) 6)))) (hv:=fun _ _=>J5n rfl rfl rfl);refine Xw ?_ (v:=.pointer (some ⟨M,0+i,none⟩)) (hv:=fun _ _=>rxa Tryz.underlying234 (by omega));refine K4 ?_;intro β W6 hE hN hD;clear hN hD;simp only[J01,Act.put,mA,mB,mC,List.drop_succ_cons,List.drop_zero,List.drop_nil,List.length_nil,Nat.add_zero];have hO:=J08 hE;replace J:=J.o hO;replace G:=G.o hO;replace Q8:=Sl.off Q8 hO f0;replace D:=D.o hO;clear hO hE β;refine J44 (v:=.int .u64 (ad (ad (ad ((K0 (bt l) i) (i-16)) (xo (xo (rt ((K0 (bt l) i) (i-15)) 1) (rt ((K0 (bt l) i) (i-15)) 8)) (sr ((K0 (bt l) i) (i-15)) 7))) ((K0 (bt l) i) (i-7))) (xo (xo (rt ((K0 (bt l) i) (i-2)) 19) (rt ((K0 (bt l) i) (i-2)) 61)) (sr ((K0 (bt l) i) (i-2)) 6)))) ⟨rfl,rfl⟩ (by rfl) rfl rfl rfl G (by rw[J1,Nat.zero_add];omega) (by kernel_rfl) ?_
    (try simp only[Act.put,mA,mB,mC])
    intro W7 hO h_;rw[Nat.zero_add,V8] at h_;replace G:Blk W7 M (J0 .u64 80 (upd (K0 (bt l) i) i (ad (ad (ad ((K0 (bt l) i) (i-16)) (xo (xo (rt ((K0 (bt l) i) (i-15)) 1) (rt ((K0 (bt l) i) (i-15)) 8)) (sr ((K0 (bt l) i) (i-15)) 7))) ((K0 (bt l) i) (i-7))) (xo (xo (rt ((K0 (bt l) i) (i-2)) 19) (rt ((K0 (bt l) i) (i-2)) 61)) (sr ((K0 (bt l) i) (i-2)) 6))))) 234:=h_;clear h_;replace J:=J.p hO X;replace Q8:=Sl.off Q8 hO (f1 U);replace D:=D.p hO Y;clear hO;refine LN ?_;go_wp2;go_roundw
    case rel=>exact⟨i+1,⟨by omega,by omega⟩,by go_num,D,J,(by rw[←V3h hi];exact G),Q8⟩
    case measure=>simp[intOf];omega
   obtain rfl:i=80:=by omega
   go_upto_region 8 with fail;refine wp_region_lit ?_;refine Lv ?_;refine Lw ?_ (v:=.bool false);refine J5 ?_;go_upto_region 12 with fail;refine wp_region_lit ?_;refine L0A ?_ G;refine Lp ?_ J (cells:=J0 .u64 80 (K0 (bt l) 80)) (hi:=by rw[J1];kernel_rfl) (hs:=by rw[J1,J1]) (h1:=by exact V7 _ _ _);intro W5 hO h_;replace J:Blk W5 V5 (J0 .u64 80 (K0 (bt l) 80)) 234:=h_;clear h_;replace D:=D.p hO Z;clear hO;refine J5 ?_;go_wp2;refine bodyPost_ret (Z7 rfl rfl J (by kernel_rfl) (by rw[J1];kernel_rfl)) rfl ⟨rfl,D.ext⟩
end

section
set_option maxHeartbeats 4000000
attribute [local irreducible] wpList

def kk:List Int:=[4794697086780616226,8158064640168781261,13096744586834688815,16840607885511220156,4131703408338449720,6480981068601479193,10538285296894168987,12329834152419229976,15566598209576043074,1334009975649890238,2608012711638119052,6128411473006802146,8268148722764581231,9286055187155687089,11230858885718282805,13951009754708518548,16472876342353939154,17275323862435702243,1135362057144423861,2597628984639134821,3308224258029322869,5365058923640841347,6679025012923562964,8573033837759648693,10970295158949994411,12119686244451234320,12683024718118986047,13788192230050041572,14330467153632333762,15395433587784984357,489312712824947311,1452737877330783856,2861767655752347644,3322285676063803686,5560940570517711597,5996557281743188959,7280758554555802590,8532644243296465576,9350256976987008742,10552545826968843579,11727347734174303076,12113106623233404929,14000437183269869457,14369950271660146224,15101387698204529176,15463397548674623760,17586052441742319658,1182934255886127544,1847814050463011016,2177327727835720531,2830643537854262169,3796741975233480872,4115178125766777443,5681478168544905931,6601373596472566643,7507060721942968483,8399075790359081724,8693463985226723168,9568029438360202098,10144078919501101548,10430055236837252648,11840083180663258601,13761210420658862357,14299343276471374635,14566680578165727644,15097957966210449927,16922976911328602910,17689382322260857208,500013540394364858,748580250866718886,1242879168328830382,1977374033974150939,2944078676154940804,3659926193048069267,4368137639120453308,4836135668995329356,5532061633213252278,6448918945643986474,6902733635092675308,7801388544844847127]
def hh:List Int:=[7640891576956012808,13503953896175478587,4354685564936845355,11912009170470909681,5840696475078001361,11170449401992604703,2270897969802886507,6620516959819538809]
def kf (i:Nat):Int:=kk.getD i 0
def hf (i:Nat):Int:=hh.getD i 0
def GS (w:World):Prop:=Rd w 12 (J0 .u64 80 kf)∧Rd w 3 (J0 .u64 8 hf)
theorem Q7s {w W:World}(h:GS w)(e:Ext w W):GS W:=⟨h.1.ext e,h.2.ext e⟩
def rT (k w:Nat→Int)(i:Nat)(v:Nat→Int):Int:=ad (ad (ad (ad (v 7) (xo (xo (rt (v 4) 14) (rt (v 4) 18)) (rt (v 4) 41))) (xo (an (v 4) (v 5)) (an (nt (v 4)) (v 6)))) (k i)) (w i)
def rU (v:Nat→Int):Int:=ad (xo (xo (rt (v 0) 28) (rt (v 0) 34)) (rt (v 0) 39)) (xo (xo (an (v 0) (v 1)) (an (v 0) (v 2))) (an (v 1) (v 2)))
def rnd (k w:Nat→Int)(i:Nat)(v:Nat→Int):Nat→Int
  |0=>ad (rT k w i v) (rU v)
  |1=>v 0
  |2=>v 1
  |3=>v 2
  |4=>ad (v 3) (rT k w i v)
  |5=>v 4
  |6=>v 5
  |7=>v 6
  |_=>0
def V0 (k w v:Nat→Int):Nat→Nat→Int
  |0=>v
  |i+1=>rnd k w i (V0 k w v i)
def prs (h b:Nat→Int)(j:Nat):Int:=ad (h j) (V0 kf (K0 b 80) h 80 j)
def mx (h v:Nat→Int)(i j:Nat):Int:=if j<i then ad (h j) (v j) else h j
theorem Y6u (h v:Nat→Int)(i:Nat):upd (mx h v i) i (ad (mx h v i i) (v i))=mx h v (i+1):=by
  funext j
  unfold upd mx
  by_cases hj:j=i
  · subst hj;rw[if_pos rfl,if_neg (by omega),if_pos (by omega)]
  rw[if_neg hj]
  by_cases hl:j<i
  · rw[if_pos hl,if_pos (by omega)]
  rw[if_neg hl,if_neg (by omega)]
theorem Y6v (h v:Nat→Int):mx h v 0=h:=by funext j;unfold mx;rw[if_neg (by omega)]
theorem V3i (h b:Nat→Int):J0 .u64 8 (mx h (V0 kf (K0 b 80) h 80) 8)=J0 .u64 8 (prs h b):=X8 _ _ _ _ fun j hj=>by unfold mx prs;rw[if_pos hj]

theorem Y6w (h:Nat→Int)(l:List UInt8)(adr:Addr)(c:Nat)(hl:128≤l.length)(w:World)(hs:Sl w (.slice (some adr) l.length c) l)(hG:GS w):
  Calls Tryz.prog 131 #[.agg (J0 .u64 8 h),.slice (some adr) l.length c] w fun e w' =>K7 (.agg (J0 .u64 8 (prs h (bt l)))) w w' e:=by
 have HG:=Lib.hid hG;clear hG;have G:Off [] w w:=Off.refl _ _;have Q8:=hs
 go_enter Tryz.func131,Tryz.ntmps131
 go_upto_region 0 with fail;refine wp_region_lit ?_;refine Ln ?_ (z:=J0 .u64 8 h) (t:=230);intro V5 W1 γ hO h_;have κ:=J4h (Sl.lt Q8) γ;have σ:=fbn G γ;replace Q8:=Sl.off Q8 hO f0;replace G:=G.o hO;have J:=h_;clear hO h_ γ;refine Ln ?_ (z:=J0 .u64 8 (fun _=>0)) (t:=230);intro δ W2 α hO h_;have V:=bn J α;have ν:=fbn G α;replace J:=J.o hO;replace Q8:=Sl.off Q8 hO f0;replace G:=G.o hO;have M:=h_;clear hO h_ α;refine J5 ?_;go_upto_region 1 with fail;refine wp_region_lit ?_;refine Lv ?_;refine Lr ?_ (Y1h l adr c hl W2 Q8);intro W3 hO;replace J:=J.o hO;replace M:=M.o hO;replace Q8:=Sl.off Q8 hO f0;replace G:=G.o hO;clear hO;refine LnP ?_ (z:=J0 .u64 80 (fun _=>0)) (t:=234) (cells:=J0 .u64 80 (K0 (bt l) 80)) (hi:=by rw[J1];kernel_rfl) (hs:=by rw[J1,J1]) (h1:=by exact V7 _ _ _);intro Z W5 η hO h_;have U:=bn J η;replace J:=J.o hO;replace M:=M.o hO;replace Q8:=Sl.off Q8 hO f0;replace G:=G.o hO;have R:=h_;clear hO h_ η;refine J5 ?_;go_upto_region 2 with fail;refine wp_region_lit ?_;refine L0A ?_ J;refine LnP ?_ (z:=J0 .u64 8 (fun _=>0)) (t:=230) (cells:=J0 .u64 8 h) (hi:=by rw[J1];kernel_rfl) (hs:=by rw[J1,J1]) (h1:=by exact V7 _ _ _);intro N W7 T hO h_;have S:=bn J T;have μ:=bn M T;have ξ:=bn R T;have θ:=J4h (Sl.lt Q8) T;have ρ:=fbn G T;replace J:=J.o hO;replace M:=M.o hO;replace R:=R.o hO;replace Q8:=Sl.off Q8 hO f0;replace G:=G.o hO;have D:=h_;clear hO h_ T;refine J5 ?_
 go_wp2_with fail
 go_loopw [14] (fun ii wr=> ∃(i:Nat),(i≤80)∧(ii=.int .i64 (i:Int))∧Off [] w wr∧Blk wr V5 (J0 .u64 8 h) 230∧Blk wr δ (J0 .u64 8 (fun _=>0)) 230∧Blk wr Z (J0 .u64 80 (K0 (bt l) 80)) 234∧Blk wr N (J0 .u64 8 (V0 kf (K0 (bt l) 80) h i)) 230∧Sl wr (.slice (some adr) l.length c) l)
  (fun ii _=>80-(intOf ii).toNat)
 case atStart=>exact⟨0,Nat.zero_le _,rfl,G,J,M,R,D,Q8⟩
 case round=>
  obtain⟨i,hi,rfl,G,J,M,R,D,Q8⟩:=hrel;obtain⟨W8,X⟩:=J74 G;subst X
  by_cases ζ:i<80
  ·
   go_upto_region 4 with fail;refine wp_region_lit ?_;refine Lw ?_ (v:=.bool true);refine J5 ?_;go_upto_region 6 with fail;refine J21 36 [] (by kernel_rfl) (fun x hx=>by cases hx) (by kernel_rfl) ?_;simp only[List.take_succ_cons,List.take_zero,List.take_nil]
   (try simp only[Act.put,mA,mB,mC])
   refine Xw ?_ (v:=.pointer (some ⟨N,0+7,none⟩)) (hv:=fun _ _=>rxa Tryz.underlying230 (by omega));refine Xc ?_ (v:=.int .u64 ((V0 kf (K0 (bt l) 80) h i) 7)) (V6 D) (hj:=ag0 (by omega));refine Xw ?_ (v:=.pointer (some ⟨N,0+4,none⟩)) (hv:=fun _ _=>rxa Tryz.underlying230 (by omega));refine Xc ?_ (v:=.int .u64 ((V0 kf (K0 (bt l) 80) h i) 4)) (V6 D) (hj:=ag0 (by omega));refine Xf ?_ (fun W hW=>J6q ((V0 kf (K0 (bt l) 80) h i) 4) 14 (by decide) (by decide) W);refine Xw ?_ (v:=.pointer (some ⟨N,0+4,none⟩)) (hv:=fun _ _=>rxa Tryz.underlying230 (by omega));refine Xc ?_ (v:=.int .u64 ((V0 kf (K0 (bt l) 80) h i) 4)) (V6 D) (hj:=ag0 (by omega));refine Xf ?_ (fun W hW=>J6q ((V0 kf (K0 (bt l) 80) h i) 4) 18 (by decide) (by decide) W);refine Xw ?_ (v:=.int .u64 (xo (rt ((V0 kf (K0 (bt l) 80) h i) 4) 14) (rt ((V0 kf (K0 (bt l) 80) h i) 4) 18))) (hv:=fun _ _=>J45 rfl rfl rfl);refine Xw ?_ (v:=.pointer (some ⟨N,0+4,none⟩)) (hv:=fun _ _=>rxa Tryz.underlying230 (by omega));refine Xc ?_ (v:=.int .u64 ((V0 kf (K0 (bt l) 80) h i) 4)) (V6 D) (hj:=ag0 (by omega));refine Xf ?_ (fun W hW=>J6q ((V0 kf (K0 (bt l) 80) h i) 4) 41 (by decide) (by decide) W);refine Xw ?_ (v:=.int .u64 (xo (xo (rt ((V0 kf (K0 (bt l) 80) h i) 4) 14) (rt ((V0 kf (K0 (bt l) 80) h i) 4) 18)) (rt ((V0 kf (K0 (bt l) 80) h i) 4) 41))) (hv:=fun _ _=>J45 rfl rfl rfl);refine Xw ?_ (v:=.int .u64 (ad ((V0 kf (K0 (bt l) 80) h i) 7) (xo (xo (rt ((V0 kf (K0 (bt l) 80) h i) 4) 14) (rt ((V0 kf (K0 (bt l) 80) h i) 4) 18)) (rt ((V0 kf (K0 (bt l) 80) h i) 4) 41)))) (hv:=fun _ _=>J5n rfl rfl rfl);refine Xw ?_ (v:=.pointer (some ⟨N,0+4,none⟩)) (hv:=fun _ _=>rxa Tryz.underlying230 (by omega));refine Xc ?_ (v:=.int .u64 ((V0 kf (K0 (bt l) 80) h i) 4)) (V6 D) (hj:=ag0 (by omega));refine Xw ?_ (v:=.pointer (some ⟨N,0+5,none⟩)) (hv:=fun _ _=>rxa Tryz.underlying230 (by omega));refine Xc ?_ (v:=.int .u64 ((V0 kf (K0 (bt l) 80) h i) 5)) (V6 D) (hj:=ag0 (by omega));refine Xw ?_ (v:=.int .u64 (an ((V0 kf (K0 (bt l) 80) h i) 4) ((V0 kf (K0 (bt l) 80) h i) 5))) (hv:=fun _ _=>Q1a rfl rfl rfl);refine Xw ?_ (v:=.pointer (some ⟨N,0+4,none⟩)) (hv:=fun _ _=>rxa Tryz.underlying230 (by omega));refine Xc ?_ (v:=.int .u64 ((V0 kf (K0 (bt l) 80) h i) 4)) (V6 D) (hj:=ag0 (by omega));refine Xw ?_ (v:=.int .u64 (nt ((V0 kf (K0 (bt l) 80) h i) 4))) (hv:=fun _ _=>Y6s rfl rfl);refine Xw ?_ (v:=.pointer (some ⟨N,0+6,none⟩)) (hv:=fun _ _=>rxa Tryz.underlying230 (by omega));refine Xc ?_ (v:=.int .u64 ((V0 kf (K0 (bt l) 80) h i) 6)) (V6 D) (hj:=ag0 (by omega));refine Xw ?_ (v:=.int .u64 (an (nt ((V0 kf (K0 (bt l) 80) h i) 4)) ((V0 kf (K0 (bt l) 80) h i) 6))) (hv:=fun _ _=>Q1a rfl rfl rfl);refine Xw ?_ (v:=.int .u64 (xo (an ((V0 kf (K0 (bt l) 80) h i) 4) ((V0 kf (K0 (bt l) 80) h i) 5)) (an (nt ((V0 kf (K0 (bt l) 80) h i) 4)) ((V0 kf (K0 (bt l) 80) h i) 6)))) (hv:=fun _ _=>J45 rfl rfl rfl);refine Xw ?_ (v:=.int .u64 (ad (ad ((V0 kf (K0 (bt l) 80) h i) 7) (xo (xo (rt ((V0 kf (K0 (bt l) 80) h i) 4) 14) (rt ((V0 kf (K0 (bt l) 80) h i) 4) 18)) (rt ((V0 kf (K0 (bt l) 80) h i) 4) 41))) (xo (an ((V0 kf (K0 (bt l) 80) h i) 4) ((V0 kf (K0 (bt l) 80) h i) 5)) (an (nt ((V0 kf (K0 (bt l) 80) h i) 4)) ((V0 kf (K0 (bt l) 80) h i) 6))))) (hv:=fun _ _=>J5n rfl rfl rfl);refine Xv ?_;refine Xw ?_ (v:=.pointer (some ⟨12,0+i,none⟩)) (hv:=fun _ _=>rxa Tryz.underlying234 (by omega));refine Xc ?_ (v:=.int .u64 (kf i)) ((Q7s HG.out G.ext).1) (hj:=ag0 (by omega));refine Xw ?_ (v:=.int .u64 (ad (ad (ad ((V0 kf (K0 (bt l) 80) h i) 7) (xo (xo (rt ((V0 kf (K0 (bt l) 80) h i) 4) 14) (rt ((V0 kf (K0 (bt l) 80) h i) 4) 18)) (rt ((V0 kf (K0 (bt l) 80) h i) 4) 41))) (xo (an ((V0 kf (K0 (bt l) 80) h i) 4) ((V0 kf (K0 (bt l) 80) h i) 5)) (an (nt ((V0 kf (K0 (bt l) 80) h i) 4)) ((V0 kf (K0 (bt l) 80) h i) 6)))) (kf i))) (hv:=fun _ _=>J5n rfl rfl rfl);refine Xv ?_;refine Xw ?_ (v:=.pointer (some ⟨Z,0+i,none⟩)) (hv:=fun _ _=>rxa Tryz.underlying234 (by omega));refine Xc ?_ (v:=.int .u64 ((K0 (bt l) 80) i)) (V6 R) (hj:=ag0 (by omega));refine Xw ?_ (v:=.int .u64 (rT kf (K0 (bt l) 80) i (V0 kf (K0 (bt l) 80) h i)));refine Xv ?_;refine K4 ?_;intro β W9 hE hN hD;clear hN hD;simp only[J01,Act.put,mA,mB,mC,List.drop_succ_cons,List.drop_zero,List.drop_nil,List.length_nil,Nat.add_zero];have hO:=J08 hE;replace J:=J.o hO;replace M:=M.o hO;replace R:=R.o hO;replace D:=D.o hO;replace Q8:=Sl.off Q8 hO f0;replace G:=G.o hO;clear hO hE β;refine LN ?_;go_upto_region 7 with fail;refine J21 30 [] (by kernel_rfl) (fun x hx=>by cases hx) (by kernel_rfl) ?_;simp only[List.take_succ_cons,List.take_zero,List.take_nil]
   (try simp only[Act.put,mA,mB,mC])
   refine Xw ?_ (v:=.pointer (some ⟨N,0+0,none⟩)) (hv:=fun _ _=>rxa Tryz.underlying230 (by omega));refine Xc ?_ (v:=.int .u64 ((V0 kf (K0 (bt l) 80) h i) 0)) (V6 D) (hj:=ag0 (by omega));refine Xf ?_ (fun W hW=>J6q ((V0 kf (K0 (bt l) 80) h i) 0) 28 (by decide) (by decide) W);refine Xw ?_ (v:=.pointer (some ⟨N,0+0,none⟩)) (hv:=fun _ _=>rxa Tryz.underlying230 (by omega));refine Xc ?_ (v:=.int .u64 ((V0 kf (K0 (bt l) 80) h i) 0)) (V6 D) (hj:=ag0 (by omega));refine Xf ?_ (fun W hW=>J6q ((V0 kf (K0 (bt l) 80) h i) 0) 34 (by decide) (by decide) W);refine Xw ?_ (v:=.int .u64 (xo (rt ((V0 kf (K0 (bt l) 80) h i) 0) 28) (rt ((V0 kf (K0 (bt l) 80) h i) 0) 34))) (hv:=fun _ _=>J45 rfl rfl rfl);refine Xw ?_ (v:=.pointer (some ⟨N,0+0,none⟩)) (hv:=fun _ _=>rxa Tryz.underlying230 (by omega));refine Xc ?_ (v:=.int .u64 ((V0 kf (K0 (bt l) 80) h i) 0)) (V6 D) (hj:=ag0 (by omega));refine Xf ?_ (fun W hW=>J6q ((V0 kf (K0 (bt l) 80) h i) 0) 39 (by decide) (by decide) W);refine Xw ?_ (v:=.int .u64 (xo (xo (rt ((V0 kf (K0 (bt l) 80) h i) 0) 28) (rt ((V0 kf (K0 (bt l) 80) h i) 0) 34)) (rt ((V0 kf (K0 (bt l) 80) h i) 0) 39))) (hv:=fun _ _=>J45 rfl rfl rfl);refine Xw ?_ (v:=.pointer (some ⟨N,0+0,none⟩)) (hv:=fun _ _=>rxa Tryz.underlying230 (by omega));refine Xc ?_ (v:=.int .u64 ((V0 kf (K0 (bt l) 80) h i) 0)) (V6 D) (hj:=ag0 (by omega));refine Xw ?_ (v:=.pointer (some ⟨N,0+1,none⟩)) (hv:=fun _ _=>rxa Tryz.underlying230 (by omega));refine Xc ?_ (v:=.int .u64 ((V0 kf (K0 (bt l) 80) h i) 1)) (V6 D) (hj:=ag0 (by omega));refine Xw ?_ (v:=.int .u64 (an ((V0 kf (K0 (bt l) 80) h i) 0) ((V0 kf (K0 (bt l) 80) h i) 1))) (hv:=fun _ _=>Q1a rfl rfl rfl);refine Xw ?_ (v:=.pointer (some ⟨N,0+0,none⟩)) (hv:=fun _ _=>rxa Tryz.underlying230 (by omega));refine Xc ?_ (v:=.int .u64 ((V0 kf (K0 (bt l) 80) h i) 0)) (V6 D) (hj:=ag0 (by omega));refine Xw ?_ (v:=.pointer (some ⟨N,0+2,none⟩)) (hv:=fun _ _=>rxa Tryz.underlying230 (by omega));refine Xc ?_ (v:=.int .u64 ((V0 kf (K0 (bt l) 80) h i) 2)) (V6 D) (hj:=ag0 (by omega));refine Xw ?_ (v:=.int .u64 (an ((V0 kf (K0 (bt l) 80) h i) 0) ((V0 kf (K0 (bt l) 80) h i) 2))) (hv:=fun _ _=>Q1a rfl rfl rfl);refine Xw ?_ (v:=.int .u64 (xo (an ((V0 kf (K0 (bt l) 80) h i) 0) ((V0 kf (K0 (bt l) 80) h i) 1)) (an ((V0 kf (K0 (bt l) 80) h i) 0) ((V0 kf (K0 (bt l) 80) h i) 2)))) (hv:=fun _ _=>J45 rfl rfl rfl);refine Xw ?_ (v:=.pointer (some ⟨N,0+1,none⟩)) (hv:=fun _ _=>rxa Tryz.underlying230 (by omega));refine Xc ?_ (v:=.int .u64 ((V0 kf (K0 (bt l) 80) h i) 1)) (V6 D) (hj:=ag0 (by omega));refine Xw ?_ (v:=.pointer (some ⟨N,0+2,none⟩)) (hv:=fun _ _=>rxa Tryz.underlying230 (by omega));refine Xc ?_ (v:=.int .u64 ((V0 kf (K0 (bt l) 80) h i) 2)) (V6 D) (hj:=ag0 (by omega));refine Xw ?_ (v:=.int .u64 (an ((V0 kf (K0 (bt l) 80) h i) 1) ((V0 kf (K0 (bt l) 80) h i) 2))) (hv:=fun _ _=>Q1a rfl rfl rfl);refine Xw ?_ (v:=.int .u64 (xo (xo (an ((V0 kf (K0 (bt l) 80) h i) 0) ((V0 kf (K0 (bt l) 80) h i) 1)) (an ((V0 kf (K0 (bt l) 80) h i) 0) ((V0 kf (K0 (bt l) 80) h i) 2))) (an ((V0 kf (K0 (bt l) 80) h i) 1) ((V0 kf (K0 (bt l) 80) h i) 2)))) (hv:=fun _ _=>J45 rfl rfl rfl);refine Xw ?_ (v:=.int .u64 (rU (V0 kf (K0 (bt l) 80) h i)));refine Xv ?_;refine K4 ?_;intro β ε hE hN hD;clear hN hD;simp only[J01,Act.put,mA,mB,mC,List.drop_succ_cons,List.drop_zero,List.drop_nil,List.length_nil,Nat.add_zero];have hO:=J08 hE;replace J:=J.o hO;replace M:=M.o hO;replace R:=R.o hO;replace D:=D.o hO;replace Q8:=Sl.off Q8 hO f0;replace G:=G.o hO;clear hO hE β;refine LN ?_;go_upto_region 8 with fail;refine wp_region_lit ?_;refine Lv ?_;refine Lv ?_;refine Lw ?_ (v:=.int .u64 (ad (rT kf (K0 (bt l) 80) i (V0 kf (K0 (bt l) 80) h i)) (rU (V0 kf (K0 (bt l) 80) h i)))) (hv:=J5n rfl rfl rfl);refine Lw ?_ (v:=.pointer (some ⟨N,0+0,none⟩)) (hv:=rxa Tryz.underlying230 (by omega));refine Lg ?_ D (v:=.int .u64 ((V0 kf (K0 (bt l) 80) h i) 0)) (hj:=ag0 (by omega));refine Lw ?_ (v:=.pointer (some ⟨N,0+1,none⟩)) (hv:=rxa Tryz.underlying230 (by omega));refine Lg ?_ D (v:=.int .u64 ((V0 kf (K0 (bt l) 80) h i) 1)) (hj:=ag0 (by omega));refine Lw ?_ (v:=.pointer (some ⟨N,0+2,none⟩)) (hv:=rxa Tryz.underlying230 (by omega));refine Lg ?_ D (v:=.int .u64 ((V0 kf (K0 (bt l) 80) h i) 2)) (hj:=ag0 (by omega));refine Lw ?_ (v:=.pointer (some ⟨N,0+3,none⟩)) (hv:=rxa Tryz.underlying230 (by omega));refine Lg ?_ D (v:=.int .u64 ((V0 kf (K0 (bt l) 80) h i) 3)) (hj:=ag0 (by omega));refine Lv ?_;refine Lw ?_ (v:=.int .u64 (ad ((V0 kf (K0 (bt l) 80) h i) 3) (rT kf (K0 (bt l) 80) i (V0 kf (K0 (bt l) 80) h i)))) (hv:=J5n rfl rfl rfl);refine Lw ?_ (v:=.pointer (some ⟨N,0+4,none⟩)) (hv:=rxa Tryz.underlying230 (by omega));refine Lg ?_ D (v:=.int .u64 ((V0 kf (K0 (bt l) 80) h i) 4)) (hj:=ag0 (by omega));refine Lw ?_ (v:=.pointer (some ⟨N,0+5,none⟩)) (hv:=rxa Tryz.underlying230 (by omega));refine Lg ?_ D (v:=.int .u64 ((V0 kf (K0 (bt l) 80) h i) 5)) (hj:=ag0 (by omega));refine Lw ?_ (v:=.pointer (some ⟨N,0+6,none⟩)) (hv:=rxa Tryz.underlying230 (by omega));refine Lg ?_ D (v:=.int .u64 ((V0 kf (K0 (bt l) 80) h i) 6)) (hj:=ag0 (by omega));refine Lw ?_ (v:=.agg (J0 .u64 8 (V0 kf (K0 (bt l) 80) h (i+1)))) (hv:=by first|rfl|(go_simp;rfl));refine Lp ?_ D (cells:=J0 .u64 8 (V0 kf (K0 (bt l) 80) h (i+1))) (hi:=by rw[J1];kernel_rfl) (hs:=by rw[J1,J1]) (h1:=by exact V7 _ _ _);intro Y hO h_;replace D:Blk Y N (J0 .u64 8 (V0 kf (K0 (bt l) 80) h (i+1))) 230:=h_;clear h_;replace J:=J.p hO S;replace M:=M.p hO μ;replace R:=R.p hO ξ;replace Q8:=Sl.off Q8 hO (f1 θ);replace G:=G.p hO ρ;clear hO;refine J5 ?_;go_wp2;go_roundw
   case rel=>exact⟨i+1,by omega,by go_num,G,J,M,R,D,Q8⟩
   case measure=>simp[intOf];omega
  obtain rfl:i=80:=by omega
  go_upto_region 4 with fail;refine wp_region_lit ?_;refine Lw ?_ (v:=.bool false);refine J5 ?_
  go_wp2_with fail
  go_loopw [102] (fun ii wr=> ∃(i:Nat),(i≤8)∧(ii=.int .i64 (i:Int))∧Off [] w wr∧Blk wr V5 (J0 .u64 8 (mx h (V0 kf (K0 (bt l) 80) h 80) i)) 230∧Blk wr δ (J0 .u64 8 (fun _=>0)) 230∧Blk wr Z (J0 .u64 80 (K0 (bt l) 80)) 234∧Blk wr N (J0 .u64 8 (V0 kf (K0 (bt l) 80) h 80)) 230∧Sl wr (.slice (some adr) l.length c) l)
   (fun ii _=>8-(intOf ii).toNat)
  case atStart=>exact⟨0,Nat.zero_le _,rfl,G,(by rw[Y6v];exact J),M,R,D,Q8⟩
  case round=>
   obtain⟨i,hi,rfl,G,J,M,R,D,Q8⟩:=hrel;obtain⟨W9,X⟩:=J74 G;subst X
   by_cases h8:i<8
   ·
    go_upto_region 11 with fail;refine wp_region_lit ?_;refine Lw ?_ (v:=.bool true);refine J5 ?_;go_upto_region 13 with fail;refine J21 8 [] (by kernel_rfl) (fun x hx=>by cases hx) (by kernel_rfl) ?_;simp only[List.take_succ_cons,List.take_zero,List.take_nil]
    (try simp only[Act.put,mA,mB,mC])
    refine Xv ?_;refine Xw ?_ (v:=.pointer (some ⟨V5,0+i,none⟩)) (hv:=fun _ _=>rxa Tryz.underlying230 (by omega));refine Xc ?_ (v:=.int .u64 ((mx h (V0 kf (K0 (bt l) 80) h 80) i) i)) (V6 J) (hj:=ag0 (by omega));refine Xv ?_;refine Xw ?_ (v:=.pointer (some ⟨N,0+i,none⟩)) (hv:=fun _ _=>rxa Tryz.underlying230 (by omega));refine Xc ?_ (v:=.int .u64 ((V0 kf (K0 (bt l) 80) h 80) i)) (V6 D) (hj:=ag0 (by omega));refine Xw ?_ (v:=.int .u64 (ad ((mx h (V0 kf (K0 (bt l) 80) h 80) i) i) ((V0 kf (K0 (bt l) 80) h 80) i))) (hv:=fun _ _=>J5n rfl rfl rfl);refine Xw ?_ (v:=.pointer (some ⟨V5,0+i,none⟩)) (hv:=fun _ _=>rxa Tryz.underlying230 (by omega));refine K4 ?_;intro β ε hE hN hD;clear hN hD;simp only[J01,Act.put,mA,mB,mC,List.drop_succ_cons,List.drop_zero,List.drop_nil,List.length_nil,Nat.add_zero];have hO:=J08 hE;replace J:=J.o hO;replace M:=M.o hO;replace R:=R.o hO;replace D:=D.o hO;replace Q8:=Sl.off Q8 hO f0;replace G:=G.o hO;clear hO hE β;refine J44 (v:=.int .u64 (ad ((mx h (V0 kf (K0 (bt l) 80) h 80) i) i) ((V0 kf (K0 (bt l) 80) h 80) i))) ⟨rfl,rfl⟩ (by rfl) rfl rfl rfl J (by rw[J1,Nat.zero_add];omega) (by kernel_rfl) ?_
    (try simp only[Act.put,mA,mB,mC])
    intro Y hO h_;rw[Nat.zero_add,V8] at h_;replace J:Blk Y V5 (J0 .u64 8 (upd (mx h (V0 kf (K0 (bt l) 80) h 80) i) i (ad ((mx h (V0 kf (K0 (bt l) 80) h 80) i) i) ((V0 kf (K0 (bt l) 80) h 80) i)))) 230:=h_;clear h_;replace M:=M.p hO V.symm;replace R:=R.p hO U.symm;replace D:=D.p hO S.symm;replace Q8:=Sl.off Q8 hO (f1 κ);replace G:=G.p hO σ;clear hO;refine LN ?_;go_wp2;go_roundw
    case rel=>exact⟨i+1,by omega,by go_num,G,(by rw[←Y6u];exact J),M,R,D,Q8⟩
    case measure=>simp[intOf];omega
   obtain rfl:i=8:=by omega
   rw[V3i] at J;go_upto_region 11 with fail;refine wp_region_lit ?_;refine Lw ?_ (v:=.bool false);refine J5 ?_;go_upto_region 15 with fail;refine wp_region_lit ?_;refine L0A ?_ J;refine Lp ?_ M (cells:=J0 .u64 8 (prs h (bt l))) (hi:=by rw[J1];kernel_rfl) (hs:=by rw[J1,J1]) (h1:=by exact V7 _ _ _);intro ε hO h_;replace M:Blk ε δ (J0 .u64 8 (prs h (bt l))) 230:=h_;clear h_;replace G:=G.p hO ν;clear hO;refine J5 ?_;go_wp2;refine bodyPost_ret (Z7 rfl rfl M (by kernel_rfl) (by rw[J1];kernel_rfl)) rfl ⟨rfl,G.ext⟩
end

section
theorem Y8d (n:Nat):(Builtin.zeroCells (Value.int .u8 0).cells n).toList=bs8 (List.replicate n 0):=by
  simp[Builtin.zeroCells,bs8,Value.cells,List.map_replicate,Nat.mod_one,List.map_const']
theorem J98 {P:Program}(w:World)(t tn ty e:TypeId)(i:TypeInfo)(k:IntKind)(ht:P.underlying t=some (.slice e))(htn:P.underlying tn=some (.int k))(hi:P.info? e=some i)(hz:i.zero=some (.int .u8 0))(hsz:i.size=1)(hby:i.bytes=1)
    (v:Value) (n:Nat) (xs:List Value) (hown:w.ownsRow 0 e 1 v n xs) (m:Nat) (hm:0<m) (hlen:n+m≤140737488355328):
    ∃v' w',(Builtin.append_ #[t,tn] ty #[v,.int .i64 (m:Int)]).run P w=.ok v' w' ∧w'.ownsRow 0 e 1 v' (n+m) (xs++bs8 (List.replicate m 0))∧w.grownBy w' v.ownBlock∧(v'.ownBlock=v.ownBlock∨v'.ownBlock=some w.heap.size):=by
  have hlen' :(xs++bs8 (List.replicate m 0)).length=(n+m)*1:=by rw[List.length_append,hown.1,Y9,List.length_replicate];omega
  have N:∀(old:Nat),old<n+m→∀(α:Option Nat),
      (w.drew.alloc (.cells (xs.toArray++(bs8 (List.replicate m 0)).toArray++Builtin.zeroCells (Value.int .u8 0).cells (grownCap w (n+m) old e-(n+m))) e)).ownsRow 0 e 1
        (.slice (some ⟨w.heap.size,0,none⟩) (n+m) (grownCap w (n+m) old e)) (n+m) (xs++bs8 (List.replicate m 0))∧
      w.grownBy (w.drew.alloc (.cells (xs.toArray++(bs8 (List.replicate m 0)).toArray++Builtin.zeroCells (Value.int .u8 0).cells (grownCap w (n+m) old e-(n+m))) e)) α:=by
    intro old ho α;have γ:=grownCap_ge w (n+m) old e;have V:grownCap w (n+m) old e≤maxLen:=grownCap_le_maxLen w (n+m) old e (by unfold maxLen;omega);refine⟨⟨hlen',.inr ⟨w.heap.size,_,_,rfl,Nat.zero_le _,heap_alloc_new w.drew _,γ,V,?_,?_⟩⟩,⟨rfl,rfl,rfl,by simp,fun k hk _=>_root_.Go.heap_alloc_old w.drew _ (by simpa using hk)⟩⟩
    · simp only[Array.size_append,List.size_toArray,size_zeroCells,hown.1,Y9,List.length_replicate,Value.cells,List.size_toArray]
      simp;omega
    · simp only[Array.toList_append,List.append_assoc]
      rw[←List.append_assoc,←hlen'];exact List.take_left
  have hw:IntKind.i64.wrap (m:Int)=m:=by rw[IntKind.wrap_i64];omega
  have R:¬((m:Int)<0):=by omega
  have T:¬(281474976710656<(m:Int)):=by omega
  have S:Builtin.zeroCells (Value.int .u8 0).cells m=(bs8 (List.replicate m 0)).toArray:=Array.toList_inj.1 (Y8d m);rcases hown.2 with⟨rfl,rfl⟩|⟨g,D,M,rfl,_,hg,ε,V,δ,Y⟩
  · have hx:xs=[]:=List.eq_nil_of_length_eq_zero (by simpa using hown.1)
    subst hx;have hr:=Lib.run_append_nil_zeros (P:=P) w t tn ty e i (.int .u8 0) .i64 k ht htn hi hz m hm (by omega) (by omega) (by rw[hby];omega);have G:=N 0 (by omega) (Value.ownBlock (.slice none 0 0));simp only[Nat.zero_add,List.nil_append,Array.empty_append] at G⊢;rw[S] at hr;exact⟨_,_,hr,by simpa using G.1,G.2,.inr rfl⟩
  by_cases J:n+m≤D
  · have Z:=run_storeCells_at P g (n*1) e (bs8 (List.replicate m 0)) 0 M w hg (by rw[Y9,List.length_replicate,δ];simp;omega) (Q3o _)
    simp only[Nat.add_zero,Nat.mul_one] at Z;refine⟨.slice (some ⟨g,0,none⟩) (n+m) D,w.setRow g (M.toList.take n++bs8 (List.replicate m 0)++M.toList.drop (n+(bs8 (List.replicate m 0)).length)).toArray,?_,?_,?_,.inl rfl⟩
    · have U:m≠0:=by omega
      simp[Builtin.append_,run_underlying ht,run_underlying htn,sizeOf,typeInfo,zeroValue,hi,hz,asInt,asIntOf,hw,R,hby,T,hsz,U,J,S,Addr.add_lit,Z]
    · refine⟨hlen',.inr ⟨g,D,_,rfl,Nat.zero_le _,setRow_heap w g M _ e _ hg,J,V,?_,?_⟩⟩
      · simp only[List.size_toArray,List.length_append,List.length_take,List.length_drop,Array.length_toList,Y9,List.length_replicate]
        omega
      have ht' :M.toList.take n=xs:=by simpa using Y
      rw[ht',←hlen'];exact List.take_left
    exact⟨rfl,rfl,rfl,by simp,fun k _ hk=>setRow_other w g k _ (fun e=>hk (by simp[Value.ownBlock,e]))⟩
  have X:∀j u,xs[j]?=some u→w.cell? ((⟨g,0,none⟩:Addr).add j)=some u:=hown.cells (g:=g) rfl;have β:=run_firstCells_some (P:=P) w.drew 1 n ⟨g,0,none⟩ n D xs hown.1 (by simpa using X);have G:=N D (by omega) (Value.ownBlock (.slice (some ⟨g,0,none⟩) n D));have h63' :¬(9223372036854775807<((n:Int)+(m:Int))):=by omega
  have hf:=growslice_fits (need:=n+m) (old:=D) (bytes:=1) (by omega) (by omega);have h48' :¬(281474976710656<Builtin.nextslicecap (n+m) D):=by omega
  refine⟨_,_,?_,G.1,G.2,.inr rfl⟩;have U:m≠0:=by omega
  simp[Builtin.append_,run_underlying ht,run_underlying htn,sizeOf,typeInfo,zeroValue,hi,hz,asInt,asIntOf,hw,R,hby,T,hsz,U,J,h63',h48',Question.forced,S,β,newRow,grownCap,Array.append_assoc]
  congr 2
  simp[←List.append_toArray]
theorem Z0l {ops:Array Oper}{Q:Exit→Act→World→Prop}{w:World}{l:List Oper}{o:Oper}{a:Act}{s x:Operand}{v:Value}{xs:List UInt8}{m:Nat}(hm:0<m)(hw:Region.wanted o (yielded ops a.tmps)=true)
    (ho:o.op=.call {callee:=.builtin .append,args:= #[s,x],argTypes:= #[22,3]}) (hs:a.eval s=v) (hx:a.eval x=.int .i64 (m:Int)) (hown:Own w v xs) (hlen:xs.length+m≤140737488355328)
    (h:∀v' W,Own W v' (xs++List.replicate m 0)→Off v.ownBlock.toList w W→Of v'.ownBlock v.ownBlock w.heap.size→wpList Tryz.prog ops Q l (a.put o.dst v') W):wpList Tryz.prog ops Q (o::l) a w:=by
  obtain⟨i,hi,hz,G,J⟩:=info_parts J61;obtain⟨v',W,D,h1,h2,h3⟩:=J98 (P:=Tryz.prog) w 22 3 o.type 5 i .i64 Tryz.underlying22 Tryz.underlying3 hi hz G J v xs.length (bs8 xs) hown m hm hlen;refine J4n hw (v:=v') (W:=W) ?_ (h v' W ?_ (J9q h2) (Z4x h3))
  · unfold execOp
    simp only[ho,resolve,invoke,builtin,Sem.run_bind,Sem.run_pure,Result.andThen_ok,List.map_toArray,List.map_cons,List.map_nil,hs,hx,D]
  unfold Own;rw[List.length_append,J5z,List.length_replicate];exact h1
end

section

section
variable {w : World} {o : Oper} {a : Act}
theorem Q8m {P:Program}{t e:TypeId}{k kk:IntKind}{m j:Nat}{f:Nat→Int}{x y:Operand}(hj:j<m)(ht:P.underlying t=some (.array m e))(he:(P.info? e).map (·.size)=some 1)(hg:(isAgg e).run P w=.ok false w)(ho:o.op=.index t x y)(hx:a.eval x=.agg (J0 kk m f))(hy:a.eval y=.int k (j:Int)):
    (execOp a.eval o).run P w=.ok (.value (.int kk (f j))) w:=by
  cases hq:P.info? e with
  |none=>simp[hq] at he
  |some i=>
    have hs:i.size=1:=by simpa[hq] using he
    have hp:=V3 kk m f j hj;simp[execOp,ho,hx,hy,Instr.index,asIntOf,part,run_underlying ht,Sem.run_bind,sizeOf,typeInfo,hq,hs,hj,hg,hp]
end
def Q2t:Value→Nat
  | .slice _ n _=>n
  |_=>0
theorem Z5v {w:World}{v:Value}{l:List UInt8}(h:Own w v l):Q2t v=l.length:=by
  obtain⟨A,c,rfl,_⟩:=h.len;rfl
def u8 (n:Nat):UInt8:=UInt8.ofNat n
theorem V5w (n:Nat):(u8 n).toNat=n % 256:=UInt8.toNat_ofNat'
theorem J5l (n:Nat):((u8 n).toNat:Int)=(n:Int) % 256:=by rw[V5w];rfl
def be8 (X:Nat):List UInt8:=[u8 (X / 72057594037927936),u8 (X / 281474976710656),u8 (X / 1099511627776),u8 (X / 4294967296),u8 (X / 16777216),u8 (X / 65536),u8 (X / 256),u8 X]
def w8 (x:Int):Int:=IntKind.wrap .u8 x
theorem Q45 (ps:List (List UInt8))(i:Nat):(ps.take i).flatten.length≤ps.flatten.length:=by
  have:ps.flatten=(ps.take i).flatten++(ps.drop i).flatten:=by rw[←List.flatten_append,List.take_append_drop]
  rw[this,List.length_append];omega
theorem J5r {ps:List (List UInt8)}{i:Nat}{l:List UInt8}(h:ps[i]?=some l):(ps.take (i+1)).flatten=(ps.take i).flatten++l:=by
  rw[List.take_add_one,h];simp
theorem Q8l (L:List UInt8)(X:Nat):L++[u8 (X / 72057594037927936)]++[u8 (X / 281474976710656)]++[u8 (X / 1099511627776)]++[u8 (X / 4294967296)]++[u8 (X / 16777216)]++[u8 (X / 65536)]++[u8 (X / 256)]++[u8 X]=L++be8 X:=by
  simp only[be8,List.append_assoc,List.cons_append,List.nil_append]
theorem J6w {w:World}{v:Value}{l:List UInt8}(h:Sl w v l):Q2t v=l.length:=by
  obtain⟨A,c,rfl,_⟩:=h;rfl
theorem J2z {w:World}{o:Oper}{a:Act}{x:Operand}{p:Int}(ho:o.op=.convert 99 5 x)(hx:a.eval x=.int .u64 p):(execOp a.eval o).run Tryz.prog w=.ok (.value (.int .u8 (w8 p))) w:=by
  simp[execOp,ho,hx,convert,run_underlying Tryz.underlying5,run_underlying Tryz.underlying99,Sem.run_bind,Conv.intToInt,w8]
theorem J3q (X n D:Nat)(h:2^n=D):w8 (sr ((X:Nat):Int) n)=((u8 (X / D)).toNat:Int):=by
  subst h;unfold w8 sr;rw[J5l,IntKind.wrap_u8,Int.natCast_ediv,Int.natCast_pow];rfl
theorem Z5w (X:Nat):w8 (sr ((X:Nat):Int) 0)=((u8 X).toNat:Int):=by rw[J3q X 0 1 (by decide),Nat.div_one]
theorem Y83 {w:World}:(isAgg 99).run Tryz.prog w=.ok false w:=by
  simp[isAgg,run_underlying Tryz.underlying99,Sem.run_bind]
theorem Y99 (x:Int):0≤w8 x∧w8 x<256:=by unfold w8;rw[IntKind.wrap_u8];omega
theorem J0z {P:Program}{w:World}{o:Oper}{a:Act}{x y:Operand}{t t' :TypeId}{k:IntKind}{p:Int}{n:Nat}(hn:n≤64)(ho:o.op=.binOp .shr t x y t')(hx:a.eval x=.int .i64 p)(hy:a.eval y=.int k (n:Int)):(execOp a.eval o).run P w=.ok (.value (.int .i64 (p / 2^n))) w:=by
  have h:min ((n:Int)).toNat IntKind.i64.bits=n:=by rw[Int.toNat_natCast];exact Nat.min_eq_left hn
  simp only[execOp,ho,hx,hy,eqGuard,binOp,Sem.run_bind];simp[Op.shift,h,go_sem,Sem.run_bind]
theorem Z38 {P:Program}{w:World}{o:Oper}{a:Act}{x y:Operand}{t t' :TypeId}{k:IntKind}{p:Int}(ho:o.op=.binOp .shr t x y t')(hx:a.eval x=.int .i64 p)(hy:a.eval y=.int k 0):(execOp a.eval o).run P w=.ok (.value (.int .i64 p)) w:=by
  have h:=J0z (P:=P) (w:=w) (n:=0) (by decide) ho hx hy
  simpa using h
theorem J2h {w:World}{o:Oper}{a:Act}{x:Operand}{p:Int}(ho:o.op=.convert 3 5 x)(hx:a.eval x=.int .i64 p):(execOp a.eval o).run Tryz.prog w=.ok (.value (.int .u8 (w8 p))) w:=by
  simp[execOp,ho,hx,convert,run_underlying Tryz.underlying5,run_underlying Tryz.underlying3,Sem.run_bind,Conv.intToInt,w8]
theorem J7z (X D:Nat):w8 (((X / D:Nat):Int))=((u8 (X / D)).toNat:Int):=by
  unfold w8;rw[J5l,IntKind.wrap_u8]
theorem Y8e (X:Nat):w8 ((X:Nat):Int)=((u8 X).toNat:Int):=by
  unfold w8;rw[J5l,IntKind.wrap_u8]
theorem J80 (X n D:Nat)(h:2^n=D):((X:Nat):Int) / 2^n=((X / D:Nat):Int):=by
  subst h;rw[Int.natCast_ediv,Int.natCast_pow];rfl
section
variable {P : Program} {w : World} {o : Oper} {a : Act} {x y : Operand} {t t' : TypeId} {p q : Int}
theorem J9w {k:IntKind}{n:Nat}(hn:n≤64)(ho:o.op=.binOp .shl t x y t')(hx:a.eval x=.int .i64 p)(hy:a.eval y=.int k (n:Int)):(execOp a.eval o).run P w=.ok (.value (.int .i64 (IntKind.wrap .i64 (p*2^n)))) w:=by
  have h:min ((n:Int)).toNat IntKind.i64.bits=n:=by rw[Int.toNat_natCast];exact Nat.min_eq_left hn
  simp only[execOp,ho,hx,hy,eqGuard,binOp,Sem.run_bind];simp[Op.shift,h,go_sem,Sem.run_bind]
theorem J4l (ho:o.op=.binOp .and t x y t')(hx:a.eval x=.int .i64 p)(hy:a.eval y=.int .i64 q):(execOp a.eval o).run P w=.ok (.value (.int .i64 (bits .and .i64 p q))) w:=by
  simp only[execOp,ho,hx,hy];rfl
theorem Q1m (ho:o.op=.binOp .or t x y t')(hx:a.eval x=.int .i64 p)(hy:a.eval y=.int .i64 q):(execOp a.eval o).run P w=.ok (.value (.int .i64 (bits .or .i64 p q))) w:=by
  simp only[execOp,ho,hx,hy];rfl
theorem Q6z (ho:o.op=.binOp .xor t x y t')(hx:a.eval x=.int .i64 p)(hy:a.eval y=.int .i64 q):(execOp a.eval o).run P w=.ok (.value (.int .i64 (bits .xor .i64 p q))) w:=by
  simp only[execOp,ho,hx,hy];rfl
end
end

section
section
variable {w : World} {o : Oper} {a : Act}
theorem Y44:(Tryz.prog.info? 22).map (·.size)=some 1:=by kernel_rfl
theorem Q78 {x y:Operand}{k:IntKind}{ad:Addr}{n c j:Nat}(hj:j<n)(ho:o.op=.indexAddr 168 x y)(hx:a.eval x=.slice (some ad) n c)(hy:a.eval y=.int k (j:Int)):
    (execOp a.eval o).run Tryz.prog w=.ok (.value (.pointer (some (ad.add j)))) w:=by
  have h1:=Y44;cases hq:Tryz.prog.info? 22 with
  |none=>simp[hq] at h1
  |some i=>
    have hs:i.size=1:=by simpa[hq] using h1
    simp[execOp,ho,hx,hy,Instr.indexAt,asIntOf,run_underlying Tryz.underlying168,Sem.run_bind,sizeOf,typeInfo,hq,hs,hj]
end
end
end Go.Proofs.YteehbddkcnkhfaaGreatDoor

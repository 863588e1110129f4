/- Contracts and plain laws for directHolds_holds. Conditions: the tables hold their numbers. -/
import Derived.Test.YtpljgkofbfeelaaGreatDoorJ6
import Derived.Lib.AppendZeros
open Go renaming World->AA,Value->AB,bodyPost_ret->BC,execOp->AQ,Calls->Az,Program->AC,Operand->AS,TypeId->AD,Oper->AT,IntKind->AG
open Go.IntKind renaming wrap_i64->BD,wrap_u64->AH
open Go.Sem renaming run_bind->Ad
open _root_.List renaming length_append->Ai,append_assoc->Ak,length_replicate->BE
open _root_.Nat renaming le_refl->AJ,zero_le->Ah,zero_add->AL
open Go.RowKit
set_option maxRecDepth 100000
set_option linter.unusedSimpArgs false
set_option linter.unusedVariables false
namespace Go.Proofs.YtpljgkofbfeelaaGreatDoor
section
set_option maxHeartbeats 4000000

def xo (p q:Int):Int:=bits .xor .u64 p q
def an (p q:Int):Int:=bits .and .u64 p q
def oo (p q:Int):Int:=bits .or .u64 p q
def nt (p:Int):Int:=bits .xor .u64 18446744073709551615 p
def ad (p q:Int):Int:=AG.wrap .u64 (p+q)
def sl (p:Int)(n:Nat):Int:=AG.wrap .u64 (p*2^n)
def sr (p:Int)(n:Nat):Int:=p / 2^n
def rt (p:Int)(n:Nat):Int:=oo (sr p n) (sl p (64-n))
theorem Y64 (p q:Int):oo p q=oo q p:=by unfold oo;simp only[bits,BitVec.or_comm]
section
variable {P : AC} {w : AA} {o : AT} {a : Act} {x y : AS} {t t' : AD} {p q : Int}
theorem J3t (ho:o.op=.binOp .xor t x y t')(hx:a.eval x=.int .u64 p)(hy:a.eval y=.int .u64 q):(AQ a.eval o).run P w=.ok (.value (.int .u64 (xo p q))) w:=by
  simp only[AQ,ho,hx,hy];rfl
theorem Q0y (ho:o.op=.binOp .and t x y t')(hx:a.eval x=.int .u64 p)(hy:a.eval y=.int .u64 q):(AQ a.eval o).run P w=.ok (.value (.int .u64 (an p q))) w:=by
  simp only[AQ,ho,hx,hy];rfl
theorem Y1a (ho:o.op=.binOp .or t x y t')(hx:a.eval x=.int .u64 p)(hy:a.eval y=.int .u64 q):(AQ a.eval o).run P w=.ok (.value (.int .u64 (oo p q))) w:=by
  simp only[AQ,ho,hx,hy];rfl
theorem J5a (ho:o.op=.binOp .add t x y t')(hx:a.eval x=.int .u64 p)(hy:a.eval y=.int .u64 q):(AQ a.eval o).run P w=.ok (.value (.int .u64 (ad p q))) w:=by
  simp only[AQ,ho,hx,hy];rfl
theorem Y65 (ho:o.op=.unOp .xor t x)(hx:a.eval x=.int .u64 p):(AQ a.eval o).run P w=.ok (.value (.int .u64 (nt p))) w:=by
  simp only[AQ,ho,hx];rfl
theorem Q3k {k:AG}{n:Nat}(hn:n≤64)(ho:o.op=.binOp .shl t x y t')(hx:a.eval x=.int .u64 p)(hy:a.eval y=.int k (n:Int)):(AQ a.eval o).run P w=.ok (.value (.int .u64 (sl p n))) w:=by
  have h:min ((n:Int)).toNat AG.u64.bits=n:=by rw[Int.toNat_natCast];exact Nat.min_eq_left hn
  simp only[AQ,ho,hx,hy,eqGuard,binOp,Ad];simp[Op.shift,h,sl,go_sem,Ad]
theorem J95 {k:AG}{n:Nat}(hn:n≤64)(ho:o.op=.binOp .shr t x y t')(hx:a.eval x=.int .u64 p)(hy:a.eval y=.int k (n:Int)):(AQ a.eval o).run P w=.ok (.value (.int .u64 (sr p n))) w:=by
  have h:min ((n:Int)).toNat AG.u64.bits=n:=by rw[Int.toNat_natCast];exact Nat.min_eq_left hn
  simp only[AQ,ho,hx,hy,eqGuard,binOp,Ad];simp[Op.shift,h,sr,go_sem,Ad]
end
end

section
set_option maxHeartbeats 4000000
attribute [local irreducible] wpList

theorem V8b (n:Nat)(h1:1≤n)(h2:n≤63):bits .and .u64 (18446744073709551616-(n:Int)) 63=((64-n:Nat):Int):=by
  obtain⟨m,hm⟩:∃m:Nat,m=18446744073709551616-n:=⟨_,rfl⟩
  have e:(18446744073709551616-(n:Int))=(m:Int):=by omega
  have D:(BitVec.ofInt 64 63).toNat=2^6-1:=by decide
  have G:(BitVec.ofInt 64 (m:Int) &&& BitVec.ofInt 64 63).toNat=m % 2^6:=by
    rw[BitVec.toNat_and,BitVec.toNat_ofInt,D,Nat.and_two_pow_sub_one_eq_mod];omega
  rw[e];show AG.u64.wrap ((BitVec.ofInt 64 (m:Int) &&& BitVec.ofInt 64 63).toNat:Nat)=_;rw[G,AG.wrap_u64];omega

theorem V39 (p:Int)(n:Nat)(h1:1≤n)(h2:n≤63)(w:AA):
  Az Tryz.prog 188 #[.int .u64 p,.int .i64 (-(n:Int))] w fun e w' =>V5 (.int .u64 (rt p n)) w w' e:=by
 have n0:(1:Int)≤(n:Int):=by omega
 have n1:(n:Int)≤63:=by omega
 have ha:=V8b n h1 h2;have D:Off [] w w:=Off.refl _ _
 go_enter Tryz.func188,Tryz.ntmps188
 go_upto_region 1 with fail;refine wp_region_lit ?_;refine Lv ?_;refine Lw ?_ (v:=.int .u64 (18446744073709551616-(n:Int))) (hv:=by go_simp;(try simp only[AG.wrap_u64,AG.wrap_i64]);(try omega));refine Lw ?_ (v:=.int .u64 (((64-n:Nat):Int))) (hv:=by first|(go_simp;done)|(go_simp;(try rw[ha]);(try omega)));refine Lv ?_;refine J0p ?_;go_upto_region 2 with fail;refine wp_region_lit ?_;refine Lv ?_;refine Lv ?_;refine Lw ?_ (v:=.int .u64 (sl p (64-n))) (hv:=Q3k (n:=(64-n)) (by omega) rfl rfl rfl);refine Lv ?_;refine Lv ?_;refine Lw ?_ (v:=.int .u64 ((n:Int))) (hv:=by go_simp;(try simp only[AG.wrap_u64,AG.wrap_i64]);(try omega));refine Lw ?_ (v:=.int .u64 (sr p n)) (hv:=J95 (n:=n) (by omega) rfl rfl rfl);refine Lw ?_ (v:=.int .u64 (oo (sl p (64-n)) (sr p n))) (hv:=Y1a rfl rfl rfl);refine Lv ?_;refine J0p ?_;go_wp2;exact BC (v:=.int .u64 (oo (sl p (64-n)) (sr p n))) (by simp only[results,Tryz.results188];go_simp) rfl ⟨congrArg (fun z=>Ending.returned (.int .u64 z)) (Y64 _ _),D.ext⟩
theorem J6k (p:Int)(n:Nat)(h1:1≤n)(h2:n≤63)(w:AA):
  Az Tryz.prog 162 #[.int .u64 p,.int .i64 (n:Int)] w fun e w' =>V5 (.int .u64 (rt p n)) w w' e:=by
 have n0:(1:Int)≤(n:Int):=by omega
 have n1:(n:Int)≤63:=by omega
 have D:Off [] w w:=Off.refl _ _
 go_enter Tryz.func162,Tryz.ntmps162
 go_upto_region 1 with fail;refine wp_region_lit ?_;refine Lv ?_;refine Lv ?_;refine Lw ?_ (v:=.int .i64 (-(n:Int))) (hv:=by go_simp;(try simp only[AG.wrap_u64,AG.wrap_i64]);(try omega));refine Lr ?_ (V39 p n h1 h2 w);intro W1 hO;replace D:=D.o hO;clear hO;refine Lv ?_;refine J0p ?_;go_wp2;exact BC (v:=.int .u64 (rt p n)) (by simp only[results,Tryz.results162];go_simp) rfl ⟨rfl,D.ext⟩
end

section
set_option maxHeartbeats 4000000
attribute [local irreducible] wpList

theorem V3a {w:AA}{o:AT}{a:Act}{x:AS}{c:UInt8}(ho:o.op=.convert 5 121 x)(hx:a.eval x=.int .u8 (c.toNat:Int)):(AQ a.eval o).run Tryz.prog w=.ok (.value (.int .u64 (c.toNat:Int))) w:=by
  have hc:=c.toNat_lt;have hw:AG.wrap .u64 (c.toNat:Int)=(c.toNat:Int):=by rw[AG.wrap_u64];omega
  simp[AQ,ho,hx,convert,run_underlying Tryz.underlying5,run_underlying Tryz.underlying121,Ad,Conv.intToInt,hw]
def wrd (b:Nat→Int)(i:Nat):Nat→Int
  |0=>0
  |k+1=>oo (sl (wrd b i k) 8) (b (8*i+k))
def sg (f:Nat→Int)(i:Nat):Int:=ad (ad (ad (f (i-16)) (xo (xo (rt (f (i-15)) 1) (rt (f (i-15)) 8)) (sr (f (i-15)) 7))) (f (i-7))) (xo (xo (rt (f (i-2)) 19) (rt (f (i-2)) 61)) (sr (f (i-2)) 6))
def Y9 (b:Nat→Int):Nat→Nat→Int
  |0=>fun _=>0
  |i+1=>upd (Y9 b i) i (if i<16 then wrd b i 8 else sg (Y9 b i) i)
theorem V3b {b:Nat→Int}{i:Nat}(h:16≤i):upd (Y9 b i) i (sg (Y9 b i) i)=Y9 b (i+1):=by
  show _=upd (Y9 b i) i (if i<16 then wrd b i 8 else sg (Y9 b i) i);rw[if_neg (by omega)]
theorem Y1c (b:Nat→Int):∀i,i≤16→∀j,Y9 b i j=if j<i then wrd b j 8 else 0
  |0,_,j=>by simp[Y9]
  |i+1,h,j=>by
    show upd (Y9 b i) i (if i<16 then wrd b i 8 else sg (Y9 b i) i) j=_;rw[if_pos (by omega)];unfold upd
    by_cases hj:j=i
    · rw[if_pos hj,if_pos (by omega),hj]
    · rw[if_neg hj,Y1c b i (by omega) j]
      by_cases hl:j<i
      · rw[if_pos hl,if_pos (by omega)]
      · rw[if_neg hl,if_neg (by omega)]
def fst (b:Nat→Int)(n j:Nat):Int:=if j<n / 8 then wrd b j 8 else if j=n / 8 then wrd b j (n % 8) else 0
theorem Y1d (b:Nat→Int)(n:Nat):upd (fst b n) (n / 8) (oo (sl (fst b n (n / 8)) 8) (b n))=fst b (n+1):=by
  funext j
  have e:fst b n (n / 8)=wrd b (n / 8) (n % 8):=by unfold fst;rw[if_neg (by omega),if_pos rfl]
  have hb:b n=b (8*(n / 8)+n % 8):=by rw[Nat.div_add_mod]
  rw[e,hb];show(if j=n / 8 then wrd b (n / 8) (n % 8+1) else fst b n j)=fst b (n+1) j;unfold fst
  by_cases hm:n % 8=7
  · have h1:(n+1) / 8=n / 8+1:=by omega
    have h2:(n+1) % 8=0:=by omega
    rw[h1,h2,hm]
    by_cases hj:j=n / 8
    · rw[if_pos hj,if_pos (by omega),hj]
    rw[if_neg hj]
    by_cases hl:j<n / 8
    · rw[if_pos hl,if_pos (by omega)]
    rw[if_neg hl,if_neg hj,if_neg (by omega)]
    split
    · rfl
    rfl
  have h1:(n+1) / 8=n / 8:=by omega
  have h2:(n+1) % 8=n % 8+1:=by omega
  rw[h1,h2]
  by_cases hj:j=n / 8
  · rw[if_pos hj,if_neg (by omega),if_pos hj,hj]
  rw[if_neg hj]
  by_cases hl:j<n / 8
  · rw[if_pos hl,if_pos hl]
  rw[if_neg hl,if_neg hj,if_neg hl,if_neg hj]
theorem Y66 (b:Nat→Int):fst b 128=Y9 b 16:=by
  funext j
  rw[Y1c b 16 (AJ _) j];unfold fst
  by_cases h:j<16
  · rw[if_pos (by omega),if_pos h]
  rw[if_neg (by omega),if_neg h]
  split
  · rename_i h2;rw[show 128 % 8=0 by rfl];rfl
  rfl
theorem Y1e (b:Nat→Int):fst b 0=fun _=>0:=by
  funext j
  unfold fst;rw[if_neg (by omega)]
  split<;>rfl


theorem Y1f (l:List UInt8)(adr:Addr)(c:Nat)(hl:128≤l.length)(w:AA)(hs:Sl w (.slice (some adr) l.length c) l):
  Az Tryz.prog 161 #[.slice (some adr) l.length c] w fun e w' =>V5 (.agg (J0 .u64 80 (Y9 (bt l) 80))) w w' e:=by
 have hS:=SH.nil [] w
 go_enter Tryz.func161,Tryz.ntmps161
 go_upto_region 0 with fail;refine RL hS ?_;clear hS;refine MN (z:=J0 .u64 80 (fun _=>0)) (t:=221) ?_;intro K9;refine MZ fun W hS=> ?_;go_upto_region 1 with fail;refine RL hS ?_;clear hS;refine MN (z:=J0 .u64 80 (fun _=>0)) (t:=221) ?_;intro D;refine MZ fun W hS=> ?_
 go_wp2_with fail
 go_loopw [8] (fun ii wr=> ∃(n:Nat),(n≤128)∧(ii=.int .i64 (n:Int))∧SH [] w wr [.b D (J0 .u64 80 (fst (bt l) n)) 221,.b K9 (J0 .u64 80 (fun _=>0)) 221])
  (fun ii _=>128-(intOf ii).toNat)
 case atStart=>exact⟨0,Ah _,rfl,(by rw[Y1e];exact hS)⟩
 clear hS
 case round=>
  obtain⟨n,hn,rfl,hS⟩:=hrel
  by_cases G:n<128
  ·
   go_upto_region 3 with fail;refine RL hS ?_;clear hS;refine Wt ?_;refine MZ fun W hS=> ?_;go_upto_region 5 with fail;refine RX 14 hS ?_;clear hS;refine MV ?_;refine MW ?_ (v:=.int .i64 (((n / 8:Nat):Int))) (hv:=by intro W;go_simp;(try simp only[AG.wrap_u64,AG.wrap_i64]);(try omega));refine MV ?_;refine MW ?_ (v:=.int .i64 (((n / 8:Nat):Int))) (hv:=by intro W;go_simp;(try simp only[AG.wrap_u64,AG.wrap_i64]);(try omega));refine MW ?_ (v:=.pointer (some ⟨D,0+(n / 8),none⟩)) (hv:=fun _=>rxa Tryz.underlying221 (by omega));refine MG 0 ?_ (j:=0+(n / 8)) (v:=.int .u64 ((fst (bt l) n) (n / 8))) (hj:=ag0 (by omega));refine MW ?_ (v:=.int .u64 (sl ((fst (bt l) n) (n / 8)) 8)) (hv:=fun _=>Q3k (n:=8) (by decide) rfl rfl rfl);refine MV ?_;refine MV ?_;refine MW ?_ (v:=.pointer (some (adr.add n))) (hv:=fun _=>Q3j (j:=n) (by omega) rfl rfl rfl);refine MF (v:=.int .u8 ((l.getD n 0).toNat:Int)) (fun W hS=>Q6 rfl rfl (Q4l (K4 hs hS.ext) (J2a (by omega))) (by kernel_rfl)) ?_;refine MW ?_ (v:=.int .u64 (bt l n)) (hv:=by intro W;exact V3a rfl rfl);refine MW ?_ (v:=.int .u64 (oo (sl ((fst (bt l) n) (n / 8)) 8) (bt l n))) (hv:=fun _=>Y1a rfl rfl rfl);refine MW ?_ (v:=.pointer (some ⟨D,0+(n / 8),none⟩)) (hv:=fun _=>rxa Tryz.underlying221 (by omega));refine MZt ?_;refine MP 0 (v:=.int .u64 (oo (sl ((fst (bt l) n) (n / 8)) 8) (bt l n))) (cs' :=J0 .u64 80 (upd (fst (bt l) n) (n / 8) (oo (sl ((fst (bt l) n) (n / 8)) 8) (bt l n)))) ?_ (hs:=by rw[J1,AL];omega) (hc:=by rw[AL];exact V1 _ _ _ _ _);refine MZn fun W hS=> ?_;go_wp2;go_roundw
   case rel=>exact⟨n+1,by omega,by go_num,(by rw[←Y1d];exact hS)⟩
   case measure=>simp[intOf];omega
  obtain rfl:n=128:=by omega
  rw[Y66] at hS;go_upto_region 3 with fail;refine RL hS ?_;clear hS;refine Wf ?_;refine MZ fun W hS=> ?_
  go_wp2_with fail
  go_loopw [5] (fun ii wr=> ∃(i:Nat),(16≤i∧i≤80)∧(ii=.int .i64 (i:Int))∧SH [] w wr [.b D (J0 .u64 80 (Y9 (bt l) i)) 221,.b K9 (J0 .u64 80 (fun _=>0)) 221])
   (fun ii _=>80-(intOf ii).toNat)
  case atStart=>exact⟨16,⟨AJ _,by decide⟩,rfl,hS⟩
  clear hS
  case round=>
   obtain⟨i,⟨hi,M⟩,rfl,hS⟩:=hrel
   by_cases J:i<80
   ·
    go_upto_region 8 with fail;refine RL hS ?_;clear hS;refine MV ?_;refine Wt ?_;refine MZ fun W hS=> ?_;go_upto_region 10 with fail;refine RS hS ?_;clear hS;refine MV ?_;refine MW ?_ (v:=.int .i64 (((i-15:Nat):Int))) (hv:=by intro W;go_simp;(try simp only[AG.wrap_u64,AG.wrap_i64]);(try omega));refine MW ?_ (v:=.pointer (some ⟨D,0+(i-15),none⟩)) (hv:=fun _=>rxa Tryz.underlying221 (by omega));refine MG 0 ?_ (j:=0+(i-15)) (v:=.int .u64 ((Y9 (bt l) i) (i-15))) (hj:=ag0 (by omega));refine MV ?_;refine MW ?_ (v:=.int .i64 (((i-2:Nat):Int))) (hv:=by intro W;go_simp;(try simp only[AG.wrap_u64,AG.wrap_i64]);(try omega));refine MW ?_ (v:=.pointer (some ⟨D,0+(i-2),none⟩)) (hv:=fun _=>rxa Tryz.underlying221 (by omega));refine MG 0 ?_ (j:=0+(i-2)) (v:=.int .u64 ((Y9 (bt l) i) (i-2))) (hj:=ag0 (by omega));refine MV ?_;refine MV ?_;refine MZx fun W hS=> ?_;go_upto_region 11 with fail;refine RX 29 hS ?_;clear hS;refine MV ?_;refine MV ?_;refine MW ?_ (v:=.int .i64 (((i-16:Nat):Int))) (hv:=by intro W;go_simp;(try simp only[AG.wrap_u64,AG.wrap_i64]);(try omega));refine MW ?_ (v:=.pointer (some ⟨D,0+(i-16),none⟩)) (hv:=fun _=>rxa Tryz.underlying221 (by omega));refine MG 0 ?_ (j:=0+(i-16)) (v:=.int .u64 ((Y9 (bt l) i) (i-16))) (hj:=ag0 (by omega));refine MV ?_;refine MC (v:=.int .u64 (rt ((Y9 (bt l) i) (i-15)) 1)) (fun W hS=>J6k ((Y9 (bt l) i) (i-15)) 1 (by decide) (by decide) W) ?_;refine MV ?_;refine MC (v:=.int .u64 (rt ((Y9 (bt l) i) (i-15)) 8)) (fun W hS=>J6k ((Y9 (bt l) i) (i-15)) 8 (by decide) (by decide) W) ?_;refine MW ?_ (v:=.int .u64 (xo (rt ((Y9 (bt l) i) (i-15)) 1) (rt ((Y9 (bt l) i) (i-15)) 8))) (hv:=fun _=>J3t rfl rfl rfl);refine MV ?_;refine MW ?_ (v:=.int .u64 (sr ((Y9 (bt l) i) (i-15)) 7)) (hv:=fun _=>J95 (n:=7) (by decide) rfl rfl rfl);refine MW ?_ (v:=.int .u64 (xo (xo (rt ((Y9 (bt l) i) (i-15)) 1) (rt ((Y9 (bt l) i) (i-15)) 8)) (sr ((Y9 (bt l) i) (i-15)) 7))) (hv:=fun _=>J3t rfl rfl rfl);refine MW ?_ (v:=.int .u64 (ad ((Y9 (bt l) i) (i-16)) (xo (xo (rt ((Y9 (bt l) i) (i-15)) 1) (rt ((Y9 (bt l) i) (i-15)) 8)) (sr ((Y9 (bt l) i) (i-15)) 7)))) (hv:=fun _=>J5a rfl rfl rfl);refine MV ?_;refine MW ?_ (v:=.int .i64 (((i-7:Nat):Int))) (hv:=by intro W;go_simp;(try simp only[AG.wrap_u64,AG.wrap_i64]);(try omega));refine MW ?_ (v:=.pointer (some ⟨D,0+(i-7),none⟩)) (hv:=fun _=>rxa Tryz.underlying221 (by omega));refine MG 0 ?_ (j:=0+(i-7)) (v:=.int .u64 ((Y9 (bt l) i) (i-7))) (hj:=ag0 (by omega));refine MW ?_ (v:=.int .u64 (ad (ad ((Y9 (bt l) i) (i-16)) (xo (xo (rt ((Y9 (bt l) i) (i-15)) 1) (rt ((Y9 (bt l) i) (i-15)) 8)) (sr ((Y9 (bt l) i) (i-15)) 7))) ((Y9 (bt l) i) (i-7)))) (hv:=fun _=>J5a rfl rfl rfl);refine MV ?_;refine MC (v:=.int .u64 (rt ((Y9 (bt l) i) (i-2)) 19)) (fun W hS=>J6k ((Y9 (bt l) i) (i-2)) 19 (by decide) (by decide) W) ?_;refine MV ?_;refine MC (v:=.int .u64 (rt ((Y9 (bt l) i) (i-2)) 61)) (fun W hS=>J6k ((Y9 (bt l) i) (i-2)) 61 (by decide) (by decide) W) ?_;refine MW ?_ (v:=.int .u64 (xo (rt ((Y9 (bt l) i) (i-2)) 19) (rt ((Y9 (bt l) i) (i-2)) 61))) (hv:=fun _=>J3t rfl rfl rfl);refine MV ?_;refine MW ?_ (v:=.int .u64 (sr ((Y9 (bt l) i) (i-2)) 6)) (hv:=fun _=>J95 (n:=6) (by decide) rfl rfl rfl);refine MW ?_ (v:=.int .u64 (xo (xo (rt ((Y9 (bt l) i) (i-2)) 19) (rt ((Y9 (bt l) i) (i-2)) 61)) (sr ((Y9 (bt l) i) (i-2)) 6))) (hv:=fun _=>J3t rfl rfl rfl);refine MW ?_ (v:=.int .u64 (ad (ad (ad ((Y9 (bt l) i) (i-16)) (xo (xo (rt ((Y9 (bt l) i) (i-15)) 1) (rt ((Y9 (bt l) i) (i-15)) 8)) (sr ((Y9 (bt l) i) (i-15)) 7))) ((Y9 (bt l) i) (i-7))) (xo (xo (rt ((Y9 (bt l) i) (i-2)) 19) (rt ((Y9 (bt l) i) (i-2)) 61)) (sr ((Y9 (bt l) i) (i-2)) 6)))) (hv:=fun _=>J5a rfl rfl rfl);refine MW ?_ (v:=.pointer (some ⟨D,0+i,none⟩)) (hv:=fun _=>rxa Tryz.underlying221 (by omega));refine MZt ?_;refine MP 0 (v:=.int .u64 (ad (ad (ad ((Y9 (bt l) i) (i-16)) (xo (xo (rt ((Y9 (bt l) i) (i-15)) 1) (rt ((Y9 (bt l) i) (i-15)) 8)) (sr ((Y9 (bt l) i) (i-15)) 7))) ((Y9 (bt l) i) (i-7))) (xo (xo (rt ((Y9 (bt l) i) (i-2)) 19) (rt ((Y9 (bt l) i) (i-2)) 61)) (sr ((Y9 (bt l) i) (i-2)) 6)))) (cs' :=J0 .u64 80 (upd (Y9 (bt l) i) i (ad (ad (ad ((Y9 (bt l) i) (i-16)) (xo (xo (rt ((Y9 (bt l) i) (i-15)) 1) (rt ((Y9 (bt l) i) (i-15)) 8)) (sr ((Y9 (bt l) i) (i-15)) 7))) ((Y9 (bt l) i) (i-7))) (xo (xo (rt ((Y9 (bt l) i) (i-2)) 19) (rt ((Y9 (bt l) i) (i-2)) 61)) (sr ((Y9 (bt l) i) (i-2)) 6))))) ?_ (hs:=by rw[J1,AL];omega) (hc:=by rw[AL];exact V1 _ _ _ _ _);refine MZn fun W hS=> ?_;go_wp2;go_roundw
    case rel=>exact⟨i+1,⟨by omega,by omega⟩,by go_num,(by rw[←V3b hi];exact hS)⟩
    case measure=>simp[intOf];omega
   obtain rfl:i=80:=by omega
   go_upto_region 8 with fail;refine RL hS ?_;clear hS;refine MV ?_;refine Wf ?_;refine MZ fun W hS=> ?_;go_upto_region 12 with fail;refine RL hS ?_;clear hS;refine ML 0 ?_;refine MR 1 ?_;refine MZ fun W hS=> ?_;go_wp2;refine BC (Z6 rfl rfl (hS.blk (i:=1) rfl) (by kernel_rfl) (by rw[J1];kernel_rfl)) rfl ⟨rfl,hS.ext⟩
end

section
set_option maxHeartbeats 4000000
attribute [local irreducible] wpList

def kk:List Int:=[4794697086780616226,8158064640168781261,13096744586834688815,16840607885511220156,4131703408338449720,6480981068601479193,10538285296894168987,12329834152419229976,15566598209576043074,1334009975649890238,2608012711638119052,6128411473006802146,8268148722764581231,9286055187155687089,11230858885718282805,13951009754708518548,16472876342353939154,17275323862435702243,1135362057144423861,2597628984639134821,3308224258029322869,5365058923640841347,6679025012923562964,8573033837759648693,10970295158949994411,12119686244451234320,12683024718118986047,13788192230050041572,14330467153632333762,15395433587784984357,489312712824947311,1452737877330783856,2861767655752347644,3322285676063803686,5560940570517711597,5996557281743188959,7280758554555802590,8532644243296465576,9350256976987008742,10552545826968843579,11727347734174303076,12113106623233404929,14000437183269869457,14369950271660146224,15101387698204529176,15463397548674623760,17586052441742319658,1182934255886127544,1847814050463011016,2177327727835720531,2830643537854262169,3796741975233480872,4115178125766777443,5681478168544905931,6601373596472566643,7507060721942968483,8399075790359081724,8693463985226723168,9568029438360202098,10144078919501101548,10430055236837252648,11840083180663258601,13761210420658862357,14299343276471374635,14566680578165727644,15097957966210449927,16922976911328602910,17689382322260857208,500013540394364858,748580250866718886,1242879168328830382,1977374033974150939,2944078676154940804,3659926193048069267,4368137639120453308,4836135668995329356,5532061633213252278,6448918945643986474,6902733635092675308,7801388544844847127]
def hh:List Int:=[7640891576956012808,13503953896175478587,4354685564936845355,11912009170470909681,5840696475078001361,11170449401992604703,2270897969802886507,6620516959819538809]
def kf (i:Nat):Int:=kk.getD i 0
def hf (i:Nat):Int:=hh.getD i 0
def GS (w:AA):Prop:=Rd w 12 (J0 .u64 80 kf)∧Rd w 3 (J0 .u64 8 hf)
theorem Q7w {w W:AA}(h:GS w)(e:Ext w W):GS W:=⟨h.1.ext e,h.2.ext e⟩
def rT (k w:Nat→Int)(i:Nat)(v:Nat→Int):Int:=ad (ad (ad (ad (v 7) (xo (xo (rt (v 4) 14) (rt (v 4) 18)) (rt (v 4) 41))) (xo (an (v 4) (v 5)) (an (nt (v 4)) (v 6)))) (k i)) (w i)
def rU (v:Nat→Int):Int:=ad (xo (xo (rt (v 0) 28) (rt (v 0) 34)) (rt (v 0) 39)) (xo (xo (an (v 0) (v 1)) (an (v 0) (v 2))) (an (v 1) (v 2)))
def rnd (k w:Nat→Int)(i:Nat)(v:Nat→Int):Nat→Int
  |0=>ad (rT k w i v) (rU v)
  |1=>v 0
  |2=>v 1
  |3=>v 2
  |4=>ad (v 3) (rT k w i v)
  |5=>v 4
  |6=>v 5
  |7=>v 6
  |_=>0
def Y5 (k w v:Nat→Int):Nat→Nat→Int
  |0=>v
  |i+1=>rnd k w i (Y5 k w v i)
def prs (h b:Nat→Int)(j:Nat):Int:=ad (h j) (Y5 kf (Y9 b 80) h 80 j)
def mx (h v:Nat→Int)(i j:Nat):Int:=if j<i then ad (h j) (v j) else h j
theorem Y67 (h v:Nat→Int)(i:Nat):upd (mx h v i) i (ad (mx h v i i) (v i))=mx h v (i+1):=by
  funext j
  unfold upd mx
  by_cases hj:j=i
  · subst hj;rw[if_pos rfl,if_neg (by omega),if_pos (by omega)]
  rw[if_neg hj]
  by_cases hl:j<i
  · rw[if_pos hl,if_pos (by omega)]
  rw[if_neg hl,if_neg (by omega)]
theorem Y68 (h v:Nat→Int):mx h v 0=h:=by funext j;unfold mx;rw[if_neg (by omega)]
theorem V3d (h b:Nat→Int):J0 .u64 8 (mx h (Y5 kf (Y9 b 80) h 80) 8)=J0 .u64 8 (prs h b):=X7 _ _ _ _ fun j hj=>by unfold mx prs;rw[if_pos hj]

theorem Y69 (h:Nat→Int)(l:List UInt8)(adr:Addr)(c:Nat)(hl:128≤l.length)(w:AA)(hs:Sl w (.slice (some adr) l.length c) l)(hG:GS w):
  Az Tryz.prog 119 #[.agg (J0 .u64 8 h),.slice (some adr) l.length c] w fun e w' =>V5 (.agg (J0 .u64 8 (prs h (bt l)))) w w' e:=by
 have HG:=Lib.hid hG;clear hG;have hS:=SH.nil [] w
 go_enter Tryz.func119,Tryz.ntmps119
 go_upto_region 0 with fail;refine RL hS ?_;clear hS;refine MN (z:=J0 .u64 8 h) (t:=217) ?_;intro K9;refine MN (z:=J0 .u64 8 (fun _=>0)) (t:=217) ?_;intro M;refine MZ fun W hS=> ?_;go_upto_region 1 with fail;refine RL hS ?_;clear hS;refine MV ?_;refine MC (v:=.agg (J0 .u64 80 (Y9 (bt l) 80))) (fun W hS=>Y1f l adr c hl W (K4 hs hS.ext)) ?_;refine MN (z:=J0 .u64 80 (fun _=>0)) (t:=221) ?_;intro G;refine MR 0 ?_;refine MZ fun W hS=> ?_;go_upto_region 2 with fail;refine RL hS ?_;clear hS;refine ML 2 ?_;refine MN (z:=J0 .u64 8 (fun _=>0)) (t:=217) ?_;intro D;refine MR 0 ?_;refine MZ fun W hS=> ?_
 go_wp2_with fail
 go_loopw [14] (fun ii wr=> ∃(i:Nat),(i≤80)∧(ii=.int .i64 (i:Int))∧SH [] w wr [.b D (J0 .u64 8 (Y5 kf (Y9 (bt l) 80) h i)) 217,.b G (J0 .u64 80 (Y9 (bt l) 80)) 221,.b M (J0 .u64 8 (fun _=>0)) 217,.b K9 (J0 .u64 8 h) 217])
  (fun ii _=>80-(intOf ii).toNat)
 case atStart=>exact⟨0,Ah _,rfl,hS⟩
 clear hS
 case round=>
  obtain⟨i,hi,rfl,hS⟩:=hrel
  by_cases J:i<80
  ·
   go_upto_region 4 with fail;refine RL hS ?_;clear hS;refine Wt ?_;refine MZ fun W hS=> ?_;go_upto_region 6 with fail;refine RS hS ?_;clear hS;refine MW ?_ (v:=.pointer (some ⟨D,0+7,none⟩)) (hv:=fun _=>rxa Tryz.underlying217 (by omega));refine MG 0 ?_ (j:=0+7) (v:=.int .u64 ((Y5 kf (Y9 (bt l) 80) h i) 7)) (hj:=ag0 (by omega));refine MW ?_ (v:=.pointer (some ⟨D,0+4,none⟩)) (hv:=fun _=>rxa Tryz.underlying217 (by omega));refine MG 0 ?_ (j:=0+4) (v:=.int .u64 ((Y5 kf (Y9 (bt l) 80) h i) 4)) (hj:=ag0 (by omega));refine MC (v:=.int .u64 (rt ((Y5 kf (Y9 (bt l) 80) h i) 4) 14)) (fun W hS=>J6k ((Y5 kf (Y9 (bt l) 80) h i) 4) 14 (by decide) (by decide) W) ?_;refine MW ?_ (v:=.pointer (some ⟨D,0+4,none⟩)) (hv:=fun _=>rxa Tryz.underlying217 (by omega));refine MG 0 ?_ (j:=0+4) (v:=.int .u64 ((Y5 kf (Y9 (bt l) 80) h i) 4)) (hj:=ag0 (by omega));refine MC (v:=.int .u64 (rt ((Y5 kf (Y9 (bt l) 80) h i) 4) 18)) (fun W hS=>J6k ((Y5 kf (Y9 (bt l) 80) h i) 4) 18 (by decide) (by decide) W) ?_;refine MW ?_ (v:=.int .u64 (xo (rt ((Y5 kf (Y9 (bt l) 80) h i) 4) 14) (rt ((Y5 kf (Y9 (bt l) 80) h i) 4) 18))) (hv:=fun _=>J3t rfl rfl rfl);refine MW ?_ (v:=.pointer (some ⟨D,0+4,none⟩)) (hv:=fun _=>rxa Tryz.underlying217 (by omega));refine MG 0 ?_ (j:=0+4) (v:=.int .u64 ((Y5 kf (Y9 (bt l) 80) h i) 4)) (hj:=ag0 (by omega));refine MC (v:=.int .u64 (rt ((Y5 kf (Y9 (bt l) 80) h i) 4) 41)) (fun W hS=>J6k ((Y5 kf (Y9 (bt l) 80) h i) 4) 41 (by decide) (by decide) W) ?_;refine MW ?_ (v:=.int .u64 (xo (xo (rt ((Y5 kf (Y9 (bt l) 80) h i) 4) 14) (rt ((Y5 kf (Y9 (bt l) 80) h i) 4) 18)) (rt ((Y5 kf (Y9 (bt l) 80) h i) 4) 41))) (hv:=fun _=>J3t rfl rfl rfl);refine MW ?_ (v:=.int .u64 (ad ((Y5 kf (Y9 (bt l) 80) h i) 7) (xo (xo (rt ((Y5 kf (Y9 (bt l) 80) h i) 4) 14) (rt ((Y5 kf (Y9 (bt l) 80) h i) 4) 18)) (rt ((Y5 kf (Y9 (bt l) 80) h i) 4) 41)))) (hv:=fun _=>J5a rfl rfl rfl);refine MW ?_ (v:=.pointer (some ⟨D,0+4,none⟩)) (hv:=fun _=>rxa Tryz.underlying217 (by omega));refine MG 0 ?_ (j:=0+4) (v:=.int .u64 ((Y5 kf (Y9 (bt l) 80) h i) 4)) (hj:=ag0 (by omega));refine MW ?_ (v:=.pointer (some ⟨D,0+5,none⟩)) (hv:=fun _=>rxa Tryz.underlying217 (by omega));refine MG 0 ?_ (j:=0+5) (v:=.int .u64 ((Y5 kf (Y9 (bt l) 80) h i) 5)) (hj:=ag0 (by omega));refine MW ?_ (v:=.int .u64 (an ((Y5 kf (Y9 (bt l) 80) h i) 4) ((Y5 kf (Y9 (bt l) 80) h i) 5))) (hv:=fun _=>Q0y rfl rfl rfl);refine MW ?_ (v:=.pointer (some ⟨D,0+4,none⟩)) (hv:=fun _=>rxa Tryz.underlying217 (by omega));refine MG 0 ?_ (j:=0+4) (v:=.int .u64 ((Y5 kf (Y9 (bt l) 80) h i) 4)) (hj:=ag0 (by omega));refine MW ?_ (v:=.int .u64 (nt ((Y5 kf (Y9 (bt l) 80) h i) 4))) (hv:=fun _=>Y65 rfl rfl);refine MW ?_ (v:=.pointer (some ⟨D,0+6,none⟩)) (hv:=fun _=>rxa Tryz.underlying217 (by omega));refine MG 0 ?_ (j:=0+6) (v:=.int .u64 ((Y5 kf (Y9 (bt l) 80) h i) 6)) (hj:=ag0 (by omega));refine MW ?_ (v:=.int .u64 (an (nt ((Y5 kf (Y9 (bt l) 80) h i) 4)) ((Y5 kf (Y9 (bt l) 80) h i) 6))) (hv:=fun _=>Q0y rfl rfl rfl);refine MW ?_ (v:=.int .u64 (xo (an ((Y5 kf (Y9 (bt l) 80) h i) 4) ((Y5 kf (Y9 (bt l) 80) h i) 5)) (an (nt ((Y5 kf (Y9 (bt l) 80) h i) 4)) ((Y5 kf (Y9 (bt l) 80) h i) 6)))) (hv:=fun _=>J3t rfl rfl rfl);refine MW ?_ (v:=.int .u64 (ad (ad ((Y5 kf (Y9 (bt l) 80) h i) 7) (xo (xo (rt ((Y5 kf (Y9 (bt l) 80) h i) 4) 14) (rt ((Y5 kf (Y9 (bt l) 80) h i) 4) 18)) (rt ((Y5 kf (Y9 (bt l) 80) h i) 4) 41))) (xo (an ((Y5 kf (Y9 (bt l) 80) h i) 4) ((Y5 kf (Y9 (bt l) 80) h i) 5)) (an (nt ((Y5 kf (Y9 (bt l) 80) h i) 4)) ((Y5 kf (Y9 (bt l) 80) h i) 6))))) (hv:=fun _=>J5a rfl rfl rfl);refine MV ?_;refine MW ?_ (v:=.pointer (some ⟨12,0+i,none⟩)) (hv:=fun _=>rxa Tryz.underlying221 (by omega));refine MF (v:=.int .u64 (kf i)) (fun W hS=>Q6 rfl rfl (((Q7w HG.out hS.ext).1).1 _ _ (ag0 (by omega))) (by kernel_rfl)) ?_;refine MW ?_ (v:=.int .u64 (ad (ad (ad ((Y5 kf (Y9 (bt l) 80) h i) 7) (xo (xo (rt ((Y5 kf (Y9 (bt l) 80) h i) 4) 14) (rt ((Y5 kf (Y9 (bt l) 80) h i) 4) 18)) (rt ((Y5 kf (Y9 (bt l) 80) h i) 4) 41))) (xo (an ((Y5 kf (Y9 (bt l) 80) h i) 4) ((Y5 kf (Y9 (bt l) 80) h i) 5)) (an (nt ((Y5 kf (Y9 (bt l) 80) h i) 4)) ((Y5 kf (Y9 (bt l) 80) h i) 6)))) (kf i))) (hv:=fun _=>J5a rfl rfl rfl);refine MV ?_;refine MW ?_ (v:=.pointer (some ⟨G,0+i,none⟩)) (hv:=fun _=>rxa Tryz.underlying221 (by omega));refine MG 1 ?_ (j:=0+i) (v:=.int .u64 ((Y9 (bt l) 80) i)) (hj:=ag0 (by omega));refine MW ?_ (v:=.int .u64 (rT kf (Y9 (bt l) 80) i (Y5 kf (Y9 (bt l) 80) h i)));refine MV ?_;refine MZx fun W hS=> ?_;go_upto_region 7 with fail;refine RS hS ?_;clear hS;refine MW ?_ (v:=.pointer (some ⟨D,0+0,none⟩)) (hv:=fun _=>rxa Tryz.underlying217 (by omega));refine MG 0 ?_ (j:=0+0) (v:=.int .u64 ((Y5 kf (Y9 (bt l) 80) h i) 0)) (hj:=ag0 (by omega));refine MC (v:=.int .u64 (rt ((Y5 kf (Y9 (bt l) 80) h i) 0) 28)) (fun W hS=>J6k ((Y5 kf (Y9 (bt l) 80) h i) 0) 28 (by decide) (by decide) W) ?_;refine MW ?_ (v:=.pointer (some ⟨D,0+0,none⟩)) (hv:=fun _=>rxa Tryz.underlying217 (by omega));refine MG 0 ?_ (j:=0+0) (v:=.int .u64 ((Y5 kf (Y9 (bt l) 80) h i) 0)) (hj:=ag0 (by omega));refine MC (v:=.int .u64 (rt ((Y5 kf (Y9 (bt l) 80) h i) 0) 34)) (fun W hS=>J6k ((Y5 kf (Y9 (bt l) 80) h i) 0) 34 (by decide) (by decide) W) ?_;refine MW ?_ (v:=.int .u64 (xo (rt ((Y5 kf (Y9 (bt l) 80) h i) 0) 28) (rt ((Y5 kf (Y9 (bt l) 80) h i) 0) 34))) (hv:=fun _=>J3t rfl rfl rfl);refine MW ?_ (v:=.pointer (some ⟨D,0+0,none⟩)) (hv:=fun _=>rxa Tryz.underlying217 (by omega));refine MG 0 ?_ (j:=0+0) (v:=.int .u64 ((Y5 kf (Y9 (bt l) 80) h i) 0)) (hj:=ag0 (by omega));refine MC (v:=.int .u64 (rt ((Y5 kf (Y9 (bt l) 80) h i) 0) 39)) (fun W hS=>J6k ((Y5 kf (Y9 (bt l) 80) h i) 0) 39 (by decide) (by decide) W) ?_;refine MW ?_ (v:=.int .u64 (xo (xo (rt ((Y5 kf (Y9 (bt l) 80) h i) 0) 28) (rt ((Y5 kf (Y9 (bt l) 80) h i) 0) 34)) (rt ((Y5 kf (Y9 (bt l) 80) h i) 0) 39))) (hv:=fun _=>J3t rfl rfl rfl);refine MW ?_ (v:=.pointer (some ⟨D,0+0,none⟩)) (hv:=fun _=>rxa Tryz.underlying217 (by omega));refine MG 0 ?_ (j:=0+0) (v:=.int .u64 ((Y5 kf (Y9 (bt l) 80) h i) 0)) (hj:=ag0 (by omega));refine MW ?_ (v:=.pointer (some ⟨D,0+1,none⟩)) (hv:=fun _=>rxa Tryz.underlying217 (by omega));refine MG 0 ?_ (j:=0+1) (v:=.int .u64 ((Y5 kf (Y9 (bt l) 80) h i) 1)) (hj:=ag0 (by omega));refine MW ?_ (v:=.int .u64 (an ((Y5 kf (Y9 (bt l) 80) h i) 0) ((Y5 kf (Y9 (bt l) 80) h i) 1))) (hv:=fun _=>Q0y rfl rfl rfl);refine MW ?_ (v:=.pointer (some ⟨D,0+0,none⟩)) (hv:=fun _=>rxa Tryz.underlying217 (by omega));refine MG 0 ?_ (j:=0+0) (v:=.int .u64 ((Y5 kf (Y9 (bt l) 80) h i) 0)) (hj:=ag0 (by omega));refine MW ?_ (v:=.pointer (some ⟨D,0+2,none⟩)) (hv:=fun _=>rxa Tryz.underlying217 (by omega));refine MG 0 ?_ (j:=0+2) (v:=.int .u64 ((Y5 kf (Y9 (bt l) 80) h i) 2)) (hj:=ag0 (by omega));refine MW ?_ (v:=.int .u64 (an ((Y5 kf (Y9 (bt l) 80) h i) 0) ((Y5 kf (Y9 (bt l) 80) h i) 2))) (hv:=fun _=>Q0y rfl rfl rfl);refine MW ?_ (v:=.int .u64 (xo (an ((Y5 kf (Y9 (bt l) 80) h i) 0) ((Y5 kf (Y9 (bt l) 80) h i) 1)) (an ((Y5 kf (Y9 (bt l) 80) h i) 0) ((Y5 kf (Y9 (bt l) 80) h i) 2)))) (hv:=fun _=>J3t rfl rfl rfl);refine MW ?_ (v:=.pointer (some ⟨D,0+1,none⟩)) (hv:=fun _=>rxa Tryz.underlying217 (by omega));refine MG 0 ?_ (j:=0+1) (v:=.int .u64 ((Y5 kf (Y9 (bt l) 80) h i) 1)) (hj:=ag0 (by omega));refine MW ?_ (v:=.pointer (some ⟨D,0+2,none⟩)) (hv:=fun _=>rxa Tryz.underlying217 (by omega));refine MG 0 ?_ (j:=0+2) (v:=.int .u64 ((Y5 kf (Y9 (bt l) 80) h i) 2)) (hj:=ag0 (by omega));refine MW ?_ (v:=.int .u64 (an ((Y5 kf (Y9 (bt l) 80) h i) 1) ((Y5 kf (Y9 (bt l) 80) h i) 2))) (hv:=fun _=>Q0y rfl rfl rfl);refine MW ?_ (v:=.int .u64 (xo (xo (an ((Y5 kf (Y9 (bt l) 80) h i) 0) ((Y5 kf (Y9 (bt l) 80) h i) 1)) (an ((Y5 kf (Y9 (bt l) 80) h i) 0) ((Y5 kf (Y9 (bt l) 80) h i) 2))) (an ((Y5 kf (Y9 (bt l) 80) h i) 1) ((Y5 kf (Y9 (bt l) 80) h i) 2)))) (hv:=fun _=>J3t rfl rfl rfl);refine MW ?_ (v:=.int .u64 (rU (Y5 kf (Y9 (bt l) 80) h i)));refine MV ?_;refine MZx fun W hS=> ?_;go_upto_region 8 with fail;refine RL hS ?_;clear hS;refine MV ?_;refine MV ?_;refine MW ?_ (v:=.int .u64 (ad (rT kf (Y9 (bt l) 80) i (Y5 kf (Y9 (bt l) 80) h i)) (rU (Y5 kf (Y9 (bt l) 80) h i)))) (hv:=fun _=>J5a rfl rfl rfl);refine MW ?_ (v:=.pointer (some ⟨D,0+0,none⟩)) (hv:=fun _=>rxa Tryz.underlying217 (by omega));refine MG 0 ?_ (j:=0+0) (v:=.int .u64 ((Y5 kf (Y9 (bt l) 80) h i) 0)) (hj:=ag0 (by omega));refine MW ?_ (v:=.pointer (some ⟨D,0+1,none⟩)) (hv:=fun _=>rxa Tryz.underlying217 (by omega));refine MG 0 ?_ (j:=0+1) (v:=.int .u64 ((Y5 kf (Y9 (bt l) 80) h i) 1)) (hj:=ag0 (by omega));refine MW ?_ (v:=.pointer (some ⟨D,0+2,none⟩)) (hv:=fun _=>rxa Tryz.underlying217 (by omega));refine MG 0 ?_ (j:=0+2) (v:=.int .u64 ((Y5 kf (Y9 (bt l) 80) h i) 2)) (hj:=ag0 (by omega));refine MW ?_ (v:=.pointer (some ⟨D,0+3,none⟩)) (hv:=fun _=>rxa Tryz.underlying217 (by omega));refine MG 0 ?_ (j:=0+3) (v:=.int .u64 ((Y5 kf (Y9 (bt l) 80) h i) 3)) (hj:=ag0 (by omega));refine MV ?_;refine MW ?_ (v:=.int .u64 (ad ((Y5 kf (Y9 (bt l) 80) h i) 3) (rT kf (Y9 (bt l) 80) i (Y5 kf (Y9 (bt l) 80) h i)))) (hv:=fun _=>J5a rfl rfl rfl);refine MW ?_ (v:=.pointer (some ⟨D,0+4,none⟩)) (hv:=fun _=>rxa Tryz.underlying217 (by omega));refine MG 0 ?_ (j:=0+4) (v:=.int .u64 ((Y5 kf (Y9 (bt l) 80) h i) 4)) (hj:=ag0 (by omega));refine MW ?_ (v:=.pointer (some ⟨D,0+5,none⟩)) (hv:=fun _=>rxa Tryz.underlying217 (by omega));refine MG 0 ?_ (j:=0+5) (v:=.int .u64 ((Y5 kf (Y9 (bt l) 80) h i) 5)) (hj:=ag0 (by omega));refine MW ?_ (v:=.pointer (some ⟨D,0+6,none⟩)) (hv:=fun _=>rxa Tryz.underlying217 (by omega));refine MG 0 ?_ (j:=0+6) (v:=.int .u64 ((Y5 kf (Y9 (bt l) 80) h i) 6)) (hj:=ag0 (by omega));refine MW ?_ (v:=.agg (J0 .u64 8 (Y5 kf (Y9 (bt l) 80) h (i+1)))) (hv:=by intro W;first|rfl|(go_simp;rfl));refine MR 0 ?_;refine MZ fun W hS=> ?_;go_wp2;go_roundw
   case rel=>exact⟨i+1,by omega,by go_num,hS⟩
   case measure=>simp[intOf];omega
  obtain rfl:i=80:=by omega
  go_upto_region 4 with fail;refine RL hS ?_;clear hS;refine Wf ?_;refine MZ fun W hS=> ?_
  go_wp2_with fail
  go_loopw [102] (fun ii wr=> ∃(i:Nat),(i≤8)∧(ii=.int .i64 (i:Int))∧SH [] w wr [.b D (J0 .u64 8 (Y5 kf (Y9 (bt l) 80) h 80)) 217,.b G (J0 .u64 80 (Y9 (bt l) 80)) 221,.b M (J0 .u64 8 (fun _=>0)) 217,.b K9 (J0 .u64 8 (mx h (Y5 kf (Y9 (bt l) 80) h 80) i)) 217])
   (fun ii _=>8-(intOf ii).toNat)
  case atStart=>exact⟨0,Ah _,rfl,(by rw[Y68];exact hS)⟩
  clear hS
  case round=>
   obtain⟨i,hi,rfl,hS⟩:=hrel
   by_cases h8:i<8
   ·
    go_upto_region 11 with fail;refine RL hS ?_;clear hS;refine Wt ?_;refine MZ fun W hS=> ?_;go_upto_region 13 with fail;refine RX 8 hS ?_;clear hS;refine MV ?_;refine MW ?_ (v:=.pointer (some ⟨K9,0+i,none⟩)) (hv:=fun _=>rxa Tryz.underlying217 (by omega));refine MG 3 ?_ (j:=0+i) (v:=.int .u64 ((mx h (Y5 kf (Y9 (bt l) 80) h 80) i) i)) (hj:=ag0 (by omega));refine MV ?_;refine MW ?_ (v:=.pointer (some ⟨D,0+i,none⟩)) (hv:=fun _=>rxa Tryz.underlying217 (by omega));refine MG 0 ?_ (j:=0+i) (v:=.int .u64 ((Y5 kf (Y9 (bt l) 80) h 80) i)) (hj:=ag0 (by omega));refine MW ?_ (v:=.int .u64 (ad ((mx h (Y5 kf (Y9 (bt l) 80) h 80) i) i) ((Y5 kf (Y9 (bt l) 80) h 80) i))) (hv:=fun _=>J5a rfl rfl rfl);refine MW ?_ (v:=.pointer (some ⟨K9,0+i,none⟩)) (hv:=fun _=>rxa Tryz.underlying217 (by omega));refine MZt ?_;refine MP 3 (v:=.int .u64 (ad ((mx h (Y5 kf (Y9 (bt l) 80) h 80) i) i) ((Y5 kf (Y9 (bt l) 80) h 80) i))) (cs' :=J0 .u64 8 (upd (mx h (Y5 kf (Y9 (bt l) 80) h 80) i) i (ad ((mx h (Y5 kf (Y9 (bt l) 80) h 80) i) i) ((Y5 kf (Y9 (bt l) 80) h 80) i)))) ?_ (hs:=by rw[J1,AL];omega) (hc:=by rw[AL];exact V1 _ _ _ _ _);refine MZn fun W hS=> ?_;go_wp2;go_roundw
    case rel=>exact⟨i+1,by omega,by go_num,(by rw[←Y67];exact hS)⟩
    case measure=>simp[intOf];omega
   obtain rfl:i=8:=by omega
   rw[V3d] at hS;go_upto_region 11 with fail;refine RL hS ?_;clear hS;refine Wf ?_;refine MZ fun W hS=> ?_;go_upto_region 15 with fail;refine RL hS ?_;clear hS;refine ML 3 ?_;refine MR 2 ?_;refine MZ fun W hS=> ?_;go_wp2;refine BC (Z6 rfl rfl (hS.blk (i:=2) rfl) (by kernel_rfl) (by rw[J1];kernel_rfl)) rfl ⟨rfl,hS.ext⟩
end

section
theorem Y7u (n:Nat):(Builtin.zeroCells (AB.int .u8 0).cells n).toList=bs8 (List.replicate n 0):=by
  simp[Builtin.zeroCells,bs8,AB.cells,List.map_replicate,Nat.mod_one,List.map_const']
theorem J8l {P:AC}(w:AA)(t tn ty e:AD)(i:TypeInfo)(k:AG)(ht:P.underlying t=some (.slice e))(htn:P.underlying tn=some (.int k))(hi:P.info? e=some i)(hz:i.zero=some (.int .u8 0))(hsz:i.size=1)(hby:i.bytes=1)
    (v:AB) (n:Nat) (xs:List AB) (hown:w.ownsRow 0 e 1 v n xs) (m:Nat) (hm:0<m) (hlen:n+m≤140737488355328):
    ∃v' w',(Builtin.append_ #[t,tn] ty #[v,.int .i64 (m:Int)]).run P w=.ok v' w' ∧w'.ownsRow 0 e 1 v' (n+m) (xs++bs8 (List.replicate m 0))∧w.grownBy w' v.ownBlock∧(v'.ownBlock=v.ownBlock∨v'.ownBlock=some w.heap.size):=by
  have hlen' :(xs++bs8 (List.replicate m 0)).length=(n+m)*1:=by rw[Ai,hown.1,Q9,BE];omega
  have N:∀(old:Nat),old<n+m→∀(Z:Option Nat),
      (w.drew.alloc (.cells (xs.toArray++(bs8 (List.replicate m 0)).toArray++Builtin.zeroCells (AB.int .u8 0).cells (grownCap w (n+m) old e-(n+m))) e)).ownsRow 0 e 1
        (.slice (some ⟨w.heap.size,0,none⟩) (n+m) (grownCap w (n+m) old e)) (n+m) (xs++bs8 (List.replicate m 0))∧
      w.grownBy (w.drew.alloc (.cells (xs.toArray++(bs8 (List.replicate m 0)).toArray++Builtin.zeroCells (AB.int .u8 0).cells (grownCap w (n+m) old e-(n+m))) e)) Z:=by
    intro old ho Z;have γ:=grownCap_ge w (n+m) old e;have U:grownCap w (n+m) old e≤maxLen:=grownCap_le_maxLen w (n+m) old e (by unfold maxLen;omega);refine⟨⟨hlen',.inr ⟨w.heap.size,_,_,rfl,Ah _,heap_alloc_new w.drew _,γ,U,?_,?_⟩⟩,⟨rfl,rfl,rfl,by simp,fun k hk _=>_root_.Go.heap_alloc_old w.drew _ (by simpa using hk)⟩⟩
    · simp only[Array.size_append,List.size_toArray,size_zeroCells,hown.1,Q9,BE,AB.cells,List.size_toArray]
      simp;omega
    · simp only[Array.toList_append,Ak]
      rw[←Ak,←hlen'];exact List.take_left
  have hw:AG.i64.wrap (m:Int)=m:=by rw[AG.wrap_i64];omega
  have S:¬((m:Int)<0):=by omega
  have T:¬(281474976710656<(m:Int)):=by omega
  have R:Builtin.zeroCells (AB.int .u8 0).cells m=(bs8 (List.replicate m 0)).toArray:=Array.toList_inj.1 (Y7u m);rcases hown.2 with⟨rfl,rfl⟩|⟨g,D,M,rfl,_,hg,ε,U,δ,X⟩
  · have hx:xs=[]:=List.eq_nil_of_length_eq_zero (by simpa using hown.1)
    subst hx;have hr:=Lib.run_append_nil_zeros (P:=P) w t tn ty e i (.int .u8 0) .i64 k ht htn hi hz m hm (by omega) (by omega) (by rw[hby];omega);have G:=N 0 (by omega) (AB.ownBlock (.slice none 0 0));simp only[AL,List.nil_append,Array.empty_append] at G⊢;rw[R] at hr;exact⟨_,_,hr,by simpa using G.1,G.2,.inr rfl⟩
  by_cases J:n+m≤D
  · have α:=run_storeCells_at P g (n*1) e (bs8 (List.replicate m 0)) 0 M w hg (by rw[Q9,BE,δ];simp;omega) (J94 _)
    simp only[Nat.add_zero,Nat.mul_one] at α;refine⟨.slice (some ⟨g,0,none⟩) (n+m) D,w.setRow g (M.toList.take n++bs8 (List.replicate m 0)++M.toList.drop (n+(bs8 (List.replicate m 0)).length)).toArray,?_,?_,?_,.inl rfl⟩
    · have V:m≠0:=by omega
      simp[Builtin.append_,run_underlying ht,run_underlying htn,sizeOf,typeInfo,zeroValue,hi,hz,asInt,asIntOf,hw,S,hby,T,hsz,V,J,R,Addr.add_lit,α]
    · refine⟨hlen',.inr ⟨g,D,_,rfl,Ah _,setRow_heap w g M _ e _ hg,J,U,?_,?_⟩⟩
      · simp only[List.size_toArray,Ai,List.length_take,List.length_drop,Array.length_toList,Q9,BE]
        omega
      have ht' :M.toList.take n=xs:=by simpa using X
      rw[ht',←hlen'];exact List.take_left
    exact⟨rfl,rfl,rfl,by simp,fun k _ hk=>setRow_other w g k _ (fun e=>hk (by simp[AB.ownBlock,e]))⟩
  have Y:∀j u,xs[j]?=some u→w.cell? ((⟨g,0,none⟩:Addr).add j)=some u:=hown.cells (g:=g) rfl;have β:=run_firstCells_some (P:=P) w.drew 1 n ⟨g,0,none⟩ n D xs hown.1 (by simpa using Y);have G:=N D (by omega) (AB.ownBlock (.slice (some ⟨g,0,none⟩) n D));have h63' :¬(9223372036854775807<((n:Int)+(m:Int))):=by omega
  have hf:=growslice_fits (need:=n+m) (old:=D) (bytes:=1) (by omega) (by omega);have h48' :¬(281474976710656<Builtin.nextslicecap (n+m) D):=by omega
  refine⟨_,_,?_,G.1,G.2,.inr rfl⟩;have V:m≠0:=by omega
  simp[Builtin.append_,run_underlying ht,run_underlying htn,sizeOf,typeInfo,zeroValue,hi,hz,asInt,asIntOf,hw,S,hby,T,hsz,V,J,h63',h48',Question.forced,R,β,newRow,grownCap,Array.append_assoc]
  congr 2
  simp[←List.append_toArray]
theorem Z0o {ops:Array Oper}{Q:Exit→Act→World→Prop}{w:World}{l:List Oper}{o:Oper}{a:Act}{s x:Operand}{v:Value}{xs:List UInt8}{m:Nat}(hm:0<m)(hw:Region.wanted o (yielded ops a.tmps)=true)
    (ho:o.op=.call {callee:=.builtin .append,args:= #[s,x],argTypes:= #[22,3]}) (hs:a.eval s=v) (hx:a.eval x=.int .i64 (m:Int)) (hown:Own w v xs) (hlen:xs.length+m≤140737488355328)
    (h:∀v' W,Own W v' (xs++List.replicate m 0)→Off v.ownBlock.toList w W→Of v'.ownBlock v.ownBlock w.heap.size→wpList Tryz.prog ops Q l (a.put o.dst v') W):wpList Tryz.prog ops Q (o::l) a w:=by
  obtain⟨i,hi,hz,G,J⟩:=info_parts J5p;obtain⟨v',W,D,h1,h2,h3⟩:=J8l (P:=Tryz.prog) w 22 3 o.type 5 i .i64 Tryz.underlying22 Tryz.underlying3 hi hz G J v xs.length (bs8 xs) hown m hm hlen;refine J38 hw (v:=v') (W:=W) ?_ (h v' W ?_ (J93 h2) (Z56 h3))
  · unfold AQ
    simp only[ho,resolve,invoke,builtin,Ad,Sem.run_pure,Result.andThen_ok,List.map_toArray,List.map_cons,List.map_nil,hs,hx,D]
  unfold Own;rw[Ai,J49,BE];exact h1
end

section

section
variable {w : AA} {o : AT} {a : Act}
theorem Q8o {P:AC}{t e:AD}{k kk:AG}{m j:Nat}{f:Nat→Int}{x y:AS}(hj:j<m)(ht:P.underlying t=some (.array m e))(he:(P.info? e).map (·.size)=some 1)(hg:(isAgg e).run P w=.ok false w)(ho:o.op=.index t x y)(hx:a.eval x=.agg (J0 kk m f))(hy:a.eval y=.int k (j:Int)):
    (AQ a.eval o).run P w=.ok (.value (.int kk (f j))) w:=by
  cases hq:P.info? e with
  |none=>simp[hq] at he
  |some i=>
    have hs:i.size=1:=by simpa[hq] using he
    have hp:=Z8 kk m f j hj;simp[AQ,ho,hx,hy,Instr.index,asIntOf,part,run_underlying ht,Ad,sizeOf,typeInfo,hq,hs,hj,hg,hp]
end
def Q2q:AB→Nat
  | .slice _ n _=>n
  |_=>0
theorem Z68 {w:AA}{v:AB}{l:List UInt8}(h:Own w v l):Q2q v=l.length:=by
  obtain⟨A,c,rfl,_⟩:=h.len;rfl
def u8 (n:Nat):UInt8:=UInt8.ofNat n
theorem V5m (n:Nat):(u8 n).toNat=n % 256:=UInt8.toNat_ofNat'
theorem J62 (n:Nat):((u8 n).toNat:Int)=(n:Int) % 256:=by rw[V5m];rfl
def be8 (X:Nat):List UInt8:=[u8 (X / 72057594037927936),u8 (X / 281474976710656),u8 (X / 1099511627776),u8 (X / 4294967296),u8 (X / 16777216),u8 (X / 65536),u8 (X / 256),u8 X]
def w8 (x:Int):Int:=AG.wrap .u8 x
theorem Q40 (ps:List (List UInt8))(i:Nat):(ps.take i).flatten.length≤ps.flatten.length:=by
  have:ps.flatten=(ps.take i).flatten++(ps.drop i).flatten:=by rw[←List.flatten_append,List.take_append_drop]
  rw[this,Ai];omega
theorem J5c {ps:List (List UInt8)}{i:Nat}{l:List UInt8}(h:ps[i]?=some l):(ps.take (i+1)).flatten=(ps.take i).flatten++l:=by
  rw[List.take_add_one,h];simp
theorem J6p {w:AA}{v:AB}{l:List UInt8}(h:Sl w v l):Q2q v=l.length:=by
  obtain⟨A,c,rfl,_⟩:=h;rfl
theorem Z33 {w:AA}{o:AT}{a:Act}{x:AS}{p:Int}(ho:o.op=.convert 121 5 x)(hx:a.eval x=.int .u64 p):(AQ a.eval o).run Tryz.prog w=.ok (.value (.int .u8 (w8 p))) w:=by
  simp[AQ,ho,hx,convert,run_underlying Tryz.underlying5,run_underlying Tryz.underlying121,Ad,Conv.intToInt,w8]
theorem Y30 (X n D:Nat)(h:2^n=D):w8 (sr ((X:Nat):Int) n)=((u8 (X / D)).toNat:Int):=by
  subst h;unfold w8 sr;rw[J62,AG.wrap_u8,Int.natCast_ediv,Int.natCast_pow];rfl
theorem Y7c {w:AA}:(isAgg 121).run Tryz.prog w=.ok false w:=by
  simp[isAgg,run_underlying Tryz.underlying121,Ad]
theorem Y8q (x:Int):0≤w8 x∧w8 x<256:=by unfold w8;rw[AG.wrap_u8];omega
theorem J2c {P:AC}{w:AA}{o:AT}{a:Act}{x y:AS}{t t' :AD}{k:AG}{p:Int}{n:Nat}(hn:n≤64)(ho:o.op=.binOp .shr t x y t')(hx:a.eval x=.int .i64 p)(hy:a.eval y=.int k (n:Int)):(AQ a.eval o).run P w=.ok (.value (.int .i64 (p / 2^n))) w:=by
  have h:min ((n:Int)).toNat AG.i64.bits=n:=by rw[Int.toNat_natCast];exact Nat.min_eq_left hn
  simp only[AQ,ho,hx,hy,eqGuard,binOp,Ad];simp[Op.shift,h,go_sem,Ad]
theorem J3a {w:AA}{o:AT}{a:Act}{x:AS}{p:Int}(ho:o.op=.convert 3 5 x)(hx:a.eval x=.int .i64 p):(AQ a.eval o).run Tryz.prog w=.ok (.value (.int .u8 (w8 p))) w:=by
  simp[AQ,ho,hx,convert,run_underlying Tryz.underlying5,run_underlying Tryz.underlying3,Ad,Conv.intToInt,w8]
theorem Y7v (X D:Nat):w8 (((X / D:Nat):Int))=((u8 (X / D)).toNat:Int):=by
  unfold w8;rw[J62,AG.wrap_u8]
theorem Y7w (X n D:Nat)(h:2^n=D):((X:Nat):Int) / 2^n=((X / D:Nat):Int):=by
  subst h;rw[Int.natCast_ediv,Int.natCast_pow];rfl
section
variable {P : AC} {w : AA} {o : AT} {a : Act} {x y : AS} {t t' : AD} {p q : Int}
theorem J9d {k:AG}{n:Nat}(hn:n≤64)(ho:o.op=.binOp .shl t x y t')(hx:a.eval x=.int .i64 p)(hy:a.eval y=.int k (n:Int)):(AQ a.eval o).run P w=.ok (.value (.int .i64 (AG.wrap .i64 (p*2^n)))) w:=by
  have h:min ((n:Int)).toNat AG.i64.bits=n:=by rw[Int.toNat_natCast];exact Nat.min_eq_left hn
  simp only[AQ,ho,hx,hy,eqGuard,binOp,Ad];simp[Op.shift,h,go_sem,Ad]
theorem J4c (ho:o.op=.binOp .and t x y t')(hx:a.eval x=.int .i64 p)(hy:a.eval y=.int .i64 q):(AQ a.eval o).run P w=.ok (.value (.int .i64 (bits .and .i64 p q))) w:=by
  simp only[AQ,ho,hx,hy];rfl
theorem Q1c (ho:o.op=.binOp .or t x y t')(hx:a.eval x=.int .i64 p)(hy:a.eval y=.int .i64 q):(AQ a.eval o).run P w=.ok (.value (.int .i64 (bits .or .i64 p q))) w:=by
  simp only[AQ,ho,hx,hy];rfl
theorem Q6w (ho:o.op=.binOp .xor t x y t')(hx:a.eval x=.int .i64 p)(hy:a.eval y=.int .i64 q):(AQ a.eval o).run P w=.ok (.value (.int .i64 (bits .xor .i64 p q))) w:=by
  simp only[AQ,ho,hx,hy];rfl
end
end

section
section
variable {w : AA} {o : AT} {a : Act}
theorem Y3r:(Tryz.prog.info? 22).map (·.size)=some 1:=by kernel_rfl
theorem Q78 {x y:AS}{k:AG}{ad:Addr}{n c j:Nat}(hj:j<n)(ho:o.op=.indexAddr 155 x y)(hx:a.eval x=.slice (some ad) n c)(hy:a.eval y=.int k (j:Int)):
    (AQ a.eval o).run Tryz.prog w=.ok (.value (.pointer (some (ad.add j)))) w:=by
  have h1:=Y3r;cases hq:Tryz.prog.info? 22 with
  |none=>simp[hq] at h1
  |some i=>
    have hs:i.size=1:=by simpa[hq] using h1
    simp[AQ,ho,hx,hy,Instr.indexAt,asIntOf,run_underlying Tryz.underlying155,Ad,sizeOf,typeInfo,hq,hs,hj]
end
end
end Go.Proofs.YtpljgkofbfeelaaGreatDoor

namespace Go.Proofs.YtpljgkofbfeelaaGreatDoor.S8
section
end

section

section
variable {w : AA} {o : AT} {a : Act}
end
section
variable {P : AC} {w : AA} {o : AT} {a : Act} {x y : AS} {t t' : AD} {p q : Int}
end
end

section

def zc (n:Nat):Nat:=(239-n % 128) % 128
def pad (l:List UInt8):List UInt8:=l++[128]++List.replicate (zc l.length) 0++List.replicate 8 0++be8 (8*l.length)
def nb (n:Nat):Nat:=(n+1+zc n+16) / 128
theorem Q8l (n:Nat):(n+1+zc n) % 128=112∧zc n<128:=by unfold zc;omega
theorem K03 {n k:Nat}(h:k<zc n):(n+1+k) % 128≠112:=by unfold zc at h;omega
theorem Z2z (l:List UInt8):(pad l).length=128*nb l.length:=by
  have h:=Q8l l.length;unfold pad nb;simp only[Ai,List.length_cons,List.length_nil,BE,be8];omega
def Hs (P:List UInt8):Nat→Nat→Int
  |0=>hf
  |j+1=>prs (Hs P j) (bt (P.drop (128*j)))
def ob (H:Nat→Int)(j:Nat):Int:=w8 (sr (H (j / 8)) (8*(7-j % 8)))
def Q60 (H:Nat→Int)(n j:Nat):Int:=if j<n then ob H j else 0
theorem Z7w (H:Nat→Int):Q60 H 0=fun _=>0:=by funext j;unfold Q60;rw[if_neg (by omega)]
theorem Z7x (H:Nat→Int)(i k:Nat)(hk:k<8):upd (Q60 H (8*i+k)) (8*i+k) (w8 (sr (H i) (8*(7-k))))=Q60 H (8*i+(k+1)):=by
  funext j
  unfold upd Q60
  by_cases h:j=8*i+k
  · subst h
    rw[if_pos rfl,if_pos (by omega),ob,show(8*i+k) / 8=i by omega,show(8*i+k) % 8=k by omega]
  rw[if_neg h]
  by_cases hl:j<8*i+k
  · rw[if_pos hl,if_pos (by omega)]
  rw[if_neg hl,if_neg (by omega)]
theorem Y2p (H:Nat→Int):J0 .u8 64 (Q60 H 64)=J0 .u8 64 (ob H):=X7 _ _ _ _ fun j hj=>by unfold Q60;rw[if_pos hj]
def sm (l:List UInt8):Nat→Int:=ob (Hs (pad l) (nb l.length))
theorem Z7y (P:List UInt8)(j:Nat):List.drop 128 (List.drop (128*j) P)=List.drop (128*(j+1)) P:=by
  rw[List.drop_drop];congr 1
theorem Z7z {w:AA}{v:AB}{l:List UInt8}(h:Own w v l):Sl w v (List.drop (128*0) l):=h.sl
end
end Go.Proofs.YtpljgkofbfeelaaGreatDoor.S8

namespace Go.Proofs.YtpljgkofbfeelaaGreatDoor
def bk (X k:Nat):List UInt8:=(List.range k).map fun i=>u8 (X / 2^(8*(7-i)))
theorem V0s (L:List UInt8)(X:Nat):L++bk X 0=L:=List.append_nil L
theorem V0t (L:List UInt8)(X k:Nat):L++bk X (k+1)=L++bk X k++[u8 (X / 2^(8*(7-k)))]:=by
  unfold bk;rw[List.range_succ,List.map_append,Ak];rfl
theorem V0u (L:List UInt8)(X:Nat):L++bk X 8=L++be8 X:=by
  congr 1
  simp[bk,be8,List.range_succ]
theorem J3i (X k:Nat):(bk X k).length=k:=by unfold bk;rw[List.length_map,List.length_range]
end Go.Proofs.YtpljgkofbfeelaaGreatDoor

/- Contracts and plain laws for bundleAny_holds. Conditions: the tables hold their numbers. -/
import Derived.Test.YtlkbneflnjmgbaaGreatDoorJ18
open Go.RowKit
set_option maxRecDepth 100000
set_option linter.unusedSimpArgs false
set_option linter.unusedVariables false
namespace Go.Proofs.YtlkbneflnjmgbaaGreatDoor
section
set_option maxHeartbeats 1500000
attribute [local irreducible] wpList
def Q70 (f g:Nat→Int):Nat→Nat→Nat
  |0,i=>i
  |n+1,i=>if J5b f i=J5b g i then Q70 f g n (i+1) else i
def J3j (f g:Nat→Int):Nat:=Q70 f g 256 0
theorem Q2h {f g:Nat→Int}{i:Nat}(h:i<256):Q70 f g (256-i) i=if J5b f i=J5b g i then Q70 f g (256-(i+1)) (i+1) else i:=by
  rw[show 256-i=(256-(i+1))+1 by omega];rfl

end

section
set_option maxHeartbeats 1500000
attribute [local irreducible] wpList Z6 wpX
theorem Z6f (f:Nat→Int)(i:Nat):0≤J5b f i∧J5b f i<2:=by unfold J5b;omega
def kb (k i:Nat):Nat:=if i<256 then(J5b (J7 k) i).toNat else 0
theorem Y9w {k i:Nat}(h:i<256):((kb k i:Nat):Int)=J5b (J7 k) i:=by unfold kb;rw[if_pos h];have:=(Z6f (J7 k) i).1;omega
theorem K1v {k i:Nat}(h:256≤i):kb k i=0:=by unfold kb;rw[if_neg (by omega)]
theorem K1w (k i:Nat):kb k i<2:=by unfold kb;split;have:=Z6f (J7 k) i;omega;decide
theorem K1x (k:Nat):∀j,0≤J7 k j∧J7 k j<256:=fun j=>J8p k j
theorem Z0r {w:World}{o:Oper}{a:Act}{x y:Operand}{l:List UInt8}{i:Nat}{c:UInt8}(h:l[i]?=some c)(ho:o.op=.index 9 x y)(hx:a.eval x=str l){k:IntKind}(hy:a.eval y=.int k (i:Int)):(execOp a.eval o).run Tryz.prog w=.ok (.value (.int .u8 (c.toNat:Int))) w:=by
 have hs:=Z4u l;have hi:=(List.getElem?_eq_some_iff.1 h).1;have hg:=(List.getElem?_eq_some_iff.1 h).2
 have D : (⟨l.toArray⟩ : ByteArray)[i]'(by rw [hs]; exact hi) = c := by
  show l.toArray[i]'(by simpa using hi) = c
  simpa using hg
 simp only[execOp,ho,hx,hy,str,Sem.run_bind];simp[Instr.index,asIntOf,run_underlying Tryz.underlying9,hs,hi,D,Sem.run_bind]
def tb8:List UInt8:=[0,1,2,2,3,3,3,3,4,4,4,4,4,4,4,4,5,5,5,5,5,5,5,5,5,5,5,5,5,5,5,5,6,6,6,6,6,6,6,6,6,6,6,6,6,6,6,6,6,6,6,6,6,6,6,6,6,6,6,6,6,6,6,6,7,7,7,7,7,7,7,7,7,7,7,7,7,7,7,7,7,7,7,7,7,7,7,7,7,7,7,7,7,7,7,7,7,7,7,7,7,7,7,7,7,7,7,7,7,7,7,7,7,7,7,7,7,7,7,7,7,7,7,7,7,7,7,7,8,8,8,8,8,8,8,8,8,8,8,8,8,8,8,8,8,8,8,8,8,8,8,8,8,8,8,8,8,8,8,8,8,8,8,8,8,8,8,8,8,8,8,8,8,8,8,8,8,8,8,8,8,8,8,8,8,8,8,8,8,8,8,8,8,8,8,8,8,8,8,8,8,8,8,8,8,8,8,8,8,8,8,8,8,8,8,8,8,8,8,8,8,8,8,8,8,8,8,8,8,8,8,8,8,8,8,8,8,8,8,8,8,8,8,8,8,8,8,8,8,8,8,8,8,8,8,8]
def l8 (z:Nat):Nat:=(tb8.getD z 0).toNat
theorem Y9x {z:Nat}(h:z<256):tb8[z]?=some (tb8.getD z 0):=by rw[List.getD_eq_getElem?_getD,List.getElem?_eq_getElem (by rw[show tb8.length=256 by decide+kernel];exact h)];rfl
theorem Y5b:∀z:Fin 256,l8 z.val≤8∧(z.val≠0→0<l8 z.val∧z.val / 2^(l8 z.val-1) % 2=1)∧∀i:Fin 8,i.val<8-l8 z.val→z.val / 2^(7-i.val) % 2=0:=by decide+kernel
theorem Y9y (x y n:Nat):(x^^^y) / 2^n % 2=0↔x / 2^n % 2=y / 2^n % 2:=by
 have h:=Nat.testBit_xor x y n;have e:∀z:Nat,z.testBit n=decide (z / 2^n % 2=1):=fun z=>by rw[Nat.testBit_eq_decide_div_mod_eq]
 rw[e,e,e] at h;have h1:(x^^^y) / 2^n % 2<2:=Nat.mod_lt _ (by decide);have h2:x / 2^n % 2<2:=Nat.mod_lt _ (by decide);have h3:y / 2^n % 2<2:=Nat.mod_lt _ (by decide);generalize (x^^^y) / 2^n % 2=a at*;generalize x / 2^n % 2=b at*;generalize y / 2^n % 2=c at*
 match a,b,c,h1,h2,h3 with
 |0,0,0,_,_,_=>simp
 |0,0,1,_,_,_=>simp at h
 |0,1,0,_,_,_=>simp at h
 |0,1,1,_,_,_=>simp
 |1,0,0,_,_,_=>simp at h
 |1,0,1,_,_,_=>simp
 |1,1,0,_,_,_=>simp
 |1,1,1,_,_,_=>simp at h
def kby (k j:Nat):Nat:=k / 2^(8*j) % 256
theorem Q8y (k j:Nat):J7 k j=((kby k j:Nat):Int):=rfl
theorem Q2i (k j:Nat):kby k j<256:=Nat.mod_lt _ (by decide)
theorem Q1t (k i:Nat):J5b (J7 k) i=((kby k (i / 8) / 2^(7-i % 8) % 2:Nat):Int):=by
 unfold J5b;rw[Q8y];rw[Int.natCast_emod,Int.natCast_ediv,Int.natCast_pow];rfl
theorem Z6g {a b i:Nat}:J5b (J7 a) i=J5b (J7 b) i↔(kby a (i / 8)^^^kby b (i / 8)) / 2^(7-i % 8) % 2=0:=by
 rw[Q1t,Q1t,Y9y];omega
theorem Z1g {f g:Nat→Int}{m:Nat}(hm:m≤256)(hlt:∀i,i<m→J5b f i=J5b g i)(he:m<256→J5b f m≠J5b g m):∀n i,n+i=m→Q70 f g (256-i) i=m
 |0,i,h=>by
  obtain rfl:i=m:=by omega
  by_cases h2:i<256
  ·
   rw[Q2h h2,if_neg (he h2)]
  ·
   obtain rfl:i=256:=by omega
   rfl
 |n+1,i,h=>by
  rw[Q2h (by omega),if_pos (hlt i (by omega))];exact Z1g hm hlt he n (i+1) (by omega)
theorem Z6h {f g:Nat→Int}{m:Nat}(hm:m≤256)(hlt:∀i,i<m→J5b f i=J5b g i)(he:m<256→J5b f m≠J5b g m):J3j f g=m:=Z1g hm hlt he m 0 (by omega)
theorem Z8p {a b j:Nat}(hj:j<32)(hlt:∀i,i<j→kby a i=kby b i)(hne:kby a j≠kby b j):J3j (J7 a) (J7 b)=8*j+(8-l8 (kby a j^^^kby b j)):=by
 have hz:kby a j^^^kby b j<256:=Nat.xor_lt_two_pow (n:=8) (Q2i a j) (Q2i b j);have D:kby a j^^^kby b j≠0:=fun h=>hne (by have e:=congrArg (· ^^^kby b j) h;simpa[Nat.xor_assoc] using e);obtain⟨h1,h2,h3⟩:=Y5b ⟨_,hz⟩;obtain⟨h2,h4⟩:=h2 D;simp only at h1 h2 h3 h4;generalize hl:l8 (kby a j^^^kby b j)=L at*;refine Z6h (by omega) (fun i hi=> ?_) fun _=> ?_
 ·
  rw[Z6g]
  by_cases hq:i / 8<j
  ·
   rw[hlt _ hq,Nat.xor_self,Nat.zero_div]
  have e:i / 8=j:=by omega
  have h5:=h3 ⟨i % 8,Nat.mod_lt _ (by decide)⟩ (by simp only;omega);rw[e];exact h5
 rw[Ne,Z6g];have e1:(8*j+(8-L)) / 8=j:=by omega
 have e2:7-(8*j+(8-L)) % 8=L-1:=by omega
 rw[e1,e2,h4];decide
theorem Y5c {a b:Nat}(h:∀i,i<32→kby a i=kby b i):J3j (J7 a) (J7 b)=256:=
 Z6h (Nat.le_refl _) (fun i hi=>by rw[Q1t,Q1t,h _ (by omega)]) (fun h=>absurd h (by decide))
theorem Z6i (f g:Nat→Int):J3j f g≤256:=by
 have:∀n i,n+i=256→Q70 f g (256-i) i≤256:=by
  intro n
  induction n with
  |zero=>
   intro i h;obtain rfl:i=256:=by omega
   exact Nat.le_refl 256
  |succ n ih=>intro i h;rw[Q2h (by omega)];split;exact ih (i+1) (by omega);omega
 exact this 256 0 rfl

theorem Z8q (i:Nat)(hi:256≤i)(hi2:i<4611686018427387904)(w:World):
  Calls Tryz.prog 157 #[.int .i64 (i:Int)] w fun e w' =>Ret (.bool false) w w' e:=by
 have hS:=SH.nil [] w
 go_enter Tryz.func157,Tryz.ntmps157
 go_upto_region 1 with fail;refine RL hS ?_;clear hS;refine MV ?_;refine MW ?_ (v:=.bool true) (hv:=by intro W;first|(go_simp;done)|(go_simp;omega));refine Wt ?_;refine MV ?_;refine MW ?_ (v:=.bool false) (hv:=by intro W;first|(go_simp;done)|(go_simp;omega));refine Wf ?_;refine Wf ?_;refine MZ fun W hS=> ?_;go_wp2;exact bodyPost_ret (v:=.bool false) (by simp only[results,Tryz.results157];go_simp) rfl ⟨rfl,hS.ext⟩
theorem Y9z (k i:Nat)(hi:256≤i)(hi2:i<4611686018427387904)(w:World):
  Calls Tryz.prog 111 #[.agg (J0 .u8 32 (J7 k)),.int .i64 (i:Int)] w fun e w' =>Ret (.int .i64 0) w w' e:=by
 have hS:=SH.nil [] w
 go_enter Tryz.func111,Tryz.ntmps111
 go_upto_region 0 with fail;refine RL hS ?_;clear hS;refine MN (z:=J0 .u8 32 (J7 k)) (t:=55) ?_;intro Z8;refine W0 ?_;refine MZ fun W hS=> ?_;go_upto_region 1 with fail;refine RL hS ?_;clear hS;refine MV ?_;refine MC (v:=.bool false) (fun W hS=>Z8q i hi hi2 W) ?_;refine Wt ?_;refine MZ fun W hS=> ?_;go_wp2;exact bodyPost_ret (v:=.int .i64 0) (by simp only[results,Tryz.results111];go_simp) rfl ⟨rfl,hS.ext⟩
theorem Q2t (k i:Nat)(hi:i<4611686018427387904)(w:World):Calls Tryz.prog 111 #[.agg (J0 .u8 32 (J7 k)),.int .i64 (i:Int)] w fun e w' =>Ret (.int .i64 (kb k i:Int)) w w' e:=by
 by_cases h:i<256
 ·
  rw[Y9w h];exact V6x _ (K1x k) i h w
 rw[K1v (by omega)];exact Y9z k i (by omega) hi w
theorem V71 (z:Nat)(hz:z<256)(w:World):
  Calls Tryz.prog 202 #[.int .u8 (z:Int)] w fun e w' =>Ret (.int .i64 (l8 z:Int)) w w' e:=by
 have hS:=SH.nil [] w
 go_enter Tryz.func202,Tryz.ntmps202
 go_upto_region 1 with fail;refine RL hS ?_;clear hS;refine MV ?_;refine MW ?_ (v:=.int .u8 ((tb8.getD z 0).toNat:Int)) (hv:=by intro W;exact Z0r (l:=tb8) (i:=z) (Y9x hz) rfl rfl rfl);refine MW ?_ (v:=.int .i64 (l8 z:Int)) (hv:=by intro W;exact Y9q rfl rfl);refine MV ?_;refine MZ fun W hS=> ?_;go_wp2;exact bodyPost_ret (v:=.int .i64 (l8 z:Int)) (by simp only[results,Tryz.results202];go_simp) rfl ⟨rfl,hS.ext⟩
theorem K1y (z:Nat)(hz:z<256)(w:World):
  Calls Tryz.prog 197 #[.int .u8 (z:Int)] w fun e w' =>Ret (.int .i64 ((8-l8 z:Nat):Int)) w w' e:=by
 have hl:=(Y5b ⟨z,hz⟩).1;simp only at hl;have hS:=SH.nil [] w
 go_enter Tryz.func197,Tryz.ntmps197
 go_upto_region 1 with fail;refine RL hS ?_;clear hS;refine MV ?_;refine MC (v:=.int .i64 (l8 z:Int)) (fun W hS=>V71 z hz W) ?_;refine MW ?_ (v:=.int .i64 ((8-l8 z:Nat):Int)) (hv:=by intro W;go_simp;(try simp only[IntKind.wrap_i64]);omega);refine MV ?_;refine MZ fun W hS=> ?_;go_wp2;exact bodyPost_ret (v:=.int .i64 ((8-l8 z:Nat):Int)) (by simp only[results,Tryz.results197];go_simp) rfl ⟨rfl,hS.ext⟩
theorem V72 {w:World}:(isAgg 5).run Tryz.prog w=.ok false w:=by
 simp[isAgg,run_underlying Tryz.underlying5,Sem.run_bind]
theorem Z9q {a b:Nat}(ha:a<256)(hb:b<256):bits .xor .u8 (a:Int) (b:Int)=((a^^^b:Nat):Int):=J5g .u8 8 (by decide) (fun n h0 h1=>by rw[IntKind.wrap_u8];omega) a b ha hb
theorem Y5d {w:World}{o:Oper}{a:Act}{x y:Operand}{t t' :TypeId}{p q:Int}(ho:o.op=.binOp .xor t x y t')(hx:a.eval x=.int .u8 p)(hy:a.eval y=.int .u8 q):(execOp a.eval o).run Tryz.prog w=.ok (.value (.int .u8 (bits .xor .u8 p q))) w:=by
 simp only[execOp,ho,hx,hy];rfl
theorem Z8r (a b:Nat)(w:World):
  Calls Tryz.prog 177 #[.agg (J0 .u8 32 (J7 a)),.agg (J0 .u8 32 (J7 b))] w fun e w' =>Ret (.int .i64 (J3j (J7 a) (J7 b):Int)) w w' e:=by
 have hS:=SH.nil [] w
 go_enter Tryz.func177,Tryz.ntmps177
 go_upto_region 0 with fail;refine RL hS ?_;clear hS;refine MN (z:=J0 .u8 32 (J7 a)) (t:=55) ?_;intro Z8;refine MN (z:=J0 .u8 32 (J7 b)) (t:=55) ?_;intro J;refine W0 ?_;refine MZ fun W hS=> ?_;go_upto_region 1 with fail;refine RL hS ?_;clear hS;refine ML 1 ?_;refine W0 ?_;refine MZ fun W hS=> ?_
 go_wp2_with fail
 go_loopw [8] (fun ii wr=> ∃(j:Nat),(j≤32)∧(∀i,i<j→kby a i=kby b i)∧(ii=.int .i64 (j:Int))∧SH [] w wr [.b J (J0 .u8 32 (J7 b)) 55,.b Z8 (J0 .u8 32 (J7 a)) 55])
  (fun ii _=>32-(intOf ii).toNat)
 case atStart=>exact⟨0,Nat.zero_le _,fun i h=>absurd h (Nat.not_lt_zero _),rfl,hS⟩
 clear hS
 case round=>
  obtain⟨j,hj,M,rfl,hS⟩:=hrel
  by_cases G:j<32
  ·
   go_upto_region 2 with fail;refine RL hS ?_;clear hS;refine Wt ?_;refine MZ fun W hS=> ?_;go_upto_region 3 with fail;refine RL hS ?_;clear hS;refine MV ?_;refine MW ?_ (v:=.int .u8 ((kby a j:Nat):Int)) (hv:=fun _=>Q8q (m:=32) (f:=J7 a) G Tryz.underlying55 (by kernel_rfl) V72 rfl rfl rfl);refine MV ?_;refine MV ?_;refine MZ fun W hS=> ?_
   by_cases D:kby a j=kby b j
   ·
    go_upto_region 4 with fail;refine RL hS ?_;clear hS;refine MV ?_;refine MV ?_;refine MW ?_ (v:=.pointer (some ⟨J,0+j,none⟩)) (hv:=fun _=>rxa Tryz.underlying55 (by omega));refine MG 0 ?_ (j:=0+j) (v:=.int .u8 ((J7 b) j)) (hj:=ag0 (by omega));refine MW ?_ (v:=.bool false) (hv:=by intro W;go_simp;(try simp only[Q8y]);(try simp[D]));refine MZ fun W hS=> ?_;go_wp2;go_roundw
    case rel=>exact⟨j+1,by omega,fun i h=>by rcases Nat.lt_succ_iff_lt_or_eq.1 h with h|rfl;exact M i h;exact D,by go_num,hS⟩
    case measure=>simp[intOf];omega
   have N:=D;go_upto_region 4 with fail;refine RL hS ?_;clear hS;refine MV ?_;refine MV ?_;refine MW ?_ (v:=.pointer (some ⟨J,0+j,none⟩)) (hv:=fun _=>rxa Tryz.underlying55 (by omega));refine MG 0 ?_ (j:=0+j) (v:=.int .u8 ((J7 b) j)) (hj:=ag0 (by omega));refine MW ?_ (v:=.bool true) (hv:=by intro W;go_simp;(try simp only[Q8y]);omega);refine MZ fun W hS=> ?_;go_upto_region 5 with fail;refine RL hS ?_;clear hS;refine MV ?_;refine MW ?_ (v:=.int .i64 ((8*j:Nat):Int)) (hv:=by intro W;go_simp;(try simp only[IntKind.wrap_i64]);omega);refine MV ?_;refine MV ?_;refine MW ?_ (v:=.pointer (some ⟨J,0+j,none⟩)) (hv:=fun _=>rxa Tryz.underlying55 (by omega));refine MG 0 ?_ (j:=0+j) (v:=.int .u8 ((J7 b) j)) (hj:=ag0 (by omega));refine MW ?_ (v:=.int .u8 ((kby a j^^^kby b j:Nat):Int)) (hv:=by intro W;rw[←Z9q (Q2i a j) (Q2i b j)];exact Y5d rfl rfl rfl);refine MC (v:=.int .i64 ((8-l8 (kby a j^^^kby b j):Nat):Int)) (fun W hS=>K1y (kby a j^^^kby b j) (Nat.xor_lt_two_pow (n:=8) (Q2i a j) (Q2i b j)) W) ?_;refine MW ?_ (v:=.int .i64 ((8*j+(8-l8 (kby a j^^^kby b j)):Nat):Int)) (hv:=by intro W;go_simp;(try simp only[IntKind.wrap_i64]);omega);refine MV ?_;refine MZ fun W hS=> ?_;go_wp2;exact bodyPost_ret (v:=.int .i64 ((8*j+(8-l8 (kby a j^^^kby b j)):Nat):Int)) (by simp only[results,Tryz.results177];go_simp) rfl ⟨by rw[Z8p G M N],hS.ext⟩
  obtain rfl:j=32:=by omega
  go_upto_region 2 with fail;refine RL hS ?_;clear hS;refine Wf ?_;refine MZ fun W hS=> ?_;go_wp2;exact bodyPost_ret (v:=.int .i64 256) (by simp only[results,Tryz.results177];go_simp) rfl ⟨by rw[Y5c M];rfl,hS.ext⟩
end

section
set_option maxHeartbeats 1500000
attribute [local irreducible] wpList Z6 wpX
def tsz:TR→Nat
 | .nil=>0
 | .leaf _ _=>1
 | .node _ l r=>1+tsz l+tsz r
def hd (w:World):Nat→Value→Nat
 |n+1,.pointer (some a)=>match w.cell? ⟨a.block,66,none⟩ with
  |some (.bool true)=>1+hd w n ((w.cell? ⟨a.block,64,none⟩).getD undef)+hd w n ((w.cell? ⟨a.block,65,none⟩).getD undef)
  |some (.bool false)=>1
  |_=>0
 |_,_=>0
theorem V73 (w:World)(n:Nat):hd w n nlp=0:=by cases n<;>rfl
theorem Q71 {w:World}:∀{T:TR} {u:Value} {n:Nat},TA w T u→tsz T≤n→hd w n u=tsz T
 | .nil,_,n,h,_=>by rw[show _=nlp from h];exact V73 w n
 | .leaf k v,_,0,_,hn=>absurd hn (by show ¬1≤0;omega)
 | .leaf k v,_,n+1,⟨b,h1,h2,_⟩,_=>by
  subst h1;have e:w.cell? ⟨b,66,none⟩=some (.bool false):=by rw[J4 h2];exact J9e
  show(match w.cell? ⟨b,66,none⟩ with
   |some (.bool true)=>_
   |some (.bool false)=>1
   |_=>0)=1
  rw[e]
 | .node d l r,_,0,_,hn=>absurd hn (by show ¬1+tsz l+tsz r≤0;omega)
 | .node d l r,_,n+1,⟨b,s0,s1,h1,h2,h3,h4⟩,hn=>by
  subst h1;have e:w.cell? ⟨b,66,none⟩=some (.bool true):=by rw[J4 h2];exact J9e
  have e0:w.cell? ⟨b,64,none⟩=some s0:=by rw[J4 h2];exact nd_s0
  have e1:w.cell? ⟨b,65,none⟩=some s1:=by rw[J4 h2];exact nd_s1
  have hn' :1+tsz l+tsz r≤n+1:=hn
  show(match w.cell? ⟨b,66,none⟩ with
   |some (.bool true)=>1+hd w n ((w.cell? ⟨b,64,none⟩).getD undef)+hd w n ((w.cell? ⟨b,65,none⟩).getD undef)
   |some (.bool false)=>1
   |_=>0)=1+tsz l+tsz r
  rw[e,e0,e1];show 1+hd w n s0+hd w n s1=_;rw[Q71 h3 (by omega),Q71 h4 (by omega)]
def Q8z:TR→Nat
 | .nil=>0
 | .leaf k _=>k
 | .node _ .nil r=>Q8z r
 | .node _ l _=>Q8z l
def full:TR→Prop
 | .nil=>False
 | .leaf _ _=>True
 | .node _ .nil r=>full r
 | .node _ l _=>full l
theorem Z3j {d:Nat}{l r:TR}(h:l≠ .nil):Q8z (.node d l r)=Q8z l:=by cases l<;>first|exact absurd rfl h|rfl
theorem Z3k {d:Nat}{l r:TR}(h:l≠ .nil):full (.node d l r)=full l:=by cases l<;>first|exact absurd rfl h|rfl
theorem Q3p {T:TR}(h:full T):T≠ .nil:=fun e=>by subst e;exact h
theorem TA.cases {w:World}{T:TR}{u:Value}(h:TA w T u)(hf:full T):(∃b k v,T=.leaf k v∧u=ptr b∧Blk w b (ndc k v nlp nlp false (sL k v) 1) 160)∨
  ∃b d l r s0 s1,T=.node d l r∧u=ptr b∧Blk w b (ndc 0 0 s0 s1 true (rs (.node d l r)) (cnt l+cnt r)) 160∧TA w l s0∧TA w r s1:=by
 cases T with
 |nil=>exact hf.elim
 |leaf k v=>obtain⟨b,h1,h2,_⟩:=h;exact .inl ⟨b,k,v,rfl,h1,h2⟩
 |node d l r=>obtain⟨b,s0,s1,h1,h2,h3,h4⟩:=h;exact .inr ⟨b,d,l,r,s0,s1,rfl,h1,h2,h3,h4⟩
theorem TA.side {w:World}{T:TR}{u:Value}(h:TA w T u):(T=.nil∧u=nlp)∨∃b,T≠ .nil∧u=ptr b:=by
 cases T with
 |nil=>exact .inl ⟨rfl,h⟩
 |leaf k v=>obtain⟨b,h1,_⟩:=h;exact .inr ⟨b,fun e=>(by cases e),h1⟩
 |node d l r=>obtain⟨b,s0,s1,h1,_⟩:=h;exact .inr ⟨b,fun e=>(by cases e),h1⟩
attribute [local irreducible] hs4 sE sL sN

theorem Z6j {T:TR}{u:Value}(hf0:full T)(w:World)(h:TA w T u):
  Calls Tryz.prog 178 #[u] w fun e w' =>Ret (.agg (J0 .u8 32 (J7 (Q8z T)))) w w' e:=by
 have hS:=SH.nil [] w
 go_enter Tryz.func178,Tryz.ntmps178
 go_upto_region 0 with fail;refine RL hS ?_;clear hS;refine MN (z:=J0 .u8 32 (J7 0)) (t:=55) ?_;intro Z8;refine MZ fun W hS=> ?_
 go_wp2_with fail
 go_loopw [0] (fun u wr=> ∃(T1:TR),(TA w T1 u)∧(full T1)∧(Q8z T1=Q8z T)∧(tsz T1≤tsz T)∧SH [] w wr [.b Z8 (J0 .u8 32 (J7 0)) 55])
  (fun u _=>hd w (tsz T) u)
 case atStart=>exact⟨T,h,hf0,rfl,Nat.le_refl _,hS⟩
 clear hS
 case round=>
  obtain⟨T1,hT,hf,hk,hz,hS⟩:=hrel;rcases hT.cases hf with⟨b,k,v,rfl,rfl,hB⟩|⟨b,d,l,r,s0,s1,rfl,rfl,hB,hl,hr⟩
  ·
   go_upto_region 1 with fail;refine RL hS ?_;clear hS;(iterate 3 refine MV ?_);refine MF (v:=.bool false) (fun W hS=>Z9 rfl rfl (by rw[J4 (J3 hB hS.ext)];exact J9e) (by kernel_rfl)) ?_;refine MZ fun W hS=> ?_;go_upto_region 5 with fail;refine RL hS ?_;clear hS;(iterate 4 refine MV ?_);refine MF (v:=.agg (J0 .u8 32 (J7 k))) (fun W hS=>J0k (vs:=(J0 .u8 32 (J7 k)).toList) rfl rfl (fun i v hv=>by rw[J4 (J3 hB hS.ext)];exact Q0n i v (by simpa using hv)) (by kernel_rfl) (by first|kernel_rfl|(simp only[Array.length_toList];rw[J1];kernel_rfl))) ?_;refine MR 0 ?_;refine MZ fun W hS=> ?_;go_wp2;exact bodyPost_ret (Z0 rfl rfl (hS.blk (i:=0) rfl) (by kernel_rfl) (by rw[J1];kernel_rfl)) rfl ⟨by rw[←hk];rfl,hS.ext⟩
  have D:TA w (.node d l r) (ptr b):=hT;go_upto_region 1 with fail;refine RL hS ?_;clear hS;(iterate 3 refine MV ?_);refine MF (v:=.bool true) (fun W hS=>Z9 rfl rfl (by rw[J4 (J3 hB hS.ext)];exact J9e) (by kernel_rfl)) ?_;refine MZ fun W hS=> ?_;rcases hl.side with⟨rfl,rfl⟩|⟨c,G,rfl⟩
  ·
   go_upto_region 2 with fail;refine RL hS ?_;clear hS;(iterate 3 refine MV ?_);refine MW ?_ (v:=.pointer (some ⟨b,64,none⟩)) (hv:=fun _=>J1c (m:=2) (k:=1) (j:=0) (off:=64) (by decide) Tryz.underlying158 (by kernel_rfl) rfl rfl rfl);refine MF (v:=.pointer none) (fun W hS=>Z9 rfl rfl (by rw[J4 (J3 hB hS.ext)];exact nd_s0) (by kernel_rfl)) ?_;refine Wf ?_;refine MZ fun W hS=> ?_;go_upto_region 4 with fail;refine RL hS ?_;clear hS;(iterate 3 refine MV ?_);refine MW ?_ (v:=.pointer (some ⟨b,65,none⟩)) (hv:=fun _=>J1c (m:=2) (k:=1) (j:=1) (off:=64) (by decide) Tryz.underlying158 (by kernel_rfl) rfl rfl rfl);refine MF (v:=s1) (fun W hS=>Z9 rfl rfl (by rw[J4 (J3 hB hS.ext)];exact nd_s1) (by kernel_rfl)) ?_;refine MV ?_;refine MZ fun W hS=> ?_;go_wp2;go_roundw
   case rel=>exact⟨r,hr,hf,hk,(by have h_:1+tsz .nil+tsz r≤tsz T:=hz;omega),hS⟩
   case measure=>rw[Q71 D hz,Q71 hr (by have h_:1+tsz .nil+tsz r≤tsz T:=hz;omega)];show _<1+tsz .nil+tsz r;omega
  go_upto_region 2 with fail;refine RL hS ?_;clear hS;(iterate 3 refine MV ?_);refine MW ?_ (v:=.pointer (some ⟨b,64,none⟩)) (hv:=fun _=>J1c (m:=2) (k:=1) (j:=0) (off:=64) (by decide) Tryz.underlying158 (by kernel_rfl) rfl rfl rfl);refine MF (v:=.pointer (some ⟨c,0,none⟩)) (fun W hS=>Z9 rfl rfl (by rw[J4 (J3 hB hS.ext)];exact nd_s0) (by kernel_rfl)) ?_;refine Wt ?_;refine MZ fun W hS=> ?_;go_upto_region 3 with fail;refine RL hS ?_;clear hS;(iterate 3 refine MV ?_);refine MW ?_ (v:=.pointer (some ⟨b,64,none⟩)) (hv:=fun _=>J1c (m:=2) (k:=1) (j:=0) (off:=64) (by decide) Tryz.underlying158 (by kernel_rfl) rfl rfl rfl);refine MF (v:=.pointer (some ⟨c,0,none⟩)) (fun W hS=>Z9 rfl rfl (by rw[J4 (J3 hB hS.ext)];exact nd_s0) (by kernel_rfl)) ?_;refine MV ?_;refine MZ fun W hS=> ?_;go_wp2;go_roundw
  case rel=>exact⟨l,hl,(by rw[Z3k G] at hf;exact hf),(by rw[Z3j G] at hk;exact hk),(by have h_:1+tsz l+tsz r≤tsz T:=hz;omega),hS⟩
  case measure=>rw[Q71 D hz,Q71 hl (by have h_:1+tsz l+tsz r≤tsz T:=hz;omega)];show _<1+tsz l+tsz r;omega
end

section
set_option maxHeartbeats 3000000
attribute [local irreducible] wpList Z6 wpX
def J6l (K:Nat)(d:Nat):Nat→TR→TR
 |0,T=>T
 |m+1,T=>if d≤m then J6l K d m (if kb K m=0 then .node m T .nil else .node m .nil T) else T
def J6m (a x b y d:Nat):TR:=
 if kb a (J3j (J7 a) (J7 b))=1 then J6l b d (J3j (J7 a) (J7 b)) (.node (J3j (J7 a) (J7 b)) (.leaf b y) (.leaf a x))
 else J6l a d (J3j (J7 a) (J7 b)) (.node (J3j (J7 a) (J7 b)) (.leaf a x) (.leaf b y))
def J33 (k v:Nat):TR→Nat→TR
 | .nil,_=> .leaf k v
 | .leaf a x,d=>if a=k then .leaf k v else J6m a x k v d
 | .node _ l r,d=>if kb k d=0 then .node d (J33 k v l (d+1)) r else .node d l (J33 k v r (d+1))
theorem Q3q {K d m:Nat}{T:TR}(h:d≤m):J6l K d (m+1) T=J6l K d m (if kb K m=0 then .node m T .nil else .node m .nil T):=by
 show(if d≤m then _ else _)=_;rw[if_pos h]
theorem Z6k {K d m:Nat}{T:TR}(h:m≤d):J6l K d m T=T:=by
 cases m with
 |zero=>rfl
 |succ m=>show(if d≤m then _ else _)=_;rw[if_neg (by omega)]
theorem Q72 (K d:Nat):∀(m:Nat) (T:TR),cnt (J6l K d m T)=cnt T
 |0,_=>rfl
 |m+1,T=>by
  unfold J6l
  split
  ·
   rw[Q72];split<;>simp[cnt]
  ·
   rfl
theorem Z8s (a x b y d:Nat):cnt (J6m a x b y d)=2:=by unfold J6m;split<;>rw[Q72]<;>rfl
theorem J63 (k v:Nat):∀(T:TR) (d:Nat),cnt (J33 k v T d)≤cnt T+1
 | .nil,_=>by show 1≤0+1;omega
 | .leaf a x,d=>by
  show cnt (if a=k then TR.leaf k v else J6m a x k v d)≤1+1
  split
  ·
   show 1≤2;omega
  ·
   rw[Z8s];omega
 | .node e l r,d=>by
  have h1:=J63 k v l (d+1);have h2:=J63 k v r (d+1);show cnt (if kb k d=0 then TR.node d (J33 k v l (d+1)) r else TR.node d l (J33 k v r (d+1)))≤cnt l+cnt r+1
  split
  ·
   show cnt (J33 k v l (d+1))+cnt r≤_;omega
  ·
   show cnt l+cnt (J33 k v r (d+1))≤_;omega
theorem TA.leaf' {w:World}{k v b:Nat}(h:Blk w b (ndc k v nlp nlp false (sL k v) 1) 160)(hk:k<2^256)(hv:v<2^256):TA w (.leaf k v) (ptr b):=⟨b,rfl,h,hk,hv⟩
attribute [local irreducible] hs4 sE sL sN

theorem V74 {q:Prop}{a x c y b1 b2:Nat}(ha:a<2^256)(hx:x<2^256)(hc:c<2^256)(hy:y<2^256)(d:Nat)(hd_:d<4611686018427387904)(w:World)(hG:GT q w)(hB1:Blk w b1 (ndc a x nlp nlp false (sL a x) 1) 160)(hB2:Blk w b2 (ndc c y nlp nlp false (sL c y) 1) 160):
  Calls Tryz.prog 131 #[ptr b1,ptr b2,.int .i64 (d:Int)] w fun e w' =>Q0o (J6m a x c y d) w w' e:=by
 have hS:=SH.nil [] w;have h3:=Z6i (J7 a) (J7 c);have hA:TA w (.leaf a x) (ptr b1):=TA.leaf' hB1 ha hx;have hC:TA w (.leaf c y) (ptr b2):=TA.leaf' hB2 hc hy
 go_enter Tryz.func131,Tryz.ntmps131
 go_upto_region 1 with fail;refine RTh (.q 0 (.q 1 (.q 2 (.q 3 (.q 4 (.q 5 (.q 6 (.q 7 (.q 8 (.q 9 (.e 10 (.q 11 .z)))))))))))) hS ?_;clear hS;(iterate 4 refine TV ?_);refine TF (v:=.agg (J0 .u8 32 (J7 a))) rfl (fun W hS=>J0k (vs:=(J0 .u8 32 (J7 a)).toList) rfl rfl (fun i v hv=>by rw[J4 (J3 hB1 hS.ext)];exact Q0n i v (by simpa using hv)) (by kernel_rfl) (by first|kernel_rfl|(simp only[Array.length_toList];rw[J1];kernel_rfl))) ?_;(iterate 4 refine TV ?_);refine TF (v:=.agg (J0 .u8 32 (J7 c))) rfl (fun W hS=>J0k (vs:=(J0 .u8 32 (J7 c)).toList) rfl rfl (fun i v hv=>by rw[J4 (J3 hB2 hS.ext)];exact Q0n i v (by simpa using hv)) (by kernel_rfl) (by first|kernel_rfl|(simp only[Array.length_toList];rw[J1];kernel_rfl))) ?_;refine TE (fun _ h=>h) ?_;refine MC (v:=.int .i64 ((J3j (J7 a) (J7 c):Nat):Int)) (fun W hS=>Z8r a c W) ?_;refine TNh (fun W hS=>hS) ?_;refine TV ?_;refine TZ (fun _ h=>h) fun W hS=> ?_
 by_cases hb:kb a (J3j (J7 a) (J7 c))=1
 ·
  go_upto_region 2 with fail;refine RL hS ?_;clear hS;(iterate 4 refine MV ?_);refine MF (v:=.agg (J0 .u8 32 (J7 a))) (fun W hS=>J0k (vs:=(J0 .u8 32 (J7 a)).toList) rfl rfl (fun i v hv=>by rw[J4 (J3 hB1 hS.ext)];exact Q0n i v (by simpa using hv)) (by kernel_rfl) (by first|kernel_rfl|(simp only[Array.length_toList];rw[J1];kernel_rfl))) ?_;refine MV ?_;refine MC (v:=.int .i64 ((kb a (J3j (J7 a) (J7 c)):Nat):Int)) (fun W hS=>Q2t a (J3j (J7 a) (J7 c)) (by omega) W) ?_;refine MW ?_ (v:=.bool true) (hv:=by intro W;go_simp;(try simp[hb]));refine MZ fun W hS=> ?_;go_upto_region 4 with fail;refine RL hS ?_;clear hS;(iterate 3 refine MV ?_);refine ME (fun W hS=>J5d hS (J9f (J3j (J7 a) (J7 c)) (by simp only[cnt];omega) W (J0y hG hS.ext) (TA.ext hC hS.ext) (TA.ext hA hS.ext)) rfl) ?_;intro J;refine MV ?_;refine MZ fun W hS=> ?_;go_upto_region 5 with fail;refine RL hS ?_;clear hS;refine MV ?_;refine MW ?_ (v:=.int .i64 (((J3j (J7 a) (J7 c):Nat):Int)-1)) (hv:=by intro W;go_simp;(try simp only[IntKind.wrap_i64]);(try omega));refine MV ?_;refine MZ fun W hS=> ?_
  go_wp2_with fail
  go_loopw [8,9] (fun uv ii wr=> ∃(T1:TR)(u:Value)(m:Nat),(m≤J3j (J7 a) (J7 c))∧(J6l c d m T1=J6l c d (J3j (J7 a) (J7 c)) (.node (J3j (J7 a) (J7 c)) (.leaf c y) (.leaf a x)))∧(full T1)∧(Q8z T1=c)∧(cnt T1=2)∧(u=uv)∧(ii=.int .i64 ((m:Int)-1))∧SH [] w wr [.t 160 (fun W=>TA W T1 u)])
   (fun uv ii _=>(intOf ii+1).toNat)
  case atStart=>exact⟨(.node (J3j (J7 a) (J7 c)) (.leaf c y) (.leaf a x)),J,J3j (J7 a) (J7 c),Nat.le_refl _,rfl,trivial,rfl,rfl,rfl,by go_num,hS⟩
  clear hS
  case round=>
   obtain⟨T1,u,m,hm,D,hf,hk,U,rfl,rfl,hS⟩:=hrel
   by_cases G:d<m
   ·
    obtain⟨m,rfl⟩:∃m1,m=m1+1:=⟨m-1,by omega⟩
    go_upto_region 6 with fail;refine RL hS ?_;clear hS;refine MV ?_;refine MV ?_;refine MW ?_ (v:=.bool true) (hv:=by intro W;go_simp;omega);refine MZ fun W hS=> ?_
    by_cases hz:kb c m=0
    ·
     go_upto_region 8 with fail;refine RL hS ?_;clear hS;refine MV ?_;refine MC (v:=.agg (J0 .u8 32 (J7 c))) (fun W hS=>(hk▸Z6j hf W (hS.tt (i:=0) rfl))) ?_;refine MW ?_ (v:=.int .i64 ((m:Nat):Int)) (hv:=by intro W;go_simp;(try omega));refine MC (v:=.int .i64 ((kb c m:Nat):Int)) (fun W hS=>Q2t c m (by omega) W) ?_;refine MW ?_ (v:=.bool true) (hv:=by intro W;go_simp;(try simp[hz]));refine MZ fun W hS=> ?_;go_upto_region 9 with fail;refine RL hS ?_;clear hS;refine MW ?_ (v:=.int .i64 ((m:Nat):Int)) (hv:=by intro W;go_simp;(try omega));refine MV ?_;refine ME (fun W hS=>J5d hS (J9f m (by simp only[cnt];omega) W (J0y hG hS.ext) (hS.tt (i:=0) rfl) (show TA W .nil nlp from rfl)) rfl) ?_;intro M;refine MV ?_;refine MZ fun W hS=> ?_;go_upto_region 7 with fail;refine RL hS ?_;clear hS;refine MV ?_;refine MW ?_ (v:=.int .i64 ((m:Int)-1)) (hv:=by intro W;go_simp;(try simp only[IntKind.wrap_i64]);(try omega));refine MV ?_;refine MZ fun W hS=> ?_;go_wp2;go_roundw
     case rel=>exact⟨(.node m T1 .nil),M,m,by omega,(by rw[←D,Q3q (by omega),if_pos hz]),(by rw[Z3k (Q3p hf)];exact hf),(by rw[Z3j (Q3p hf)];exact hk),(by show cnt T1+0=2;omega),rfl,by go_num,(hS.pick [0])⟩
     case measure=>first|(simp[intOf];done)|(simp[intOf];omega)
    go_upto_region 8 with fail;refine RL hS ?_;clear hS;refine MV ?_;refine MC (v:=.agg (J0 .u8 32 (J7 c))) (fun W hS=>(hk▸Z6j hf W (hS.tt (i:=0) rfl))) ?_;refine MW ?_ (v:=.int .i64 ((m:Nat):Int)) (hv:=by intro W;go_simp;(try omega));refine MC (v:=.int .i64 ((kb c m:Nat):Int)) (fun W hS=>Q2t c m (by omega) W) ?_;refine MW ?_ (v:=.bool false) (hv:=by intro W;go_simp;(try omega));refine MZ fun W hS=> ?_;go_upto_region 10 with fail;refine RL hS ?_;clear hS;refine MW ?_ (v:=.int .i64 ((m:Nat):Int)) (hv:=by intro W;go_simp;(try omega));refine MV ?_;refine ME (fun W hS=>J5d hS (J9f m (by simp only[cnt];omega) W (J0y hG hS.ext) (show TA W .nil nlp from rfl) (hS.tt (i:=0) rfl)) rfl) ?_;intro T;refine MV ?_;refine MZ fun W hS=> ?_;go_upto_region 7 with fail;refine RL hS ?_;clear hS;refine MV ?_;refine MW ?_ (v:=.int .i64 ((m:Int)-1)) (hv:=by intro W;go_simp;(try simp only[IntKind.wrap_i64]);(try omega));refine MV ?_;refine MZ fun W hS=> ?_;go_wp2;go_roundw
    case rel=>exact⟨(.node m .nil T1),T,m,by omega,(by rw[←D,Q3q (by omega),if_neg hz]),hf,hk,(by show 0+cnt T1=2;omega),rfl,by go_num,(hS.pick [0])⟩
    case measure=>first|(simp[intOf];done)|(simp[intOf];omega)
   go_upto_region 6 with fail;refine RL hS ?_;clear hS;refine MV ?_;refine MV ?_;refine MW ?_ (v:=.bool false) (hv:=by intro W;go_simp;omega);refine MZ fun W hS=> ?_;go_wp2;exact bodyPost_ret (v:=u) (by simp only[results,Tryz.results131];go_simp) rfl ⟨_,rfl,hS.ext,(by have h_:=hS.tt (i:=0) rfl;rw[show J6m a x c y d=T1 from(by unfold J6m;rw[if_pos hb];rw[←D,Z6k (by omega)])];exact h_)⟩
 go_upto_region 2 with fail;refine RL hS ?_;clear hS;(iterate 4 refine MV ?_);refine MF (v:=.agg (J0 .u8 32 (J7 a))) (fun W hS=>J0k (vs:=(J0 .u8 32 (J7 a)).toList) rfl rfl (fun i v hv=>by rw[J4 (J3 hB1 hS.ext)];exact Q0n i v (by simpa using hv)) (by kernel_rfl) (by first|kernel_rfl|(simp only[Array.length_toList];rw[J1];kernel_rfl))) ?_;refine MV ?_;refine MC (v:=.int .i64 ((kb a (J3j (J7 a) (J7 c)):Nat):Int)) (fun W hS=>Q2t a (J3j (J7 a) (J7 c)) (by omega) W) ?_;refine MW ?_ (v:=.bool false) (hv:=by intro W;go_simp;(try omega));refine MZ fun W hS=> ?_;go_upto_region 4 with fail;refine RL hS ?_;clear hS;(iterate 3 refine MV ?_);refine ME (fun W hS=>J5d hS (J9f (J3j (J7 a) (J7 c)) (by simp only[cnt];omega) W (J0y hG hS.ext) (TA.ext hA hS.ext) (TA.ext hC hS.ext)) rfl) ?_;intro S;refine MV ?_;refine MZ fun W hS=> ?_;go_upto_region 5 with fail;refine RL hS ?_;clear hS;refine MV ?_;refine MW ?_ (v:=.int .i64 (((J3j (J7 a) (J7 c):Nat):Int)-1)) (hv:=by intro W;go_simp;(try simp only[IntKind.wrap_i64]);(try omega));refine MV ?_;refine MZ fun W hS=> ?_
 go_wp2_with fail
 go_loopw [8,9] (fun uv ii wr=> ∃(T1:TR)(u:Value)(m:Nat),(m≤J3j (J7 a) (J7 c))∧(J6l a d m T1=J6l a d (J3j (J7 a) (J7 c)) (.node (J3j (J7 a) (J7 c)) (.leaf a x) (.leaf c y)))∧(full T1)∧(Q8z T1=a)∧(cnt T1=2)∧(u=uv)∧(ii=.int .i64 ((m:Int)-1))∧SH [] w wr [.t 160 (fun W=>TA W T1 u)])
  (fun uv ii _=>(intOf ii+1).toNat)
 case atStart=>exact⟨(.node (J3j (J7 a) (J7 c)) (.leaf a x) (.leaf c y)),S,J3j (J7 a) (J7 c),Nat.le_refl _,rfl,trivial,rfl,rfl,rfl,by go_num,hS⟩
 clear hS
 case round=>
  obtain⟨T1,u,m,hm,D,hf,hk,U,rfl,rfl,hS⟩:=hrel
  by_cases G:d<m
  ·
   obtain⟨m,rfl⟩:∃m1,m=m1+1:=⟨m-1,by omega⟩
   go_upto_region 6 with fail;refine RL hS ?_;clear hS;refine MV ?_;refine MV ?_;refine MW ?_ (v:=.bool true) (hv:=by intro W;go_simp;omega);refine MZ fun W hS=> ?_
   by_cases hz:kb a m=0
   ·
    go_upto_region 8 with fail;refine RL hS ?_;clear hS;refine MV ?_;refine MC (v:=.agg (J0 .u8 32 (J7 a))) (fun W hS=>(hk▸Z6j hf W (hS.tt (i:=0) rfl))) ?_;refine MW ?_ (v:=.int .i64 ((m:Nat):Int)) (hv:=by intro W;go_simp;(try omega));refine MC (v:=.int .i64 ((kb a m:Nat):Int)) (fun W hS=>Q2t a m (by omega) W) ?_;refine MW ?_ (v:=.bool true) (hv:=by intro W;go_simp;(try simp[hz]));refine MZ fun W hS=> ?_;go_upto_region 9 with fail;refine RL hS ?_;clear hS;refine MW ?_ (v:=.int .i64 ((m:Nat):Int)) (hv:=by intro W;go_simp;(try omega));refine MV ?_;refine ME (fun W hS=>J5d hS (J9f m (by simp only[cnt];omega) W (J0y hG hS.ext) (hS.tt (i:=0) rfl) (show TA W .nil nlp from rfl)) rfl) ?_;intro N;refine MV ?_;refine MZ fun W hS=> ?_;go_upto_region 7 with fail;refine RL hS ?_;clear hS;refine MV ?_;refine MW ?_ (v:=.int .i64 ((m:Int)-1)) (hv:=by intro W;go_simp;(try simp only[IntKind.wrap_i64]);(try omega));refine MV ?_;refine MZ fun W hS=> ?_;go_wp2;go_roundw
    case rel=>exact⟨(.node m T1 .nil),N,m,by omega,(by rw[←D,Q3q (by omega),if_pos hz]),(by rw[Z3k (Q3p hf)];exact hf),(by rw[Z3j (Q3p hf)];exact hk),(by show cnt T1+0=2;omega),rfl,by go_num,(hS.pick [0])⟩
    case measure=>first|(simp[intOf];done)|(simp[intOf];omega)
   go_upto_region 8 with fail;refine RL hS ?_;clear hS;refine MV ?_;refine MC (v:=.agg (J0 .u8 32 (J7 a))) (fun W hS=>(hk▸Z6j hf W (hS.tt (i:=0) rfl))) ?_;refine MW ?_ (v:=.int .i64 ((m:Nat):Int)) (hv:=by intro W;go_simp;(try omega));refine MC (v:=.int .i64 ((kb a m:Nat):Int)) (fun W hS=>Q2t a m (by omega) W) ?_;refine MW ?_ (v:=.bool false) (hv:=by intro W;go_simp;(try omega));refine MZ fun W hS=> ?_;go_upto_region 10 with fail;refine RL hS ?_;clear hS;refine MW ?_ (v:=.int .i64 ((m:Nat):Int)) (hv:=by intro W;go_simp;(try omega));refine MV ?_;refine ME (fun W hS=>J5d hS (J9f m (by simp only[cnt];omega) W (J0y hG hS.ext) (show TA W .nil nlp from rfl) (hS.tt (i:=0) rfl)) rfl) ?_;intro R;refine MV ?_;refine MZ fun W hS=> ?_;go_upto_region 7 with fail;refine RL hS ?_;clear hS;refine MV ?_;refine MW ?_ (v:=.int .i64 ((m:Int)-1)) (hv:=by intro W;go_simp;(try simp only[IntKind.wrap_i64]);(try omega));refine MV ?_;refine MZ fun W hS=> ?_;go_wp2;go_roundw
   case rel=>exact⟨(.node m .nil T1),R,m,by omega,(by rw[←D,Q3q (by omega),if_neg hz]),hf,hk,(by show 0+cnt T1=2;omega),rfl,by go_num,(hS.pick [0])⟩
   case measure=>first|(simp[intOf];done)|(simp[intOf];omega)
  go_upto_region 6 with fail;refine RL hS ?_;clear hS;refine MV ?_;refine MV ?_;refine MW ?_ (v:=.bool false) (hv:=by intro W;go_simp;omega);refine MZ fun W hS=> ?_;go_wp2;exact bodyPost_ret (v:=u) (by simp only[results,Tryz.results131];go_simp) rfl ⟨_,rfl,hS.ext,(by have h_:=hS.tt (i:=0) rfl;rw[show J6m a x c y d=T1 from(by unfold J6m;rw[if_neg hb];rw[←D,Z6k (by omega)])];exact h_)⟩
end

section
set_option maxHeartbeats 3000000
attribute [local irreducible] wpList Z6 wpX
theorem V26 (A B:Nat)(hA:A<2^256)(hB:B<2^256)(w:World):(Op.equalIn 10000 55 (.agg (J0 .u8 32 (J7 A))) (.agg (J0 .u8 32 (J7 B)))).run Tryz.prog w=.ok (decide (A=B)) w:=by
 have h:=J54 (P:=Tryz.prog) w 9998 55 5 32 .u8 (J0 .u8 32 (J7 A)) (J0 .u8 32 (J7 B)) (J7 A) (J7 B) Tryz.underlying55 Tryz.underlying5 (by kernel_rfl)
  (fun i hi=>K7 _ _ _ _ hi) (fun i hi=>K7 _ _ _ _ hi)
 rw[h]
 congr 1
 rw[Bool.eq_iff_iff,Q0c,decide_eq_true_iff];exact⟨Z5a hA hB,fun h=>by subst h;intro _ _;rfl⟩
theorem V75 {q:Prop}{a x c y:Nat}{u1 u2:Value}(d:Nat)(hd_:d<4611686018427387904)(w:World)(hG:GT q w)(h1:TA w (.leaf a x) u1)(h2:TA w (.leaf c y) u2):
  Calls Tryz.prog 131 #[u1,u2,.int .i64 (d:Int)] w fun e w' =>Q0o (J6m a x c y d) w w' e:=by
 obtain⟨b1,rfl,D,ha,hx⟩:=h1;obtain⟨b2,rfl,G,hc,hy⟩:=h2;exact V74 ha hx hc hy d hd_ w hG D G
attribute [local irreducible] hs4 sE sL sN

theorem V00 {q:Prop}{k v:Nat}(hk:k<2^256)(hv:v<2^256)(d:Nat)(w:World)(hG:GT q w):
  Calls Tryz.prog 94 #[nlp,.agg (lf k v),.int .i64 (d:Int)] w fun e w' =>Q0o (J33 k v .nil d) w w' e:=by
 have hS:=SH.nil [] w
 go_enter Tryz.func94,Tryz.ntmps94
 go_upto_region 0 with fail;refine RL hS ?_;clear hS;refine MN (z:=lf k v) (t:=57) ?_;intro G;refine MV ?_;refine MZ fun W hS=> ?_;go_upto_region 3 with fail;refine RL hS ?_;clear hS;refine ML 0 ?_ (hs:=by rw[J5l];kernel_rfl);refine ME (fun W hS=>J5d hS (Z56 hk hv W (J0y hG hS.ext)) rfl) ?_;intro D;refine MV ?_;refine MZ fun W hS=> ?_;go_wp2;exact bodyPost_ret (v:=D) (by simp only[results,Tryz.results94];go_simp) rfl ⟨_,rfl,hS.ext,(by exact hS.tt (i:=0) rfl)⟩
theorem V76 {q:Prop}{k v:Nat}(hk:k<2^256)(hv:v<2^256){a x b1:Nat}(ha:a<2^256)(hx:x<2^256)(hak:a=k)(d:Nat)(w:World)(hG:GT q w)(hB1:Blk w b1 (ndc a x nlp nlp false (sL a x) 1) 160):
  Calls Tryz.prog 94 #[ptr b1,.agg (lf k v),.int .i64 (d:Int)] w fun e w' =>Q0o (J33 k v (.leaf a x) d) w w' e:=by
 have hS:=SH.nil [] w;have hA:TA w (.leaf a x) (ptr b1):=TA.leaf' hB1 ha hx
 go_enter Tryz.func94,Tryz.ntmps94
 go_upto_region 0 with fail;refine RL hS ?_;clear hS;refine MN (z:=lf k v) (t:=57) ?_;intro G;refine MV ?_;refine MZ fun W hS=> ?_;go_upto_region 2 with fail;refine RTh (.q 0 (.q 1 (.q 2 (.q 3 (.q 4 (.q 5 (.q 6 (.q 7 (.q 8 (.q 9 (.q 10 (.q 11 (.q 12 (.q 13 (.q 14 (.q 15 .z)))))))))))))))) hS ?_;clear hS;(iterate 3 refine TV ?_);refine TF (v:=.bool false) rfl (fun W hS=>Z9 rfl rfl (by rw[J4 (J3 hB1 hS.ext)];exact J9e) (by kernel_rfl)) ?_;refine Tt ?_;refine Tt ?_;(iterate 4 refine TV ?_);refine TF (v:=.agg (J0 .u8 32 (J7 a))) rfl (fun W hS=>J0k (vs:=(J0 .u8 32 (J7 a)).toList) rfl rfl (fun i v hv=>by rw[J4 (J3 hB1 hS.ext)];exact Q0n i v (by simpa using hv)) (by kernel_rfl) (by first|kernel_rfl|(simp only[Array.length_toList];rw[J1];kernel_rfl))) ?_;refine TV ?_;refine Tl 0 Z7i ?_;refine TW ?_ (v:=.bool true) (hv:=fun _=>J8x ((fun w=>(V26 a k ha hk w).trans (by rw[decide_eq_true hak])) _) (by kernel_rfl) rfl rfl rfl);refine Tt ?_;refine Tt ?_;refine TZ (fun _ h=>h) fun W hS=> ?_;go_upto_region 3 with fail;refine RL hS ?_;clear hS;refine ML 0 ?_ (hs:=by rw[J5l];kernel_rfl);refine ME (fun W hS=>J5d hS (Z56 hk hv W (J0y hG hS.ext)) rfl) ?_;intro D;refine MV ?_;refine MZ fun W hS=> ?_;go_wp2;exact bodyPost_ret (v:=D) (by simp only[results,Tryz.results94];go_simp) rfl ⟨_,rfl,hS.ext,(by rw[show J33 k v (.leaf a x) d=.leaf k v from if_pos hak];exact hS.tt (i:=0) rfl)⟩
theorem V77 {q:Prop}{k v:Nat}(hk:k<2^256)(hv:v<2^256){a x b1:Nat}(ha:a<2^256)(hx:x<2^256)(hak:¬a=k)(d:Nat)(hdl:d<4611686018427387904)(w:World)(hG:GT q w)(hB1:Blk w b1 (ndc a x nlp nlp false (sL a x) 1) 160):
  Calls Tryz.prog 94 #[ptr b1,.agg (lf k v),.int .i64 (d:Int)] w fun e w' =>Q0o (J33 k v (.leaf a x) d) w w' e:=by
 have hS:=SH.nil [] w;have hA:TA w (.leaf a x) (ptr b1):=TA.leaf' hB1 ha hx
 go_enter Tryz.func94,Tryz.ntmps94
 go_upto_region 0 with fail;refine RL hS ?_;clear hS;refine MN (z:=lf k v) (t:=57) ?_;intro J;refine MV ?_;refine MZ fun W hS=> ?_;go_upto_region 2 with fail;refine RTh (.q 0 (.q 1 (.q 2 (.q 3 (.q 4 (.q 5 (.q 6 (.q 7 (.q 8 (.q 9 (.q 10 (.q 11 (.q 12 (.q 13 (.q 14 (.q 15 .z)))))))))))))))) hS ?_;clear hS;(iterate 3 refine TV ?_);refine TF (v:=.bool false) rfl (fun W hS=>Z9 rfl rfl (by rw[J4 (J3 hB1 hS.ext)];exact J9e) (by kernel_rfl)) ?_;refine Tt ?_;refine Tt ?_;(iterate 4 refine TV ?_);refine TF (v:=.agg (J0 .u8 32 (J7 a))) rfl (fun W hS=>J0k (vs:=(J0 .u8 32 (J7 a)).toList) rfl rfl (fun i v hv=>by rw[J4 (J3 hB1 hS.ext)];exact Q0n i v (by simpa using hv)) (by kernel_rfl) (by first|kernel_rfl|(simp only[Array.length_toList];rw[J1];kernel_rfl))) ?_;refine TV ?_;refine Tl 0 Z7i ?_;refine TW ?_ (v:=.bool false) (hv:=fun _=>J8x ((fun w=>(V26 a k ha hk w).trans (by rw[decide_eq_false hak])) _) (by kernel_rfl) rfl rfl rfl);refine Tf ?_;refine Tf ?_;refine TZ (fun _ h=>h) fun W hS=> ?_;go_upto_region 4 with fail;refine RL hS ?_;clear hS;(iterate 3 refine MV ?_);refine MF (v:=.bool false) (fun W hS=>Z9 rfl rfl (by rw[J4 (J3 hB1 hS.ext)];exact J9e) (by kernel_rfl)) ?_;refine Wt ?_;refine Wt ?_;refine MZ fun W hS=> ?_;go_upto_region 5 with fail;refine RL hS ?_;clear hS;refine MV ?_;refine ML 0 ?_ (hs:=by rw[J5l];kernel_rfl);refine ME (fun W hS=>J5d hS (Z56 hk hv W (J0y hG hS.ext)) rfl) ?_;intro G;refine MV ?_;refine ME (fun W hS=>J5d hS (V75 d hdl W (J0y hG hS.ext) (TA.ext hA hS.ext) (hS.tt (i:=0) rfl)) rfl) ?_;intro D;refine MV ?_;refine MZ fun W hS=> ?_;go_wp2;exact bodyPost_ret (v:=D) (by simp only[results,Tryz.results94];go_simp) rfl ⟨_,rfl,hS.ext,(by rw[show J33 k v (.leaf a x) d=J6m a x k v d from if_neg hak];exact hS.tt (i:=0) rfl)⟩
theorem K1z {q:Prop}{k v:Nat}(hk:k<2^256)(hv:v<2^256){e0 b:Nat}{l r:TR}{p0 p1:Option Addr}(d:Nat)(hdl:d<4611686018427387904)(hn:cnt l+cnt r<2305843009213693952)(hb:kb k d=0)(w:World)(hG:GT q w)(hB:Blk w b (ndc 0 0 (.pointer p0) (.pointer p1) true (rs (.node e0 l r)) (cnt l+cnt r)) 160)(hl:TA w l (.pointer p0))(hr:TA w r (.pointer p1))(ih:∀W,GT q W→TA W l (.pointer p0)→Calls Tryz.prog 94 #[.pointer p0,.agg (lf k v),.int .i64 ((d+1:Nat):Int)] W fun e w' =>Q0o (J33 k v l (d+1)) W w' e):
  Calls Tryz.prog 94 #[ptr b,.agg (lf k v),.int .i64 (d:Int)] w fun e w' =>Q0o (J33 k v (.node e0 l r) d) w w' e:=by
 have hS:=SH.nil [] w
 go_enter Tryz.func94,Tryz.ntmps94
 go_upto_region 0 with fail;refine RL hS ?_;clear hS;refine MN (z:=lf k v) (t:=57) ?_;intro M;refine MV ?_;refine MZ fun W hS=> ?_;go_upto_region 2 with fail;refine RTh (.q 0 (.q 1 (.q 2 (.q 3 (.q 4 (.q 5 (.q 6 (.q 7 (.q 8 (.q 9 (.q 10 (.q 11 (.q 12 (.q 13 (.q 14 (.q 15 .z)))))))))))))))) hS ?_;clear hS;(iterate 3 refine TV ?_);refine TF (v:=.bool true) rfl (fun W hS=>Z9 rfl rfl (by rw[J4 (J3 hB hS.ext)];exact J9e) (by kernel_rfl)) ?_;refine Tf ?_;refine Tf ?_;(iterate 8 refine TS ?_);refine Tf ?_;refine Tf ?_;refine TZ (fun _ h=>h) fun W hS=> ?_;go_upto_region 4 with fail;refine RL hS ?_;clear hS;(iterate 3 refine MV ?_);refine MF (v:=.bool true) (fun W hS=>Z9 rfl rfl (by rw[J4 (J3 hB hS.ext)];exact J9e) (by kernel_rfl)) ?_;refine Wf ?_;refine Wf ?_;refine MZ fun W hS=> ?_;go_upto_region 6 with fail;refine RL hS ?_;clear hS;(iterate 3 refine MV ?_);refine MF (v:=.agg #[(.pointer p0),(.pointer p1)]) (fun W hS=>J0k (vs:=(#[(.pointer p0),(.pointer p1)]).toList) rfl rfl (fun i v hv=>by rw[J4 (J3 hB hS.ext)];exact Z1f i v (by simpa using hv)) (by kernel_rfl) (by kernel_rfl)) ?_;refine MN (z:= #[.pointer none,.pointer none]) (t:=158) ?_;intro G;refine MR 0 ?_;refine MZ fun W hS=> ?_;go_upto_region 7 with fail;refine RL hS ?_;clear hS;refine MV ?_;refine Ml 1 Z7i ?_;refine MV ?_;refine MC (v:=.int .i64 0) (fun W hS=>(hb▸Q2t k d hdl W)) ?_;refine W0 ?_;refine MZ fun W hS=> ?_;go_upto_region 8 with fail;refine RTp [1] (.q 0 (.q 1 (.q 2 (.q 4 (.q 5 (.q 6 (.e 3 (.e 7 (.q 8 (.e 9 .z)))))))))) hS ?_;clear hS;refine T0 ?_;refine T0 ?_;refine TW ?_ (v:=.pointer (some ⟨G,0,none⟩)) (hv:=fun _=>J1c (m:=2) (k:=1) (j:=0) (off:=0) (by decide) Tryz.underlying158 (by kernel_rfl) rfl rfl rfl);refine TL 0 ?_ (hs:=by rw[J5l];kernel_rfl);refine TV ?_;refine TW ?_ (v:=.int .i64 ((d+1:Nat):Int)) (hv:=by intro W;go_simp;(try simp only[IntKind.wrap_i64]);omega);refine TE (fun _ h=>h.pick [1]) ?_;refine MG 0 ?_ (v:=.pointer p0);refine TNp [1] [0] ?_;refine TE (fun _ h=>h.pick [1]) ?_;refine ME (fun W hS=>J5d hS (ih W (J0y hG hS.ext) (TA.ext hl hS.ext)) rfl) ?_;intro D;refine TNp [0,2] [1] ?_;refine TW ?_ (v:=.pointer (some ⟨G,0,none⟩)) (hv:=fun _=>J1c (m:=2) (k:=1) (j:=0) (off:=0) (by decide) Tryz.underlying158 (by kernel_rfl) rfl rfl rfl);refine TE (fun _ h=>h.pick [0,2]) ?_;refine MP 1 (v:=D) ?_ (hv:=fun W hS=>TA.one (hS.tt (i:=0) rfl));refine TNp [0,2] [0,1] ?_;refine TZ (fun _ h=>h.pick [0,2]) fun W hS=> ?_;go_upto_region 9 with fail;refine RL hS ?_;clear hS;refine MV ?_;refine MW ?_ (v:=.pointer (some ⟨G,0,none⟩)) (hv:=fun _=>J1c (m:=2) (k:=1) (j:=0) (off:=0) (by decide) Tryz.underlying158 (by kernel_rfl) rfl rfl rfl);refine MG 1 ?_ (v:=D);refine MW ?_ (v:=.pointer (some ⟨G,1,none⟩)) (hv:=fun _=>J1c (m:=2) (k:=1) (j:=1) (off:=0) (by decide) Tryz.underlying158 (by kernel_rfl) rfl rfl rfl);refine MG 1 ?_ (v:=.pointer p1);refine ME (fun W hS=>J5d hS (J9f d (by have N:=J63 k v l (d+1);have R:=J63 k v r (d+1);omega) W (J0y hG hS.ext) (hS.tt (i:=0) rfl) (TA.ext hr hS.ext)) rfl) ?_;intro J;refine MV ?_;refine MZ fun W hS=> ?_;go_wp2;exact bodyPost_ret (v:=J) (by simp only[results,Tryz.results94];go_simp) rfl ⟨_,rfl,hS.ext,(by rw[show J33 k v (.node e0 l r) d=.node d (J33 k v l (d+1)) r from if_pos hb];exact hS.tt (i:=0) rfl)⟩
theorem K20 {q:Prop}{k v:Nat}(hk:k<2^256)(hv:v<2^256){e0 b:Nat}{l r:TR}{p0 p1:Option Addr}(d:Nat)(hdl:d<4611686018427387904)(hn:cnt l+cnt r<2305843009213693952)(hb:kb k d=1)(w:World)(hG:GT q w)(hB:Blk w b (ndc 0 0 (.pointer p0) (.pointer p1) true (rs (.node e0 l r)) (cnt l+cnt r)) 160)(hl:TA w l (.pointer p0))(hr:TA w r (.pointer p1))(ih:∀W,GT q W→TA W r (.pointer p1)→Calls Tryz.prog 94 #[.pointer p1,.agg (lf k v),.int .i64 ((d+1:Nat):Int)] W fun e w' =>Q0o (J33 k v r (d+1)) W w' e):
  Calls Tryz.prog 94 #[ptr b,.agg (lf k v),.int .i64 (d:Int)] w fun e w' =>Q0o (J33 k v (.node e0 l r) d) w w' e:=by
 have hS:=SH.nil [] w
 go_enter Tryz.func94,Tryz.ntmps94
 go_upto_region 0 with fail;refine RL hS ?_;clear hS;refine MN (z:=lf k v) (t:=57) ?_;intro M;refine MV ?_;refine MZ fun W hS=> ?_;go_upto_region 2 with fail;refine RTh (.q 0 (.q 1 (.q 2 (.q 3 (.q 4 (.q 5 (.q 6 (.q 7 (.q 8 (.q 9 (.q 10 (.q 11 (.q 12 (.q 13 (.q 14 (.q 15 .z)))))))))))))))) hS ?_;clear hS;(iterate 3 refine TV ?_);refine TF (v:=.bool true) rfl (fun W hS=>Z9 rfl rfl (by rw[J4 (J3 hB hS.ext)];exact J9e) (by kernel_rfl)) ?_;refine Tf ?_;refine Tf ?_;(iterate 8 refine TS ?_);refine Tf ?_;refine Tf ?_;refine TZ (fun _ h=>h) fun W hS=> ?_;go_upto_region 4 with fail;refine RL hS ?_;clear hS;(iterate 3 refine MV ?_);refine MF (v:=.bool true) (fun W hS=>Z9 rfl rfl (by rw[J4 (J3 hB hS.ext)];exact J9e) (by kernel_rfl)) ?_;refine Wf ?_;refine Wf ?_;refine MZ fun W hS=> ?_;go_upto_region 6 with fail;refine RL hS ?_;clear hS;(iterate 3 refine MV ?_);refine MF (v:=.agg #[(.pointer p0),(.pointer p1)]) (fun W hS=>J0k (vs:=(#[(.pointer p0),(.pointer p1)]).toList) rfl rfl (fun i v hv=>by rw[J4 (J3 hB hS.ext)];exact Z1f i v (by simpa using hv)) (by kernel_rfl) (by kernel_rfl)) ?_;refine MN (z:= #[.pointer none,.pointer none]) (t:=158) ?_;intro G;refine MR 0 ?_;refine MZ fun W hS=> ?_;go_upto_region 7 with fail;refine RL hS ?_;clear hS;refine MV ?_;refine Ml 1 Z7i ?_;refine MV ?_;refine MC (v:=.int .i64 1) (fun W hS=>(hb▸Q2t k d hdl W)) ?_;refine MW ?_ (v:=.int .i64 1);refine MZ fun W hS=> ?_;go_upto_region 8 with fail;refine RTp [1] (.q 0 (.q 1 (.q 2 (.q 4 (.q 5 (.q 6 (.e 3 (.e 7 (.q 8 (.e 9 .z)))))))))) hS ?_;clear hS;refine TW ?_ (v:=.int .i64 1);refine TW ?_ (v:=.int .i64 1);refine TW ?_ (v:=.pointer (some ⟨G,1,none⟩)) (hv:=fun _=>J1c (m:=2) (k:=1) (j:=1) (off:=0) (by decide) Tryz.underlying158 (by kernel_rfl) rfl rfl rfl);refine TL 0 ?_ (hs:=by rw[J5l];kernel_rfl);refine TV ?_;refine TW ?_ (v:=.int .i64 ((d+1:Nat):Int)) (hv:=by intro W;go_simp;(try simp only[IntKind.wrap_i64]);omega);refine TE (fun _ h=>h.pick [1]) ?_;refine MG 0 ?_ (v:=.pointer p1);refine TNp [1] [0] ?_;refine TE (fun _ h=>h.pick [1]) ?_;refine ME (fun W hS=>J5d hS (ih W (J0y hG hS.ext) (TA.ext hr hS.ext)) rfl) ?_;intro D;refine TNp [0,2] [1] ?_;refine TW ?_ (v:=.pointer (some ⟨G,1,none⟩)) (hv:=fun _=>J1c (m:=2) (k:=1) (j:=1) (off:=0) (by decide) Tryz.underlying158 (by kernel_rfl) rfl rfl rfl);refine TE (fun _ h=>h.pick [0,2]) ?_;refine MP 1 (v:=D) ?_ (hv:=fun W hS=>TA.one (hS.tt (i:=0) rfl));refine TNp [0,2] [0,1] ?_;refine TZ (fun _ h=>h.pick [0,2]) fun W hS=> ?_;go_upto_region 9 with fail;refine RL hS ?_;clear hS;refine MV ?_;refine MW ?_ (v:=.pointer (some ⟨G,0,none⟩)) (hv:=fun _=>J1c (m:=2) (k:=1) (j:=0) (off:=0) (by decide) Tryz.underlying158 (by kernel_rfl) rfl rfl rfl);refine MG 1 ?_ (v:=.pointer p0);refine MW ?_ (v:=.pointer (some ⟨G,1,none⟩)) (hv:=fun _=>J1c (m:=2) (k:=1) (j:=1) (off:=0) (by decide) Tryz.underlying158 (by kernel_rfl) rfl rfl rfl);refine MG 1 ?_ (v:=D);refine ME (fun W hS=>J5d hS (J9f d (by have N:=J63 k v l (d+1);have R:=J63 k v r (d+1);omega) W (J0y hG hS.ext) (TA.ext hl hS.ext) (hS.tt (i:=0) rfl)) rfl) ?_;intro J;refine MV ?_;refine MZ fun W hS=> ?_;go_wp2;exact bodyPost_ret (v:=J) (by simp only[results,Tryz.results94];go_simp) rfl ⟨_,rfl,hS.ext,(by rw[show J33 k v (.node e0 l r) d=.node d l (J33 k v r (d+1)) from if_neg (by rw[hb];decide)];exact hS.tt (i:=0) rfl)⟩
theorem Y5e {q:Prop}{k v:Nat}(hk:k<2^256)(hv:v<2^256):∀{T:TR} {u:Value} (d:Nat),d+tsz T<4611686018427387904→cnt T<2305843009213693952→∀(w:World),GT q w→TA w T u→Calls Tryz.prog 94 #[u,.agg (lf k v),.int .i64 (d:Int)] w fun e w' =>Q0o (J33 k v T d) w w' e
 | .nil,_,d,_,_,w,hG,h=>by rw[show _=nlp from h];exact V00 hk hv d w hG
 | .leaf a x,_,d,hd_,_,w,hG,⟨b1,h1,hB1,ha,hx⟩=>by
  subst h1
  by_cases hak:a=k
  ·
   exact V76 hk hv ha hx hak d w hG hB1
  ·
   exact V77 hk hv ha hx hak d (by omega) w hG hB1
 | .node e l r,_,d,hd_,hn,w,hG,⟨b,s0,s1,h1,hB,hl,hr⟩=>by
  subst h1;obtain⟨p0,rfl⟩:=hl.pt;obtain⟨p1,rfl⟩:=hr.pt;have hd2:d+(1+tsz l+tsz r)<4611686018427387904:=hd_;have hn2:cnt l+cnt r<2305843009213693952:=hn;have hb2:=K1w k d;rcases Nat.lt_or_ge 0 (kb k d) with hb|hb
  ·
   exact K20 hk hv d (by omega) hn2 (by omega) w hG hB hl hr fun W hG' h' =>Y5e hk hv (T:=r) (d+1) (by omega) (by omega) W hG' h'
  ·
   exact K1z hk hv d (by omega) hn2 (by omega) w hG hB hl hr fun W hG' h' =>Y5e hk hv (T:=l) (d+1) (by omega) (by omega) W hG' h'
end
end Go.Proofs.YtlkbneflnjmgbaaGreatDoor

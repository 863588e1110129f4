/- Contracts and plain laws for directPuts_holds. Conditions: the tables hold their numbers. -/
import Derived.Test.YteehbddkcnkhfaaGreatDoorJ5
import Derived.Test.YteehbddkcnkhfaaGreatDoorJ7
open Go.RowKit
set_option linter.unusedSimpArgs false
set_option linter.unusedVariables false
namespace Go.Proofs.YteehbddkcnkhfaaGreatDoor.S8
section
end

section

section
variable {w : World} {o : Oper} {a : Act}
end
section
variable {P : Program} {w : World} {o : Oper} {a : Act} {x y : Operand} {t t' : TypeId} {p q : Int}
end
end

section

def zc (n:Nat):Nat:=(239-n % 128) % 128
def pad (l:List UInt8):List UInt8:=l++[128]++List.replicate (zc l.length) 0++List.replicate 8 0++be8 (8*l.length)
def nb (n:Nat):Nat:=(n+1+zc n+16) / 128
theorem Q8i (n:Nat):(n+1+zc n) % 128=112∧zc n<128:=by unfold zc;omega
theorem K0b {n k:Nat}(h:k<zc n):(n+1+k) % 128≠112:=by unfold zc at h;omega
theorem Z2o (l:List UInt8):(pad l).length=128*nb l.length:=by
  have h:=Q8i l.length;unfold pad nb;simp only[List.length_append,List.length_cons,List.length_nil,List.length_replicate,be8];omega
def Hs (P:List UInt8):Nat→Nat→Int
  |0=>hf
  |j+1=>prs (Hs P j) (bt (P.drop (128*j)))
def ob (H:Nat→Int)(j:Nat):Int:=w8 (sr (H (j / 8)) (8*(7-j % 8)))
def Q61 (H:Nat→Int)(n j:Nat):Int:=if j<n then ob H j else 0
theorem Z7k (H:Nat→Int):Q61 H 0=fun _=>0:=by funext j;unfold Q61;rw[if_neg (by omega)]
theorem Z7l (H:Nat→Int)(i k:Nat)(hk:k<8):upd (Q61 H (8*i+k)) (8*i+k) (w8 (sr (H i) (8*(7-k))))=Q61 H (8*i+(k+1)):=by
  funext j
  unfold upd Q61
  by_cases h:j=8*i+k
  · subst h
    rw[if_pos rfl,if_pos (by omega),ob,show(8*i+k) / 8=i by omega,show(8*i+k) % 8=k by omega]
  rw[if_neg h]
  by_cases hl:j<8*i+k
  · rw[if_pos hl,if_pos (by omega)]
  rw[if_neg hl,if_neg (by omega)]
theorem Y2r (H:Nat→Int):J0 .u8 64 (Q61 H 64)=J0 .u8 64 (ob H):=X8 _ _ _ _ fun j hj=>by unfold Q61;rw[if_pos hj]
def sm (l:List UInt8):Nat→Int:=ob (Hs (pad l) (nb l.length))
theorem Q2f (P:List UInt8)(j:Nat):List.drop 128 (List.drop (128*j) P)=List.drop (128*(j+1)) P:=by
  rw[List.drop_drop];congr 1
theorem Z7m {w:World}{v:Value}{l:List UInt8}(h:Own w v l):Sl w v (List.drop (128*0) l):=h.sl
end

section
set_option maxHeartbeats 4000000
set_option maxRecDepth 100000
attribute [local irreducible] wpList
theorem Y80 (h:Nat→Int)(l:List UInt8)(u:Value)(hl:128≤l.length)(w:World)(hs:Sl w u l)(hG:GS w):Calls Tryz.prog 131 #[.agg (J0 .u64 8 h),u] w fun e w' =>K7 (.agg (J0 .u64 8 (prs h (bt l)))) w w' e:=by
  obtain⟨ad,c,rfl,_⟩:=Q7q hs (by omega);exact Y6w h l ad c hl w hs hG

theorem K0h (ps:List (List UInt8))(A:Option Addr)(c:Nat)(F:List UInt8)(hF:ps.flatten=F)(hlen:F.length≤70368744177664)(hpn:ps.length≤9223372036854775000)(w:World)(hps:∀i l,ps[i]?=some l→∃ad u,A=some ad∧w.cell? (ad.add i)=some u∧Sl w u l)(hG:GS w):
  Calls Tryz.prog 89 #[.slice A ps.length c] w fun e w' =>K7 (.agg (J0 .u8 64 (sm F))) w w' e:=by
 have HG:=Lib.hid hG;have M1:=Lib.hid hps;clear hG hps;have ξ:=Z2o F;have hzc:=(Q8i F.length).2;have D:Off [] w w:=Off.refl _ _
 go_enter Tryz.func89,Tryz.ntmps89
 go_upto_region 0 with fail;refine wp_region_lit ?_;refine Ln ?_ (z:=J0 .u8 64 (fun _=>0)) (t:=89);intro V5 W1 G9 hO h_;have S7:=fbn D G9;replace D:=D.o hO;have G:=h_;clear hO h_ G9;refine J5 ?_;go_upto_region 2 with fail;refine wp_region_lit ?_;refine Lv ?_;refine Lv ?_;refine Lw ?_ (v:=.int .i64 0);refine J5 ?_;have J:=Q3p W1;have N:Fr (Value.ownBlock (.slice none 0 0)) w.heap.size []:=Y6i;have Y7:Value.ownBlock (.slice none 0 0)≠some V5:=fun e_=>by cases e_
 go_wp2_with fail
 go_loopw [3,15] (fun sv ii wr=> ∃(i:Nat)(bv:Value),(i≤ps.length)∧(bv=sv)∧(ii=.int .i64 (i:Int))∧Off [] w wr∧Blk wr V5 (J0 .u8 64 (fun _=>0)) 89∧Own wr bv ((List.take i ps).flatten)∧Fr (Value.ownBlock bv) w.heap.size []∧(Value.ownBlock bv)≠some V5)
  (fun sv ii _=>ps.length-(intOf ii).toNat)
 case atStart=>exact⟨0,_,Nat.zero_le _,rfl,rfl,D,G,J,N,Y7⟩
 case round=>
  obtain⟨i,bv,hi,rfl,rfl,D,G,J,N,Y7⟩:=hrel;obtain⟨W2,γ⟩:=J74 D;subst γ
  by_cases κ:i<ps.length
  ·
   obtain⟨l_,Θ⟩:∃l,ps[i]?=some l:=⟨_,List.getElem?_eq_getElem κ⟩
   obtain⟨N4,u_,R6,M8,R5⟩:=M1.out i l_ Θ;have Z1:(List.take i ps).flatten.length+l_.length≤F.length:=by rw[←hF,←List.length_append,←J5r Θ];exact Q45 _ _
   go_upto_region 3 with fail;refine wp_region_lit ?_;refine Lw ?_ (v:=.bool true);refine J5 ?_;go_upto_region 4 with fail;refine wp_region_lit ?_;refine Lw ?_ (v:=.pointer (some (N4.add i))) (hv:=Q78 (j:=i) κ rfl (by rw[←R6];rfl) rfl);refine V3b (by rfl) rfl rfl (J12 M8 D.ext) (by kernel_rfl) ?_
   (try simp only[Act.put,mA,mB,mC])
   refine Lv ?_;refine J5 ?_;go_upto_region 5 with fail;refine wp_region_lit ?_;refine Lv ?_;refine Lv ?_;refine J0i (xs:=((List.take i ps).flatten)) (ys:=l_) (by rfl) rfl rfl rfl J (R5.off D f0) (by first|omega|(simp only[List.length_append,List.length_cons,List.length_nil,List.length_replicate];omega)) ?_
   (try simp only[Act.put,mA,mB,mC])
   intro X4 W3 G8 hO Ψ τ;clear τ;have T6:=J3e Ψ Y7 (Q6 G);have R8:=J4i Ψ N D.size;replace G:=J0p G hO (nmo Y7);replace D:=D.step hO (io N);clear hO Ψ;have J:=G8;clear G8;have N:=R8;have Y7:=T6;refine Lv ?_;refine J5 ?_;go_wp2;go_roundw
   case rel=>exact⟨i+1,_,by omega,rfl,by go_num,D,G,(by rw[J5r Θ];exact J),N,Y7⟩
   case measure=>simp[intOf];omega
  obtain rfl:i=ps.length:=by omega
  rw[List.take_length,hF] at J;go_upto_region 3 with fail;refine wp_region_lit ?_;refine Lw ?_ (v:=.bool false);refine J5 ?_;go_upto_region 7 with fail;refine wp_region_lit ?_;refine Lv ?_;refine Q18 (l:=F) (J.sl) (by rfl) rfl rfl ?_
  (try simp only[Act.put,mA,mB,mC])
  refine Lw ?_ (v:=.int .u64 ((F.length:Nat):Int)) (hv:=by go_simp;(try simp only[IntKind.wrap_u64,IntKind.wrap_i64]);(try omega));refine Lw ?_ (v:=.int .u64 ((8*F.length:Nat):Int)) (hv:=by rw[show((8*F.length:Nat):Int)=sl ((F.length:Nat):Int) 3 from(by unfold sl;rw[IntKind.wrap_u64];omega)];exact J46 (n:=3) (by decide) rfl rfl rfl);refine Lv ?_;refine J5 ?_;go_upto_region 8 with fail;refine wp_region_lit ?_;refine Lv ?_;refine LnS ?_ (z:= #[.int .u8 128]) (t:=5) (n:=1) (c:=1);intro R2 W3 T7 hO h_;replace G:=G.o hO;replace J:=Own.off J hO f0;replace D:=D.o hO;have η:Own W3 (.slice (some ⟨R2,0,none⟩) 1 1) [128]:=J2q h_ (by rfl) (by show 1≤maxLen;decide);clear hO h_ T7;refine J0i (xs:=F) (ys:=[128]) (by rfl) rfl rfl rfl J (η.sl) (by first|omega|(simp only[List.length_append,List.length_cons,List.length_nil,List.length_replicate];omega)) ?_
  (try simp only[Act.put,mA,mB,mC])
  intro X2 W4 D5 hO ψ φ;clear φ;have M2:=J3e ψ Y7 (Q6 G);have N2:=J4i ψ N D.size;replace G:=J0p G hO (nmo Y7);replace D:=D.step hO (io N);clear hO ψ;have J:=D5;clear D5;have N:=N2;have Y7:=M2;refine Lv ?_;refine J5 ?_;clear η
  go_wp2_with fail
  go_loopw [3] (fun sv wr=> ∃(k:Nat)(bv:Value),(k≤zc F.length)∧(bv=sv)∧Off [] w wr∧Blk wr V5 (J0 .u8 64 (fun _=>0)) 89∧Own wr bv (F++[128]++List.replicate k 0)∧Fr (Value.ownBlock bv) w.heap.size []∧(Value.ownBlock bv)≠some V5)
   (fun sv _=>F.length+300-Q2t sv)
  case atStart=>exact⟨0,_,Nat.zero_le _,rfl,D,G,(by rw[List.replicate_zero,List.append_nil];exact J),N,Y7⟩
  case round=>
   obtain⟨k,bv,hk,rfl,D,G,J,N,Y7⟩:=hrel;obtain⟨W5,γ⟩:=J74 D;subst γ;have lb:=Z5v J
   by_cases hz:k<zc F.length
   ·
    have R9:=K0b hz;go_upto_region 9 with fail;refine wp_region_lit ?_;refine Lv ?_;refine Q18 (l:=(F++[128]++List.replicate k 0)) (J.sl) (by rfl) rfl rfl ?_
    (try simp only[Act.put,mA,mB,mC])
    refine Lw ?_ (v:=.int .i64 (((F.length+1+k) % 128:Nat):Int)) (hv:=by go_simp;(try simp only[List.length_append,List.length_cons,List.length_nil,List.length_replicate]);rw[Int.tmod_eq_emod_of_nonneg (by omega)];omega);refine Lw ?_ (v:=.bool true) (hv:=by go_simp;omega);refine J5 ?_;go_upto_region 10 with fail;refine wp_region_lit ?_;refine Lv ?_;refine LnS ?_ (z:= #[.int .u8 0]) (t:=5) (n:=1) (c:=1);intro N7 W6 T2 hO h_;replace G:=G.o hO;replace J:=Own.off J hO f0;replace D:=D.o hO;have Δ:Own W6 (.slice (some ⟨N7,0,none⟩) 1 1) [0]:=J2q h_ (by rfl) (by show 1≤maxLen;decide);clear hO h_ T2;refine J0i (xs:=(F++[128]++List.replicate k 0)) (ys:=[0]) (by rfl) rfl rfl rfl J (Δ.sl) (by first|omega|(simp only[List.length_append,List.length_cons,List.length_nil,List.length_replicate];omega)) ?_
    (try simp only[Act.put,mA,mB,mC])
    intro Z3 W7 D0 hO Ω σ;clear σ;have M4:=J3e Ω Y7 (Q6 G);have T8:=J4i Ω N D.size;replace G:=J0p G hO (nmo Y7);replace D:=D.step hO (io N);clear hO Ω;have J:=D0;clear D0;have N:=T8;have Y7:=M4;refine Lv ?_;refine J5 ?_;have la:=Z5v J;simp only[List.length_append,List.length_cons,List.length_nil,List.length_replicate] at la lb;go_wp2;go_roundw
    case rel=>exact⟨k+1,_,by omega,rfl,D,G,(by rw[List.replicate_succ',←List.append_assoc];exact J),N,Y7⟩
    case measure=>simp only[la,lb];omega
   obtain rfl:k=zc F.length:=by omega
   have R9:=(Q8i F.length).1;go_upto_region 9 with fail;refine wp_region_lit ?_;refine Lv ?_;refine Q18 (l:=(F++[128]++List.replicate (zc F.length) 0)) (J.sl) (by rfl) rfl rfl ?_
   (try simp only[Act.put,mA,mB,mC])
   refine Lw ?_ (v:=.int .i64 (((F.length+1+zc F.length) % 128:Nat):Int)) (hv:=by go_simp;(try simp only[List.length_append,List.length_cons,List.length_nil,List.length_replicate]);rw[Int.tmod_eq_emod_of_nonneg (by omega)];omega);refine Lw ?_ (v:=.bool false) (hv:=by first|(go_simp;done)|(go_simp;omega));refine J5 ?_;go_upto_region 11 with fail;refine wp_region_lit ?_;refine Lv ?_;refine Z0l (xs:=(F++[128]++List.replicate (zc F.length) 0)) (m:=8) (by decide) (by rfl) rfl rfl rfl J (by first|omega|(simp only[List.length_append,List.length_cons,List.length_nil,List.length_replicate];omega)) ?_
   (try simp only[Act.put,mA,mB,mC])
   intro S6 W6 G0 hO Γ;have X0:=J3e Γ Y7 (Q6 G);have T5:=J4i Γ N D.size;replace G:=J0p G hO (nmo Y7);replace D:=D.step hO (io N);clear hO Γ;have J:=G0;clear G0;have N:=T5;have Y7:=X0;refine Lv ?_;refine J5 ?_
   go_wp2_with fail
   refine wp_loop_rounds 9 ?_;rw[rounds_succ];go_upto_region 15 with fail;refine wp_region_lit ?_;refine Lv ?_;refine Lv ?_;refine Lw ?_ (v:=.int .i64 7);refine Lw ?_ (v:=.int .i64 56);refine Lw ?_ (v:=.int .u64 (sr ((8*F.length:Nat):Int) 56)) (hv:=J18 (n:=56) (by decide) rfl rfl rfl);refine Lw ?_ (v:=.int .u8 ((u8 ((8*F.length) / 72057594037927936)).toNat:Int)) (hv:=by rw[←J3q (8*F.length) 56 72057594037927936 (by decide)];exact J2z rfl rfl);refine LnS ?_ (z:= #[.int .u8 ((u8 ((8*F.length) / 72057594037927936)).toNat:Int)]) (t:=5) (n:=1) (c:=1);intro D8 W7 X hO h_;have V4:∀x,(Value.ownBlock S6)=some x→Value.ownBlock (.slice (some ⟨D8,0,none⟩) 1 1)≠some x:=Q0j (Own.lt J) X;replace G:=G.o hO;replace J:=Own.off J hO f0;replace D:=D.o hO;have M:Own W7 (.slice (some ⟨D8,0,none⟩) 1 1) [u8 ((8*F.length) / 72057594037927936)]:=J2q h_ (by rfl) (by show 1≤maxLen;decide);clear hO h_ X;refine J0i (xs:=((F++[128]++List.replicate (zc F.length) 0)++List.replicate 8 0)) (ys:=[u8 ((8*F.length) / 72057594037927936)]) (by rfl) rfl rfl rfl J (M.sl) (by first|omega|(simp only[List.length_append,List.length_cons,List.length_nil,List.length_replicate];omega)) ?_
   (try simp only[Act.put,mA,mB,mC])
   intro T9 W8 V hO S R;clear R;have Y:=J3e S Y7 (Q6 G);have β:=Q27 S V4 (Own.lt M);have α:=J4i S N D.size;replace G:=J0p G hO (nmo Y7);replace M:=Own.off M hO (fo V4);replace D:=D.step hO (io N);clear hO S;have J:=V;clear V;have N:=α;have Y7:=Y;have V4:=β;refine Lv ?_;refine J5 ?_
   go_wp2_with fail
   rw[rounds_succ];go_upto_region 15 with fail;refine wp_region_lit ?_;refine Lv ?_;refine Lv ?_;refine Lw ?_ (v:=.int .i64 6);refine Lw ?_ (v:=.int .i64 48);refine Lw ?_ (v:=.int .u64 (sr ((8*F.length:Nat):Int) 48)) (hv:=J18 (n:=48) (by decide) rfl rfl rfl);refine Lw ?_ (v:=.int .u8 ((u8 ((8*F.length) / 281474976710656)).toNat:Int)) (hv:=by rw[←J3q (8*F.length) 48 281474976710656 (by decide)];exact J2z rfl rfl);clear M V4;refine LnS ?_ (z:= #[.int .u8 ((u8 ((8*F.length) / 281474976710656)).toNat:Int)]) (t:=5) (n:=1) (c:=1);intro G4 W9 X hO h_;have V4:∀x,(Value.ownBlock T9)=some x→Value.ownBlock (.slice (some ⟨G4,0,none⟩) 1 1)≠some x:=Q0j (Own.lt J) X;replace G:=G.o hO;replace J:=Own.off J hO f0;replace D:=D.o hO;have M:Own W9 (.slice (some ⟨G4,0,none⟩) 1 1) [u8 ((8*F.length) / 281474976710656)]:=J2q h_ (by rfl) (by show 1≤maxLen;decide);clear hO h_ X;refine J0i (xs:=(((F++[128]++List.replicate (zc F.length) 0)++List.replicate 8 0)++[u8 ((8*F.length) / 72057594037927936)])) (ys:=[u8 ((8*F.length) / 281474976710656)]) (by rfl) rfl rfl rfl J (M.sl) (by first|omega|(simp only[List.length_append,List.length_cons,List.length_nil,List.length_replicate];omega)) ?_
   (try simp only[Act.put,mA,mB,mC])
   intro M9 Y1 V hO S R;clear R;have Y:=J3e S Y7 (Q6 G);have β:=Q27 S V4 (Own.lt M);have α:=J4i S N D.size;replace G:=J0p G hO (nmo Y7);replace M:=Own.off M hO (fo V4);replace D:=D.step hO (io N);clear hO S;have J:=V;clear V;have N:=α;have Y7:=Y;have V4:=β;refine Lv ?_;refine J5 ?_
   go_wp2_with fail
   rw[rounds_succ];go_upto_region 15 with fail;refine wp_region_lit ?_;refine Lv ?_;refine Lv ?_;refine Lw ?_ (v:=.int .i64 5);refine Lw ?_ (v:=.int .i64 40);refine Lw ?_ (v:=.int .u64 (sr ((8*F.length:Nat):Int) 40)) (hv:=J18 (n:=40) (by decide) rfl rfl rfl);refine Lw ?_ (v:=.int .u8 ((u8 ((8*F.length) / 1099511627776)).toNat:Int)) (hv:=by rw[←J3q (8*F.length) 40 1099511627776 (by decide)];exact J2z rfl rfl);clear M V4;refine LnS ?_ (z:= #[.int .u8 ((u8 ((8*F.length) / 1099511627776)).toNat:Int)]) (t:=5) (n:=1) (c:=1);intro D3 N9 X hO h_;have V4:∀x,(Value.ownBlock M9)=some x→Value.ownBlock (.slice (some ⟨D3,0,none⟩) 1 1)≠some x:=Q0j (Own.lt J) X;replace G:=G.o hO;replace J:=Own.off J hO f0;replace D:=D.o hO;have M:Own N9 (.slice (some ⟨D3,0,none⟩) 1 1) [u8 ((8*F.length) / 1099511627776)]:=J2q h_ (by rfl) (by show 1≤maxLen;decide);clear hO h_ X;refine J0i (xs:=((((F++[128]++List.replicate (zc F.length) 0)++List.replicate 8 0)++[u8 ((8*F.length) / 72057594037927936)])++[u8 ((8*F.length) / 281474976710656)])) (ys:=[u8 ((8*F.length) / 1099511627776)]) (by rfl) rfl rfl rfl J (M.sl) (by first|omega|(simp only[List.length_append,List.length_cons,List.length_nil,List.length_replicate];omega)) ?_
   (try simp only[Act.put,mA,mB,mC])
   intro S3 X1 V hO S R;clear R;have Y:=J3e S Y7 (Q6 G);have β:=Q27 S V4 (Own.lt M);have α:=J4i S N D.size;replace G:=J0p G hO (nmo Y7);replace M:=Own.off M hO (fo V4);replace D:=D.step hO (io N);clear hO S;have J:=V;clear V;have N:=α;have Y7:=Y;have V4:=β;refine Lv ?_;refine J5 ?_
   go_wp2_with fail
   rw[rounds_succ];go_upto_region 15 with fail;refine wp_region_lit ?_;refine Lv ?_;refine Lv ?_;refine Lw ?_ (v:=.int .i64 4);refine Lw ?_ (v:=.int .i64 32);refine Lw ?_ (v:=.int .u64 (sr ((8*F.length:Nat):Int) 32)) (hv:=J18 (n:=32) (by decide) rfl rfl rfl);refine Lw ?_ (v:=.int .u8 ((u8 ((8*F.length) / 4294967296)).toNat:Int)) (hv:=by rw[←J3q (8*F.length) 32 4294967296 (by decide)];exact J2z rfl rfl);clear M V4;refine LnS ?_ (z:= #[.int .u8 ((u8 ((8*F.length) / 4294967296)).toNat:Int)]) (t:=5) (n:=1) (c:=1);intro D1 N5 X hO h_;have V4:∀x,(Value.ownBlock S3)=some x→Value.ownBlock (.slice (some ⟨D1,0,none⟩) 1 1)≠some x:=Q0j (Own.lt J) X;replace G:=G.o hO;replace J:=Own.off J hO f0;replace D:=D.o hO;have M:Own N5 (.slice (some ⟨D1,0,none⟩) 1 1) [u8 ((8*F.length) / 4294967296)]:=J2q h_ (by rfl) (by show 1≤maxLen;decide);clear hO h_ X;refine J0i (xs:=(((((F++[128]++List.replicate (zc F.length) 0)++List.replicate 8 0)++[u8 ((8*F.length) / 72057594037927936)])++[u8 ((8*F.length) / 281474976710656)])++[u8 ((8*F.length) / 1099511627776)])) (ys:=[u8 ((8*F.length) / 4294967296)]) (by rfl) rfl rfl rfl J (M.sl) (by first|omega|(simp only[List.length_append,List.length_cons,List.length_nil,List.length_replicate];omega)) ?_
   (try simp only[Act.put,mA,mB,mC])
   intro N6 X3 V hO S R;clear R;have Y:=J3e S Y7 (Q6 G);have β:=Q27 S V4 (Own.lt M);have α:=J4i S N D.size;replace G:=J0p G hO (nmo Y7);replace M:=Own.off M hO (fo V4);replace D:=D.step hO (io N);clear hO S;have J:=V;clear V;have N:=α;have Y7:=Y;have V4:=β;refine Lv ?_;refine J5 ?_
   go_wp2_with fail
   rw[rounds_succ];go_upto_region 15 with fail;refine wp_region_lit ?_;refine Lv ?_;refine Lv ?_;refine Lw ?_ (v:=.int .i64 3);refine Lw ?_ (v:=.int .i64 24);refine Lw ?_ (v:=.int .u64 (sr ((8*F.length:Nat):Int) 24)) (hv:=J18 (n:=24) (by decide) rfl rfl rfl);refine Lw ?_ (v:=.int .u8 ((u8 ((8*F.length) / 16777216)).toNat:Int)) (hv:=by rw[←J3q (8*F.length) 24 16777216 (by decide)];exact J2z rfl rfl);clear M V4;refine LnS ?_ (z:= #[.int .u8 ((u8 ((8*F.length) / 16777216)).toNat:Int)]) (t:=5) (n:=1) (c:=1);intro D9 M7 X hO h_;have V4:∀x,(Value.ownBlock N6)=some x→Value.ownBlock (.slice (some ⟨D9,0,none⟩) 1 1)≠some x:=Q0j (Own.lt J) X;replace G:=G.o hO;replace J:=Own.off J hO f0;replace D:=D.o hO;have M:Own M7 (.slice (some ⟨D9,0,none⟩) 1 1) [u8 ((8*F.length) / 16777216)]:=J2q h_ (by rfl) (by show 1≤maxLen;decide);clear hO h_ X;refine J0i (xs:=((((((F++[128]++List.replicate (zc F.length) 0)++List.replicate 8 0)++[u8 ((8*F.length) / 72057594037927936)])++[u8 ((8*F.length) / 281474976710656)])++[u8 ((8*F.length) / 1099511627776)])++[u8 ((8*F.length) / 4294967296)])) (ys:=[u8 ((8*F.length) / 16777216)]) (by rfl) rfl rfl rfl J (M.sl) (by first|omega|(simp only[List.length_append,List.length_cons,List.length_nil,List.length_replicate];omega)) ?_
   (try simp only[Act.put,mA,mB,mC])
   intro M5 Z2 V hO S R;clear R;have Y:=J3e S Y7 (Q6 G);have β:=Q27 S V4 (Own.lt M);have α:=J4i S N D.size;replace G:=J0p G hO (nmo Y7);replace M:=Own.off M hO (fo V4);replace D:=D.step hO (io N);clear hO S;have J:=V;clear V;have N:=α;have Y7:=Y;have V4:=β;refine Lv ?_;refine J5 ?_
   go_wp2_with fail
   rw[rounds_succ];go_upto_region 15 with fail;refine wp_region_lit ?_;refine Lv ?_;refine Lv ?_;refine Lw ?_ (v:=.int .i64 2);refine Lw ?_ (v:=.int .i64 16);refine Lw ?_ (v:=.int .u64 (sr ((8*F.length:Nat):Int) 16)) (hv:=J18 (n:=16) (by decide) rfl rfl rfl);refine Lw ?_ (v:=.int .u8 ((u8 ((8*F.length) / 65536)).toNat:Int)) (hv:=by rw[←J3q (8*F.length) 16 65536 (by decide)];exact J2z rfl rfl);clear M V4;refine LnS ?_ (z:= #[.int .u8 ((u8 ((8*F.length) / 65536)).toNat:Int)]) (t:=5) (n:=1) (c:=1);intro G5 S5 X hO h_;have V4:∀x,(Value.ownBlock M5)=some x→Value.ownBlock (.slice (some ⟨G5,0,none⟩) 1 1)≠some x:=Q0j (Own.lt J) X;replace G:=G.o hO;replace J:=Own.off J hO f0;replace D:=D.o hO;have M:Own S5 (.slice (some ⟨G5,0,none⟩) 1 1) [u8 ((8*F.length) / 65536)]:=J2q h_ (by rfl) (by show 1≤maxLen;decide);clear hO h_ X;refine J0i (xs:=(((((((F++[128]++List.replicate (zc F.length) 0)++List.replicate 8 0)++[u8 ((8*F.length) / 72057594037927936)])++[u8 ((8*F.length) / 281474976710656)])++[u8 ((8*F.length) / 1099511627776)])++[u8 ((8*F.length) / 4294967296)])++[u8 ((8*F.length) / 16777216)])) (ys:=[u8 ((8*F.length) / 65536)]) (by rfl) rfl rfl rfl J (M.sl) (by first|omega|(simp only[List.length_append,List.length_cons,List.length_nil,List.length_replicate];omega)) ?_
   (try simp only[Act.put,mA,mB,mC])
   intro R7 Y3 V hO S R;clear R;have Y:=J3e S Y7 (Q6 G);have β:=Q27 S V4 (Own.lt M);have α:=J4i S N D.size;replace G:=J0p G hO (nmo Y7);replace M:=Own.off M hO (fo V4);replace D:=D.step hO (io N);clear hO S;have J:=V;clear V;have N:=α;have Y7:=Y;have V4:=β;refine Lv ?_;refine J5 ?_
   go_wp2_with fail
   rw[rounds_succ];go_upto_region 15 with fail;refine wp_region_lit ?_;refine Lv ?_;refine Lv ?_;refine Lw ?_ (v:=.int .i64 1);refine Lw ?_ (v:=.int .i64 8);refine Lw ?_ (v:=.int .u64 (sr ((8*F.length:Nat):Int) 8)) (hv:=J18 (n:=8) (by decide) rfl rfl rfl);refine Lw ?_ (v:=.int .u8 ((u8 ((8*F.length) / 256)).toNat:Int)) (hv:=by rw[←J3q (8*F.length) 8 256 (by decide)];exact J2z rfl rfl);clear M V4;refine LnS ?_ (z:= #[.int .u8 ((u8 ((8*F.length) / 256)).toNat:Int)]) (t:=5) (n:=1) (c:=1);intro D6 N3 X hO h_;have V4:∀x,(Value.ownBlock R7)=some x→Value.ownBlock (.slice (some ⟨D6,0,none⟩) 1 1)≠some x:=Q0j (Own.lt J) X;replace G:=G.o hO;replace J:=Own.off J hO f0;replace D:=D.o hO;have M:Own N3 (.slice (some ⟨D6,0,none⟩) 1 1) [u8 ((8*F.length) / 256)]:=J2q h_ (by rfl) (by show 1≤maxLen;decide);clear hO h_ X;refine J0i (xs:=((((((((F++[128]++List.replicate (zc F.length) 0)++List.replicate 8 0)++[u8 ((8*F.length) / 72057594037927936)])++[u8 ((8*F.length) / 281474976710656)])++[u8 ((8*F.length) / 1099511627776)])++[u8 ((8*F.length) / 4294967296)])++[u8 ((8*F.length) / 16777216)])++[u8 ((8*F.length) / 65536)])) (ys:=[u8 ((8*F.length) / 256)]) (by rfl) rfl rfl rfl J (M.sl) (by first|omega|(simp only[List.length_append,List.length_cons,List.length_nil,List.length_replicate];omega)) ?_
   (try simp only[Act.put,mA,mB,mC])
   intro Z4 Y4 V hO S R;clear R;have Y:=J3e S Y7 (Q6 G);have α:=J4i S N D.size;replace G:=J0p G hO (nmo Y7);replace M:=Own.off M hO (fo V4);replace D:=D.step hO (io N);clear hO S;have J:=V;clear V;have N:=α;have Y7:=Y;refine Lv ?_;refine J5 ?_
   go_wp2_with fail
   rw[rounds_succ];go_upto_region 15 with fail;refine wp_region_lit ?_;refine Lv ?_;refine Lv ?_;refine Lw ?_ (v:=.int .i64 0);refine Lw ?_ (v:=.int .i64 0);refine Lw ?_ (v:=.int .u64 (sr ((8*F.length:Nat):Int) 0)) (hv:=J18 (n:=0) (by decide) rfl rfl rfl);refine Lw ?_ (v:=.int .u8 ((u8 (8*F.length)).toNat:Int)) (hv:=by rw[←Z5w (8*F.length)];exact J2z rfl rfl);clear M V4;refine LnS ?_ (z:= #[.int .u8 ((u8 (8*F.length)).toNat:Int)]) (t:=5) (n:=1) (c:=1);intro R4 R0 X hO h_;replace G:=G.o hO;replace J:=Own.off J hO f0;replace D:=D.o hO;have M:Own R0 (.slice (some ⟨R4,0,none⟩) 1 1) [u8 (8*F.length)]:=J2q h_ (by rfl) (by show 1≤maxLen;decide);clear hO h_ X;refine J0i (xs:=(((((((((F++[128]++List.replicate (zc F.length) 0)++List.replicate 8 0)++[u8 ((8*F.length) / 72057594037927936)])++[u8 ((8*F.length) / 281474976710656)])++[u8 ((8*F.length) / 1099511627776)])++[u8 ((8*F.length) / 4294967296)])++[u8 ((8*F.length) / 16777216)])++[u8 ((8*F.length) / 65536)])++[u8 ((8*F.length) / 256)])) (ys:=[u8 (8*F.length)]) (by rfl) rfl rfl rfl J (M.sl) (by first|omega|(simp only[List.length_append,List.length_cons,List.length_nil,List.length_replicate];omega)) ?_
   (try simp only[Act.put,mA,mB,mC])
   intro Ξ Y2 V hO S R;clear R;have Y:=J3e S Y7 (Q6 G);replace G:=J0p G hO (nmo Y7);replace D:=D.step hO (io N);clear hO S;have J:=V;clear V;have Y7:=Y;refine Lv ?_;refine J5 ?_
   go_wp2_with fail
   rw[rounds_succ];go_upto_region 16 with fail;refine wp_region_lit ?_;refine Z4z (by rfl) rfl rfl ((Q7s HG.out D.ext).2) (by kernel_rfl) (by rw[J1];kernel_rfl) ?_
   (try simp only[Act.put,mA,mB,mC])
   refine LnP ?_ (z:=J0 .u64 8 (fun _=>0)) (t:=230) (cells:=J0 .u64 8 hf) (hi:=by rw[J1];kernel_rfl) (hs:=by rw[J1,J1]) (h1:=by exact V7 _ _ _);intro ε N0 μ hO h_;have M3:=bn G μ;have G1:=J4h (Own.lt J) μ;have S4:=fbn D μ;replace G:=G.o hO;replace J:=Own.off J hO f0;replace D:=D.o hO;have T:=h_;clear hO h_ μ;refine J5 ?_;clear M V4;rw[Q8l] at J;have U:Sl N0 Ξ (List.drop (128*0) (pad F)):=Z7m J;have ζ:sb Ξ (List.drop (128*0) (pad F))≠some V5:=Y9s Y7;have δ:sb Ξ (List.drop (128*0) (pad F))≠some ε:=Y9s G1;clear J N Y7 G1
   go_wp2_with fail
   go_loopw [3] (fun sv wr=> ∃(j:Nat)(u:Value),(j≤nb F.length)∧(u=sv)∧Off [] w wr∧Blk wr V5 (J0 .u8 64 (fun _=>0)) 89∧Blk wr ε (J0 .u64 8 (Hs (pad F) j)) 230∧Sl wr u (List.drop (128*j) (pad F))∧(sb u (List.drop (128*j) (pad F)))≠some V5∧(sb u (List.drop (128*j) (pad F)))≠some ε)
    (fun sv _=>Q2t sv)
   case atStart=>exact⟨0,_,Nat.zero_le _,rfl,D,G,T,U,ζ,δ⟩
   case round=>
    obtain⟨j,u,hj,rfl,D,G,T,U,ζ,δ⟩:=hrel;obtain⟨R1,γ⟩:=J74 D;subst γ;have lb:=J6w U
    by_cases G6:j<nb F.length
    ·
     have ν:128≤(List.drop (128*j) (pad F)).length:=by rw[List.length_drop,ξ];omega
     go_upto_region 17 with fail;refine wp_region_lit ?_;refine Lv ?_;refine Q18 (l:=(List.drop (128*j) (pad F))) U (by rfl) rfl rfl ?_
     (try simp only[Act.put,mA,mB,mC])
     refine Lw ?_ (v:=.bool true) (hv:=by go_simp;(try simp only[List.length_drop,ξ]);omega);refine J5 ?_;go_upto_region 19 with fail;refine wp_region_lit ?_;refine L0A ?_ T;refine Lv ?_;refine Lr ?_ (Y80 (Hs (pad F) j) (List.drop (128*j) (pad F)) u ν R1 U (Q7s HG.out D.ext));intro N8 hO;replace G:=G.o hO;replace T:=T.o hO;replace U:=Sl.off U hO f0;replace D:=D.o hO;clear hO;refine Lp ?_ T (cells:=J0 .u64 8 (prs (Hs (pad F) j) (bt (List.drop (128*j) (pad F))))) (hi:=by rw[J1];kernel_rfl) (hs:=by rw[J1,J1]) (h1:=by exact V7 _ _ _);intro G7 hO h_;replace T:Blk G7 ε (J0 .u64 8 (prs (Hs (pad F) j) (bt (List.drop (128*j) (pad F))))) 230:=h_;clear h_;replace G:=G.p hO M3;replace U:=Sl.off U hO (f1 δ);replace D:=D.p hO S4;clear hO;refine J5 ?_;go_upto_region 18 with fail;refine wp_region_lit ?_;refine Lv ?_;refine Y14 (n:=128) U (by exact ν) (by rfl) rfl rfl rfl ?_
     (try simp only[Act.put,mA,mB,mC])
     intro G2 ω D7;have M0:sb G2 (List.drop 128 (List.drop (128*j) (pad F)))≠some V5:=Y12 D7 ζ;have D4:sb G2 (List.drop 128 (List.drop (128*j) (pad F)))≠some ε:=Y12 D7 δ;refine Lv ?_;refine J5 ?_;clear U ζ δ;rw[Q2f] at ω;rw[Q2f] at M0;rw[Q2f] at D4;have U:=ω;clear ω;have ζ:=M0;have δ:=D4;have la:=J6w U;simp only[List.length_drop,ξ] at la lb;go_wp2;go_roundw
     case rel=>exact⟨j+1,_,by omega,rfl,D,G,T,U,ζ,δ⟩
     case measure=>simp only[la,lb];omega
    obtain rfl:j=nb F.length:=by omega
    go_upto_region 17 with fail;refine wp_region_lit ?_;refine Lv ?_;refine Q18 (l:=(List.drop (128*nb F.length) (pad F))) U (by rfl) rfl rfl ?_
    (try simp only[Act.put,mA,mB,mC])
    refine Lw ?_ (v:=.bool false) (hv:=by first|(go_simp;done)|(go_simp;(try simp only[List.length_drop,ξ]);omega));refine J5 ?_;go_upto_region 20 with fail;refine wp_region_lit ?_;refine Ln ?_ (z:=J0 .u8 64 (fun _=>0)) (t:=89);intro ρ N8 θ hO h_;have M6:=bn G θ;have T1:=bn T θ;have S9:=J4h (Sl.lt U) θ;have R3:=fbn D θ;replace G:=G.o hO;replace T:=T.o hO;replace U:=Sl.off U hO f0;replace D:=D.o hO;have Z:=h_;clear hO h_ θ;refine J5 ?_;go_upto_region 21 with fail;refine wp_region_lit ?_;refine L0A ?_ T;refine Lw ?_ (v:=.int .i64 0);refine J5 ?_
    go_wp2_with fail
    go_loopw [61] (fun ii wr=> ∃(i:Nat),(i≤8)∧(ii=.int .i64 (i:Int))∧Off [] w wr∧Blk wr V5 (J0 .u8 64 (fun _=>0)) 89∧Blk wr ε (J0 .u64 8 (Hs (pad F) (nb F.length))) 230∧Blk wr ρ (J0 .u8 64 (Q61 (Hs (pad F) (nb F.length)) (8*i))) 89∧Sl wr u (List.drop (128*nb F.length) (pad F)))
     (fun ii _=>8-(intOf ii).toNat)
    case atStart=>exact⟨0,Nat.zero_le _,rfl,D,G,T,(by rw[Nat.mul_zero,Z7k];exact Z),U⟩
    case round=>
     obtain⟨i,hi,rfl,D,G,T,Z,U⟩:=hrel;obtain⟨G7,γ⟩:=J74 D;subst γ
     by_cases h8:i<8
     ·
      go_upto_region 22 with fail;refine wp_region_lit ?_;refine Lw ?_ (v:=.bool true);refine J5 ?_;go_upto_region 23 with fail;refine wp_region_lit ?_;refine Lv ?_;refine Lw ?_ (v:=.int .u64 (Hs (pad F) (nb F.length) i)) (hv:=Q8m (m:=8) h8 Tryz.underlying230 (by kernel_rfl) Y83 rfl rfl rfl);refine Lv ?_;refine Lv ?_;refine J5 ?_
      go_wp2_with fail
      go_loopw [65] (fun jj wr=> ∃(k:Nat),(k≤8)∧(jj=.int .i64 (k:Int))∧Off [] w wr∧Blk wr V5 (J0 .u8 64 (fun _=>0)) 89∧Blk wr ε (J0 .u64 8 (Hs (pad F) (nb F.length))) 230∧Blk wr ρ (J0 .u8 64 (Q61 (Hs (pad F) (nb F.length)) (8*i+k))) 89∧Sl wr u (List.drop (128*nb F.length) (pad F)))
       (fun jj _=>8-(intOf jj).toNat)
      case atStart=>exact⟨0,Nat.zero_le _,rfl,D,G,T,Z,U⟩
      case round=>
       obtain⟨k,hk,rfl,D,G,T,Z,U⟩:=hrel;obtain⟨G3,γ⟩:=J74 D;subst γ
       by_cases χ:k<8
       ·
        go_upto_region 25 with fail;refine wp_region_lit ?_;refine Lw ?_ (v:=.bool true);refine J5 ?_;go_upto_region 27 with fail;refine wp_region_lit ?_;refine Lv ?_;refine Lw ?_ (v:=.int .i64 (((8*i:Nat):Int))) (hv:=by go_simp;(try simp only[IntKind.wrap_u64,IntKind.wrap_i64]);(try omega));refine Lv ?_;refine Lw ?_ (v:=.int .i64 (((8*i+k:Nat):Int))) (hv:=by go_simp;(try simp only[IntKind.wrap_u64,IntKind.wrap_i64]);(try omega));refine Lv ?_;refine Lv ?_;refine Lw ?_ (v:=.int .i64 (((7-k:Nat):Int))) (hv:=by go_simp;(try simp only[IntKind.wrap_u64,IntKind.wrap_i64]);(try omega));refine Lw ?_ (v:=.int .i64 (((8*(7-k):Nat):Int))) (hv:=by go_simp;(try simp only[IntKind.wrap_u64,IntKind.wrap_i64]);(try omega));refine Lw ?_ (v:=.int .u64 (sr (Hs (pad F) (nb F.length) i) (8*(7-k)))) (hv:=J18 (n:=8*(7-k)) (by omega) rfl rfl rfl);refine Lw ?_ (v:=.int .u8 (w8 (sr (Hs (pad F) (nb F.length) i) (8*(7-k))))) (hv:=by exact J2z rfl rfl);refine Lw ?_ (v:=.pointer (some ⟨ρ,0+(8*i+k),none⟩)) (hv:=rxa Tryz.underlying89 (by omega));refine J44 (v:=.int .u8 (w8 (sr (Hs (pad F) (nb F.length) i) (8*(7-k))))) ⟨rfl,rfl⟩ (by rfl) rfl rfl rfl Z (by rw[J1,Nat.zero_add];omega) (by kernel_rfl) ?_
        (try simp only[Act.put,mA,mB,mC])
        intro N1 hO h_;rw[Nat.zero_add,V8] at h_;replace Z:Blk N1 ρ (J0 .u8 64 (upd (Q61 (Hs (pad F) (nb F.length)) (8*i+k)) (8*i+k) (w8 (sr (Hs (pad F) (nb F.length) i) (8*(7-k)))))) 89:=h_;clear h_;replace G:=G.p hO M6;replace T:=T.p hO T1;replace U:=Sl.off U hO (f1 S9);replace D:=D.p hO R3;clear hO;refine J5 ?_;go_wp2;go_roundw
        case rel=>exact⟨k+1,by omega,by go_num,D,G,T,(by rw[←Z7l _ _ _ χ];exact Z),U⟩
        case measure=>simp[intOf];omega
       obtain rfl:k=8:=by omega
       go_upto_region 25 with fail;refine wp_region_lit ?_;refine Lw ?_ (v:=.bool false);refine J5 ?_;go_wp2;go_roundw
       case rel=>exact⟨i+1,by omega,by go_num,D,G,T,(by rw[show 8*(i+1)=8*i+8 by omega];exact Z),U⟩
       case measure=>simp[intOf];omega
     obtain rfl:i=8:=by omega
     rw[show 8*8=64 by rfl,Y2r] at Z;go_upto_region 22 with fail;refine wp_region_lit ?_;refine Lw ?_ (v:=.bool false);refine J5 ?_;go_upto_region 30 with fail;refine wp_region_lit ?_;refine L0A ?_ Z;refine Lp ?_ G (cells:=J0 .u8 64 (ob (Hs (pad F) (nb F.length)))) (hi:=by rw[J1];kernel_rfl) (hs:=by rw[J1,J1]) (h1:=by exact V7 _ _ _);intro G3 hO h_;replace G:Blk G3 V5 (J0 .u8 64 (ob (Hs (pad F) (nb F.length)))) 89:=h_;clear h_;replace D:=D.p hO S7;clear hO;refine J5 ?_;go_wp2;refine bodyPost_ret (Z7 rfl rfl G (by kernel_rfl) (by rw[J1];kernel_rfl)) rfl ⟨rfl,D.ext⟩
end

section
end

section
def GR (w:World):Prop:=Rd w 5 (J0 .u64 80 kf)∧Rd w 4 (J0 .u64 8 hf)
theorem V4m {w W:World}(h:GR w)(e:Ext w W):GR W:=⟨h.1.ext e,h.2.ext e⟩
def bo (H:Nat→Int)(j:Nat):UInt8:=u8 (ob H j).toNat
theorem V0i (H:Nat→Int)(j:Nat):((bo H j).toNat:Int)=ob H j:=by
  have:=Y99 (sr (H (j / 8)) (8*(7-j % 8)));unfold bo;rw[J5l];unfold ob;omega
def wb (H:Nat→Int)(n:Nat):List UInt8:=(List.range n).map (bo H)
theorem Q6o (H:Nat→Int)(n:Nat):(wb H n).length=n:=by simp[wb]
theorem Y7r (H:Nat→Int)(i:Nat):wb H (8*i)++[bo H (8*i+0)]++[bo H (8*i+1)]++[bo H (8*i+2)]++[bo H (8*i+3)]++[bo H (8*i+4)]++[bo H (8*i+5)]++[bo H (8*i+6)]++[bo H (8*i+7)]=wb H (8*(i+1)):=by
  unfold wb;rw[show 8*(i+1)=8*i+7+1 by omega];simp only[List.range_succ,List.map_append,List.map_cons,List.map_nil,List.append_assoc,Nat.add_zero,List.cons_append,List.nil_append]
def smb (l:List UInt8):List UInt8:=wb (Hs (pad l) (nb l.length)) 64
theorem Q59 (l:List UInt8):(smb l).length=64:=Q6o _ _
theorem Z7n (l:List UInt8):(J0 .u8 64 (sm l)).toList=bs8 (smb l):=by
  unfold J0 bs8 smb wb;rw[List.map_map];simp only[List.map_inj_left,Function.comp];intro j _;rw[V0i];rfl
end
end Go.Proofs.YteehbddkcnkhfaaGreatDoor.S8

namespace Go.Proofs.YteehbddkcnkhfaaGreatDoor
theorem Z07 {P:Program}{ops:Array Oper}{w:World}{E E' :Act→Prop}(h:∀a,E a→E' a):∀(l:List Oper) (a:Act),wpX P ops w E l a→wpX P ops w E' l a
  |[],a,x=>h a x
  |_::l,_,⟨v,hy,hk⟩=>⟨v,hy,Z07 h l _ hk⟩
def nws (xs:List NewOp)(β:Nat→Nat):List As:=xs.map fun x=> .b (β x.i) x.z x.t
theorem SH.news {F:List Nat}{w W W' :World}{H:List As}{β:Nat→Nat}(h:SH F w W H)(q:Ext W W'):∀(xs:List NewOp),(∀x∈xs,W.heap.size≤β x.i∧Blk W' (β x.i) x.z x.t)→xs.Pairwise (fun x y=>β x.i≠β y.i)→(∀x∈xs,H.all (SH.tyOk (.b 0 x.z x.t))=true)→SH F w W' (nws xs β++H)
  |[],_,_,_=>h.grow q
  |x::xs,hb,hd,ht=>by
    have h1:=SH.news h q xs (fun y hy=>hb y (by simp[hy])) (List.pairwise_cons.1 hd).2 (fun y hy=>ht y (by simp[hy]));have hx:=hb x (by simp);have h2:SH F w W' (.b (β x.i) x.z x.t::H):=h.new (x:=.b (β x.i) x.z x.t) (J08 q) hx.2 (fun k hk=>by rw[List.mem_singleton.1 hk];exact hx.1) rfl (ht x (by simp));have hn:=(List.pairwise_cons.1 hd).1;show SH F w W' (.b (β x.i) x.z x.t::(nws xs β++H));refine⟨h1.off,fun y hy=> ?_,List.pairwise_cons.2 ⟨fun y hy=> ?_,h1.ap⟩,fun y hy hm k hk hlt=> ?_⟩
    · rcases List.mem_cons.1 hy with rfl|hy
      · exact hx.2
      · exact h1.all y hy
    · rcases List.mem_append.1 hy with hy|hy
      · obtain⟨z,hz,rfl⟩:=List.mem_map.1 hy
        have hne:=hn z hz;exact⟨fun _ k hk hk' =>hne ((List.mem_singleton.1 hk).symm.trans (List.mem_singleton.1 hk')),fun _ k hk hk' =>hne ((List.mem_singleton.1 hk').symm.trans (List.mem_singleton.1 hk))⟩
      · exact(List.pairwise_cons.1 h2.ap).1 y hy
    · rcases List.mem_cons.1 hy with rfl|hy
      · have:=hx.1;have:=h.size;rw[List.mem_singleton.1 hk] at hlt;omega
      · exact h1.old y hy hm k hk hlt
section
variable {P : Program} {Q : Exit → Act → World → Prop} {F : List Nat} {w : World} {H : List As} {l : List Oper} {a a' : Act}
theorem RXn {id:Nat}{W:World}{l1 l2:List Oper}(m:Nat)(xs:List NewOp)(hS:SH F w W H)
    (h:wpM P l.toArray (.X (fun a1 W1=> ∀(β:Nat→Nat)(W' :World),Ext W1 W' →(∀x∈xs,W1.heap.size≤β x.i∧Blk W' (β x.i) x.z x.t)→(∀x∈xs,∀y∈xs,x.i≠y.i→β x.i≠β y.i)→wpList P l.toArray (NoPanic Q) l2 (J01 xs β a1) W')) F w H l1 a')
    (hok:∀x∈xs,Q4m P l.toArray x) (hm:P.follows .mixedOrders=true:=by as_aux_lemma=>kernel_rfl)
    (hB:(Region.noSelect l.toArray && Q35 .any l.toArray (m+xs.length) m 0 (Array.replicate l.length false) && decide (m+xs.length≤l.length) && decide (xs.map (·.i)).Nodup && decide (xs.map (·.d)).Nodup && xs.all (fun x=>decide (x.i<m+xs.length)) &&
      Q4n .any l.toArray (K5 (m+xs.length) 0 (Array.replicate l.length false)) xs.length (xs.map (·.i)) (K5 m 0 (Array.replicate l.length false)) &&
      (Region.ready .any l.toArray (K5 (m+xs.length) 0 (Array.replicate l.length false))).all (fun j=>decide (m+xs.length≤j)) &&
      Region.seqB .any l.toArray (l.length-(m+xs.length)) (m+xs.length) (K5 (m+xs.length) 0 (Array.replicate l.length false)))=true:=by as_aux_lemma=>kernel_rfl)
    (h1:l.take m=l1:=by(try simp only[List.append,List.take_succ_cons,List.take_zero,List.take_nil]);exact rfl) (h2:l.drop (m+xs.length)=l2:=by(try simp only[List.append,List.length_cons,List.length_nil,List.drop_succ_cons,List.drop_zero,List.drop_nil]);exact rfl)
    (hp:a=a' :=by(try simp only[Act.put,mA,mB,mC]);exact rfl):(Code.region id l.toArray true).wp P Q a W:=by
  subst hp h1 h2;exact J21 m xs hm hok hB (Z07 (fun a1 h3 β W' h4 h5 h6=>h3 W (Below.refl _ _) β W' h4 h5 h6) _ _ (h W hS))
theorem MZB {ops ops2:Array Oper}{l2:List Oper}{xs:List NewOp}{H' :(Nat→Nat)→List As}{a2:(Nat→Nat)→Act}(h:∀β,wpM P ops2 (.L Q) F w (H' β) l2 (a2 β))(hnd:(xs.map (·.i)).Nodup:=by decide)(ht:∀x∈xs,H.all (SH.tyOk (.b 0 x.z x.t))=true:=by(intro x hx;simp only[List.mem_cons,List.not_mem_nil,or_false] at hx;rcases hx with rfl|rfl|rfl|rfl<;>rfl))
    (hH:∀β,nws xs β++H=H' β:=by exact fun _=>rfl) (hp:∀β,J01 xs β a=a2 β:=by(intro β;dsimp only[J01,Act.put,mA,mB,mC];first|done|exact rfl)):
    wpM P ops (.X (fun a1 W1=> ∀(β:Nat→Nat)(W' :World),Ext W1 W' →(∀x∈xs,W1.heap.size≤β x.i∧Blk W' (β x.i) x.z x.t)→(∀x∈xs,∀y∈xs,x.i≠y.i→β x.i≠β y.i)→wpList P ops2 Q l2 (J01 xs β a1) W')) F w H [] a:=fun W hS=>K4 fun W1 h1 β W' h2 h3 h4=>by
  rw[hp β];refine h β W' ?_;rw[←hH β];refine(hS.grow h1).news h2 xs h3 ?_ ht
  have:xs.Pairwise fun x y=>x.i≠y.i:=by
    have:=List.pairwise_map.1 hnd;exact this
  exact List.Pairwise.imp_of_mem (fun hx hy D=>h4 _ hx _ hy D) this
end
end Go.Proofs.YteehbddkcnkhfaaGreatDoor

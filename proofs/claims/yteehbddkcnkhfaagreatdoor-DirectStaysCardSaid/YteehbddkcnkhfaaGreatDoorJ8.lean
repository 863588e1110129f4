/- Contracts and plain laws for directStays_holds. Conditions: the tables hold their numbers. -/
import Derived.Test.YteehbddkcnkhfaaGreatDoorJ5
import Derived.Test.YteehbddkcnkhfaaGreatDoorJ7
open Go.RowKit
set_option linter.unusedSimpArgs false
set_option linter.unusedVariables false
namespace Go.Proofs.YteehbddkcnkhfaaGreatDoor.S8
section
end

section

section
variable {w : World} {o : Oper} {a : Act}
end
section
variable {P : Program} {w : World} {o : Oper} {a : Act} {x y : Operand} {t t' : TypeId} {p q : Int}
end
end

section

def zc (n:Nat):Nat:=(239-n % 128) % 128
def pad (l:List UInt8):List UInt8:=l++[128]++List.replicate (zc l.length) 0++List.replicate 8 0++be8 (8*l.length)
def nb (n:Nat):Nat:=(n+1+zc n+16) / 128
theorem Q9n (n:Nat):(n+1+zc n) % 128=112∧zc n<128:=by unfold zc;omega
theorem K1c {n k:Nat}(h:k<zc n):(n+1+k) % 128≠112:=by unfold zc at h;omega
theorem Z3u (l:List UInt8):(pad l).length=128*nb l.length:=by
  have h:=Q9n l.length;unfold pad nb;simp only[List.length_append,List.length_cons,List.length_nil,List.length_replicate,be8];omega
def Hs (P:List UInt8):Nat→Nat→Int
  |0=>hf
  |j+1=>prs (Hs P j) (bt (P.drop (128*j)))
def ob (H:Nat→Int)(j:Nat):Int:=w8 (sr (H (j / 8)) (8*(7-j % 8)))
def Q72 (H:Nat→Int)(n j:Nat):Int:=if j<n then ob H j else 0
theorem Z8i (H:Nat→Int):Q72 H 0=fun _=>0:=by funext j;unfold Q72;rw[if_neg (by omega)]
theorem Z8j (H:Nat→Int)(i k:Nat)(hk:k<8):upd (Q72 H (8*i+k)) (8*i+k) (w8 (sr (H i) (8*(7-k))))=Q72 H (8*i+(k+1)):=by
  funext j
  unfold upd Q72
  by_cases h:j=8*i+k
  · subst h
    rw[if_pos rfl,if_pos (by omega),ob,show(8*i+k) / 8=i by omega,show(8*i+k) % 8=k by omega]
  rw[if_neg h]
  by_cases hl:j<8*i+k
  · rw[if_pos hl,if_pos (by omega)]
  rw[if_neg hl,if_neg (by omega)]
theorem Y3s (H:Nat→Int):J0 .u8 64 (Q72 H 64)=J0 .u8 64 (ob H):=J02 _ _ _ _ fun j hj=>by unfold Q72;rw[if_pos hj]
def sm (l:List UInt8):Nat→Int:=ob (Hs (pad l) (nb l.length))
theorem Q35 (P:List UInt8)(j:Nat):List.drop 128 (List.drop (128*j) P)=List.drop (128*(j+1)) P:=by
  rw[List.drop_drop];congr 1
theorem Z8k {w:World}{v:Value}{l:List UInt8}(h:Own w v l):Sl w v (List.drop (128*0) l):=h.sl
end

section
set_option maxHeartbeats 4000000
set_option maxRecDepth 100000
attribute [local irreducible] wpList
theorem Y90 (h:Nat→Int)(l:List UInt8)(u:Value)(hl:128≤l.length)(w:World)(hs:Sl w u l)(hG:GS w):Calls Tryz.prog 131 #[.agg (J0 .u64 8 h),u] w fun e w' =>X5 (.agg (J0 .u64 8 (prs h (bt l)))) w w' e:=by
  obtain⟨ad,c,rfl,_⟩:=Q8u hs (by omega);exact Y7x h l ad c hl w hs hG

theorem K1i (ps:List (List UInt8))(A:Option Addr)(c:Nat)(F:List UInt8)(hF:ps.flatten=F)(hlen:F.length≤70368744177664)(hpn:ps.length≤9223372036854775000)(w:World)(hps:∀i l,ps[i]?=some l→∃ad u,A=some ad∧w.cell? (ad.add i)=some u∧Sl w u l)(hG:GS w):
  Calls Tryz.prog 89 #[.slice A ps.length c] w fun e w' =>X5 (.agg (J0 .u8 64 (sm F))) w w' e:=by
 have HG:=Lib.hid hG;have S5:=Lib.hid hps;clear hG hps;have ν:=Z3u F;have X3:=(Q9n F.length).2;have D:Off [] w w:=Off.refl _ _
 go_enter Tryz.func89,Tryz.ntmps89
 go_upto_region 0 with fail;refine wp_region_lit ?_;refine Ln ?_ (z:=J0 .u8 64 (fun _=>0)) (t:=89);intro K9 W1 D4 hO h_;have M8:=fbn D D4;replace D:=D.o hO;have G:=h_;clear hO h_ D4;refine J6 ?_;go_upto_region 2 with fail;refine wp_region_lit ?_;refine Lv ?_;refine Lv ?_;refine Lw ?_ (v:=.int .i64 0);refine J6 ?_;have J:=Q4i W1;have N:Fr (Value.ownBlock (.slice none 0 0)) w.heap.size []:=Y7j;have Y7:Value.ownBlock (.slice none 0 0)≠some K9:=fun e_=>by cases e_
 go_wp2_with fail
 go_loopw [3,15] (fun sv ii wr=> ∃(i:Nat)(bv:Value),(i≤ps.length)∧(bv=sv)∧(ii=.int .i64 (i:Int))∧Off [] w wr∧Blk wr K9 (J0 .u8 64 (fun _=>0)) 89∧Own wr bv ((List.take i ps).flatten)∧Fr (Value.ownBlock bv) w.heap.size []∧(Value.ownBlock bv)≠some K9)
  (fun sv ii _=>ps.length-(intOf ii).toNat)
 case atStart=>exact⟨0,_,Nat.zero_le _,rfl,rfl,D,G,J,N,Y7⟩
 case round=>
  obtain⟨i,bv,hi,rfl,rfl,D,G,J,N,Y7⟩:=hrel;obtain⟨W2,γ⟩:=J7h D;subst γ
  by_cases ρ:i<ps.length
  ·
   obtain⟨l_,ω⟩:∃l,ps[i]?=some l:=⟨_,List.getElem?_eq_getElem ρ⟩
   obtain⟨N4,u_,M9,N7,M5⟩:=S5.out i l_ ω;have Y2:(List.take i ps).flatten.length+l_.length≤F.length:=by rw[←hF,←List.length_append,←J5x ω];exact Q50 _ _
   go_upto_region 3 with fail;refine wp_region_lit ?_;refine Lw ?_ (v:=.bool true);refine J6 ?_;go_upto_region 4 with fail;refine wp_region_lit ?_;refine Lw ?_ (v:=.pointer (some (N4.add i))) (hv:=Q8b (j:=i) ρ rfl (by rw[←M9];rfl) rfl);refine V4i (by rfl) rfl rfl (J0a N7 D.ext) (by kernel_rfl) ?_
   (try simp only[Act.put,mA,mB,mC])
   refine Lv ?_;refine J6 ?_;go_upto_region 5 with fail;refine wp_region_lit ?_;refine Lv ?_;refine Lv ?_;refine J0n (xs:=((List.take i ps).flatten)) (ys:=l_) (by rfl) rfl rfl rfl J (M5.off D f0) (by first|omega|(simp only[List.length_append,List.length_cons,List.length_nil,List.length_replicate];omega)) ?_
   (try simp only[Act.put,mA,mB,mC])
   intro X1 W3 D0 hO Ξ φ;clear φ;have T6:=J3h Ξ Y7 (Q6 G);have R0:=J4m Ξ N D.size;replace G:=J0v G hO (nmo Y7);replace D:=D.step hO (io N);clear hO Ξ;have J:=D0;clear D0;have N:=R0;have Y7:=T6;refine Lv ?_;refine J6 ?_;go_wp2;go_roundw
   case rel=>exact⟨i+1,_,by omega,rfl,by go_num,D,G,(by rw[J5x ω];exact J),N,Y7⟩
   case measure=>simp[intOf];omega
  obtain rfl:i=ps.length:=by omega
  rw[List.take_length,hF] at J;go_upto_region 3 with fail;refine wp_region_lit ?_;refine Lw ?_ (v:=.bool false);refine J6 ?_;go_upto_region 7 with fail;refine wp_region_lit ?_;refine Lv ?_;refine Q1p (l:=F) (J.sl) (by rfl) rfl rfl ?_
  (try simp only[Act.put,mA,mB,mC])
  refine Lw ?_ (v:=.int .u64 ((F.length:Nat):Int)) (hv:=by go_simp;(try simp only[IntKind.wrap_u64,IntKind.wrap_i64]);(try omega));refine Lw ?_ (v:=.int .u64 ((8*F.length:Nat):Int)) (hv:=by rw[show((8*F.length:Nat):Int)=sl ((F.length:Nat):Int) 3 from(by unfold sl;rw[IntKind.wrap_u64];omega)];exact J4a (n:=3) (by decide) rfl rfl rfl);refine Lv ?_;refine J6 ?_;go_upto_region 8 with fail;refine wp_region_lit ?_;refine Lv ?_;refine LnS ?_ (z:= #[.int .u8 128]) (t:=5) (n:=1) (c:=1);intro M4 W3 T9 hO h_;replace G:=G.o hO;replace J:=Own.off J hO f0;replace D:=D.o hO;have η:Own W3 (.slice (some ⟨M4,0,none⟩) 1 1) [128]:=J2t h_ (by rfl) (by show 1≤maxLen;decide);clear hO h_ T9;refine J0n (xs:=F) (ys:=[128]) (by rfl) rfl rfl rfl J (η.sl) (by first|omega|(simp only[List.length_append,List.length_cons,List.length_nil,List.length_replicate];omega)) ?_
  (try simp only[Act.put,mA,mB,mC])
  intro Y4 W4 D8 hO Δ τ;clear τ;have N9:=J3h Δ Y7 (Q6 G);have N6:=J4m Δ N D.size;replace G:=J0v G hO (nmo Y7);replace D:=D.step hO (io N);clear hO Δ;have J:=D8;clear D8;have N:=N6;have Y7:=N9;refine Lv ?_;refine J6 ?_;clear η
  go_wp2_with fail
  go_loopw [3] (fun sv wr=> ∃(k:Nat)(bv:Value),(k≤zc F.length)∧(bv=sv)∧Off [] w wr∧Blk wr K9 (J0 .u8 64 (fun _=>0)) 89∧Own wr bv (F++[128]++List.replicate k 0)∧Fr (Value.ownBlock bv) w.heap.size []∧(Value.ownBlock bv)≠some K9)
   (fun sv _=>F.length+300-Q3j sv)
  case atStart=>exact⟨0,_,Nat.zero_le _,rfl,D,G,(by rw[List.replicate_zero,List.append_nil];exact J),N,Y7⟩
  case round=>
   obtain⟨k,bv,hk,rfl,D,G,J,N,Y7⟩:=hrel;obtain⟨W5,γ⟩:=J7h D;subst γ;have lb:=Z71 J
   by_cases hz:k<zc F.length
   ·
    have M1:=K1c hz;go_upto_region 9 with fail;refine wp_region_lit ?_;refine Lv ?_;refine Q1p (l:=(F++[128]++List.replicate k 0)) (J.sl) (by rfl) rfl rfl ?_
    (try simp only[Act.put,mA,mB,mC])
    refine Lw ?_ (v:=.int .i64 (((F.length+1+k) % 128:Nat):Int)) (hv:=by go_simp;(try simp only[List.length_append,List.length_cons,List.length_nil,List.length_replicate]);rw[Int.tmod_eq_emod_of_nonneg (by omega)];omega);refine Lw ?_ (v:=.bool true) (hv:=by go_simp;omega);refine J6 ?_;go_upto_region 10 with fail;refine wp_region_lit ?_;refine Lv ?_;refine LnS ?_ (z:= #[.int .u8 0]) (t:=5) (n:=1) (c:=1);intro R5 W6 N8 hO h_;replace G:=G.o hO;replace J:=Own.off J hO f0;replace D:=D.o hO;have Γ:Own W6 (.slice (some ⟨R5,0,none⟩) 1 1) [0]:=J2t h_ (by rfl) (by show 1≤maxLen;decide);clear hO h_ N8;refine J0n (xs:=(F++[128]++List.replicate k 0)) (ys:=[0]) (by rfl) rfl rfl rfl J (Γ.sl) (by first|omega|(simp only[List.length_append,List.length_cons,List.length_nil,List.length_replicate];omega)) ?_
    (try simp only[Act.put,mA,mB,mC])
    intro Y3 W7 G9 hO Θ σ;clear σ;have M6:=J3h Θ Y7 (Q6 G);have R2:=J4m Θ N D.size;replace G:=J0v G hO (nmo Y7);replace D:=D.step hO (io N);clear hO Θ;have J:=G9;clear G9;have N:=R2;have Y7:=M6;refine Lv ?_;refine J6 ?_;have la:=Z71 J;simp only[List.length_append,List.length_cons,List.length_nil,List.length_replicate] at la lb;go_wp2;go_roundw
    case rel=>exact⟨k+1,_,by omega,rfl,D,G,(by rw[List.replicate_succ',←List.append_assoc];exact J),N,Y7⟩
    case measure=>simp only[la,lb];omega
   obtain rfl:k=zc F.length:=by omega
   have M1:=(Q9n F.length).1;go_upto_region 9 with fail;refine wp_region_lit ?_;refine Lv ?_;refine Q1p (l:=(F++[128]++List.replicate (zc F.length) 0)) (J.sl) (by rfl) rfl rfl ?_
   (try simp only[Act.put,mA,mB,mC])
   refine Lw ?_ (v:=.int .i64 (((F.length+1+zc F.length) % 128:Nat):Int)) (hv:=by go_simp;(try simp only[List.length_append,List.length_cons,List.length_nil,List.length_replicate]);rw[Int.tmod_eq_emod_of_nonneg (by omega)];omega);refine Lw ?_ (v:=.bool false) (hv:=by first|(go_simp;done)|(go_simp;omega));refine J6 ?_;go_upto_region 11 with fail;refine wp_region_lit ?_;refine Lv ?_;refine Z1l (xs:=(F++[128]++List.replicate (zc F.length) 0)) (m:=8) (by decide) (by rfl) rfl rfl rfl J (by first|omega|(simp only[List.length_append,List.length_cons,List.length_nil,List.length_replicate];omega)) ?_
   (try simp only[Act.put,mA,mB,mC])
   intro M2 W6 G2 hO Ψ;have R4:=J3h Ψ Y7 (Q6 G);have T8:=J4m Ψ N D.size;replace G:=J0v G hO (nmo Y7);replace D:=D.step hO (io N);clear hO Ψ;have J:=G2;clear G2;have N:=T8;have Y7:=R4;refine Lv ?_;refine J6 ?_
   go_wp2_with fail
   refine wp_loop_rounds 9 ?_;rw[rounds_succ];go_upto_region 15 with fail;refine wp_region_lit ?_;refine Lv ?_;refine Lv ?_;refine Lw ?_ (v:=.int .i64 7);refine Lw ?_ (v:=.int .i64 56);refine Lw ?_ (v:=.int .u64 (sr ((8*F.length:Nat):Int) 56)) (hv:=J1h (n:=56) (by decide) rfl rfl rfl);refine Lw ?_ (v:=.int .u8 ((u8 ((8*F.length) / 72057594037927936)).toNat:Int)) (hv:=by rw[←J3s (8*F.length) 56 72057594037927936 (by decide)];exact J30 rfl rfl);refine LnS ?_ (z:= #[.int .u8 ((u8 ((8*F.length) / 72057594037927936)).toNat:Int)]) (t:=5) (n:=1) (c:=1);intro D1 W7 X hO h_;have V7:∀x,(Value.ownBlock M2)=some x→Value.ownBlock (.slice (some ⟨D1,0,none⟩) 1 1)≠some x:=Q13 (Own.lt J) X;replace G:=G.o hO;replace J:=Own.off J hO f0;replace D:=D.o hO;have M:Own W7 (.slice (some ⟨D1,0,none⟩) 1 1) [u8 ((8*F.length) / 72057594037927936)]:=J2t h_ (by rfl) (by show 1≤maxLen;decide);clear hO h_ X;refine J0n (xs:=((F++[128]++List.replicate (zc F.length) 0)++List.replicate 8 0)) (ys:=[u8 ((8*F.length) / 72057594037927936)]) (by rfl) rfl rfl rfl J (M.sl) (by first|omega|(simp only[List.length_append,List.length_cons,List.length_nil,List.length_replicate];omega)) ?_
   (try simp only[Act.put,mA,mB,mC])
   intro S6 W8 V hO S R;clear R;have Y:=J3h S Y7 (Q6 G);have β:=Q2w S V7 (Own.lt M);have α:=J4m S N D.size;replace G:=J0v G hO (nmo Y7);replace M:=Own.off M hO (fo V7);replace D:=D.step hO (io N);clear hO S;have J:=V;clear V;have N:=α;have Y7:=Y;have V7:=β;refine Lv ?_;refine J6 ?_
   go_wp2_with fail
   rw[rounds_succ];go_upto_region 15 with fail;refine wp_region_lit ?_;refine Lv ?_;refine Lv ?_;refine Lw ?_ (v:=.int .i64 6);refine Lw ?_ (v:=.int .i64 48);refine Lw ?_ (v:=.int .u64 (sr ((8*F.length:Nat):Int) 48)) (hv:=J1h (n:=48) (by decide) rfl rfl rfl);refine Lw ?_ (v:=.int .u8 ((u8 ((8*F.length) / 281474976710656)).toNat:Int)) (hv:=by rw[←J3s (8*F.length) 48 281474976710656 (by decide)];exact J30 rfl rfl);clear M V7;refine LnS ?_ (z:= #[.int .u8 ((u8 ((8*F.length) / 281474976710656)).toNat:Int)]) (t:=5) (n:=1) (c:=1);intro D5 W9 X hO h_;have V7:∀x,(Value.ownBlock S6)=some x→Value.ownBlock (.slice (some ⟨D5,0,none⟩) 1 1)≠some x:=Q13 (Own.lt J) X;replace G:=G.o hO;replace J:=Own.off J hO f0;replace D:=D.o hO;have M:Own W9 (.slice (some ⟨D5,0,none⟩) 1 1) [u8 ((8*F.length) / 281474976710656)]:=J2t h_ (by rfl) (by show 1≤maxLen;decide);clear hO h_ X;refine J0n (xs:=(((F++[128]++List.replicate (zc F.length) 0)++List.replicate 8 0)++[u8 ((8*F.length) / 72057594037927936)])) (ys:=[u8 ((8*F.length) / 281474976710656)]) (by rfl) rfl rfl rfl J (M.sl) (by first|omega|(simp only[List.length_append,List.length_cons,List.length_nil,List.length_replicate];omega)) ?_
   (try simp only[Act.put,mA,mB,mC])
   intro S4 Y1 V hO S R;clear R;have Y:=J3h S Y7 (Q6 G);have β:=Q2w S V7 (Own.lt M);have α:=J4m S N D.size;replace G:=J0v G hO (nmo Y7);replace M:=Own.off M hO (fo V7);replace D:=D.step hO (io N);clear hO S;have J:=V;clear V;have N:=α;have Y7:=Y;have V7:=β;refine Lv ?_;refine J6 ?_
   go_wp2_with fail
   rw[rounds_succ];go_upto_region 15 with fail;refine wp_region_lit ?_;refine Lv ?_;refine Lv ?_;refine Lw ?_ (v:=.int .i64 5);refine Lw ?_ (v:=.int .i64 40);refine Lw ?_ (v:=.int .u64 (sr ((8*F.length:Nat):Int) 40)) (hv:=J1h (n:=40) (by decide) rfl rfl rfl);refine Lw ?_ (v:=.int .u8 ((u8 ((8*F.length) / 1099511627776)).toNat:Int)) (hv:=by rw[←J3s (8*F.length) 40 1099511627776 (by decide)];exact J30 rfl rfl);clear M V7;refine LnS ?_ (z:= #[.int .u8 ((u8 ((8*F.length) / 1099511627776)).toNat:Int)]) (t:=5) (n:=1) (c:=1);intro G0 S7 X hO h_;have V7:∀x,(Value.ownBlock S4)=some x→Value.ownBlock (.slice (some ⟨G0,0,none⟩) 1 1)≠some x:=Q13 (Own.lt J) X;replace G:=G.o hO;replace J:=Own.off J hO f0;replace D:=D.o hO;have M:Own S7 (.slice (some ⟨G0,0,none⟩) 1 1) [u8 ((8*F.length) / 1099511627776)]:=J2t h_ (by rfl) (by show 1≤maxLen;decide);clear hO h_ X;refine J0n (xs:=((((F++[128]++List.replicate (zc F.length) 0)++List.replicate 8 0)++[u8 ((8*F.length) / 72057594037927936)])++[u8 ((8*F.length) / 281474976710656)])) (ys:=[u8 ((8*F.length) / 1099511627776)]) (by rfl) rfl rfl rfl J (M.sl) (by first|omega|(simp only[List.length_append,List.length_cons,List.length_nil,List.length_replicate];omega)) ?_
   (try simp only[Act.put,mA,mB,mC])
   intro R1 Z1 V hO S R;clear R;have Y:=J3h S Y7 (Q6 G);have β:=Q2w S V7 (Own.lt M);have α:=J4m S N D.size;replace G:=J0v G hO (nmo Y7);replace M:=Own.off M hO (fo V7);replace D:=D.step hO (io N);clear hO S;have J:=V;clear V;have N:=α;have Y7:=Y;have V7:=β;refine Lv ?_;refine J6 ?_
   go_wp2_with fail
   rw[rounds_succ];go_upto_region 15 with fail;refine wp_region_lit ?_;refine Lv ?_;refine Lv ?_;refine Lw ?_ (v:=.int .i64 4);refine Lw ?_ (v:=.int .i64 32);refine Lw ?_ (v:=.int .u64 (sr ((8*F.length:Nat):Int) 32)) (hv:=J1h (n:=32) (by decide) rfl rfl rfl);refine Lw ?_ (v:=.int .u8 ((u8 ((8*F.length) / 4294967296)).toNat:Int)) (hv:=by rw[←J3s (8*F.length) 32 4294967296 (by decide)];exact J30 rfl rfl);clear M V7;refine LnS ?_ (z:= #[.int .u8 ((u8 ((8*F.length) / 4294967296)).toNat:Int)]) (t:=5) (n:=1) (c:=1);intro G5 N5 X hO h_;have V7:∀x,(Value.ownBlock R1)=some x→Value.ownBlock (.slice (some ⟨G5,0,none⟩) 1 1)≠some x:=Q13 (Own.lt J) X;replace G:=G.o hO;replace J:=Own.off J hO f0;replace D:=D.o hO;have M:Own N5 (.slice (some ⟨G5,0,none⟩) 1 1) [u8 ((8*F.length) / 4294967296)]:=J2t h_ (by rfl) (by show 1≤maxLen;decide);clear hO h_ X;refine J0n (xs:=(((((F++[128]++List.replicate (zc F.length) 0)++List.replicate 8 0)++[u8 ((8*F.length) / 72057594037927936)])++[u8 ((8*F.length) / 281474976710656)])++[u8 ((8*F.length) / 1099511627776)])) (ys:=[u8 ((8*F.length) / 4294967296)]) (by rfl) rfl rfl rfl J (M.sl) (by first|omega|(simp only[List.length_append,List.length_cons,List.length_nil,List.length_replicate];omega)) ?_
   (try simp only[Act.put,mA,mB,mC])
   intro T1 Z2 V hO S R;clear R;have Y:=J3h S Y7 (Q6 G);have β:=Q2w S V7 (Own.lt M);have α:=J4m S N D.size;replace G:=J0v G hO (nmo Y7);replace M:=Own.off M hO (fo V7);replace D:=D.step hO (io N);clear hO S;have J:=V;clear V;have N:=α;have Y7:=Y;have V7:=β;refine Lv ?_;refine J6 ?_
   go_wp2_with fail
   rw[rounds_succ];go_upto_region 15 with fail;refine wp_region_lit ?_;refine Lv ?_;refine Lv ?_;refine Lw ?_ (v:=.int .i64 3);refine Lw ?_ (v:=.int .i64 24);refine Lw ?_ (v:=.int .u64 (sr ((8*F.length:Nat):Int) 24)) (hv:=J1h (n:=24) (by decide) rfl rfl rfl);refine Lw ?_ (v:=.int .u8 ((u8 ((8*F.length) / 16777216)).toNat:Int)) (hv:=by rw[←J3s (8*F.length) 24 16777216 (by decide)];exact J30 rfl rfl);clear M V7;refine LnS ?_ (z:= #[.int .u8 ((u8 ((8*F.length) / 16777216)).toNat:Int)]) (t:=5) (n:=1) (c:=1);intro D3 T5 X hO h_;have V7:∀x,(Value.ownBlock T1)=some x→Value.ownBlock (.slice (some ⟨D3,0,none⟩) 1 1)≠some x:=Q13 (Own.lt J) X;replace G:=G.o hO;replace J:=Own.off J hO f0;replace D:=D.o hO;have M:Own T5 (.slice (some ⟨D3,0,none⟩) 1 1) [u8 ((8*F.length) / 16777216)]:=J2t h_ (by rfl) (by show 1≤maxLen;decide);clear hO h_ X;refine J0n (xs:=((((((F++[128]++List.replicate (zc F.length) 0)++List.replicate 8 0)++[u8 ((8*F.length) / 72057594037927936)])++[u8 ((8*F.length) / 281474976710656)])++[u8 ((8*F.length) / 1099511627776)])++[u8 ((8*F.length) / 4294967296)])) (ys:=[u8 ((8*F.length) / 16777216)]) (by rfl) rfl rfl rfl J (M.sl) (by first|omega|(simp only[List.length_append,List.length_cons,List.length_nil,List.length_replicate];omega)) ?_
   (try simp only[Act.put,mA,mB,mC])
   intro X0 Z3 V hO S R;clear R;have Y:=J3h S Y7 (Q6 G);have β:=Q2w S V7 (Own.lt M);have α:=J4m S N D.size;replace G:=J0v G hO (nmo Y7);replace M:=Own.off M hO (fo V7);replace D:=D.step hO (io N);clear hO S;have J:=V;clear V;have N:=α;have Y7:=Y;have V7:=β;refine Lv ?_;refine J6 ?_
   go_wp2_with fail
   rw[rounds_succ];go_upto_region 15 with fail;refine wp_region_lit ?_;refine Lv ?_;refine Lv ?_;refine Lw ?_ (v:=.int .i64 2);refine Lw ?_ (v:=.int .i64 16);refine Lw ?_ (v:=.int .u64 (sr ((8*F.length:Nat):Int) 16)) (hv:=J1h (n:=16) (by decide) rfl rfl rfl);refine Lw ?_ (v:=.int .u8 ((u8 ((8*F.length) / 65536)).toNat:Int)) (hv:=by rw[←J3s (8*F.length) 16 65536 (by decide)];exact J30 rfl rfl);clear M V7;refine LnS ?_ (z:= #[.int .u8 ((u8 ((8*F.length) / 65536)).toNat:Int)]) (t:=5) (n:=1) (c:=1);intro D9 R3 X hO h_;have V7:∀x,(Value.ownBlock X0)=some x→Value.ownBlock (.slice (some ⟨D9,0,none⟩) 1 1)≠some x:=Q13 (Own.lt J) X;replace G:=G.o hO;replace J:=Own.off J hO f0;replace D:=D.o hO;have M:Own R3 (.slice (some ⟨D9,0,none⟩) 1 1) [u8 ((8*F.length) / 65536)]:=J2t h_ (by rfl) (by show 1≤maxLen;decide);clear hO h_ X;refine J0n (xs:=(((((((F++[128]++List.replicate (zc F.length) 0)++List.replicate 8 0)++[u8 ((8*F.length) / 72057594037927936)])++[u8 ((8*F.length) / 281474976710656)])++[u8 ((8*F.length) / 1099511627776)])++[u8 ((8*F.length) / 4294967296)])++[u8 ((8*F.length) / 16777216)])) (ys:=[u8 ((8*F.length) / 65536)]) (by rfl) rfl rfl rfl J (M.sl) (by first|omega|(simp only[List.length_append,List.length_cons,List.length_nil,List.length_replicate];omega)) ?_
   (try simp only[Act.put,mA,mB,mC])
   intro N2 W18 V hO S R;clear R;have Y:=J3h S Y7 (Q6 G);have β:=Q2w S V7 (Own.lt M);have α:=J4m S N D.size;replace G:=J0v G hO (nmo Y7);replace M:=Own.off M hO (fo V7);replace D:=D.step hO (io N);clear hO S;have J:=V;clear V;have N:=α;have Y7:=Y;have V7:=β;refine Lv ?_;refine J6 ?_
   go_wp2_with fail
   rw[rounds_succ];go_upto_region 15 with fail;refine wp_region_lit ?_;refine Lv ?_;refine Lv ?_;refine Lw ?_ (v:=.int .i64 1);refine Lw ?_ (v:=.int .i64 8);refine Lw ?_ (v:=.int .u64 (sr ((8*F.length:Nat):Int) 8)) (hv:=J1h (n:=8) (by decide) rfl rfl rfl);refine Lw ?_ (v:=.int .u8 ((u8 ((8*F.length) / 256)).toNat:Int)) (hv:=by rw[←J3s (8*F.length) 8 256 (by decide)];exact J30 rfl rfl);clear M V7;refine LnS ?_ (z:= #[.int .u8 ((u8 ((8*F.length) / 256)).toNat:Int)]) (t:=5) (n:=1) (c:=1);intro D6 T7 X hO h_;have V7:∀x,(Value.ownBlock N2)=some x→Value.ownBlock (.slice (some ⟨D6,0,none⟩) 1 1)≠some x:=Q13 (Own.lt J) X;replace G:=G.o hO;replace J:=Own.off J hO f0;replace D:=D.o hO;have M:Own T7 (.slice (some ⟨D6,0,none⟩) 1 1) [u8 ((8*F.length) / 256)]:=J2t h_ (by rfl) (by show 1≤maxLen;decide);clear hO h_ X;refine J0n (xs:=((((((((F++[128]++List.replicate (zc F.length) 0)++List.replicate 8 0)++[u8 ((8*F.length) / 72057594037927936)])++[u8 ((8*F.length) / 281474976710656)])++[u8 ((8*F.length) / 1099511627776)])++[u8 ((8*F.length) / 4294967296)])++[u8 ((8*F.length) / 16777216)])++[u8 ((8*F.length) / 65536)])) (ys:=[u8 ((8*F.length) / 256)]) (by rfl) rfl rfl rfl J (M.sl) (by first|omega|(simp only[List.length_append,List.length_cons,List.length_nil,List.length_replicate];omega)) ?_
   (try simp only[Act.put,mA,mB,mC])
   intro X4 X2 V hO S R;clear R;have Y:=J3h S Y7 (Q6 G);have α:=J4m S N D.size;replace G:=J0v G hO (nmo Y7);replace M:=Own.off M hO (fo V7);replace D:=D.step hO (io N);clear hO S;have J:=V;clear V;have N:=α;have Y7:=Y;refine Lv ?_;refine J6 ?_
   go_wp2_with fail
   rw[rounds_succ];go_upto_region 15 with fail;refine wp_region_lit ?_;refine Lv ?_;refine Lv ?_;refine Lw ?_ (v:=.int .i64 0);refine Lw ?_ (v:=.int .i64 0);refine Lw ?_ (v:=.int .u64 (sr ((8*F.length:Nat):Int) 0)) (hv:=J1h (n:=0) (by decide) rfl rfl rfl);refine Lw ?_ (v:=.int .u8 ((u8 (8*F.length)).toNat:Int)) (hv:=by rw[←Z72 (8*F.length)];exact J30 rfl rfl);clear M V7;refine LnS ?_ (z:= #[.int .u8 ((u8 (8*F.length)).toNat:Int)]) (t:=5) (n:=1) (c:=1);intro R6 N0 X hO h_;replace G:=G.o hO;replace J:=Own.off J hO f0;replace D:=D.o hO;have M:Own N0 (.slice (some ⟨R6,0,none⟩) 1 1) [u8 (8*F.length)]:=J2t h_ (by rfl) (by show 1≤maxLen;decide);clear hO h_ X;refine J0n (xs:=(((((((((F++[128]++List.replicate (zc F.length) 0)++List.replicate 8 0)++[u8 ((8*F.length) / 72057594037927936)])++[u8 ((8*F.length) / 281474976710656)])++[u8 ((8*F.length) / 1099511627776)])++[u8 ((8*F.length) / 4294967296)])++[u8 ((8*F.length) / 16777216)])++[u8 ((8*F.length) / 65536)])++[u8 ((8*F.length) / 256)])) (ys:=[u8 (8*F.length)]) (by rfl) rfl rfl rfl J (M.sl) (by first|omega|(simp only[List.length_append,List.length_cons,List.length_nil,List.length_replicate];omega)) ?_
   (try simp only[Act.put,mA,mB,mC])
   intro Ω Z4 V hO S R;clear R;have Y:=J3h S Y7 (Q6 G);replace G:=J0v G hO (nmo Y7);replace D:=D.step hO (io N);clear hO S;have J:=V;clear V;have Y7:=Y;refine Lv ?_;refine J6 ?_
   go_wp2_with fail
   rw[rounds_succ];go_upto_region 16 with fail;refine wp_region_lit ?_;refine Z66 (by rfl) rfl rfl ((Q8w HG.out D.ext).2) (by kernel_rfl) (by rw[J1];kernel_rfl) ?_
   (try simp only[Act.put,mA,mB,mC])
   refine LnP ?_ (z:=J0 .u64 8 (fun _=>0)) (t:=230) (cells:=J0 .u64 8 hf) (hi:=by rw[J1];kernel_rfl) (hs:=by rw[J1,J1]) (h1:=by exact V9 _ _ _);intro ε N1 ξ hO h_;have R9:=bn G ξ;have G4:=J4l (Own.lt J) ξ;have M7:=fbn D ξ;replace G:=G.o hO;replace J:=Own.off J hO f0;replace D:=D.o hO;have T:=h_;clear hO h_ ξ;refine J6 ?_;clear M V7;rw[Q9q] at J;have U:Sl N1 Ω (List.drop (128*0) (pad F)):=Z8k J;have ζ:sb Ω (List.drop (128*0) (pad F))≠some K9:=V0t Y7;have δ:sb Ω (List.drop (128*0) (pad F))≠some ε:=V0t G4;clear J N Y7 G4
   go_wp2_with fail
   go_loopw [3] (fun sv wr=> ∃(j:Nat)(u:Value),(j≤nb F.length)∧(u=sv)∧Off [] w wr∧Blk wr K9 (J0 .u8 64 (fun _=>0)) 89∧Blk wr ε (J0 .u64 8 (Hs (pad F) j)) 230∧Sl wr u (List.drop (128*j) (pad F))∧(sb u (List.drop (128*j) (pad F)))≠some K9∧(sb u (List.drop (128*j) (pad F)))≠some ε)
    (fun sv _=>Q3j sv)
   case atStart=>exact⟨0,_,Nat.zero_le _,rfl,D,G,T,U,ζ,δ⟩
   case round=>
    obtain⟨j,u,hj,rfl,D,G,T,U,ζ,δ⟩:=hrel;obtain⟨S9,γ⟩:=J7h D;subst γ;have lb:=J72 U
    by_cases G3:j<nb F.length
    ·
     have κ:128≤(List.drop (128*j) (pad F)).length:=by rw[List.length_drop,ν];omega
     go_upto_region 17 with fail;refine wp_region_lit ?_;refine Lv ?_;refine Q1p (l:=(List.drop (128*j) (pad F))) U (by rfl) rfl rfl ?_
     (try simp only[Act.put,mA,mB,mC])
     refine Lw ?_ (v:=.bool true) (hv:=by go_simp;(try simp only[List.length_drop,ν]);omega);refine J6 ?_;go_upto_region 19 with fail;refine wp_region_lit ?_;refine L0A ?_ T;refine Lv ?_;refine Lr ?_ (Y90 (Hs (pad F) j) (List.drop (128*j) (pad F)) u κ S9 U (Q8w HG.out D.ext));intro R7 hO;replace G:=G.o hO;replace T:=T.o hO;replace U:=Sl.off U hO f0;replace D:=D.o hO;clear hO;refine Lp ?_ T (cells:=J0 .u64 8 (prs (Hs (pad F) j) (bt (List.drop (128*j) (pad F))))) (hi:=by rw[J1];kernel_rfl) (hs:=by rw[J1,J1]) (h1:=by exact V9 _ _ _);intro M0 hO h_;replace T:Blk M0 ε (J0 .u64 8 (prs (Hs (pad F) j) (bt (List.drop (128*j) (pad F))))) 230:=h_;clear h_;replace G:=G.p hO R9;replace U:=Sl.off U hO (f1 δ);replace D:=D.p hO M7;clear hO;refine J6 ?_;go_upto_region 18 with fail;refine wp_region_lit ?_;refine Lv ?_;refine Y23 (n:=128) U (by exact κ) (by rfl) rfl rfl rfl ?_
     (try simp only[Act.put,mA,mB,mC])
     intro G6 χ G1;have G7:sb G6 (List.drop 128 (List.drop (128*j) (pad F)))≠some K9:=Y21 G1 ζ;have G8:sb G6 (List.drop 128 (List.drop (128*j) (pad F)))≠some ε:=Y21 G1 δ;refine Lv ?_;refine J6 ?_;clear U ζ δ;rw[Q35] at χ;rw[Q35] at G7;rw[Q35] at G8;have U:=χ;clear χ;have ζ:=G7;have δ:=G8;have la:=J72 U;simp only[List.length_drop,ν] at la lb;go_wp2;go_roundw
     case rel=>exact⟨j+1,_,by omega,rfl,D,G,T,U,ζ,δ⟩
     case measure=>simp only[la,lb];omega
    obtain rfl:j=nb F.length:=by omega
    go_upto_region 17 with fail;refine wp_region_lit ?_;refine Lv ?_;refine Q1p (l:=(List.drop (128*nb F.length) (pad F))) U (by rfl) rfl rfl ?_
    (try simp only[Act.put,mA,mB,mC])
    refine Lw ?_ (v:=.bool false) (hv:=by first|(go_simp;done)|(go_simp;(try simp only[List.length_drop,ν]);omega));refine J6 ?_;go_upto_region 20 with fail;refine wp_region_lit ?_;refine Ln ?_ (z:=J0 .u8 64 (fun _=>0)) (t:=89);intro μ R7 θ hO h_;have N3:=bn G θ;have S3:=bn T θ;have M3:=J4l (Sl.lt U) θ;have T2:=fbn D θ;replace G:=G.o hO;replace T:=T.o hO;replace U:=Sl.off U hO f0;replace D:=D.o hO;have Z:=h_;clear hO h_ θ;refine J6 ?_;go_upto_region 21 with fail;refine wp_region_lit ?_;refine L0A ?_ T;refine Lw ?_ (v:=.int .i64 0);refine J6 ?_
    go_wp2_with fail
    go_loopw [61] (fun ii wr=> ∃(i:Nat),(i≤8)∧(ii=.int .i64 (i:Int))∧Off [] w wr∧Blk wr K9 (J0 .u8 64 (fun _=>0)) 89∧Blk wr ε (J0 .u64 8 (Hs (pad F) (nb F.length))) 230∧Blk wr μ (J0 .u8 64 (Q72 (Hs (pad F) (nb F.length)) (8*i))) 89∧Sl wr u (List.drop (128*nb F.length) (pad F)))
     (fun ii _=>8-(intOf ii).toNat)
    case atStart=>exact⟨0,Nat.zero_le _,rfl,D,G,T,(by rw[Nat.mul_zero,Z8i];exact Z),U⟩
    case round=>
     obtain⟨i,hi,rfl,D,G,T,Z,U⟩:=hrel;obtain⟨M0,γ⟩:=J7h D;subst γ
     by_cases h8:i<8
     ·
      go_upto_region 22 with fail;refine wp_region_lit ?_;refine Lw ?_ (v:=.bool true);refine J6 ?_;go_upto_region 23 with fail;refine wp_region_lit ?_;refine Lv ?_;refine Lw ?_ (v:=.int .u64 (Hs (pad F) (nb F.length) i)) (hv:=Q9r (m:=8) h8 Tryz.underlying230 (by kernel_rfl) Y93 rfl rfl rfl);refine Lv ?_;refine Lv ?_;refine J6 ?_
      go_wp2_with fail
      go_loopw [65] (fun jj wr=> ∃(k:Nat),(k≤8)∧(jj=.int .i64 (k:Int))∧Off [] w wr∧Blk wr K9 (J0 .u8 64 (fun _=>0)) 89∧Blk wr ε (J0 .u64 8 (Hs (pad F) (nb F.length))) 230∧Blk wr μ (J0 .u8 64 (Q72 (Hs (pad F) (nb F.length)) (8*i+k))) 89∧Sl wr u (List.drop (128*nb F.length) (pad F)))
       (fun jj _=>8-(intOf jj).toNat)
      case atStart=>exact⟨0,Nat.zero_le _,rfl,D,G,T,Z,U⟩
      case round=>
       obtain⟨k,hk,rfl,D,G,T,Z,U⟩:=hrel;obtain⟨D7,γ⟩:=J7h D;subst γ
       by_cases ψ:k<8
       ·
        go_upto_region 25 with fail;refine wp_region_lit ?_;refine Lw ?_ (v:=.bool true);refine J6 ?_;go_upto_region 27 with fail;refine wp_region_lit ?_;refine Lv ?_;refine Lw ?_ (v:=.int .i64 (((8*i:Nat):Int))) (hv:=by go_simp;(try simp only[IntKind.wrap_u64,IntKind.wrap_i64]);(try omega));refine Lv ?_;refine Lw ?_ (v:=.int .i64 (((8*i+k:Nat):Int))) (hv:=by go_simp;(try simp only[IntKind.wrap_u64,IntKind.wrap_i64]);(try omega));refine Lv ?_;refine Lv ?_;refine Lw ?_ (v:=.int .i64 (((7-k:Nat):Int))) (hv:=by go_simp;(try simp only[IntKind.wrap_u64,IntKind.wrap_i64]);(try omega));refine Lw ?_ (v:=.int .i64 (((8*(7-k):Nat):Int))) (hv:=by go_simp;(try simp only[IntKind.wrap_u64,IntKind.wrap_i64]);(try omega));refine Lw ?_ (v:=.int .u64 (sr (Hs (pad F) (nb F.length) i) (8*(7-k)))) (hv:=J1h (n:=8*(7-k)) (by omega) rfl rfl rfl);refine Lw ?_ (v:=.int .u8 (w8 (sr (Hs (pad F) (nb F.length) i) (8*(7-k))))) (hv:=by exact J30 rfl rfl);refine Lw ?_ (v:=.pointer (some ⟨μ,0+(8*i+k),none⟩)) (hv:=rxa Tryz.underlying89 (by omega));refine J48 (v:=.int .u8 (w8 (sr (Hs (pad F) (nb F.length) i) (8*(7-k))))) ⟨rfl,rfl⟩ (by rfl) rfl rfl rfl Z (by rw[J1,Nat.zero_add];omega) (by kernel_rfl) ?_
        (try simp only[Act.put,mA,mB,mC])
        intro R8 hO h_;rw[Nat.zero_add,K0] at h_;replace Z:Blk R8 μ (J0 .u8 64 (upd (Q72 (Hs (pad F) (nb F.length)) (8*i+k)) (8*i+k) (w8 (sr (Hs (pad F) (nb F.length) i) (8*(7-k)))))) 89:=h_;clear h_;replace G:=G.p hO N3;replace T:=T.p hO S3;replace U:=Sl.off U hO (f1 M3);replace D:=D.p hO T2;clear hO;refine J6 ?_;go_wp2;go_roundw
        case rel=>exact⟨k+1,by omega,by go_num,D,G,T,(by rw[←Z8j _ _ _ ψ];exact Z),U⟩
        case measure=>simp[intOf];omega
       obtain rfl:k=8:=by omega
       go_upto_region 25 with fail;refine wp_region_lit ?_;refine Lw ?_ (v:=.bool false);refine J6 ?_;go_wp2;go_roundw
       case rel=>exact⟨i+1,by omega,by go_num,D,G,T,(by rw[show 8*(i+1)=8*i+8 by omega];exact Z),U⟩
       case measure=>simp[intOf];omega
     obtain rfl:i=8:=by omega
     rw[show 8*8=64 by rfl,Y3s] at Z;go_upto_region 22 with fail;refine wp_region_lit ?_;refine Lw ?_ (v:=.bool false);refine J6 ?_;go_upto_region 30 with fail;refine wp_region_lit ?_;refine L0A ?_ Z;refine Lp ?_ G (cells:=J0 .u8 64 (ob (Hs (pad F) (nb F.length)))) (hi:=by rw[J1];kernel_rfl) (hs:=by rw[J1,J1]) (h1:=by exact V9 _ _ _);intro D7 hO h_;replace G:Blk D7 K9 (J0 .u8 64 (ob (Hs (pad F) (nb F.length)))) 89:=h_;clear h_;replace D:=D.p hO M8;clear hO;refine J6 ?_;go_wp2;refine bodyPost_ret (Y0 rfl rfl G (by kernel_rfl) (by rw[J1];kernel_rfl)) rfl ⟨rfl,D.ext⟩
end

section
end

section
def GR (w:World):Prop:=Rd w 5 (J0 .u64 80 kf)∧Rd w 4 (J0 .u64 8 hf)
theorem V5t {w W:World}(h:GR w)(e:Ext w W):GR W:=⟨h.1.ext e,h.2.ext e⟩
def bo (H:Nat→Int)(j:Nat):UInt8:=u8 (ob H j).toNat
theorem V1m (H:Nat→Int)(j:Nat):((bo H j).toNat:Int)=ob H j:=by
  have:=V09 (sr (H (j / 8)) (8*(7-j % 8)));unfold bo;rw[J5q];unfold ob;omega
def wb (H:Nat→Int)(n:Nat):List UInt8:=(List.range n).map (bo H)
theorem Q7p (H:Nat→Int)(n:Nat):(wb H n).length=n:=by simp[wb]
theorem Y8r (H:Nat→Int)(i:Nat):wb H (8*i)++[bo H (8*i+0)]++[bo H (8*i+1)]++[bo H (8*i+2)]++[bo H (8*i+3)]++[bo H (8*i+4)]++[bo H (8*i+5)]++[bo H (8*i+6)]++[bo H (8*i+7)]=wb H (8*(i+1)):=by
  unfold wb;rw[show 8*(i+1)=8*i+7+1 by omega];simp only[List.range_succ,List.map_append,List.map_cons,List.map_nil,List.append_assoc,Nat.add_zero,List.cons_append,List.nil_append]
def smb (l:List UInt8):List UInt8:=wb (Hs (pad l) (nb l.length)) 64
theorem Q65 (l:List UInt8):(smb l).length=64:=Q7p _ _
theorem Z8l (l:List UInt8):(J0 .u8 64 (sm l)).toList=bs8 (smb l):=by
  unfold J0 bs8 smb wb;rw[List.map_map];simp only[List.map_inj_left,Function.comp];intro j _;rw[V1m];rfl
end
end Go.Proofs.YteehbddkcnkhfaaGreatDoor.S8

namespace Go.Proofs.YteehbddkcnkhfaaGreatDoor
theorem Z16 {P:Program}{ops:Array Oper}{w:World}{E E' :Act→Prop}(h:∀a,E a→E' a):∀(l:List Oper) (a:Act),wpX P ops w E l a→wpX P ops w E' l a
  |[],a,x=>h a x
  |_::l,_,⟨v,hy,hk⟩=>⟨v,hy,Z16 h l _ hk⟩
def nws (xs:List NewOp)(β:Nat→Nat):List As:=xs.map fun x=> .b (β x.i) x.z x.t
theorem SH.news {F:List Nat}{w W W' :World}{H:List As}{β:Nat→Nat}(h:SH F w W H)(q:Ext W W'):∀(xs:List NewOp),(∀x∈xs,W.heap.size≤β x.i∧Blk W' (β x.i) x.z x.t)→xs.Pairwise (fun x y=>β x.i≠β y.i)→(∀x∈xs,H.all (SH.tyOk (.b 0 x.z x.t))=true)→SH F w W' (nws xs β++H)
  |[],_,_,_=>h.grow q
  |x::xs,hb,hd,ht=>by
    have h1:=SH.news h q xs (fun y hy=>hb y (by simp[hy])) (List.pairwise_cons.1 hd).2 (fun y hy=>ht y (by simp[hy]));have hx:=hb x (by simp);have h2:SH F w W' (.b (β x.i) x.z x.t::H):=h.new (x:=.b (β x.i) x.z x.t) (J08 q) hx.2 (fun k hk=>by rw[List.mem_singleton.1 hk];exact hx.1) rfl (ht x (by simp));have hn:=(List.pairwise_cons.1 hd).1;show SH F w W' (.b (β x.i) x.z x.t::(nws xs β++H));refine⟨h1.off,fun y hy=> ?_,List.pairwise_cons.2 ⟨fun y hy=> ?_,h1.ap⟩,fun y hy hm k hk hlt=> ?_⟩
    · rcases List.mem_cons.1 hy with rfl|hy
      · exact hx.2
      · exact h1.all y hy
    · rcases List.mem_append.1 hy with hy|hy
      · obtain⟨z,hz,rfl⟩:=List.mem_map.1 hy
        have hne:=hn z hz;exact⟨fun _ k hk hk' =>hne ((List.mem_singleton.1 hk).symm.trans (List.mem_singleton.1 hk')),fun _ k hk hk' =>hne ((List.mem_singleton.1 hk').symm.trans (List.mem_singleton.1 hk))⟩
      · exact(List.pairwise_cons.1 h2.ap).1 y hy
    · rcases List.mem_cons.1 hy with rfl|hy
      · have:=hx.1;have:=h.size;rw[List.mem_singleton.1 hk] at hlt;omega
      · exact h1.old y hy hm k hk hlt
section
variable {P : Program} {Q : Exit → Act → World → Prop} {F : List Nat} {w : World} {H : List As} {l : List Oper} {a a' : Act}
theorem RXn {id:Nat}{W:World}{l1 l2:List Oper}(m:Nat)(xs:List NewOp)(hS:SH F w W H)
    (h:wpM P l.toArray (.X (fun a1 W1=> ∀(β:Nat→Nat)(W' :World),Ext W1 W' →(∀x∈xs,W1.heap.size≤β x.i∧Blk W' (β x.i) x.z x.t)→(∀x∈xs,∀y∈xs,x.i≠y.i→β x.i≠β y.i)→wpList P l.toArray (NoPanic Q) l2 (J05 xs β a1) W')) F w H l1 a')
    (hok:∀x∈xs,Q5e P l.toArray x) (hm:P.follows .mixedOrders=true:=by as_aux_lemma=>kernel_rfl)
    (hB:(Region.noSelect l.toArray && Q3y .any l.toArray (m+xs.length) m 0 (Array.replicate l.length false) && decide (m+xs.length≤l.length) && decide (xs.map (·.i)).Nodup && decide (xs.map (·.d)).Nodup && xs.all (fun x=>decide (x.i<m+xs.length)) &&
      Q5f .any l.toArray (K8 (m+xs.length) 0 (Array.replicate l.length false)) xs.length (xs.map (·.i)) (K8 m 0 (Array.replicate l.length false)) &&
      (Region.ready .any l.toArray (K8 (m+xs.length) 0 (Array.replicate l.length false))).all (fun j=>decide (m+xs.length≤j)) &&
      Region.seqB .any l.toArray (l.length-(m+xs.length)) (m+xs.length) (K8 (m+xs.length) 0 (Array.replicate l.length false)))=true:=by as_aux_lemma=>kernel_rfl)
    (h1:l.take m=l1:=by(try simp only[List.append,List.take_succ_cons,List.take_zero,List.take_nil]);exact rfl) (h2:l.drop (m+xs.length)=l2:=by(try simp only[List.append,List.length_cons,List.length_nil,List.drop_succ_cons,List.drop_zero,List.drop_nil]);exact rfl)
    (hp:a=a' :=by(try simp only[Act.put,mA,mB,mC]);exact rfl):(Code.region id l.toArray true).wp P Q a W:=by
  subst hp h1 h2;exact J25 m xs hm hok hB (Z16 (fun a1 h3 β W' h4 h5 h6=>h3 W (Below.refl _ _) β W' h4 h5 h6) _ _ (h W hS))
theorem MZB {ops ops2:Array Oper}{l2:List Oper}{xs:List NewOp}{H' :(Nat→Nat)→List As}{a2:(Nat→Nat)→Act}(h:∀β,wpM P ops2 (.L Q) F w (H' β) l2 (a2 β))(hnd:(xs.map (·.i)).Nodup:=by decide)(ht:∀x∈xs,H.all (SH.tyOk (.b 0 x.z x.t))=true:=by(intro x hx;simp only[List.mem_cons,List.not_mem_nil,or_false] at hx;rcases hx with rfl|rfl|rfl|rfl<;>rfl))
    (hH:∀β,nws xs β++H=H' β:=by exact fun _=>rfl) (hp:∀β,J05 xs β a=a2 β:=by(intro β;dsimp only[J05,Act.put,mA,mB,mC];first|done|exact rfl)):
    wpM P ops (.X (fun a1 W1=> ∀(β:Nat→Nat)(W' :World),Ext W1 W' →(∀x∈xs,W1.heap.size≤β x.i∧Blk W' (β x.i) x.z x.t)→(∀x∈xs,∀y∈xs,x.i≠y.i→β x.i≠β y.i)→wpList P ops2 Q l2 (J05 xs β a1) W')) F w H [] a:=fun W hS=>K7 fun W1 h1 β W' h2 h3 h4=>by
  rw[hp β];refine h β W' ?_;rw[←hH β];refine(hS.grow h1).news h2 xs h3 ?_ ht
  have:xs.Pairwise fun x y=>x.i≠y.i:=by
    have:=List.pairwise_map.1 hnd;exact this
  exact List.Pairwise.imp_of_mem (fun hx hy D=>h4 _ hx _ hy D) this
end
end Go.Proofs.YteehbddkcnkhfaaGreatDoor

/- Contracts and plain laws for bundleAny_holds. Conditions: the tables hold their numbers. -/
import Derived.Test.YtlkbneflnjmgbaaGreatDoorJ6
open Go.RowKit
set_option linter.unusedSimpArgs false
set_option linter.unusedVariables false
namespace Go.Proofs.YtlkbneflnjmgbaaGreatDoor.S8
section
set_option maxHeartbeats 4000000
set_option maxRecDepth 100000
attribute [local irreducible] wpList
theorem Y94 (h:Nat→Int)(l:List UInt8)(u:Value)(hl:128≤l.length)(w:World)(hs:Sl w u l)(hG:GS w):Calls Tryz.prog 143 #[.agg (J0 .u64 8 h),u] w fun e w' =>Ret (.agg (J0 .u64 8 (prs h (bt l)))) w w' e:=by
  obtain⟨ad,c,rfl,_⟩:=Q1d hs (by omega);exact Y7k h l ad c hl w hs hG

theorem K0j (ps:List (List UInt8))(A:Option Addr)(c:Nat)(F:List UInt8)(hF:ps.flatten=F)(hlen:F.length≤70368744177664)(hpn:ps.length≤9223372036854775000)(w:World)(hps:∀i l,ps[i]?=some l→∃ad u,A=some ad∧w.cell? (ad.add i)=some u∧Sl w u l)(hG:GS w):
  Calls Tryz.prog 102 #[.slice A ps.length c] w fun e w' =>Ret (.agg (J0 .u8 64 (sm F))) w w' e:=by
 have HG:=Lib.hid hG;have T6:=Lib.hid hps;clear hG hps;have μ:=Z2v F;have Y4:=(Q8n F.length).2;have D:Off [] w w:=Off.refl _ _
 go_enter Tryz.func102,Tryz.ntmps102
 go_upto_region 0 with fail;refine wp_region_lit ?_;refine Ln ?_ (z:=J0 .u8 64 (fun _=>0)) (t:=163);intro Z8 W1 G2 hO h_;have N4:=fbn D G2;replace D:=D.o hO;have G:=h_;clear hO h_ G2;refine J2 ?_;go_upto_region 2 with fail;refine wp_region_lit ?_;refine Lv ?_;refine Lv ?_;refine Lw ?_ (v:=.int .i64 0);refine J2 ?_;have J:=Q1a W1;have N:Fr (Value.ownBlock (.slice none 0 0)) w.heap.size []:=Q18;have Z7:Value.ownBlock (.slice none 0 0)≠some Z8:=fun e_=>by cases e_
 go_wp2_with fail
 go_loopw [3,15] (fun sv ii wr=> ∃(i:Nat)(bv:Value),(i≤ps.length)∧(bv=sv)∧(ii=.int .i64 (i:Int))∧Off [] w wr∧Blk wr Z8 (J0 .u8 64 (fun _=>0)) 163∧Own wr bv ((List.take i ps).flatten)∧Fr (Value.ownBlock bv) w.heap.size []∧(Value.ownBlock bv)≠some Z8)
  (fun sv ii _=>ps.length-(intOf ii).toNat)
 case atStart=>exact⟨0,_,Nat.zero_le _,rfl,rfl,D,G,J,N,Z7⟩
 case round=>
  obtain⟨i,bv,hi,rfl,rfl,D,G,J,N,Z7⟩:=hrel;obtain⟨W2,γ⟩:=J76 D;subst γ
  by_cases ξ:i<ps.length
  ·
   obtain⟨l_,ψ⟩:∃l,ps[i]?=some l:=⟨_,List.getElem?_eq_getElem ξ⟩
   obtain⟨M2,u_,R1,N5,M3⟩:=T6.out i l_ ψ;have X3:(List.take i ps).flatten.length+l_.length≤F.length:=by rw[←hF,←List.length_append,←J5o ψ];exact Q43 _ _
   go_upto_region 3 with fail;refine wp_region_lit ?_;refine Lw ?_ (v:=.bool true);refine J2 ?_;go_upto_region 4 with fail;refine wp_region_lit ?_;refine Lw ?_ (v:=.pointer (some (M2.add i))) (hv:=Q7d (j:=i) ξ rfl (by rw[←R1];rfl) rfl);refine J6s (by rfl) rfl rfl (J0q N5 D.ext) (by kernel_rfl) ?_
   (try simp only[Act.put,mA,mB,mC])
   refine Lv ?_;refine J2 ?_;go_upto_region 5 with fail;refine wp_region_lit ?_;refine Lv ?_;refine Lv ?_;refine J00 (xs:=((List.take i ps).flatten)) (ys:=l_) (by rfl) rfl rfl rfl J (M3.off D f0) (by first|omega|(simp only[List.length_append,List.length_cons,List.length_nil,List.length_replicate];omega)) ?_
   (try simp only[Act.put,mA,mB,mC])
   intro X1 W3 D6 hO Δ φ;clear φ;have M5:=J0m Δ Z7 (Q2 G);have T8:=J0n Δ N D.size;replace G:=J0j G hO (nmo Z7);replace D:=D.step hO (io N);clear hO Δ;have J:=D6;clear D6;have N:=T8;have Z7:=M5;refine Lv ?_;refine J2 ?_;go_wp2;go_roundw
   case rel=>exact⟨i+1,_,by omega,rfl,by go_num,D,G,(by rw[J5o ψ];exact J),N,Z7⟩
   case measure=>simp[intOf];omega
  obtain rfl:i=ps.length:=by omega
  rw[List.take_length,hF] at J;go_upto_region 3 with fail;refine wp_region_lit ?_;refine Lw ?_ (v:=.bool false);refine J2 ?_;go_upto_region 7 with fail;refine wp_region_lit ?_;refine Lv ?_;refine J2b (l:=F) (J.sl) (by rfl) rfl rfl ?_
  (try simp only[Act.put,mA,mB,mC])
  refine Lw ?_ (v:=.int .u64 ((F.length:Nat):Int)) (hv:=by go_simp;(try simp only[IntKind.wrap_u64,IntKind.wrap_i64]);(try omega));refine Lw ?_ (v:=.int .u64 ((8*F.length:Nat):Int)) (hv:=by rw[show((8*F.length:Nat):Int)=sl ((F.length:Nat):Int) 3 from(by unfold sl;rw[IntKind.wrap_u64];omega)];exact J41 (n:=3) (by decide) rfl rfl rfl);refine Lv ?_;refine J2 ?_;go_upto_region 8 with fail;refine wp_region_lit ?_;refine Lv ?_;refine LnS ?_ (z:= #[.int .u8 128]) (t:=5) (n:=1) (c:=1);intro N9 W3 S3 hO h_;replace G:=G.o hO;replace J:=Own.off J hO f0;replace D:=D.o hO;have θ:Own W3 (.slice (some ⟨N9,0,none⟩) 1 1) [128]:=J1s h_ (by rfl) (by show 1≤maxLen;decide);clear hO h_ S3;refine J00 (xs:=F) (ys:=[128]) (by rfl) rfl rfl rfl J (θ.sl) (by first|omega|(simp only[List.length_append,List.length_cons,List.length_nil,List.length_replicate];omega)) ?_
  (try simp only[Act.put,mA,mB,mC])
  intro Y8 W4 D8 hO Ψ τ;clear τ;have S6:=J0m Ψ Z7 (Q2 G);have T9:=J0n Ψ N D.size;replace G:=J0j G hO (nmo Z7);replace D:=D.step hO (io N);clear hO Ψ;have J:=D8;clear D8;have N:=T9;have Z7:=S6;refine Lv ?_;refine J2 ?_;clear θ
  go_wp2_with fail
  go_loopw [3] (fun sv wr=> ∃(k:Nat)(bv:Value),(k≤zc F.length)∧(bv=sv)∧Off [] w wr∧Blk wr Z8 (J0 .u8 64 (fun _=>0)) 163∧Own wr bv (F++[128]++List.replicate k 0)∧Fr (Value.ownBlock bv) w.heap.size []∧(Value.ownBlock bv)≠some Z8)
   (fun sv _=>F.length+300-Q54 sv)
  case atStart=>exact⟨0,_,Nat.zero_le _,rfl,D,G,(by rw[List.replicate_zero,List.append_nil];exact J),N,Z7⟩
  case round=>
   obtain⟨k,bv,hk,rfl,D,G,J,N,Z7⟩:=hrel;obtain⟨W5,γ⟩:=J76 D;subst γ;have lb:=Z5y J
   by_cases hz:k<zc F.length
   ·
    have M7:=K0d hz;go_upto_region 9 with fail;refine wp_region_lit ?_;refine Lv ?_;refine J2b (l:=(F++[128]++List.replicate k 0)) (J.sl) (by rfl) rfl rfl ?_
    (try simp only[Act.put,mA,mB,mC])
    refine Lw ?_ (v:=.int .i64 (((F.length+1+k) % 128:Nat):Int)) (hv:=by go_simp;(try simp only[List.length_append,List.length_cons,List.length_nil,List.length_replicate]);rw[Int.tmod_eq_emod_of_nonneg (by omega)];omega);refine Lw ?_ (v:=.bool true) (hv:=by go_simp;omega);refine J2 ?_;go_upto_region 10 with fail;refine wp_region_lit ?_;refine Lv ?_;refine LnS ?_ (z:= #[.int .u8 0]) (t:=5) (n:=1) (c:=1);intro S5 W6 N7 hO h_;replace G:=G.o hO;replace J:=Own.off J hO f0;replace D:=D.o hO;have Ω:Own W6 (.slice (some ⟨S5,0,none⟩) 1 1) [0]:=J1s h_ (by rfl) (by show 1≤maxLen;decide);clear hO h_ N7;refine J00 (xs:=(F++[128]++List.replicate k 0)) (ys:=[0]) (by rfl) rfl rfl rfl J (Ω.sl) (by first|omega|(simp only[List.length_append,List.length_cons,List.length_nil,List.length_replicate];omega)) ?_
    (try simp only[Act.put,mA,mB,mC])
    intro Y7 W7 D5 hO Θ σ;clear σ;have M6:=J0m Θ Z7 (Q2 G);have R2:=J0n Θ N D.size;replace G:=J0j G hO (nmo Z7);replace D:=D.step hO (io N);clear hO Θ;have J:=D5;clear D5;have N:=R2;have Z7:=M6;refine Lv ?_;refine J2 ?_;have la:=Z5y J;simp only[List.length_append,List.length_cons,List.length_nil,List.length_replicate] at la lb;go_wp2;go_roundw
    case rel=>exact⟨k+1,_,by omega,rfl,D,G,(by rw[List.replicate_succ',←List.append_assoc];exact J),N,Z7⟩
    case measure=>simp only[la,lb];omega
   obtain rfl:k=zc F.length:=by omega
   have M7:=(Q8n F.length).1;go_upto_region 9 with fail;refine wp_region_lit ?_;refine Lv ?_;refine J2b (l:=(F++[128]++List.replicate (zc F.length) 0)) (J.sl) (by rfl) rfl rfl ?_
   (try simp only[Act.put,mA,mB,mC])
   refine Lw ?_ (v:=.int .i64 (((F.length+1+zc F.length) % 128:Nat):Int)) (hv:=by go_simp;(try simp only[List.length_append,List.length_cons,List.length_nil,List.length_replicate]);rw[Int.tmod_eq_emod_of_nonneg (by omega)];omega);refine Lw ?_ (v:=.bool false) (hv:=by first|(go_simp;done)|(go_simp;omega));refine J2 ?_;go_upto_region 11 with fail;refine wp_region_lit ?_;refine Lv ?_;refine Z0u (xs:=(F++[128]++List.replicate (zc F.length) 0)) (m:=8) (by decide) (by rfl) rfl rfl rfl J (by first|omega|(simp only[List.length_append,List.length_cons,List.length_nil,List.length_replicate];omega)) ?_
   (try simp only[Act.put,mA,mB,mC])
   intro S9 W6 G0 hO χ;have N3:=J0m χ Z7 (Q2 G);have T2:=J0n χ N D.size;replace G:=J0j G hO (nmo Z7);replace D:=D.step hO (io N);clear hO χ;have J:=G0;clear G0;have N:=T2;have Z7:=N3;refine Lv ?_;refine J2 ?_
   go_wp2_with fail
   refine wp_loop_rounds 9 ?_;rw[rounds_succ];go_upto_region 15 with fail;refine wp_region_lit ?_;refine Lv ?_;refine Lv ?_;refine Lw ?_ (v:=.int .i64 7);refine Lw ?_ (v:=.int .i64 56);refine Lw ?_ (v:=.int .u64 (sr ((8*F.length:Nat):Int) 56)) (hv:=J1b (n:=56) (by decide) rfl rfl rfl);refine Lw ?_ (v:=.int .u8 ((u8 ((8*F.length) / 72057594037927936)).toNat:Int)) (hv:=by rw[←J3l (8*F.length) 56 72057594037927936 (by decide)];exact J30 rfl rfl);refine LnS ?_ (z:= #[.int .u8 ((u8 ((8*F.length) / 72057594037927936)).toNat:Int)]) (t:=5) (n:=1) (c:=1);intro D0 W7 X hO h_;have V8:∀x,(Value.ownBlock S9)=some x→Value.ownBlock (.slice (some ⟨D0,0,none⟩) 1 1)≠some x:=Q0f (Own.lt J) X;replace G:=G.o hO;replace J:=Own.off J hO f0;replace D:=D.o hO;have M:Own W7 (.slice (some ⟨D0,0,none⟩) 1 1) [u8 ((8*F.length) / 72057594037927936)]:=J1s h_ (by rfl) (by show 1≤maxLen;decide);clear hO h_ X;refine J00 (xs:=((F++[128]++List.replicate (zc F.length) 0)++List.replicate 8 0)) (ys:=[u8 ((8*F.length) / 72057594037927936)]) (by rfl) rfl rfl rfl J (M.sl) (by first|omega|(simp only[List.length_append,List.length_cons,List.length_nil,List.length_replicate];omega)) ?_
   (try simp only[Act.put,mA,mB,mC])
   intro R8 W8 V hO S R;clear R;have Y:=J0m S Z7 (Q2 G);have β:=Q26 S V8 (Own.lt M);have α:=J0n S N D.size;replace G:=J0j G hO (nmo Z7);replace M:=Own.off M hO (fo V8);replace D:=D.step hO (io N);clear hO S;have J:=V;clear V;have N:=α;have Z7:=Y;have V8:=β;refine Lv ?_;refine J2 ?_
   go_wp2_with fail
   rw[rounds_succ];go_upto_region 15 with fail;refine wp_region_lit ?_;refine Lv ?_;refine Lv ?_;refine Lw ?_ (v:=.int .i64 6);refine Lw ?_ (v:=.int .i64 48);refine Lw ?_ (v:=.int .u64 (sr ((8*F.length:Nat):Int) 48)) (hv:=J1b (n:=48) (by decide) rfl rfl rfl);refine Lw ?_ (v:=.int .u8 ((u8 ((8*F.length) / 281474976710656)).toNat:Int)) (hv:=by rw[←J3l (8*F.length) 48 281474976710656 (by decide)];exact J30 rfl rfl);clear M V8;refine LnS ?_ (z:= #[.int .u8 ((u8 ((8*F.length) / 281474976710656)).toNat:Int)]) (t:=5) (n:=1) (c:=1);intro G3 W9 X hO h_;have V8:∀x,(Value.ownBlock R8)=some x→Value.ownBlock (.slice (some ⟨G3,0,none⟩) 1 1)≠some x:=Q0f (Own.lt J) X;replace G:=G.o hO;replace J:=Own.off J hO f0;replace D:=D.o hO;have M:Own W9 (.slice (some ⟨G3,0,none⟩) 1 1) [u8 ((8*F.length) / 281474976710656)]:=J1s h_ (by rfl) (by show 1≤maxLen;decide);clear hO h_ X;refine J00 (xs:=(((F++[128]++List.replicate (zc F.length) 0)++List.replicate 8 0)++[u8 ((8*F.length) / 72057594037927936)])) (ys:=[u8 ((8*F.length) / 281474976710656)]) (by rfl) rfl rfl rfl J (M.sl) (by first|omega|(simp only[List.length_append,List.length_cons,List.length_nil,List.length_replicate];omega)) ?_
   (try simp only[Act.put,mA,mB,mC])
   intro N2 Y3 V hO S R;clear R;have Y:=J0m S Z7 (Q2 G);have β:=Q26 S V8 (Own.lt M);have α:=J0n S N D.size;replace G:=J0j G hO (nmo Z7);replace M:=Own.off M hO (fo V8);replace D:=D.step hO (io N);clear hO S;have J:=V;clear V;have N:=α;have Z7:=Y;have V8:=β;refine Lv ?_;refine J2 ?_
   go_wp2_with fail
   rw[rounds_succ];go_upto_region 15 with fail;refine wp_region_lit ?_;refine Lv ?_;refine Lv ?_;refine Lw ?_ (v:=.int .i64 5);refine Lw ?_ (v:=.int .i64 40);refine Lw ?_ (v:=.int .u64 (sr ((8*F.length:Nat):Int) 40)) (hv:=J1b (n:=40) (by decide) rfl rfl rfl);refine Lw ?_ (v:=.int .u8 ((u8 ((8*F.length) / 1099511627776)).toNat:Int)) (hv:=by rw[←J3l (8*F.length) 40 1099511627776 (by decide)];exact J30 rfl rfl);clear M V8;refine LnS ?_ (z:= #[.int .u8 ((u8 ((8*F.length) / 1099511627776)).toNat:Int)]) (t:=5) (n:=1) (c:=1);intro G9 M9 X hO h_;have V8:∀x,(Value.ownBlock N2)=some x→Value.ownBlock (.slice (some ⟨G9,0,none⟩) 1 1)≠some x:=Q0f (Own.lt J) X;replace G:=G.o hO;replace J:=Own.off J hO f0;replace D:=D.o hO;have M:Own M9 (.slice (some ⟨G9,0,none⟩) 1 1) [u8 ((8*F.length) / 1099511627776)]:=J1s h_ (by rfl) (by show 1≤maxLen;decide);clear hO h_ X;refine J00 (xs:=((((F++[128]++List.replicate (zc F.length) 0)++List.replicate 8 0)++[u8 ((8*F.length) / 72057594037927936)])++[u8 ((8*F.length) / 281474976710656)])) (ys:=[u8 ((8*F.length) / 1099511627776)]) (by rfl) rfl rfl rfl J (M.sl) (by first|omega|(simp only[List.length_append,List.length_cons,List.length_nil,List.length_replicate];omega)) ?_
   (try simp only[Act.put,mA,mB,mC])
   intro R6 X0 V hO S R;clear R;have Y:=J0m S Z7 (Q2 G);have β:=Q26 S V8 (Own.lt M);have α:=J0n S N D.size;replace G:=J0j G hO (nmo Z7);replace M:=Own.off M hO (fo V8);replace D:=D.step hO (io N);clear hO S;have J:=V;clear V;have N:=α;have Z7:=Y;have V8:=β;refine Lv ?_;refine J2 ?_
   go_wp2_with fail
   rw[rounds_succ];go_upto_region 15 with fail;refine wp_region_lit ?_;refine Lv ?_;refine Lv ?_;refine Lw ?_ (v:=.int .i64 4);refine Lw ?_ (v:=.int .i64 32);refine Lw ?_ (v:=.int .u64 (sr ((8*F.length:Nat):Int) 32)) (hv:=J1b (n:=32) (by decide) rfl rfl rfl);refine Lw ?_ (v:=.int .u8 ((u8 ((8*F.length) / 4294967296)).toNat:Int)) (hv:=by rw[←J3l (8*F.length) 32 4294967296 (by decide)];exact J30 rfl rfl);clear M V8;refine LnS ?_ (z:= #[.int .u8 ((u8 ((8*F.length) / 4294967296)).toNat:Int)]) (t:=5) (n:=1) (c:=1);intro D7 T5 X hO h_;have V8:∀x,(Value.ownBlock R6)=some x→Value.ownBlock (.slice (some ⟨D7,0,none⟩) 1 1)≠some x:=Q0f (Own.lt J) X;replace G:=G.o hO;replace J:=Own.off J hO f0;replace D:=D.o hO;have M:Own T5 (.slice (some ⟨D7,0,none⟩) 1 1) [u8 ((8*F.length) / 4294967296)]:=J1s h_ (by rfl) (by show 1≤maxLen;decide);clear hO h_ X;refine J00 (xs:=(((((F++[128]++List.replicate (zc F.length) 0)++List.replicate 8 0)++[u8 ((8*F.length) / 72057594037927936)])++[u8 ((8*F.length) / 281474976710656)])++[u8 ((8*F.length) / 1099511627776)])) (ys:=[u8 ((8*F.length) / 4294967296)]) (by rfl) rfl rfl rfl J (M.sl) (by first|omega|(simp only[List.length_append,List.length_cons,List.length_nil,List.length_replicate];omega)) ?_
   (try simp only[Act.put,mA,mB,mC])
   intro M1 Y5 V hO S R;clear R;have Y:=J0m S Z7 (Q2 G);have β:=Q26 S V8 (Own.lt M);have α:=J0n S N D.size;replace G:=J0j G hO (nmo Z7);replace M:=Own.off M hO (fo V8);replace D:=D.step hO (io N);clear hO S;have J:=V;clear V;have N:=α;have Z7:=Y;have V8:=β;refine Lv ?_;refine J2 ?_
   go_wp2_with fail
   rw[rounds_succ];go_upto_region 15 with fail;refine wp_region_lit ?_;refine Lv ?_;refine Lv ?_;refine Lw ?_ (v:=.int .i64 3);refine Lw ?_ (v:=.int .i64 24);refine Lw ?_ (v:=.int .u64 (sr ((8*F.length:Nat):Int) 24)) (hv:=J1b (n:=24) (by decide) rfl rfl rfl);refine Lw ?_ (v:=.int .u8 ((u8 ((8*F.length) / 16777216)).toNat:Int)) (hv:=by rw[←J3l (8*F.length) 24 16777216 (by decide)];exact J30 rfl rfl);clear M V8;refine LnS ?_ (z:= #[.int .u8 ((u8 ((8*F.length) / 16777216)).toNat:Int)]) (t:=5) (n:=1) (c:=1);intro G7 T1 X hO h_;have V8:∀x,(Value.ownBlock M1)=some x→Value.ownBlock (.slice (some ⟨G7,0,none⟩) 1 1)≠some x:=Q0f (Own.lt J) X;replace G:=G.o hO;replace J:=Own.off J hO f0;replace D:=D.o hO;have M:Own T1 (.slice (some ⟨G7,0,none⟩) 1 1) [u8 ((8*F.length) / 16777216)]:=J1s h_ (by rfl) (by show 1≤maxLen;decide);clear hO h_ X;refine J00 (xs:=((((((F++[128]++List.replicate (zc F.length) 0)++List.replicate 8 0)++[u8 ((8*F.length) / 72057594037927936)])++[u8 ((8*F.length) / 281474976710656)])++[u8 ((8*F.length) / 1099511627776)])++[u8 ((8*F.length) / 4294967296)])) (ys:=[u8 ((8*F.length) / 16777216)]) (by rfl) rfl rfl rfl J (M.sl) (by first|omega|(simp only[List.length_append,List.length_cons,List.length_nil,List.length_replicate];omega)) ?_
   (try simp only[Act.put,mA,mB,mC])
   intro R3 Y2 V hO S R;clear R;have Y:=J0m S Z7 (Q2 G);have β:=Q26 S V8 (Own.lt M);have α:=J0n S N D.size;replace G:=J0j G hO (nmo Z7);replace M:=Own.off M hO (fo V8);replace D:=D.step hO (io N);clear hO S;have J:=V;clear V;have N:=α;have Z7:=Y;have V8:=β;refine Lv ?_;refine J2 ?_
   go_wp2_with fail
   rw[rounds_succ];go_upto_region 15 with fail;refine wp_region_lit ?_;refine Lv ?_;refine Lv ?_;refine Lw ?_ (v:=.int .i64 2);refine Lw ?_ (v:=.int .i64 16);refine Lw ?_ (v:=.int .u64 (sr ((8*F.length:Nat):Int) 16)) (hv:=J1b (n:=16) (by decide) rfl rfl rfl);refine Lw ?_ (v:=.int .u8 ((u8 ((8*F.length) / 65536)).toNat:Int)) (hv:=by rw[←J3l (8*F.length) 16 65536 (by decide)];exact J30 rfl rfl);clear M V8;refine LnS ?_ (z:= #[.int .u8 ((u8 ((8*F.length) / 65536)).toNat:Int)]) (t:=5) (n:=1) (c:=1);intro G4 N6 X hO h_;have V8:∀x,(Value.ownBlock R3)=some x→Value.ownBlock (.slice (some ⟨G4,0,none⟩) 1 1)≠some x:=Q0f (Own.lt J) X;replace G:=G.o hO;replace J:=Own.off J hO f0;replace D:=D.o hO;have M:Own N6 (.slice (some ⟨G4,0,none⟩) 1 1) [u8 ((8*F.length) / 65536)]:=J1s h_ (by rfl) (by show 1≤maxLen;decide);clear hO h_ X;refine J00 (xs:=(((((((F++[128]++List.replicate (zc F.length) 0)++List.replicate 8 0)++[u8 ((8*F.length) / 72057594037927936)])++[u8 ((8*F.length) / 281474976710656)])++[u8 ((8*F.length) / 1099511627776)])++[u8 ((8*F.length) / 4294967296)])++[u8 ((8*F.length) / 16777216)])) (ys:=[u8 ((8*F.length) / 65536)]) (by rfl) rfl rfl rfl J (M.sl) (by first|omega|(simp only[List.length_append,List.length_cons,List.length_nil,List.length_replicate];omega)) ?_
   (try simp only[Act.put,mA,mB,mC])
   intro N8 X4 V hO S R;clear R;have Y:=J0m S Z7 (Q2 G);have β:=Q26 S V8 (Own.lt M);have α:=J0n S N D.size;replace G:=J0j G hO (nmo Z7);replace M:=Own.off M hO (fo V8);replace D:=D.step hO (io N);clear hO S;have J:=V;clear V;have N:=α;have Z7:=Y;have V8:=β;refine Lv ?_;refine J2 ?_
   go_wp2_with fail
   rw[rounds_succ];go_upto_region 15 with fail;refine wp_region_lit ?_;refine Lv ?_;refine Lv ?_;refine Lw ?_ (v:=.int .i64 1);refine Lw ?_ (v:=.int .i64 8);refine Lw ?_ (v:=.int .u64 (sr ((8*F.length:Nat):Int) 8)) (hv:=J1b (n:=8) (by decide) rfl rfl rfl);refine Lw ?_ (v:=.int .u8 ((u8 ((8*F.length) / 256)).toNat:Int)) (hv:=by rw[←J3l (8*F.length) 8 256 (by decide)];exact J30 rfl rfl);clear M V8;refine LnS ?_ (z:= #[.int .u8 ((u8 ((8*F.length) / 256)).toNat:Int)]) (t:=5) (n:=1) (c:=1);intro G5 S2 X hO h_;have V8:∀x,(Value.ownBlock N8)=some x→Value.ownBlock (.slice (some ⟨G5,0,none⟩) 1 1)≠some x:=Q0f (Own.lt J) X;replace G:=G.o hO;replace J:=Own.off J hO f0;replace D:=D.o hO;have M:Own S2 (.slice (some ⟨G5,0,none⟩) 1 1) [u8 ((8*F.length) / 256)]:=J1s h_ (by rfl) (by show 1≤maxLen;decide);clear hO h_ X;refine J00 (xs:=((((((((F++[128]++List.replicate (zc F.length) 0)++List.replicate 8 0)++[u8 ((8*F.length) / 72057594037927936)])++[u8 ((8*F.length) / 281474976710656)])++[u8 ((8*F.length) / 1099511627776)])++[u8 ((8*F.length) / 4294967296)])++[u8 ((8*F.length) / 16777216)])++[u8 ((8*F.length) / 65536)])) (ys:=[u8 ((8*F.length) / 256)]) (by rfl) rfl rfl rfl J (M.sl) (by first|omega|(simp only[List.length_append,List.length_cons,List.length_nil,List.length_replicate];omega)) ?_
   (try simp only[Act.put,mA,mB,mC])
   intro Y1 X2 V hO S R;clear R;have Y:=J0m S Z7 (Q2 G);have α:=J0n S N D.size;replace G:=J0j G hO (nmo Z7);replace M:=Own.off M hO (fo V8);replace D:=D.step hO (io N);clear hO S;have J:=V;clear V;have N:=α;have Z7:=Y;refine Lv ?_;refine J2 ?_
   go_wp2_with fail
   rw[rounds_succ];go_upto_region 15 with fail;refine wp_region_lit ?_;refine Lv ?_;refine Lv ?_;refine Lw ?_ (v:=.int .i64 0);refine Lw ?_ (v:=.int .i64 0);refine Lw ?_ (v:=.int .u64 (sr ((8*F.length:Nat):Int) 0)) (hv:=J1b (n:=0) (by decide) rfl rfl rfl);refine Lw ?_ (v:=.int .u8 ((u8 (8*F.length)).toNat:Int)) (hv:=by rw[←Z5z (8*F.length)];exact J30 rfl rfl);clear M V8;refine LnS ?_ (z:= #[.int .u8 ((u8 (8*F.length)).toNat:Int)]) (t:=5) (n:=1) (c:=1);intro R7 R0 X hO h_;replace G:=G.o hO;replace J:=Own.off J hO f0;replace D:=D.o hO;have M:Own R0 (.slice (some ⟨R7,0,none⟩) 1 1) [u8 (8*F.length)]:=J1s h_ (by rfl) (by show 1≤maxLen;decide);clear hO h_ X;refine J00 (xs:=(((((((((F++[128]++List.replicate (zc F.length) 0)++List.replicate 8 0)++[u8 ((8*F.length) / 72057594037927936)])++[u8 ((8*F.length) / 281474976710656)])++[u8 ((8*F.length) / 1099511627776)])++[u8 ((8*F.length) / 4294967296)])++[u8 ((8*F.length) / 16777216)])++[u8 ((8*F.length) / 65536)])++[u8 ((8*F.length) / 256)])) (ys:=[u8 (8*F.length)]) (by rfl) rfl rfl rfl J (M.sl) (by first|omega|(simp only[List.length_append,List.length_cons,List.length_nil,List.length_replicate];omega)) ?_
   (try simp only[Act.put,mA,mB,mC])
   intro ω Y6 V hO S R;clear R;have Y:=J0m S Z7 (Q2 G);replace G:=J0j G hO (nmo Z7);replace D:=D.step hO (io N);clear hO S;have J:=V;clear V;have Z7:=Y;refine Lv ?_;refine J2 ?_
   go_wp2_with fail
   rw[rounds_succ];go_upto_region 16 with fail;refine wp_region_lit ?_;refine Z4s (by rfl) rfl rfl ((Q7r HG.out D.ext).2) (by kernel_rfl) (by rw[J1];kernel_rfl) ?_
   (try simp only[Act.put,mA,mB,mC])
   refine LnP ?_ (z:=J0 .u64 8 (fun _=>0)) (t:=248) (cells:=J0 .u64 8 hf) (hi:=by rw[J1];kernel_rfl) (hs:=by rw[J1,J1]) (h1:=by exact J04 _ _ _);intro ε S4 ν hO h_;have M8:=bn G ν;have D1:=J3c (Own.lt J) ν;have N0:=fbn D ν;replace G:=G.o hO;replace J:=Own.off J hO f0;replace D:=D.o hO;have T:=h_;clear hO h_ ν;refine J2 ?_;clear M V8;rw[Z61] at J;have U:Sl S4 ω (List.drop (128*0) (pad F)):=Z7u J;have ζ:sb ω (List.drop (128*0) (pad F))≠some Z8:=Y14 Z7;have δ:sb ω (List.drop (128*0) (pad F))≠some ε:=Y14 D1;clear J N Z7 D1
   go_wp2_with fail
   go_loopw [3] (fun sv wr=> ∃(j:Nat)(u:Value),(j≤nb F.length)∧(u=sv)∧Off [] w wr∧Blk wr Z8 (J0 .u8 64 (fun _=>0)) 163∧Blk wr ε (J0 .u64 8 (Hs (pad F) j)) 248∧Sl wr u (List.drop (128*j) (pad F))∧(sb u (List.drop (128*j) (pad F)))≠some Z8∧(sb u (List.drop (128*j) (pad F)))≠some ε)
    (fun sv _=>Q54 sv)
   case atStart=>exact⟨0,_,Nat.zero_le _,rfl,D,G,T,U,ζ,δ⟩
   case round=>
    obtain⟨j,u,hj,rfl,D,G,T,U,ζ,δ⟩:=hrel;obtain⟨R4,γ⟩:=J76 D;subst γ;have lb:=J96 U
    by_cases G1:j<nb F.length
    ·
     have ρ:128≤(List.drop (128*j) (pad F)).length:=by rw[List.length_drop,μ];omega
     go_upto_region 17 with fail;refine wp_region_lit ?_;refine Lv ?_;refine J2b (l:=(List.drop (128*j) (pad F))) U (by rfl) rfl rfl ?_
     (try simp only[Act.put,mA,mB,mC])
     refine Lw ?_ (v:=.bool true) (hv:=by go_simp;(try simp only[List.length_drop,μ]);omega);refine J2 ?_;go_upto_region 19 with fail;refine wp_region_lit ?_;refine L0A ?_ T;refine Lv ?_;refine Lr ?_ (Y94 (Hs (pad F) j) (List.drop (128*j) (pad F)) u ρ R4 U (Q7r HG.out D.ext));intro R5 hO;replace G:=G.o hO;replace T:=T.o hO;replace U:=Sl.off U hO f0;replace D:=D.o hO;clear hO;refine Lp ?_ T (cells:=J0 .u64 8 (prs (Hs (pad F) j) (bt (List.drop (128*j) (pad F))))) (hi:=by rw[J1];kernel_rfl) (hs:=by rw[J1,J1]) (h1:=by exact J04 _ _ _);intro M0 hO h_;replace T:Blk M0 ε (J0 .u64 8 (prs (Hs (pad F) j) (bt (List.drop (128*j) (pad F))))) 248:=h_;clear h_;replace G:=G.p hO M8;replace U:=Sl.off U hO (f1 δ);replace D:=D.p hO N0;clear hO;refine J2 ?_;go_upto_region 18 with fail;refine wp_region_lit ?_;refine Lv ?_;refine Q4i (n:=128) U (by exact ρ) (by rfl) rfl rfl rfl ?_
     (try simp only[Act.put,mA,mB,mC])
     intro D9 Γ G6;have G8:sb D9 (List.drop 128 (List.drop (128*j) (pad F)))≠some Z8:=J55 G6 ζ;have D4:sb D9 (List.drop 128 (List.drop (128*j) (pad F)))≠some ε:=J55 G6 δ;refine Lv ?_;refine J2 ?_;clear U ζ δ;rw[Q2d] at Γ;rw[Q2d] at G8;rw[Q2d] at D4;have U:=Γ;clear Γ;have ζ:=G8;have δ:=D4;have la:=J96 U;simp only[List.length_drop,μ] at la lb;go_wp2;go_roundw
     case rel=>exact⟨j+1,_,by omega,rfl,D,G,T,U,ζ,δ⟩
     case measure=>simp only[la,lb];omega
    obtain rfl:j=nb F.length:=by omega
    go_upto_region 17 with fail;refine wp_region_lit ?_;refine Lv ?_;refine J2b (l:=(List.drop (128*nb F.length) (pad F))) U (by rfl) rfl rfl ?_
    (try simp only[Act.put,mA,mB,mC])
    refine Lw ?_ (v:=.bool false) (hv:=by first|(go_simp;done)|(go_simp;(try simp only[List.length_drop,μ]);omega));refine J2 ?_;go_upto_region 20 with fail;refine wp_region_lit ?_;refine Ln ?_ (z:=J0 .u8 64 (fun _=>0)) (t:=163);intro κ R5 η hO h_;have M4:=bn G η;have N1:=bn T η;have R9:=J3c (Sl.lt U) η;have S7:=fbn D η;replace G:=G.o hO;replace T:=T.o hO;replace U:=Sl.off U hO f0;replace D:=D.o hO;have Z:=h_;clear hO h_ η;refine J2 ?_;go_upto_region 21 with fail;refine wp_region_lit ?_;refine L0A ?_ T;refine Lw ?_ (v:=.int .i64 0);refine J2 ?_
    go_wp2_with fail
    go_loopw [61] (fun ii wr=> ∃(i:Nat),(i≤8)∧(ii=.int .i64 (i:Int))∧Off [] w wr∧Blk wr Z8 (J0 .u8 64 (fun _=>0)) 163∧Blk wr ε (J0 .u64 8 (Hs (pad F) (nb F.length))) 248∧Blk wr κ (J0 .u8 64 (Q5u (Hs (pad F) (nb F.length)) (8*i))) 163∧Sl wr u (List.drop (128*nb F.length) (pad F)))
     (fun ii _=>8-(intOf ii).toNat)
    case atStart=>exact⟨0,Nat.zero_le _,rfl,D,G,T,(by rw[Nat.mul_zero,Z7s];exact Z),U⟩
    case round=>
     obtain⟨i,hi,rfl,D,G,T,Z,U⟩:=hrel;obtain⟨M0,γ⟩:=J76 D;subst γ
     by_cases h8:i<8
     ·
      go_upto_region 22 with fail;refine wp_region_lit ?_;refine Lw ?_ (v:=.bool true);refine J2 ?_;go_upto_region 23 with fail;refine wp_region_lit ?_;refine Lv ?_;refine Lw ?_ (v:=.int .u64 (Hs (pad F) (nb F.length) i)) (hv:=Q8q (m:=8) h8 Tryz.underlying248 (by kernel_rfl) Y97 rfl rfl rfl);refine Lv ?_;refine Lv ?_;refine J2 ?_
      go_wp2_with fail
      go_loopw [65] (fun jj wr=> ∃(k:Nat),(k≤8)∧(jj=.int .i64 (k:Int))∧Off [] w wr∧Blk wr Z8 (J0 .u8 64 (fun _=>0)) 163∧Blk wr ε (J0 .u64 8 (Hs (pad F) (nb F.length))) 248∧Blk wr κ (J0 .u8 64 (Q5u (Hs (pad F) (nb F.length)) (8*i+k))) 163∧Sl wr u (List.drop (128*nb F.length) (pad F)))
       (fun jj _=>8-(intOf jj).toNat)
      case atStart=>exact⟨0,Nat.zero_le _,rfl,D,G,T,Z,U⟩
      case round=>
       obtain⟨k,hk,rfl,D,G,T,Z,U⟩:=hrel;obtain⟨D3,γ⟩:=J76 D;subst γ
       by_cases Ξ:k<8
       ·
        go_upto_region 25 with fail;refine wp_region_lit ?_;refine Lw ?_ (v:=.bool true);refine J2 ?_;go_upto_region 27 with fail;refine wp_region_lit ?_;refine Lv ?_;refine Lw ?_ (v:=.int .i64 (((8*i:Nat):Int))) (hv:=by go_simp;(try simp only[IntKind.wrap_u64,IntKind.wrap_i64]);(try omega));refine Lv ?_;refine Lw ?_ (v:=.int .i64 (((8*i+k:Nat):Int))) (hv:=by go_simp;(try simp only[IntKind.wrap_u64,IntKind.wrap_i64]);(try omega));refine Lv ?_;refine Lv ?_;refine Lw ?_ (v:=.int .i64 (((7-k:Nat):Int))) (hv:=by go_simp;(try simp only[IntKind.wrap_u64,IntKind.wrap_i64]);(try omega));refine Lw ?_ (v:=.int .i64 (((8*(7-k):Nat):Int))) (hv:=by go_simp;(try simp only[IntKind.wrap_u64,IntKind.wrap_i64]);(try omega));refine Lw ?_ (v:=.int .u64 (sr (Hs (pad F) (nb F.length) i) (8*(7-k)))) (hv:=J1b (n:=8*(7-k)) (by omega) rfl rfl rfl);refine Lw ?_ (v:=.int .u8 (w8 (sr (Hs (pad F) (nb F.length) i) (8*(7-k))))) (hv:=by exact J30 rfl rfl);refine Lw ?_ (v:=.pointer (some ⟨κ,0+(8*i+k),none⟩)) (hv:=rxa Tryz.underlying163 (by omega));refine J1k (v:=.int .u8 (w8 (sr (Hs (pad F) (nb F.length) i) (8*(7-k))))) ⟨rfl,rfl⟩ (by rfl) rfl rfl rfl Z (by rw[J1,Nat.zero_add];omega) (by kernel_rfl) ?_
        (try simp only[Act.put,mA,mB,mC])
        intro T7 hO h_;rw[Nat.zero_add,X6] at h_;replace Z:Blk T7 κ (J0 .u8 64 (upd (Q5u (Hs (pad F) (nb F.length)) (8*i+k)) (8*i+k) (w8 (sr (Hs (pad F) (nb F.length) i) (8*(7-k)))))) 163:=h_;clear h_;replace G:=G.p hO M4;replace T:=T.p hO N1;replace U:=Sl.off U hO (f1 R9);replace D:=D.p hO S7;clear hO;refine J2 ?_;go_wp2;go_roundw
        case rel=>exact⟨k+1,by omega,by go_num,D,G,T,(by rw[←Z7t _ _ _ Ξ];exact Z),U⟩
        case measure=>simp[intOf];omega
       obtain rfl:k=8:=by omega
       go_upto_region 25 with fail;refine wp_region_lit ?_;refine Lw ?_ (v:=.bool false);refine J2 ?_;go_wp2;go_roundw
       case rel=>exact⟨i+1,by omega,by go_num,D,G,T,(by rw[show 8*(i+1)=8*i+8 by omega];exact Z),U⟩
       case measure=>simp[intOf];omega
     obtain rfl:i=8:=by omega
     rw[show 8*8=64 by rfl,Y3g] at Z;go_upto_region 22 with fail;refine wp_region_lit ?_;refine Lw ?_ (v:=.bool false);refine J2 ?_;go_upto_region 30 with fail;refine wp_region_lit ?_;refine L0A ?_ Z;refine Lp ?_ G (cells:=J0 .u8 64 (ob (Hs (pad F) (nb F.length)))) (hi:=by rw[J1];kernel_rfl) (hs:=by rw[J1,J1]) (h1:=by exact J04 _ _ _);intro D3 hO h_;replace G:Blk D3 Z8 (J0 .u8 64 (ob (Hs (pad F) (nb F.length)))) 163:=h_;clear h_;replace D:=D.p hO N4;clear hO;refine J2 ?_;go_wp2;refine bodyPost_ret (Z0 rfl rfl G (by kernel_rfl) (by rw[J1];kernel_rfl)) rfl ⟨rfl,D.ext⟩
end

section
end

section
def GR (w:World):Prop:=Rd w 9 (J0 .u64 80 kf)∧Rd w 8 (J0 .u64 8 hf)
theorem V5f {w W:World}(h:GR w)(e:Ext w W):GR W:=⟨h.1.ext e,h.2.ext e⟩
def bo (H:Nat→Int)(j:Nat):UInt8:=u8 (ob H j).toNat
theorem V1n (H:Nat→Int)(j:Nat):((bo H j).toNat:Int)=ob H j:=by
  have:=V04 (sr (H (j / 8)) (8*(7-j % 8)));unfold bo;rw[J6e];unfold ob;omega
def wb (H:Nat→Int)(n:Nat):List UInt8:=(List.range n).map (bo H)
theorem Q6o (H:Nat→Int)(n:Nat):(wb H n).length=n:=by simp[wb]
theorem Y8v (H:Nat→Int)(i:Nat):wb H (8*i)++[bo H (8*i+0)]++[bo H (8*i+1)]++[bo H (8*i+2)]++[bo H (8*i+3)]++[bo H (8*i+4)]++[bo H (8*i+5)]++[bo H (8*i+6)]++[bo H (8*i+7)]=wb H (8*(i+1)):=by
  unfold wb;rw[show 8*(i+1)=8*i+7+1 by omega];simp only[List.range_succ,List.map_append,List.map_cons,List.map_nil,List.append_assoc,Nat.add_zero,List.cons_append,List.nil_append]
def smb (l:List UInt8):List UInt8:=wb (Hs (pad l) (nb l.length)) 64
theorem Q50 (l:List UInt8):(smb l).length=64:=Q6o _ _
theorem Z7v (l:List UInt8):(J0 .u8 64 (sm l)).toList=bs8 (smb l):=by
  unfold J0 bs8 smb wb;rw[List.map_map];simp only[List.map_inj_left,Function.comp];intro j _;rw[V1n];rfl
end
end Go.Proofs.YtlkbneflnjmgbaaGreatDoor.S8

namespace Go.Proofs.YtlkbneflnjmgbaaGreatDoor
theorem Z0g {P:Program}{ops:Array Oper}{w:World}{E E' :Act→Prop}(h:∀a,E a→E' a):∀(l:List Oper) (a:Act),wpX P ops w E l a→wpX P ops w E' l a
  |[],a,x=>h a x
  |_::l,_,⟨v,hy,hk⟩=>⟨v,hy,Z0g h l _ hk⟩
def nws (xs:List NewOp)(β:Nat→Nat):List As:=xs.map fun x=> .b (β x.i) x.z x.t
theorem SH.news {F:List Nat}{w W W' :World}{H:List As}{β:Nat→Nat}(h:SH F w W H)(q:Ext W W'):∀(xs:List NewOp),(∀x∈xs,W.heap.size≤β x.i∧Blk W' (β x.i) x.z x.t)→xs.Pairwise (fun x y=>β x.i≠β y.i)→(∀x∈xs,H.all (SH.tyOk (.b 0 x.z x.t))=true)→SH F w W' (nws xs β++H)
  |[],_,_,_=>h.grow q
  |x::xs,hb,hd,ht=>by
    have h1:=SH.news h q xs (fun y hy=>hb y (by simp[hy])) (List.pairwise_cons.1 hd).2 (fun y hy=>ht y (by simp[hy]));have hx:=hb x (by simp);have h2:SH F w W' (.b (β x.i) x.z x.t::H):=h.new (x:=.b (β x.i) x.z x.t) (J0b q) hx.2 (fun k hk=>by rw[List.mem_singleton.1 hk];exact hx.1) rfl (ht x (by simp));have hn:=(List.pairwise_cons.1 hd).1;show SH F w W' (.b (β x.i) x.z x.t::(nws xs β++H));refine⟨h1.off,fun y hy=> ?_,List.pairwise_cons.2 ⟨fun y hy=> ?_,h1.ap⟩,fun y hy hm k hk hlt=> ?_⟩
    · rcases List.mem_cons.1 hy with rfl|hy
      · exact hx.2
      · exact h1.all y hy
    · rcases List.mem_append.1 hy with hy|hy
      · obtain⟨z,hz,rfl⟩:=List.mem_map.1 hy
        have hne:=hn z hz;exact⟨fun _ k hk hk' =>hne ((List.mem_singleton.1 hk).symm.trans (List.mem_singleton.1 hk')),fun _ k hk hk' =>hne ((List.mem_singleton.1 hk').symm.trans (List.mem_singleton.1 hk))⟩
      · exact(List.pairwise_cons.1 h2.ap).1 y hy
    · rcases List.mem_cons.1 hy with rfl|hy
      · have:=hx.1;have:=h.size;rw[List.mem_singleton.1 hk] at hlt;omega
      · exact h1.old y hy hm k hk hlt
section
variable {P : Program} {Q : Exit → Act → World → Prop} {F : List Nat} {w : World} {H : List As} {l : List Oper} {a a' : Act}
theorem RXn {id:Nat}{W:World}{l1 l2:List Oper}(m:Nat)(xs:List NewOp)(hS:SH F w W H)
    (h:wpM P l.toArray (.X (fun a1 W1=> ∀(β:Nat→Nat)(W' :World),Ext W1 W' →(∀x∈xs,W1.heap.size≤β x.i∧Blk W' (β x.i) x.z x.t)→(∀x∈xs,∀y∈xs,x.i≠y.i→β x.i≠β y.i)→wpList P l.toArray (NoPanic Q) l2 (J05 xs β a1) W')) F w H l1 a')
    (hok:∀x∈xs,Q4e P l.toArray x) (hm:P.follows .mixedOrders=true:=by as_aux_lemma=>kernel_rfl)
    (hB:(Region.noSelect l.toArray && Q30 .any l.toArray (m+xs.length) m 0 (Array.replicate l.length false) && decide (m+xs.length≤l.length) && decide (xs.map (·.i)).Nodup && decide (xs.map (·.d)).Nodup && xs.all (fun x=>decide (x.i<m+xs.length)) &&
      Q4f .any l.toArray (X7 (m+xs.length) 0 (Array.replicate l.length false)) xs.length (xs.map (·.i)) (X7 m 0 (Array.replicate l.length false)) &&
      (Region.ready .any l.toArray (X7 (m+xs.length) 0 (Array.replicate l.length false))).all (fun j=>decide (m+xs.length≤j)) &&
      Region.seqB .any l.toArray (l.length-(m+xs.length)) (m+xs.length) (X7 (m+xs.length) 0 (Array.replicate l.length false)))=true:=by as_aux_lemma=>kernel_rfl)
    (h1:l.take m=l1:=by(try simp only[List.append,List.take_succ_cons,List.take_zero,List.take_nil]);exact rfl) (h2:l.drop (m+xs.length)=l2:=by(try simp only[List.append,List.length_cons,List.length_nil,List.drop_succ_cons,List.drop_zero,List.drop_nil]);exact rfl)
    (hp:a=a' :=by(try simp only[Act.put,mA,mB,mC]);exact rfl):(Code.region id l.toArray true).wp P Q a W:=by
  subst hp h1 h2;exact J17 m xs hm hok hB (Z0g (fun a1 h3 β W' h4 h5 h6=>h3 W (Below.refl _ _) β W' h4 h5 h6) _ _ (h W hS))
theorem MZB {ops ops2:Array Oper}{l2:List Oper}{xs:List NewOp}{H' :(Nat→Nat)→List As}{a2:(Nat→Nat)→Act}(h:∀β,wpM P ops2 (.L Q) F w (H' β) l2 (a2 β))(hnd:(xs.map (·.i)).Nodup:=by decide)(ht:∀x∈xs,H.all (SH.tyOk (.b 0 x.z x.t))=true:=by(intro x hx;simp only[List.mem_cons,List.not_mem_nil,or_false] at hx;rcases hx with rfl|rfl|rfl|rfl<;>rfl))
    (hH:∀β,nws xs β++H=H' β:=by exact fun _=>rfl) (hp:∀β,J05 xs β a=a2 β:=by(intro β;dsimp only[J05,Act.put,mA,mB,mC];first|done|exact rfl)):
    wpM P ops (.X (fun a1 W1=> ∀(β:Nat→Nat)(W' :World),Ext W1 W' →(∀x∈xs,W1.heap.size≤β x.i∧Blk W' (β x.i) x.z x.t)→(∀x∈xs,∀y∈xs,x.i≠y.i→β x.i≠β y.i)→wpList P ops2 Q l2 (J05 xs β a1) W')) F w H [] a:=fun W hS=>K3 fun W1 h1 β W' h2 h3 h4=>by
  rw[hp β];refine h β W' ?_;rw[←hH β];refine(hS.grow h1).news h2 xs h3 ?_ ht
  have:xs.Pairwise fun x y=>x.i≠y.i:=by
    have:=List.pairwise_map.1 hnd;exact this
  exact List.Pairwise.imp_of_mem (fun hx hy D=>h4 _ hx _ hy D) this
end
end Go.Proofs.YtlkbneflnjmgbaaGreatDoor

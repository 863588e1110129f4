/- Contracts and plain laws for superSeals_holds. Conditions: the tables hold their numbers. -/
import Derived.Test.YtdjacgmmidbieaaGreatDoorJ19
open Go renaming World->AA,Value->AB,bodyPost_ret->BH,IntKind->AI
open Go.IntKind renaming wrap_i64->AJ,wrap_u64->AK
open Go.Sem renaming run_bind->Ah
open _root_.List renaming length_append->Ao,length_cons->AY,nil_append->BU,append_assoc->At,length_nil->Av,length_drop->AZ,length_replicate->BJ
open _root_.Nat renaming zero_le->An,zero_add->AP,add_zero->Ax
open Go.RowKit
set_option maxRecDepth 100000
set_option linter.unusedSimpArgs false
set_option linter.unusedVariables false
namespace Go.Proofs.YtdjacgmmidbieaaGreatDoor
section
set_option maxHeartbeats 1500000
attribute [local irreducible] wpList K1 wpX
theorem Q23 {w:AA}{o:Oper}{a:Act}{x:Operand}{p:Int}(ho:o.op=.convert 197 5 x)(hx:a.eval x=.int .u32 p):(execOp a.eval o).run Tryz.prog w=.ok (.value (.int .u8 (w8 p))) w:=by
 simp[execOp,ho,hx,convert,run_underlying Tryz.underlying5,run_underlying Tryz.underlying197,Ah,Conv.intToInt,w8]
theorem Y4j {w:AA}:(isAgg 197).run Tryz.prog w=.ok false w:=by
 simp[isAgg,run_underlying Tryz.underlying197,Ah]
theorem V57 (x:Int):sr4 x 0=x:=by unfold sr4;simp

theorem Y4k (p:Nat)(v:AB)(F:List UInt8)(hlen:F.length≤70368744177664)(w:AA)(hkB:Blk w p (hcs v F) 200)(hrS:Sl w v (hr4 F))(hG:GS4 w):
  Calls Tryz.prog 99 #[.pointer (some ⟨p,0,none⟩)] w fun e w' =>V4 (.agg (J0 .u8 32 (sm4 F))) w w' e:=by
 have HG:=Lib.hid hG;clear hG;have hS:=SH.nil [] w;have ε:=Z1d F;have hN:zc4 (hr4 F).length=zc4 F.length:=by rw[J6r,Y0l]
 have Z:=(J7y (hr4 F).length).2;obtain⟨PD,M⟩:∃PD,PD=(J0e F).drop (64*(F.length / 64)):=⟨_,rfl⟩
 have J:PD.length=64*nb4 (hr4 F).length:=by have h1:=Q1c F;have h2:=Q9i F;rw[M,AZ,h1];omega
 have N:=Lib.hid M;clear M
 go_enter Tryz.func99,Tryz.ntmps99
 go_upto_region 0 with fail;refine RL hS ?_;clear hS;refine MN (z:=J0 .u8 32 (fun _=>0)) (t:=22) ?_;intro K9;refine MZ fun W hS=> ?_;go_upto_region 3 with fail;refine RL hS ?_;clear hS;refine MO (m:=[]) (n:=0) (z:= #[]) ?_;intro β;(iterate 3 refine MV ?_);refine MF (v:=v) (fun W hS=>V6 rfl rfl (by rw[J5 (J3 hkB hS.ext)];exact Q22) (by kernel_rfl)) ?_;refine MA 0 (xs:=[]) (ys:=(hr4 F)) (fun W hS=>(J3j hrS hS.ext)) (by first|omega|(simp only[Ao,AY,Av,BJ,AZ,J35];omega)) ?_;intro Y;refine MT (fun W hS=>by rw[BU] at hS;exact hS) ?_;refine MO (m:=[128]) (n:=1) (z:= #[.int .u8 128]) ?_;intro δ;refine MA 1 (xs:=(hr4 F)) (ys:=[128]) (fun W hS=>(hS.osl (i:=0) rfl)) (by first|omega|(simp only[Ao,AY,Av,BJ,AZ,J35];omega)) ?_;intro γ;refine MV ?_;refine MZ fun W hS=> ?_
 go_wp2_with fail
 go_loopw [3] (fun sv wr=> ∃(k:Nat)(bv:AB),(k≤zc4 (hr4 F).length)∧(bv=sv)∧SH [] w wr [.o bv (hr4 F++[128]++List.replicate k 0),.b K9 (J0 .u8 32 (fun _=>0)) 22])
  (fun sv _=>F.length+300-J70 sv)
 case atStart=>exact⟨0,_,An _,rfl,(by have h_:=(hS.pick [1,2]);rw[List.replicate_zero,List.append_nil];exact h_)⟩
 clear hS
 case round=>
  obtain⟨k,bv,hk,rfl,hS⟩:=hrel;have lb:=J4n (hS.osl (i:=0) rfl)
  by_cases hz:k<zc4 (hr4 F).length
  ·
   have V:=Y0m hz;go_upto_region 4 with fail;refine RL hS ?_;clear hS;refine MV ?_;refine MF (v:=.int .i64 ((hr4 F++[128]++List.replicate k 0).length:Int)) (fun W hS=>J03 (hS.osl (i:=0) rfl) rfl rfl) ?_;refine MW ?_ (v:=.int .i64 ((((hr4 F).length+1+k) % 64:Nat):Int)) (hv:=by intro W;go_simp;(try simp only[Ao,AY,Av,BJ]);rw[Int.tmod_eq_emod_of_nonneg (by omega)];omega);refine MW ?_ (v:=.bool true) (hv:=by intro W;go_simp;omega);refine MZ fun W hS=> ?_;go_upto_region 5 with fail;refine RL hS ?_;clear hS;refine MV ?_;refine MO (m:=[0]) (n:=1) (z:= #[.int .u8 0]) ?_;intro θ;refine MA 1 (xs:=(hr4 F++[128]++List.replicate k 0)) (ys:=[0]) (fun W hS=>(hS.osl (i:=0) rfl)) (by first|omega|(simp only[Ao,AY,Av,BJ,AZ,J35];omega)) ?_;intro η;refine MV ?_;refine MZ fun W hS=> ?_;have la:=J4n (hS.osl (i:=1) rfl);simp only[Ao,AY,Av,BJ] at la lb;go_wp2;go_roundw
   case rel=>exact⟨k+1,_,by omega,rfl,(by have h_:=(hS.pick [1,2]);rw[At _ (List.replicate k 0),←List.replicate_succ'] at h_;exact h_)⟩
   case measure=>simp only[la,lb];omega
  obtain rfl:k=zc4 (hr4 F).length:=by omega
  have V:=(J7y (hr4 F).length).1;go_upto_region 4 with fail;refine RL hS ?_;clear hS;refine MV ?_;refine MF (v:=.int .i64 ((hr4 F++[128]++List.replicate (zc4 (hr4 F).length) 0).length:Int)) (fun W hS=>J03 (hS.osl (i:=0) rfl) rfl rfl) ?_;refine MW ?_ (v:=.int .i64 ((((hr4 F).length+1+zc4 (hr4 F).length) % 64:Nat):Int)) (hv:=by intro W;go_simp;(try simp only[Ao,AY,Av,BJ]);rw[Int.tmod_eq_emod_of_nonneg (by omega)];omega);refine MW ?_ (v:=.bool false) (hv:=by intro W;first|(go_simp;done)|(go_simp;omega));refine MZ fun W hS=> ?_
  go_wp2_with fail
  go_loopw [3,4] (fun sv ii wr=> ∃(k:Nat)(bv:AB),(k≤8)∧(bv=sv)∧(ii=.int .i64 (7-(k:Int)))∧SH [] w wr [.o bv (hr4 F++[128]++List.replicate (zc4 (hr4 F).length) 0++bk (8*F.length) k),.b K9 (J0 .u8 32 (fun _=>0)) 22])
   (fun sv ii _=>(intOf ii+1).toNat)
  case atStart=>exact⟨0,_,An _,rfl,rfl,(by rw[Y86];exact hS)⟩
  clear hS
  case round=>
   obtain⟨k,bv,hk,rfl,rfl,hS⟩:=hrel
   by_cases S:k<8
   ·
    go_upto_region 7 with fail;refine RL hS ?_;clear hS;refine MV ?_;refine MW ?_ (v:=.bool true) (hv:=by intro W;go_simp;omega);refine MZ fun W hS=> ?_;go_upto_region 9 with fail;refine RL hS ?_;clear hS;(iterate 4 refine MV ?_);refine MF (v:=.int .i64 (F.length:Int)) (fun W hS=>V6 rfl rfl (by rw[J5 (J3 hkB hS.ext)];exact Q9d) (by kernel_rfl)) ?_;refine MW ?_ (v:=.int .u64 ((F.length:Nat):Int)) (hv:=by intro W;go_simp;(try simp only[AI.wrap_u64]);omega);refine MW ?_ (v:=.int .u64 ((8*F.length:Nat):Int)) (hv:=by intro W;rw[show((8*F.length:Nat):Int)=sl ((F.length:Nat):Int) 3 from(by unfold sl;rw[AI.wrap_u64];omega)];exact J8a (n:=3) (by decide) rfl rfl rfl);refine MV ?_;refine MW ?_ (v:=.int .i64 (((8*(7-k):Nat):Int))) (hv:=by intro W;go_simp;(try simp only[AI.wrap_u64,AI.wrap_i64]);(try omega));refine MW ?_ (v:=.int .u64 (sr ((8*F.length:Nat):Int) (8*(7-k)))) (hv:=fun _=>J38 (n:=8*(7-k)) (by omega) rfl rfl rfl);refine MW ?_ (v:=.int .u8 ((u8 ((8*F.length) / 2^(8*(7-k)))).toNat:Int)) (hv:=by intro W;rw[←Y0b (8*F.length) (8*(7-k)) _ rfl];exact Q6n rfl rfl);refine MO (m:=[u8 ((8*F.length) / 2^(8*(7-k)))]) (n:=1) (z:= #[.int .u8 ((u8 ((8*F.length) / 2^(8*(7-k)))).toNat:Int)]) ?_;intro ζ;refine MA 1 (xs:=(hr4 F++[128]++List.replicate (zc4 (hr4 F).length) 0++bk (8*F.length) k)) (ys:=[u8 ((8*F.length) / 2^(8*(7-k)))]) (fun W hS=>(hS.osl (i:=0) rfl)) (by first|omega|(simp only[Ao,AY,Av,BJ,AZ,J35];omega)) ?_;intro X;refine MV ?_;refine MZ fun W hS=> ?_;go_wp2;go_roundw
    case rel=>exact⟨k+1,X,by omega,rfl,by first|go_num|(go_simp;omega),(by rw[Y87];exact(hS.pick [1,2]))⟩
    case measure=>simp[intOf];omega
   obtain rfl:k=8:=by omega
   rw[Y88] at hS;go_upto_region 7 with fail;refine RL hS ?_;clear hS;refine MV ?_;refine MW ?_ (v:=.bool false) (hv:=by intro W;first|(go_simp;done)|(go_simp;omega));refine MZ fun W hS=> ?_;go_upto_region 10 with fail;refine RL hS ?_;clear hS;(iterate 3 refine MV ?_);refine MF (v:=.agg (J0 .u32 8 (hw4 F))) (fun W hS=>V8 rfl rfl (fun i v hv=>by rw[J5 (J3 hkB hS.ext)];exact Q9c i v hv) (by kernel_rfl) (by first|kernel_rfl|(rw[J1];kernel_rfl))) ?_;refine MN (z:=J0 .u32 8 (fun _=>0)) (t:=198) ?_;intro U;refine MR 0 ?_;refine MZ fun W hS=> ?_;rw[hN,←Z66,←N.out] at hS;rw[Y4l F] at hS;have hS:=hS.read (i:=1) rfl (hS.osl (i:=1) rfl) J2o
   go_wp2_with fail
   go_loopw [3] (fun sv wr=> ∃(j:Nat)(u:AB),(j≤nb4 (hr4 F).length)∧(u=sv)∧SH [] w wr [.b U (J0 .u32 8 (Hs4 (J0e F) (F.length / 64+j))) 198,.s u (List.drop (64*j) PD),.b K9 (J0 .u8 32 (fun _=>0)) 22])
    (fun sv _=>J70 sv)
   case atStart=>exact⟨0,_,An _,rfl,hS⟩
   clear hS
   case round=>
    obtain⟨j,u,hj,rfl,hS⟩:=hrel;have lb:=J4n (hS.sl (i:=1) rfl)
    by_cases R:j<nb4 (hr4 F).length
    ·
     have G:64≤(List.drop (64*j) PD).length:=by rw[AZ,J];omega
     go_upto_region 11 with fail;refine RL hS ?_;clear hS;refine MV ?_;refine MF (v:=.int .i64 ((List.drop (64*j) PD).length:Int)) (fun W hS=>J03 (hS.sl (i:=1) rfl) rfl rfl) ?_;refine MW ?_ (v:=.bool true) (hv:=by intro W;go_simp;(try simp only[AZ,J]);omega);refine MZ fun W hS=> ?_;go_upto_region 13 with fail;refine RX 4 hS ?_;clear hS;refine ML 0 ?_;refine MV ?_;refine MH 1 64 (m:=(List.drop (64*j) PD)) (m' :=(List.take 64 (List.drop (64*j) PD))) (by exact G) ?_;intro T;refine MC (v:=.agg (J0 .u32 8 (J6q (Hs4 (J0e F) (F.length / 64+j)) (bt (List.drop (64*j) PD))))) (fun W hS=>Q9h (Hs4 (J0e F) (F.length / 64+j)) (List.drop (64*j) PD) (List.take 64 (List.drop (64*j) PD)) T G rfl W (hS.sl (i:=0) rfl) (J29 HG.out hS.ext)) ?_;refine MZt ?_;refine MR 1 ?_;refine MZn fun W hS=> ?_;go_upto_region 12 with fail;refine RL hS ?_;clear hS;refine MV ?_;refine Mt 2 64 (m:=(List.drop (64*j) PD)) (m' :=(List.drop (64*(j+1)) PD)) (by exact G) ?_ (hm:=Q3t _ _);intro α;refine MV ?_;refine MZ fun W hS=> ?_;have la:=J4n (hS.sl (i:=0) rfl);simp only[AZ,J] at la lb;rw[N.out,Z67,←N.out] at hS;go_wp2;go_roundw
     case rel=>exact⟨j+1,_,by omega,rfl,(hS.pick [2,0,4])⟩
     case measure=>simp only[la,lb];omega
    obtain rfl:j=nb4 (hr4 F).length:=by omega
    rw[Q9i] at hS;go_upto_region 11 with fail;refine RL hS ?_;clear hS;refine MV ?_;refine MF (v:=.int .i64 ((List.drop (64*nb4 (hr4 F).length) PD).length:Int)) (fun W hS=>J03 (hS.sl (i:=1) rfl) rfl rfl) ?_;refine MW ?_ (v:=.bool false) (hv:=by intro W;first|(go_simp;done)|(go_simp;(try simp only[AZ,J]);omega));refine MZ fun W hS=> ?_;go_upto_region 14 with fail;refine RL hS ?_;clear hS;refine MN (z:=J0 .u8 32 (fun _=>0)) (t:=22) ?_;intro D;refine MZ fun W hS=> ?_;go_upto_region 15 with fail;refine RL hS ?_;clear hS;refine ML 1 ?_;refine W0 ?_;refine MZ fun W hS=> ?_
    go_wp2_with fail
    go_loopw [59] (fun ii wr=> ∃(i:Nat),(i≤8)∧(ii=.int .i64 (i:Int))∧SH [] w wr [.b D (J0 .u8 32 (J72 (Hs4 (J0e F) (nb4 F.length)) (4*i))) 22,.b K9 (J0 .u8 32 (fun _=>0)) 22])
     (fun ii _=>8-(intOf ii).toNat)
    case atStart=>exact⟨0,An _,rfl,(by rw[Nat.mul_zero,Z1e];exact(hS.pick [0,3]))⟩
    clear hS
    case round=>
     obtain⟨i,hi,rfl,hS⟩:=hrel
     by_cases h8:i<8
     ·
      go_upto_region 16 with fail;refine RL hS ?_;clear hS;refine Wt ?_;refine MZ fun W hS=> ?_;go_upto_region 17 with fail;refine RL hS ?_;clear hS;refine MV ?_;refine MW ?_ (v:=.int .u32 (Hs4 (J0e F) (nb4 F.length) i)) (hv:=fun _=>Q7h (m:=8) h8 Tryz.underlying198 (by kernel_rfl) Y4j rfl rfl rfl);refine MV ?_;refine MV ?_;refine MZ fun W hS=> ?_;go_upto_region 18 with fail;refine RL hS ?_;clear hS;refine MV ?_;refine MW ?_ (v:=.int .i64 (((4*i:Nat):Int))) (hv:=by intro W;go_simp;(try simp only[AI.wrap_u64,AI.wrap_i64]);(try omega));refine MV ?_;refine MW ?_ (v:=.int .i64 (((4*i:Nat):Int))) (hv:=by intro W;go_simp;(try simp only[AI.wrap_u64,AI.wrap_i64]);(try omega));refine MW ?_ (v:=.int .i64 (((4*i+1:Nat):Int))) (hv:=by intro W;go_simp;(try simp only[AI.wrap_u64,AI.wrap_i64]);(try omega));refine MV ?_;refine MW ?_ (v:=.int .i64 (((4*i:Nat):Int))) (hv:=by intro W;go_simp;(try simp only[AI.wrap_u64,AI.wrap_i64]);(try omega));refine MW ?_ (v:=.int .i64 (((4*i+2:Nat):Int))) (hv:=by intro W;go_simp;(try simp only[AI.wrap_u64,AI.wrap_i64]);(try omega));refine MV ?_;refine MW ?_ (v:=.int .i64 (((4*i:Nat):Int))) (hv:=by intro W;go_simp;(try simp only[AI.wrap_u64,AI.wrap_i64]);(try omega));refine MW ?_ (v:=.int .i64 (((4*i+3:Nat):Int))) (hv:=by intro W;go_simp;(try simp only[AI.wrap_u64,AI.wrap_i64]);(try omega));refine MV ?_;refine MW ?_ (v:=.int .u32 (sr4 (Hs4 (J0e F) (nb4 F.length) i) 24)) (hv:=fun _=>J7v (n:=24) (by decide) rfl rfl rfl);refine MW ?_ (v:=.int .u8 (w8 (sr4 (Hs4 (J0e F) (nb4 F.length) i) 24))) (hv:=by intro W;exact Q23 rfl rfl);refine MV ?_;refine MW ?_ (v:=.int .u32 (sr4 (Hs4 (J0e F) (nb4 F.length) i) 16)) (hv:=fun _=>J7v (n:=16) (by decide) rfl rfl rfl);refine MW ?_ (v:=.int .u8 (w8 (sr4 (Hs4 (J0e F) (nb4 F.length) i) 16))) (hv:=by intro W;exact Q23 rfl rfl);refine MV ?_;refine MW ?_ (v:=.int .u32 (sr4 (Hs4 (J0e F) (nb4 F.length) i) 8)) (hv:=fun _=>J7v (n:=8) (by decide) rfl rfl rfl);refine MW ?_ (v:=.int .u8 (w8 (sr4 (Hs4 (J0e F) (nb4 F.length) i) 8))) (hv:=by intro W;exact Q23 rfl rfl);refine MV ?_;refine MW ?_ (v:=.int .u8 (w8 (sr4 (Hs4 (J0e F) (nb4 F.length) i) 0))) (hv:=by intro W;rw[V57];exact Q23 rfl rfl);refine MW ?_ (v:=.pointer (some ⟨D,0+(4*i),none⟩)) (hv:=fun _=>X3 Tryz.underlying22 (by omega));refine MP 0 (v:=.int .u8 (w8 (sr4 (Hs4 (J0e F) (nb4 F.length) i) 24))) (cs' :=J0 .u8 32 (J72 (Hs4 (J0e F) (nb4 F.length)) (4*i+1))) ?_ (hs:=by rw[J1,AP];omega) (hc:=by rw[AP,Y9];exact congrArg (J0 .u8 32) (J6s (Hs4 (J0e F) (nb4 F.length)) i 0 (by decide)));refine MW ?_ (v:=.pointer (some ⟨D,0+(4*i+1),none⟩)) (hv:=fun _=>X3 Tryz.underlying22 (by omega));refine MP 0 (v:=.int .u8 (w8 (sr4 (Hs4 (J0e F) (nb4 F.length) i) 16))) (cs' :=J0 .u8 32 (J72 (Hs4 (J0e F) (nb4 F.length)) (4*i+2))) ?_ (hs:=by rw[J1,AP];omega) (hc:=by rw[AP,Y9];exact congrArg (J0 .u8 32) (J6s (Hs4 (J0e F) (nb4 F.length)) i 1 (by decide)));refine MW ?_ (v:=.pointer (some ⟨D,0+(4*i+2),none⟩)) (hv:=fun _=>X3 Tryz.underlying22 (by omega));refine MP 0 (v:=.int .u8 (w8 (sr4 (Hs4 (J0e F) (nb4 F.length) i) 8))) (cs' :=J0 .u8 32 (J72 (Hs4 (J0e F) (nb4 F.length)) (4*i+3))) ?_ (hs:=by rw[J1,AP];omega) (hc:=by rw[AP,Y9];exact congrArg (J0 .u8 32) (J6s (Hs4 (J0e F) (nb4 F.length)) i 2 (by decide)));refine MW ?_ (v:=.pointer (some ⟨D,0+(4*i+3),none⟩)) (hv:=fun _=>X3 Tryz.underlying22 (by omega));refine MP 0 (v:=.int .u8 (w8 (sr4 (Hs4 (J0e F) (nb4 F.length) i) 0))) (cs' :=J0 .u8 32 (J72 (Hs4 (J0e F) (nb4 F.length)) (4*i+4))) ?_ (hs:=by rw[J1,AP];omega) (hc:=by rw[AP,Y9];exact congrArg (J0 .u8 32) (J6s (Hs4 (J0e F) (nb4 F.length)) i 3 (by decide)));refine MZ fun W hS=> ?_;go_wp2;go_roundw
      case rel=>exact⟨i+1,by omega,by go_num,(by rw[show 4*(i+1)=4*i+4 by omega];exact hS)⟩
      case measure=>simp[intOf];omega
     obtain rfl:i=8:=by omega
     rw[show 4*8=32 by rfl,Z68] at hS;go_upto_region 16 with fail;refine RL hS ?_;clear hS;refine Wf ?_;refine MZ fun W hS=> ?_;go_upto_region 20 with fail;refine RL hS ?_;clear hS;refine ML 0 ?_;refine MR 1 ?_;refine MZ fun W hS=> ?_;go_wp2;refine BH (Z5 rfl rfl (hS.blk (i:=1) rfl) (by kernel_rfl) (by rw[J1];kernel_rfl)) rfl ⟨rfl,hS.ext⟩
theorem V0y (ps:List (List UInt8))(A:Option Addr)(c:Nat)(F:List UInt8)(hF:ps.flatten=F)(hlen:F.length≤70368744177664)(hpn:ps.length≤9223372036854775000)(w:AA)(hps:∀i l,ps[i]?=some l→∃ad u,A=some ad∧w.cell? (ad.add i)=some u∧Sl w u l)(hG:GS4 w):
  Calls Tryz.prog 54 #[.slice A ps.length c] w fun e w' =>V4 (.agg (J0 .u8 32 (sm4 F))) w w' e:=by
 have HG:=Lib.hid hG;have J:=Lib.hid hps;clear hG hps;have hS:=SH.nil [] w
 go_enter Tryz.func54,Tryz.ntmps54
 go_upto_region 0 with fail;refine RL hS ?_;clear hS;refine MN (z:=J0 .u8 32 (fun _=>0)) (t:=22) ?_;intro K9;refine MZ fun W hS=> ?_;go_upto_region 1 with fail;refine RL hS ?_;clear hS;refine ME (fun W hS=>(V0x W (J29 HG.out hS.ext)).mono fun e W' ⟨p,h1,h2,h3,h4⟩=>⟨p,h1,(hS.new (x:=.b p _ _) h3 h4.1 (fun k hk=>by rw[List.mem_singleton.1 hk];exact h2) rfl rfl).onil rfl⟩) ?_;intro p6;refine MV ?_;refine MZ fun W hS=> ?_;go_upto_region 2 with fail;refine RL hS ?_;clear hS;refine MV ?_;refine MV ?_;refine W0 ?_;refine MZ fun W hS=> ?_
 go_wp2_with fail
 go_loopw [9] (fun ii wr=> ∃(i:Nat)(bv:AB),(i≤ps.length)∧(ii=.int .i64 (i:Int))∧SH [] w wr [.b p6 (hcs bv (List.take i ps).flatten) 200,.o bv (hr4 (List.take i ps).flatten),.b K9 (J0 .u8 32 (fun _=>0)) 22])
  (fun ii _=>ps.length-(intOf ii).toNat)
 case atStart=>exact⟨0,(.slice none 0 0),An _,rfl,(by rw[List.take_zero,List.flatten_nil];exact(hS.pick [1,0,2]))⟩
 clear hS
 case round=>
  obtain⟨i,bv,hi,rfl,hS⟩:=hrel
  by_cases D:i<ps.length
  ·
   obtain⟨l_,G⟩:∃l,ps[i]?=some l:=⟨_,List.getElem?_eq_getElem D⟩
   obtain⟨M,u_,N,R,T⟩:=J.out i l_ G;have U:(List.take i ps).flatten.length+l_.length≤F.length:=by rw[←hF,←Ao,←J8g G];exact Q97 _ _
   go_upto_region 3 with fail;refine RL hS ?_;clear hS;refine Wt ?_;refine MZ fun W hS=> ?_;go_upto_region 4 with fail;refine RL hS ?_;clear hS;refine MW ?_ (v:=.pointer (some (M.add i))) (hv:=fun _=>Z3r (j:=i) D rfl (by rw[←N];rfl) rfl);refine MF (v:=u_) (fun W hS=>V6 rfl rfl (U0 R hS.ext) (by kernel_rfl)) ?_;refine MV ?_;refine MZ fun W hS=> ?_;go_upto_region 5 with fail;refine RL hS ?_;clear hS;refine MV ?_;refine MV ?_;refine ME (V:=fun _=> .tuple #[]) (fun W hS=>Q8g [2,3,1,0] [4] ((hS.ent T).entp (Z65 HG.out)) (fun hS=>Y0j p6 bv u_ (List.take i ps).flatten l_ (by omega) W hS) (fun _=>⟨.inr ⟨rfl,rfl⟩,.inr ⟨rfl,rfl⟩,.inl (by simp),.inl (by simp),trivial⟩)) ?_;intro S;refine MD 2 ?_;refine MD 2 ?_;refine MZ fun W hS=> ?_;go_wp2;go_roundw
   case rel=>exact⟨i+1,S,by omega,by go_num,(by rw[J8g G];exact hS)⟩
   case measure=>simp[intOf];omega
  obtain rfl:i=ps.length:=by omega
  rw[List.take_length,hF] at hS;go_upto_region 3 with fail;refine RL hS ?_;clear hS;refine Wf ?_;refine MZ fun W hS=> ?_;go_upto_region 7 with fail;refine RL hS ?_;clear hS;refine MV ?_;refine MC (v:=.agg (J0 .u8 32 (sm4 F))) (fun W hS=>Y4k p6 bv F hlen W (hS.blk (i:=0) rfl) (hS.osl (i:=1) rfl) (J29 HG.out hS.ext)) ?_;refine MR 2 ?_;refine MZ fun W hS=> ?_;go_wp2;refine BH (Z5 rfl rfl (hS.blk (i:=2) rfl) (by kernel_rfl) (by rw[J1];kernel_rfl)) rfl ⟨rfl,hS.ext⟩
end

section
attribute [local irreducible] wpList K1 wpX
def lf (k v:Nat):Array AB:=J0 .u8 32 (J6 k)++J0 .u8 32 (J6 v)
section
variable {k v : Nat}
theorem V0:(lf k v).size=64:=by unfold lf;rw[Array.size_append,J1,J1]
theorem J96:(lf k v).all (·.oneCell')=true:=by unfold lf;rw[Array.all_append,Z8,Z8];rfl
theorem J4o:∀i u,(J0 .u8 32 (J6 k))[i]?=some u→(lf k v)[0+i]?=some u:=fun i u h=>by rw[AP];exact J3l h
theorem V3a:∀i u,(J0 .u8 32 (J6 v))[i]?=some u→(lf k v)[32+i]?=some u:=fun i u h=>J6x (J1 _ _ _) h
end
def pfc (s:AB)(th:Bool)(a x:Nat):Array AB:= #[s,.bool th]++lf a x
section
variable {s : AB} {th : Bool} {a x : Nat}
theorem Q1x:(pfc s th a x).size=66:=by unfold pfc;rw[Array.size_append,V0];rfl
theorem Y94 (h:s.oneCell' =true):(pfc s th a x).all (·.oneCell')=true:=by unfold pfc;rw[Array.all_append,J96];simp[h];rfl
end
section
variable {s : AB} {th : Bool} {a x k y : Nat} {v : AB}
end
theorem Z86 {W:AA}{g o s:Nat}(h:∀i v,(X4 s)[i]?=some v→W.cell? ⟨g,o+i,none⟩=some v):Sl W (.slice (some ⟨g,o,none⟩) 32 32) (lb 32 s):=by
 refine⟨some ⟨g,o,none⟩,32,by rw[J2],by rw[J2];decide,by decide,fun h=>(by cases h),fun j x hj=>⟨_,rfl,?_⟩⟩;have D:j<32:=by have:=(List.getElem?_eq_some_iff.1 hj).1;rwa [J2] at this
 rw[Z0i D] at hj;have:=Option.some.inj hj;subst this;rw[Q6i,Addr.add_mid];exact h j _ (by unfold X4;rw[Array.getElem?_toList];exact Q6 _ _ _ _ D)
abbrev Lf:=Nat×Nat
theorem Y6j {A B:Nat}(h:A=B)(w:AA):(Op.equalIn 10000 22 (.agg (J0 .u8 32 (J6 A))) (.agg (J0 .u8 32 (J6 B)))).run Tryz.prog w=.ok true w:=by
 subst h;rw[J13 (P:=Tryz.prog) w 9998 22 5 32 .u8 (J0 .u8 32 (J6 A)) (J0 .u8 32 (J6 A)) (J6 A) (J6 A) Tryz.underlying22 Tryz.underlying5 (by kernel_rfl) (fun i hi=>Q6 _ _ _ _ hi) (fun i hi=>Q6 _ _ _ _ hi)];rw[(J2w _ _ _).2 fun _ _=>rfl]
theorem J7o {P : Program} {d : Nat} {xs ys : Array Value} {w : World} {f : Field} {fs : List Field} {a b : Value} {r : Bool} (hn : f.name ≠ "_") (h1 : (part f.type xs f.offset).run P w = .ok a w) (h2 : (part f.type ys f.offset).run P w = .ok b w) (h3 : (Op.equalIn d f.type a b).run P w = .ok r w) :
  (Op.eqFields d xs ys (f::fs)).run P w=if r=true then(Op.eqFields d xs ys fs).run P w else .ok false w:=by
 rw[Op.eqFields,if_pos hn];cases r with
 |true=>rw[if_pos rfl];simp only[Ah,h1,h2,h3,Result.andThen_ok,Bool.not_true,Bool.false_eq_true,if_false]
 |false=>rw[if_neg (by decide)];simp only[Ah,h1,h2,h3,Result.andThen_ok,Bool.not_false,if_true,Sem.run_pure]
theorem Q8n {P:Program}(w:AA)(t n e:Nat)(xs:Array AB)(off:Nat)(ht:P.underlying t=some (.array n e))(hs:(P.info? t).map (·.size)=some n)(ho:off+n≤xs.size):(part t xs off).run P w=.ok (.agg (xs.extract off (off+n))) w:=by
 have h1:(isAgg t).run P w=.ok true w:=by
  unfold isAgg;rw[Ah,run_underlying ht w];rfl
 cases hq:P.info? t with
 |none=>simp[hq] at hs
 |some i=>
  have D:i.size=n:=by simpa[hq] using hs
  simp[part,Ah,h1,sizeOf,typeInfo,hq,D,ho]
theorem eqB (d:Nat)(A B:Nat)(hA:A<2^256)(hB:B<2^256)(xs ys:Array AB)(hx:∀i,i<32→xs[i]?=some (.int .u8 (J6 A i)))(hy:∀i,i<32→ys[i]?=some (.int .u8 (J6 B i)))(w:AA):(Op.equalIn (d+2) 22 (.agg xs) (.agg ys)).run Tryz.prog w=.ok (decide (A=B)) w:=by
 rw[J13 (P:=Tryz.prog) w d 22 5 32 .u8 xs ys (J6 A) (J6 B) Tryz.underlying22 Tryz.underlying5 (by kernel_rfl) hx hy]
 congr 1
 rw[Bool.eq_iff_iff,J2w,decide_eq_true_iff];exact⟨J9r hA hB,fun h=>by subst h;intro _ _;rfl⟩
theorem Q5a (A B:Nat)(hA:A<2^256)(hB:B<2^256)(w:AA):(Op.equalIn 10000 22 (.agg (J0 .u8 32 (J6 A))) (.agg (J0 .u8 32 (J6 B)))).run Tryz.prog w=.ok (decide (A=B)) w:=
 eqB 9998 A B hA hB _ _ (fun i hi=>Q6 _ _ _ _ hi) (fun i hi=>Q6 _ _ _ _ hi) w
end

section
set_option maxHeartbeats 1500000
attribute [local irreducible] wpList

theorem J2p (p:Int)(hp:W4 p)(n:Nat)(h1:1≤n)(h2:n≤31)(w:AA):
  Calls Tryz.prog 94 #[.int .i64 p,.int .i64 (n:Int)] w fun e w' =>V4 (.int .i64 (rt4 p n)) w w' e:=by
 have n0:(1:Int)≤(n:Int):=by omega
 have n1:(n:Int)≤31:=by omega
 have hs:=Y8c hp h1 h2;have ht:=Y26 hp h1 h2;clear hp;have D:Off [] w w:=Off.refl _ _
 go_enter Tryz.func94,Tryz.ntmps94
 go_upto_region 1 with fail;refine Rx 10 ?_;refine Xv ?_;refine Xv ?_;refine Xw ?_ (v:=.int .i64 (p / 2^n)) (hv:=fun _ _=>by exact J26 (n:=n) (by omega) rfl rfl rfl);refine Xv ?_;refine Xv ?_;refine Xw ?_ (v:=.int .i64 (((32-n:Nat):Int))) (hv:=fun _ _=>by go_simp;(try simp only[AI.wrap_u64,AI.wrap_i64]);(try omega));refine Xw ?_ (v:=.int .i64 (p*2^(32-n))) (hv:=fun _ _=>by rw[←hs];exact J8h (n:=32-n) (by omega) rfl rfl rfl);refine Xw ?_ (v:=.int .i64 (bits .or .i64 (p / 2^n) (p*2^(32-n)))) (hv:=fun _ _=>by exact Q09 rfl rfl rfl);refine Xw ?_ (v:=.int .i64 (rt4 p n)) (hv:=fun _ _=>by rw[←ht];exact J3u rfl rfl rfl);refine Xv ?_;refine J0o fun W1 hE=> ?_;have hO:=J1v hE;replace D:=D.o hO;clear hO hE;refine LN ?_;go_wp2;exact BH (v:=.int .i64 (rt4 p n)) (by simp only[results,Tryz.results94];go_simp) rfl ⟨rfl,D.ext⟩
end

section
def GR4 (w:AA):Prop:=Rd w 3 (J0 .i64 64 kf4)∧Rd w 2 (J0 .i64 8 hf4)
theorem J5h {w W:AA}(h:GR4 w)(e:Ext w W):GR4 W:=⟨h.1.ext e,h.2.ext e⟩
theorem Y27:W4 0:=⟨by decide,by decide⟩
theorem V2i (l:List UInt8)(j:Nat):W4 (bt l j):=by have:=Q2b l j;unfold W4;omega
theorem Q60:∀(l:List Int) (i:Nat),l.all (fun x=>decide (0≤x∧x<4294967296))=true→W4 (l.getD i 0)
  |[],i,_=>by simp;exact Y27
  |x::r,0,h=>by simp at h⊢;exact h.1
  |x::r,i+1,h=>by
    have h' :(r.all (fun x=>decide (0≤x∧x<4294967296)))=true:=by simp only[List.all_cons,Bool.and_eq_true] at h;exact h.2
    have:=Q60 r i h'
    simpa using this
theorem Y67 (i:Nat):W4 (kf4 i):=Q60 _ _ (by decide)
theorem V2j (i:Nat):W4 (hf4 i):=Q60 _ _ (by decide)
theorem Y8d {b:Nat→Int}(hb:∀j,W4 (b j))(i:Nat):∀k,W4 (J36 b i k)
  |0=>Y27
  |k+1=>Y65 Y66 (hb _)
theorem Q80 {x:Int}(hx:W4 x)(p q r:Nat):W4 (J1q x p q r):=J4r (J4r (J2c hx) (J2c hx)) (Z22 hx)
theorem Q61 {x:Int}(hx:W4 x)(p q r:Nat):W4 (J9f x p q r):=J4r (J4r (J2c hx) (J2c hx)) (J2c hx)
theorem Y8e {f:Nat→Int}{i:Nat}{x:Int}(hf:∀j,W4 (f j))(hx:W4 x):∀j,W4 (upd f i x j):=fun j=>by unfold upd;split;exact hx;exact hf j
theorem Q62 {b:Nat→Int}(hb:∀j,W4 (b j)):∀i j,W4 (Q0 b i j)
  |0,_=>Y27
  |i+1,j=>Y8e (Q62 hb i) (by
      split
      · exact Y8d hb i 4
      · exact Z21) j
theorem Y8f {k w v:Nat→Int}{i:Nat}(hv:∀j,W4 (v j)):∀j,W4 (Z08 k w i v j):=fun j=>by
  unfold Z08
  split<;>first|exact Z21|exact hv _|exact Y27
theorem Q63 {k w v:Nat→Int}(hv:∀j,W4 (v j)):∀i j,W4 (Q2 k w v i j)
  |0,j=>hv j
  |i+1,j=>Y8f (Q63 hv i) j
theorem V2k (P:List UInt8):∀j i,W4 (Hs4 P j i)
  |0,i=>V2j i
  |_+1,_=>Z21
theorem V2l {h v:Nat→Int}(hh:∀j,W4 (h j))(i j:Nat):W4 (mx4 h v i j):=by unfold mx4;split;exact Z21;exact hh j
/-! ### a word out of four bytes -/
theorem Z23 {x c:Int}(h0:0≤x)(h1:x<16777216)(hc0:0≤c)(hc1:c<256):oo4 (sl4 x 8) c=x*256+c:=by
  obtain⟨a,rfl⟩:=Int.eq_ofNat_of_zero_le h0;obtain⟨b,rfl⟩:=Int.eq_ofNat_of_zero_le hc0;have e:sl4 (a:Int) 8=((a*256:Nat):Int):=by unfold sl4;rw[AI.wrap_u32];omega
  have hb:b<2^8:=by omega
  rw[e,Y8a (by omega) (by omega),Nat.mul_comm,show(256:Nat)=2^8 by decide,←Nat.two_pow_add_eq_or_of_lt hb];omega
theorem Y28 {b:Nat→Int}(hb:∀j,0≤b j∧b j≤255)(i:Nat):J36 b i 4=b (4*i)*16777216+b (4*i+1)*65536+b (4*i+2)*256+b (4*i+3):=by
  have h0:=hb (4*i);have h1:=hb (4*i+1);have h2:=hb (4*i+2);have h3:=hb (4*i+3)
  have e1:J36 b i 1=b (4*i):=by
    show oo4 (sl4 0 8) (b (4*i+0))=_;rw[Ax,Z23 (by omega) (by omega) (by omega) (by omega)];omega
  have e2:J36 b i 2=b (4*i)*256+b (4*i+1):=by
    show oo4 (sl4 (J36 b i 1) 8) (b (4*i+1))=_;rw[e1,Z23 (by omega) (by omega) (by omega) (by omega)]
  have e3:J36 b i 3=(b (4*i)*256+b (4*i+1))*256+b (4*i+2):=by
    show oo4 (sl4 (J36 b i 2) 8) (b (4*i+2))=_;rw[e2,Z23 (by omega) (by omega) (by omega) (by omega)]
  show oo4 (sl4 (J36 b i 3) 8) (b (4*i+3))=_;rw[e3,Z23 (by omega) (by omega) (by omega) (by omega)];omega
theorem Q2c (k:Nat){x c:Nat}(hk:k≤32)(hx:x<2^30)(hc:c<2^k):bits .or .i64 ((x*2^k:Nat):Int) (c:Int)=((x*2^k+c:Nat):Int):=by
  have h1:2^k≤2^32:=Nat.pow_le_pow_right (by decide) hk
  have h2:x*2^k<2^63:=by
    calc x*2^k≤x*2^32:=Nat.mul_le_mul_left _ h1
      _<2^63:=by omega
  rw[V2e h2 (Nat.lt_of_lt_of_le hc (Nat.le_trans h1 (by decide))),Nat.mul_comm,←Nat.two_pow_add_eq_or_of_lt hc]
theorem Z6y {a b c d:Int}(ha:0≤a∧a≤255)(hb:0≤b∧b≤255)(hc:0≤c∧c≤255)(hd:0≤d∧d≤255):
    bits .or .i64 (bits .or .i64 (bits .or .i64 (a*2^24) (b*2^16)) (c*2^8)) d=a*16777216+b*65536+c*256+d:=by
  obtain⟨a,rfl⟩:=Int.eq_ofNat_of_zero_le ha.1;obtain⟨b,rfl⟩:=Int.eq_ofNat_of_zero_le hb.1;obtain⟨c,rfl⟩:=Int.eq_ofNat_of_zero_le hc.1;obtain⟨d,rfl⟩:=Int.eq_ofNat_of_zero_le hd.1;have e1:((a:Int)*2^24)=((a*2^24:Nat):Int):=by omega
  have e2:((b:Int)*2^16)=((b*2^16:Nat):Int):=by omega
  have e3:((c:Int)*2^8)=((c*2^8:Nat):Int):=by omega
  rw[e1,e2,e3,Q2c 24 (by decide) (by omega) (by omega),show a*2^24+b*2^16=(a*256+b)*2^16 by omega,Q2c 16 (by decide) (by omega) (by omega),
    show(a*256+b)*2^16+c*2^8=(a*65536+b*256+c)*2^8 by omega,Q2c 8 (by decide) (by omega) (by omega)]
  omega
/-! ### sums with one mask -/
theorem Y8g (f:Nat→Int)(i:Nat):sg4 f i=(f (i-16)+J1q (f (i-15)) 7 18 3+f (i-7)+J1q (f (i-2)) 17 19 10) % 4294967296:=by
  unfold sg4;simp only[Q0j];generalize J1q (f (i-15)) 7 18 3=a;generalize J1q (f (i-2)) 17 19 10=b;omega
def rTs (k w:Nat→Int)(i:Nat)(v:Nat→Int):Int:=v 7+J9f (v 4) 6 11 25+xo4 (an4 (v 4) (v 5)) (an4 (nt4 (v 4)) (v 6))+k i+w i
def rUs (v:Nat→Int):Int:=J9f (v 0) 2 13 22+xo4 (xo4 (an4 (v 0) (v 1)) (an4 (v 0) (v 2))) (an4 (v 1) (v 2))
theorem Z6z (k w:Nat→Int)(i:Nat)(v:Nat→Int):rT4 k w i v=rTs k w i v % 4294967296:=by
  unfold rT4 rTs;simp only[Q0j];generalize J9f (v 4) 6 11 25=a;generalize xo4 (an4 (v 4) (v 5)) (an4 (nt4 (v 4)) (v 6))=b;omega
theorem Y8h (v:Nat→Int):rU4 v=rUs v % 4294967296:=by unfold rU4 rUs;rw[Q0j]
theorem Y8i {k w v:Nat→Int}(i:Nat)(hk:W4 (k i))(hw:W4 (w i))(hv:∀j,W4 (v j)):0≤rTs k w i v∧rTs k w i v<21474836480:=by
  have h1:=hv 7;have h2:=Q61 (hv 4) 6 11 25;have h3:=J4r (J48 (hv 4) (hv 5)) (J48 (Z20 (hv 4)) (hv 6));unfold rTs W4 at*;omega
theorem Y8j {v:Nat→Int}(hv:∀j,W4 (v j)):0≤rUs v∧rUs v<8589934592:=by
  have h2:=Q61 (hv 0) 2 13 22;have h3:=J4r (J4r (J48 (hv 0) (hv 1)) (J48 (hv 0) (hv 2))) (J48 (hv 1) (hv 2));unfold rUs W4 at*;omega
theorem V7b (k w:Nat→Int)(i:Nat)(v:Nat→Int):(rTs k w i v+rUs v) % 4294967296=Z08 k w i v 0:=by
  show _=ad4 (rT4 k w i v) (rU4 v);rw[Z6z,Y8h,Q0j];omega
theorem V2m (k w:Nat→Int)(i:Nat)(v:Nat→Int):(v 3+rTs k w i v) % 4294967296=Z08 k w i v 4:=by
  show _=ad4 (v 3) (rT4 k w i v);rw[Z6z,Q0j];omega
/-! ### the bytes of the words -/
def bo4 (H:Nat→Int)(j:Nat):UInt8:=u8 (ob4 H j).toNat
theorem Z70 (H:Nat→Int)(j:Nat):((bo4 H j).toNat:Int)=ob4 H j:=by
  have:=Y6a (sr4 (H (j / 4)) (8*(3-j % 4)));unfold bo4;rw[J86];unfold ob4;omega
theorem J9g (H:Nat→Int)(i k:Nat)(hk:k<4):w8 (sr4 (H i) (8*(3-k)))=((bo4 H (4*i+k)).toNat:Int):=by
  rw[Z70];unfold ob4;rw[show(4*i+k) / 4=i by omega,show(4*i+k) % 4=k by omega]
def wb4 (H:Nat→Int)(n:Nat):List UInt8:=(List.range n).map (bo4 H)
theorem J3p (H:Nat→Int)(n:Nat):(wb4 H n).length=n:=by simp[wb4]
theorem Z72 (H:Nat→Int)(i:Nat):wb4 H (4*i)++[bo4 H (4*i+0),bo4 H (4*i+1),bo4 H (4*i+2),bo4 H (4*i+3)]=wb4 H (4*(i+1)):=by
  unfold wb4;rw[show 4*(i+1)=4*i+3+1 by omega];simp only[List.range_succ,List.map_append,List.map_cons,List.map_nil,At,Ax,List.cons_append,BU]
def Z09 (l:List UInt8):List UInt8:=wb4 (Hs4 (J0e l) (nb4 l.length)) 32
def hs4 (l:List UInt8):Nat:=le (Z09 l)
theorem Q14 (l:List UInt8):(Z09 l).length=32:=J3p _ _
theorem Z0a (l:List UInt8):(J0 .u8 32 (sm4 l)).toList=bs8 (Z09 l):=by
  unfold J0 bs8 Z09 wb4;rw[List.map_map];simp only[List.map_inj_left,Function.comp];intro j _;rw[Z70];rfl
theorem Z24 (F:List UInt8):Z09 F=lb 32 (hs4 F):=(Z0b (Q14 F)).symm
theorem Y8k (F:List UInt8):J0 .u8 32 (sm4 F)=J0 .u8 32 (J6 (hs4 F)):=Q81 (by rw[Z0a,Z24,J79,J25])
theorem Q2d (F:List UInt8):hs4 F<2^256:=by have:=Q82 (Z09 F);rwa [Q14] at this
end
end Go.Proofs.YtdjacgmmidbieaaGreatDoor

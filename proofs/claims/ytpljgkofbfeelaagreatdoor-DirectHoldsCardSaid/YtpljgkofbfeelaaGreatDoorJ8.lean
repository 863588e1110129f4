/- Contracts and plain laws for directHolds_holds. Conditions: the tables hold their numbers. -/
import Derived.Test.YtpljgkofbfeelaaGreatDoorJ7
open Go renaming World->AA,Value->AB,IntKind->AG
open Go.IntKind renaming wrap_i64->BD,wrap_u64->AH
open _root_.List renaming length_append->Ai,length_cons->AV,mem_singleton->Ae,append_assoc->Ak,length_nil->Al,length_drop->AW,length_replicate->BE,mem_cons->AY
open _root_.Nat renaming zero_le->Ah,zero_add->AL
open Go.RowKit
set_option linter.unusedSimpArgs false
set_option linter.unusedVariables false
namespace Go.Proofs.YtpljgkofbfeelaaGreatDoor.S8
section
set_option maxHeartbeats 1500000
set_option maxRecDepth 100000
attribute [local irreducible] wpList Z9 wpX
theorem Y7b (h:Nat→Int)(l:List UInt8)(u:AB)(hl:128≤l.length)(w:AA)(hs:Sl w u l)(hG:GS w):Calls Tryz.prog 119 #[.agg (J0 .u64 8 h),u] w fun e w' =>V5 (.agg (J0 .u64 8 (prs h (bt l)))) w w' e:=by
 obtain⟨ad,c,rfl,_⟩:=Q7t hs (by omega);exact Y69 h l ad c hl w hs hG
theorem MA0 {ops:Array Oper}{Q:Exit→Act→World→Prop}{F:List Nat}{w:World}{H:List As}{l:List Oper}{o:Oper}{a:Act}(i:Nat){s x:Operand}{v:Value}{xs:List UInt8}{m:Nat}{H' :Value→List As}{a' :Value→Act}(hm:0<m)(hlen:xs.length+m≤140737488355328)(h:∀v',wpM Tryz.prog ops (.L Q) F w (H' v') l (a' v'))(hi:H[i]?=some (.o v xs):=by exact rfl)(hw:Region.wanted o (yielded ops a.tmps)=true:=by exact rfl)
  (ho:o.op=.call {callee:=.builtin .append,args:= #[s,x],argTypes:= #[22,3]}:=by exact rfl) (hs:a.eval s=v:=by exact rfl) (hx:a.eval x=.int .i64 (m:Int):=by exact rfl)
  (hH:∀v',H.set i (.o v' (xs++List.replicate m 0))=H' v' :=by intro v';dsimp only[sB,sC];first|done|exact rfl) (hp:∀v,a.put o.dst v=a' v:=by intro b;first|exact pl (by dsimp only[mB,mC];first|done|exact rfl)|exact pn|exact rfl):wpM Tryz.prog ops (.L Q) F w H (o::l) a:=by
 intro W hS;refine Z0o hm hw ho hs hx (hS.own hi) hlen fun v' W' h1 h2 h3=> ?_;rw[hp];exact h v' W' (by rw[←hH];exact hS.seto hi h2 h1 h3)

theorem K08 (ps:List (List UInt8))(A:Option Addr)(c:Nat)(F:List UInt8)(hF:ps.flatten=F)(hlen:F.length≤70368744177664)(hpn:ps.length≤9223372036854775000)(w:AA)(hps:∀i l,ps[i]?=some l→∃ad u,A=some ad∧w.cell? (ad.add i)=some u∧Sl w u l)(hG:GS w):
  Calls Tryz.prog 74 #[.slice A ps.length c] w fun e w' =>V5 (.agg (J0 .u8 64 (sm F))) w w' e:=by
 have HG:=Lib.hid hG;have α:=Lib.hid hps;clear hG hps;have J:=Z2z F;have ζ:=(Q8l F.length).2;have hS:=SH.nil [] w
 go_enter Tryz.func74,Tryz.ntmps74
 go_upto_region 0 with fail;refine RL hS ?_;clear hS;refine MN (z:=J0 .u8 64 (fun _=>0)) (t:=67) ?_;intro K9;refine MZ fun W hS=> ?_;go_upto_region 2 with fail;refine RL hS ?_;clear hS;refine MV ?_;refine MV ?_;refine W0 ?_;refine MZ fun W hS=> ?_;have hS:=hS.onil rfl
 go_wp2_with fail
 go_loopw [3,15] (fun sv ii wr=> ∃(i:Nat)(bv:AB),(i≤ps.length)∧(bv=sv)∧(ii=.int .i64 (i:Int))∧SH [] w wr [.o bv ((List.take i ps).flatten),.b K9 (J0 .u8 64 (fun _=>0)) 67])
  (fun sv ii _=>ps.length-(intOf ii).toNat)
 case atStart=>exact⟨0,_,Ah _,rfl,rfl,hS⟩
 clear hS
 case round=>
  obtain⟨i,bv,hi,rfl,rfl,hS⟩:=hrel
  by_cases M:i<ps.length
  ·
   obtain⟨l_,N⟩:∃l,ps[i]?=some l:=⟨_,List.getElem?_eq_getElem M⟩
   obtain⟨γ,u_,Z,T,X⟩:=α.out i l_ N;have η:(List.take i ps).flatten.length+l_.length≤F.length:=by rw[←hF,←Ai,←J5c N];exact Q40 _ _
   go_upto_region 3 with fail;refine RL hS ?_;clear hS;refine Wt ?_;refine MZ fun W hS=> ?_;go_upto_region 4 with fail;refine RL hS ?_;clear hS;refine MW ?_ (v:=.pointer (some (γ.add i))) (hv:=fun _=>Q78 (j:=i) M rfl (by rw[←Z];rfl) rfl);refine MF (v:=u_) (fun W hS=>Q6 rfl rfl (J19 T hS.ext) (by kernel_rfl)) ?_;refine MV ?_;refine MZ fun W hS=> ?_;go_upto_region 5 with fail;refine RL hS ?_;clear hS;refine MV ?_;refine MV ?_;refine MA 0 (xs:=((List.take i ps).flatten)) (ys:=l_) (fun W hS=>(K4 X hS.ext)) (by first|omega|(simp only[Ai,AV,Al,BE,J3i];omega)) ?_;intro ε;refine MV ?_;refine MZ fun W hS=> ?_;go_wp2;go_roundw
   case rel=>exact⟨i+1,ε,by omega,rfl,by go_num,(by rw[J5c N];exact hS)⟩
   case measure=>simp[intOf];omega
  obtain rfl:i=ps.length:=by omega
  rw[List.take_length,hF] at hS;go_upto_region 3 with fail;refine RL hS ?_;clear hS;refine Wf ?_;refine MZ fun W hS=> ?_;go_upto_region 7 with fail;refine RL hS ?_;clear hS;refine MV ?_;refine MF (v:=.int .i64 (F.length:Int)) (fun W hS=>Q8 (hS.osl (i:=0) rfl) rfl rfl) ?_;refine MW ?_ (v:=.int .u64 ((F.length:Nat):Int)) (hv:=by intro W;go_simp;(try simp only[AG.wrap_u64,AG.wrap_i64]);(try omega));refine MW ?_ (v:=.int .u64 ((8*F.length:Nat):Int)) (hv:=by intro W;rw[show((8*F.length:Nat):Int)=sl ((F.length:Nat):Int) 3 from(by unfold sl;rw[AG.wrap_u64];omega)];exact Q3k (n:=3) (by decide) rfl rfl rfl);refine MV ?_;refine MZ fun W hS=> ?_;go_upto_region 8 with fail;refine RL hS ?_;clear hS;refine MV ?_;refine MO (m:=[128]) (n:=1) (z:= #[.int .u8 128]) ?_;intro ξ;refine MA 1 (xs:=F) (ys:=[128]) (fun W hS=>(hS.osl (i:=0) rfl)) (by first|omega|(simp only[Ai,AV,Al,BE,J3i];omega)) ?_;intro θ;refine MV ?_;refine MZ fun W hS=> ?_
  go_wp2_with fail
  go_loopw [3] (fun sv wr=> ∃(k:Nat)(bv:AB),(k≤zc F.length)∧(bv=sv)∧SH [] w wr [.o bv (F++[128]++List.replicate k 0),.b K9 (J0 .u8 64 (fun _=>0)) 67])
   (fun sv _=>F.length+300-Q2q sv)
  case atStart=>exact⟨0,_,Ah _,rfl,(by rw[List.replicate_zero,List.append_nil];exact(hS.pick [1,2]))⟩
  clear hS
  case round=>
   obtain⟨k,bv,hk,rfl,hS⟩:=hrel;have lb:=Z68 (hS.own (i:=0) rfl)
   by_cases hz:k<zc F.length
   ·
    have Y:=K03 hz;go_upto_region 9 with fail;refine RL hS ?_;clear hS;refine MV ?_;refine MF (v:=.int .i64 ((F++[128]++List.replicate k 0).length:Int)) (fun W hS=>Q8 (hS.osl (i:=0) rfl) rfl rfl) ?_;refine MW ?_ (v:=.int .i64 (((F.length+1+k) % 128:Nat):Int)) (hv:=by intro W;go_simp;(try simp only[Ai,AV,Al,BE]);rw[Int.tmod_eq_emod_of_nonneg (by omega)];omega);refine MW ?_ (v:=.bool true) (hv:=by intro W;go_simp;omega);refine MZ fun W hS=> ?_;go_upto_region 10 with fail;refine RL hS ?_;clear hS;refine MV ?_;refine MO (m:=[0]) (n:=1) (z:= #[.int .u8 0]) ?_;intro κ;refine MA 1 (xs:=(F++[128]++List.replicate k 0)) (ys:=[0]) (fun W hS=>(hS.osl (i:=0) rfl)) (by first|omega|(simp only[Ai,AV,Al,BE,J3i];omega)) ?_;intro V;refine MV ?_;refine MZ fun W hS=> ?_;have la:=Z68 (hS.own (i:=1) rfl);simp only[Ai,AV,Al,BE] at la lb;go_wp2;go_roundw
    case rel=>exact⟨k+1,V,by omega,rfl,(by have h_:=(hS.pick [1,2]);rw[Ak _ (List.replicate k 0),←List.replicate_succ'] at h_;exact h_)⟩
    case measure=>simp only[la,lb];omega
   obtain rfl:k=zc F.length:=by omega
   have Y:=(Q8l F.length).1;go_upto_region 9 with fail;refine RL hS ?_;clear hS;refine MV ?_;refine MF (v:=.int .i64 ((F++[128]++List.replicate (zc F.length) 0).length:Int)) (fun W hS=>Q8 (hS.osl (i:=0) rfl) rfl rfl) ?_;refine MW ?_ (v:=.int .i64 (((F.length+1+zc F.length) % 128:Nat):Int)) (hv:=by intro W;go_simp;(try simp only[Ai,AV,Al,BE]);rw[Int.tmod_eq_emod_of_nonneg (by omega)];omega);refine MW ?_ (v:=.bool false) (hv:=by intro W;first|(go_simp;done)|(go_simp;omega));refine MZ fun W hS=> ?_;go_upto_region 11 with fail;refine RL hS ?_;clear hS;refine MV ?_;refine MA0 0 (xs:=(F++[128]++List.replicate (zc F.length) 0)) (m:=8) (by decide) (by first|omega|(simp only[Ai,AV,Al,BE,J3i];omega)) ?_;intro μ;refine MV ?_;refine MZ fun W hS=> ?_
   go_wp2_with fail
   go_loopw [3,7] (fun sv ii wr=> ∃(k:Nat)(bv:AB),(k≤8)∧(bv=sv)∧(ii=.int .i64 (7-(k:Int)))∧SH [] w wr [.o bv (F++[128]++List.replicate (zc F.length) 0++List.replicate 8 0++bk (8*F.length) k),.b K9 (J0 .u8 64 (fun _=>0)) 67])
    (fun sv ii _=>(intOf ii+1).toNat)
   case atStart=>exact⟨0,_,Ah _,rfl,rfl,(by rw[V0s];exact hS)⟩
   clear hS
   case round=>
    obtain⟨k,bv,hk,rfl,rfl,hS⟩:=hrel
    by_cases D:k<8
    ·
     go_upto_region 13 with fail;refine RL hS ?_;clear hS;refine MV ?_;refine MW ?_ (v:=.bool true) (hv:=by intro W;go_simp;omega);refine MZ fun W hS=> ?_;go_upto_region 15 with fail;refine RL hS ?_;clear hS;(iterate 3 refine MV ?_);refine MW ?_ (v:=.int .i64 (((8*(7-k):Nat):Int))) (hv:=by intro W;go_simp;(try simp only[AG.wrap_u64,AG.wrap_i64]);(try omega));refine MW ?_ (v:=.int .u64 (sr ((8*F.length:Nat):Int) (8*(7-k)))) (hv:=fun _=>J95 (n:=8*(7-k)) (by omega) rfl rfl rfl);refine MW ?_ (v:=.int .u8 ((u8 ((8*F.length) / 2^(8*(7-k)))).toNat:Int)) (hv:=by intro W;rw[←Y30 (8*F.length) (8*(7-k)) _ rfl];exact Z33 rfl rfl);refine MO (m:=[u8 ((8*F.length) / 2^(8*(7-k)))]) (n:=1) (z:= #[.int .u8 ((u8 ((8*F.length) / 2^(8*(7-k)))).toNat:Int)]) ?_;intro ν;refine MA 1 (xs:=(F++[128]++List.replicate (zc F.length) 0++List.replicate 8 0++bk (8*F.length) k)) (ys:=[u8 ((8*F.length) / 2^(8*(7-k)))]) (fun W hS=>(hS.osl (i:=0) rfl)) (by first|omega|(simp only[Ai,AV,Al,BE,J3i];omega)) ?_;intro U;refine MV ?_;refine MZ fun W hS=> ?_;go_wp2;go_roundw
     case rel=>exact⟨k+1,U,by omega,rfl,by first|go_num|(go_simp;omega),(by rw[V0t];exact(hS.pick [1,2]))⟩
     case measure=>simp[intOf];omega
    obtain rfl:k=8:=by omega
    rw[V0u] at hS;go_upto_region 13 with fail;refine RL hS ?_;clear hS;refine MV ?_;refine MW ?_ (v:=.bool false) (hv:=by intro W;first|(go_simp;done)|(go_simp;omega));refine MZ fun W hS=> ?_;go_upto_region 16 with fail;refine RL hS ?_;clear hS;refine MF (v:=.agg (J0 .u64 8 hf)) (fun W hS=>J0a rfl rfl ((Q7w HG.out hS.ext).2) (by kernel_rfl) (by rw[J1];kernel_rfl)) ?_;refine MN (z:=J0 .u64 8 (fun _=>0)) (t:=217) ?_;intro β;refine MR 0 ?_;refine MZ fun W hS=> ?_;have hS:=hS.read (i:=1) rfl (Z7z (hS.own (i:=1) rfl)) J2n
    go_wp2_with fail
    go_loopw [3] (fun sv wr=> ∃(j:Nat)(u:AB),(j≤nb F.length)∧(u=sv)∧SH [] w wr [.b β (J0 .u64 8 (Hs (pad F) j)) 217,.s u (List.drop (128*j) (pad F)),.b K9 (J0 .u8 64 (fun _=>0)) 67])
     (fun sv _=>Q2q sv)
    case atStart=>exact⟨0,_,Ah _,rfl,hS⟩
    clear hS
    case round=>
     obtain⟨j,u,hj,rfl,hS⟩:=hrel;have lb:=J6p (hS.sl (i:=1) rfl)
     by_cases S:j<nb F.length
     ·
      have G:128≤(List.drop (128*j) (pad F)).length:=by rw[AW,J];omega
      go_upto_region 17 with fail;refine RL hS ?_;clear hS;refine MV ?_;refine MF (v:=.int .i64 ((List.drop (128*j) (pad F)).length:Int)) (fun W hS=>Q8 (hS.sl (i:=1) rfl) rfl rfl) ?_;refine MW ?_ (v:=.bool true) (hv:=by intro W;go_simp;(try simp only[AW,J]);omega);refine MZ fun W hS=> ?_;go_upto_region 19 with fail;refine RL hS ?_;clear hS;refine ML 0 ?_;refine MV ?_;refine MC (v:=.agg (J0 .u64 8 (prs (Hs (pad F) j) (bt (List.drop (128*j) (pad F)))))) (fun W hS=>Y7b (Hs (pad F) j) (List.drop (128*j) (pad F)) u G W (hS.sl (i:=1) rfl) (Q7w HG.out hS.ext)) ?_;refine MR 0 ?_;refine MZ fun W hS=> ?_;go_upto_region 18 with fail;refine RL hS ?_;clear hS;refine MV ?_;refine Mt 1 128 (m:=(List.drop (128*j) (pad F))) (m' :=(List.drop (128*(j+1)) (pad F))) (by exact G) ?_ (hm:=Z7y _ _);intro δ;refine MV ?_;refine MZ fun W hS=> ?_;have la:=J6p (hS.sl (i:=0) rfl);simp only[AW,J] at la lb;go_wp2;go_roundw
      case rel=>exact⟨j+1,δ,by omega,rfl,(hS.pick [1,0,3])⟩
      case measure=>simp only[la,lb];omega
     obtain rfl:j=nb F.length:=by omega
     go_upto_region 17 with fail;refine RL hS ?_;clear hS;refine MV ?_;refine MF (v:=.int .i64 ((List.drop (128*nb F.length) (pad F)).length:Int)) (fun W hS=>Q8 (hS.sl (i:=1) rfl) rfl rfl) ?_;refine MW ?_ (v:=.bool false) (hv:=by intro W;first|(go_simp;done)|(go_simp;(try simp only[AW,J]);omega));refine MZ fun W hS=> ?_;go_upto_region 20 with fail;refine RL hS ?_;clear hS;refine MN (z:=J0 .u8 64 (fun _=>0)) (t:=67) ?_;intro R;refine MZ fun W hS=> ?_;go_upto_region 21 with fail;refine RL hS ?_;clear hS;refine ML 1 ?_;refine W0 ?_;refine MZ fun W hS=> ?_
     go_wp2_with fail
     go_loopw [61] (fun ii wr=> ∃(i:Nat),(i≤8)∧(ii=.int .i64 (i:Int))∧SH [] w wr [.b R (J0 .u8 64 (Q60 (Hs (pad F) (nb F.length)) (8*i))) 67,.b K9 (J0 .u8 64 (fun _=>0)) 67])
      (fun ii _=>8-(intOf ii).toNat)
     case atStart=>exact⟨0,Ah _,rfl,(by rw[Nat.mul_zero,Z7w];exact(hS.pick [0,3]))⟩
     clear hS
     case round=>
      obtain⟨i,hi,rfl,hS⟩:=hrel
      by_cases h8:i<8
      ·
       go_upto_region 22 with fail;refine RL hS ?_;clear hS;refine Wt ?_;refine MZ fun W hS=> ?_;go_upto_region 23 with fail;refine RL hS ?_;clear hS;refine MV ?_;refine MW ?_ (v:=.int .u64 (Hs (pad F) (nb F.length) i)) (hv:=fun _=>Q8o (m:=8) h8 Tryz.underlying217 (by kernel_rfl) Y7c rfl rfl rfl);refine MV ?_;refine MV ?_;refine MZ fun W hS=> ?_
       go_wp2_with fail
       go_loopw [65] (fun jj wr=> ∃(k:Nat),(k≤8)∧(jj=.int .i64 (k:Int))∧SH [] w wr [.b R (J0 .u8 64 (Q60 (Hs (pad F) (nb F.length)) (8*i+k))) 67,.b K9 (J0 .u8 64 (fun _=>0)) 67])
        (fun jj _=>8-(intOf jj).toNat)
       case atStart=>exact⟨0,Ah _,rfl,hS⟩
       clear hS
       case round=>
        obtain⟨k,hk,rfl,hS⟩:=hrel
        by_cases D:k<8
        ·
         go_upto_region 25 with fail;refine RL hS ?_;clear hS;refine Wt ?_;refine MZ fun W hS=> ?_;go_upto_region 27 with fail;refine RL hS ?_;clear hS;refine MV ?_;refine MW ?_ (v:=.int .i64 (((8*i:Nat):Int))) (hv:=by intro W;go_simp;(try simp only[AG.wrap_u64,AG.wrap_i64]);(try omega));refine MV ?_;refine MW ?_ (v:=.int .i64 (((8*i+k:Nat):Int))) (hv:=by intro W;go_simp;(try simp only[AG.wrap_u64,AG.wrap_i64]);(try omega));refine MV ?_;refine MV ?_;refine MW ?_ (v:=.int .i64 (((7-k:Nat):Int))) (hv:=by intro W;go_simp;(try simp only[AG.wrap_u64,AG.wrap_i64]);(try omega));refine MW ?_ (v:=.int .i64 (((8*(7-k):Nat):Int))) (hv:=by intro W;go_simp;(try simp only[AG.wrap_u64,AG.wrap_i64]);(try omega));refine MW ?_ (v:=.int .u64 (sr (Hs (pad F) (nb F.length) i) (8*(7-k)))) (hv:=fun _=>J95 (n:=8*(7-k)) (by omega) rfl rfl rfl);refine MW ?_ (v:=.int .u8 (w8 (sr (Hs (pad F) (nb F.length) i) (8*(7-k))))) (hv:=by intro W;exact Z33 rfl rfl);refine MW ?_ (v:=.pointer (some ⟨R,0+(8*i+k),none⟩)) (hv:=fun _=>rxa Tryz.underlying67 (by omega));refine MP 0 (v:=.int .u8 (w8 (sr (Hs (pad F) (nb F.length) i) (8*(7-k))))) (cs' :=J0 .u8 64 (upd (Q60 (Hs (pad F) (nb F.length)) (8*i+k)) (8*i+k) (w8 (sr (Hs (pad F) (nb F.length) i) (8*(7-k)))))) ?_ (hs:=by rw[J1,AL];omega) (hc:=by rw[AL];exact V1 _ _ _ _ _);refine MZ fun W hS=> ?_;go_wp2;go_roundw
         case rel=>exact⟨k+1,by omega,by go_num,(by rw[←Z7x _ _ _ D];exact hS)⟩
         case measure=>simp[intOf];omega
        obtain rfl:k=8:=by omega
        go_upto_region 25 with fail;refine RL hS ?_;clear hS;refine Wf ?_;refine MZ fun W hS=> ?_;go_wp2;go_roundw
        case rel=>exact⟨i+1,by omega,by go_num,(by rw[show 8*(i+1)=8*i+8 by omega];exact hS)⟩
        case measure=>simp[intOf];omega
      obtain rfl:i=8:=by omega
      rw[show 8*8=64 by rfl,Y2p] at hS;go_upto_region 22 with fail;refine RL hS ?_;clear hS;refine Wf ?_;refine MZ fun W hS=> ?_;go_upto_region 30 with fail;refine RL hS ?_;clear hS;refine ML 0 ?_;refine MR 1 ?_;refine MZ fun W hS=> ?_;go_wp2;refine bodyPost_ret (Z6 rfl rfl (hS.blk (i:=1) rfl) (by kernel_rfl) (by rw[J1];kernel_rfl)) rfl ⟨rfl,hS.ext⟩
end

section
end

section
def GR (w:AA):Prop:=Rd w 5 (J0 .u64 80 kf)∧Rd w 4 (J0 .u64 8 hf)
theorem V4k {w W:AA}(h:GR w)(e:Ext w W):GR W:=⟨h.1.ext e,h.2.ext e⟩
def bo (H:Nat→Int)(j:Nat):UInt8:=u8 (ob H j).toNat
theorem V03 (H:Nat→Int)(j:Nat):((bo H j).toNat:Int)=ob H j:=by
  have:=Y8q (sr (H (j / 8)) (8*(7-j % 8)));unfold bo;rw[J62];unfold ob;omega
def wb (H:Nat→Int)(n:Nat):List UInt8:=(List.range n).map (bo H)
theorem Q6q (H:Nat→Int)(n:Nat):(wb H n).length=n:=by simp[wb]
theorem Y73 (H:Nat→Int)(i:Nat):wb H (8*i)++[bo H (8*i+0)]++[bo H (8*i+1)]++[bo H (8*i+2)]++[bo H (8*i+3)]++[bo H (8*i+4)]++[bo H (8*i+5)]++[bo H (8*i+6)]++[bo H (8*i+7)]=wb H (8*(i+1)):=by
  unfold wb;rw[show 8*(i+1)=8*i+7+1 by omega];simp only[List.range_succ,List.map_append,List.map_cons,List.map_nil,Ak,Nat.add_zero,List.cons_append,List.nil_append]
def smb (l:List UInt8):List UInt8:=wb (Hs (pad l) (nb l.length)) 64
theorem Q57 (l:List UInt8):(smb l).length=64:=Q6q _ _
theorem Z80 (l:List UInt8):(J0 .u8 64 (sm l)).toList=bs8 (smb l):=by
  unfold J0 bs8 smb wb;rw[List.map_map];simp only[List.map_inj_left,Function.comp];intro j _;rw[V03];rfl
end
end Go.Proofs.YtpljgkofbfeelaaGreatDoor.S8

namespace Go.Proofs.YtpljgkofbfeelaaGreatDoor
theorem Z03 {P:Program}{ops:Array Oper}{w:AA}{E E' :Act→Prop}(h:∀a,E a→E' a):∀(l:List Oper) (a:Act),wpX P ops w E l a→wpX P ops w E' l a
  |[],a,x=>h a x
  |_::l,_,⟨v,hy,hk⟩=>⟨v,hy,Z03 h l _ hk⟩
def nws (xs:List NewOp)(β:Nat→Nat):List As:=xs.map fun x=> .b (β x.i) x.z x.t
theorem SH.news {F:List Nat}{w W W' :AA}{H:List As}{β:Nat→Nat}(h:SH F w W H)(q:Ext W W'):∀(xs:List NewOp),(∀x∈xs,W.heap.size≤β x.i∧Blk W' (β x.i) x.z x.t)→xs.Pairwise (fun x y=>β x.i≠β y.i)→(∀x∈xs,H.all (SH.tyOk (.b 0 x.z x.t))=true)→SH F w W' (nws xs β++H)
  |[],_,_,_=>h.grow q
  |x::xs,hb,hd,ht=>by
    have h1:=SH.news h q xs (fun y hy=>hb y (by simp[hy])) (List.pairwise_cons.1 hd).2 (fun y hy=>ht y (by simp[hy]));have hx:=hb x (by simp);have h2:SH F w W' (.b (β x.i) x.z x.t::H):=h.new (x:=.b (β x.i) x.z x.t) (J1t q) hx.2 (fun k hk=>by rw[Ae.1 hk];exact hx.1) rfl (ht x (by simp));have hn:=(List.pairwise_cons.1 hd).1;show SH F w W' (.b (β x.i) x.z x.t::(nws xs β++H));refine⟨h1.off,fun y hy=> ?_,List.pairwise_cons.2 ⟨fun y hy=> ?_,h1.ap⟩,fun y hy hm k hk hlt=> ?_⟩
    · rcases AY.1 hy with rfl|hy
      · exact hx.2
      · exact h1.all y hy
    · rcases List.mem_append.1 hy with hy|hy
      · obtain⟨z,hz,rfl⟩:=List.mem_map.1 hy
        have hne:=hn z hz;exact⟨fun _ k hk hk' =>hne ((Ae.1 hk).symm.trans (Ae.1 hk')),fun _ k hk hk' =>hne ((Ae.1 hk').symm.trans (Ae.1 hk))⟩
      · exact(List.pairwise_cons.1 h2.ap).1 y hy
    · rcases AY.1 hy with rfl|hy
      · have:=hx.1;have:=h.size;rw[Ae.1 hk] at hlt;omega
      · exact h1.old y hy hm k hk hlt
section
variable {P : Program} {Q : Exit → Act → AA → Prop} {F : List Nat} {w : AA} {H : List As} {l : List Oper} {a a' : Act}
theorem RXn {id:Nat}{W:World}{l1 l2:List Oper}(m:Nat)(xs:List NewOp)(hS:SH F w W H)
    (h:wpM P l.toArray (.X (fun a1 W1=> ∀(β:Nat→Nat)(W' :World),Ext W1 W' →(∀x∈xs,W1.heap.size≤β x.i∧Blk W' (β x.i) x.z x.t)→(∀x∈xs,∀y∈xs,x.i≠y.i→β x.i≠β y.i)→wpList P l.toArray (NoPanic Q) l2 (J0o xs β a1) W')) F w H l1 a')
    (hok:∀x∈xs,Q6e P l.toArray x) (hm:P.follows .mixedOrders=true:=by as_aux_lemma=>kernel_rfl)
    (hB:(Region.noSelect l.toArray && Q4i .any l.toArray (m+xs.length) m 0 (Array.replicate l.length false) && decide (m+xs.length≤l.length) && decide (xs.map (·.i)).Nodup && decide (xs.map (·.d)).Nodup && xs.all (fun x=>decide (x.i<m+xs.length)) &&
      Q6f .any l.toArray (X8 (m+xs.length) 0 (Array.replicate l.length false)) xs.length (xs.map (·.i)) (X8 m 0 (Array.replicate l.length false)) &&
      (Region.ready .any l.toArray (X8 (m+xs.length) 0 (Array.replicate l.length false))).all (fun j=>decide (m+xs.length≤j)) &&
      Region.seqB .any l.toArray (l.length-(m+xs.length)) (m+xs.length) (X8 (m+xs.length) 0 (Array.replicate l.length false)))=true:=by as_aux_lemma=>kernel_rfl)
    (h1:l.take m=l1:=by(try simp only[List.append,List.take_succ_cons,List.take_zero,List.take_nil]);exact rfl) (h2:l.drop (m+xs.length)=l2:=by(try simp only[List.append,List.length_cons,List.length_nil,List.drop_succ_cons,List.drop_zero,List.drop_nil]);exact rfl)
    (hp:a=a' :=by(try simp only[Act.put,mA,mB,mC]);exact rfl):(Code.region id l.toArray true).wp P Q a W:=by
  subst hp h1 h2;exact Q7p m xs hm hok hB (Z03 (fun a1 h3 β W' h4 h5 h6=>h3 W (Below.refl _ _) β W' h4 h5 h6) _ _ (h W hS))
theorem MZB {ops ops2:Array Oper}{l2:List Oper}{xs:List NewOp}{H' :(Nat→Nat)→List As}{a2:(Nat→Nat)→Act}(h:∀β,wpM P ops2 (.L Q) F w (H' β) l2 (a2 β))(hnd:(xs.map (·.i)).Nodup:=by decide)(ht:∀x∈xs,H.all (SH.tyOk (.b 0 x.z x.t))=true:=by(intro x hx;simp only[List.mem_cons,List.not_mem_nil,or_false] at hx;rcases hx with rfl|rfl|rfl|rfl<;>rfl))
    (hH:∀β,nws xs β++H=H' β:=by exact fun _=>rfl) (hp:∀β,J0o xs β a=a2 β:=by(intro β;dsimp only[J0o,Act.put,mA,mB,mC];first|done|exact rfl)):
    wpM P ops (.X (fun a1 W1=> ∀(β:Nat→Nat)(W' :World),Ext W1 W' →(∀x∈xs,W1.heap.size≤β x.i∧Blk W' (β x.i) x.z x.t)→(∀x∈xs,∀y∈xs,x.i≠y.i→β x.i≠β y.i)→wpList P ops2 Q l2 (J0o xs β a1) W')) F w H [] a:=fun W hS=>J3r fun W1 h1 β W' h2 h3 h4=>by
  rw[hp β];refine h β W' ?_;rw[←hH β];refine(hS.grow h1).news h2 xs h3 ?_ ht
  have:xs.Pairwise fun x y=>x.i≠y.i:=by
    have:=List.pairwise_map.1 hnd;exact this
  exact List.Pairwise.imp_of_mem (fun hx hy D=>h4 _ hx _ hy D) this
end
end Go.Proofs.YtpljgkofbfeelaaGreatDoor

/- Contracts and plain laws for directHolds_holds. Conditions: the tables hold their numbers. -/
import Derived.Test.YtpljgkofbfeelaaGreatDoorJ16
open Go renaming World->AA,Value->AB,bodyPost_ret->BC,execOp->AQ,Calls->Az,Program->AC,Operand->AS,TypeId->AD,Oper->AT,IntKind->AG
open Go.IntKind renaming wrap_i64->BD,wrap_u64->AH
open _root_.List renaming length_append->Ai,length_cons->AV,nil_append->BM,append_nil->Aj,append_assoc->Ak,length_nil->Al,length_replicate->BE,flatten_cons->An,cons_append->BK
open _root_.Nat renaming zero_le->Ah,zero_add->AL,add_assoc->BN
open Go.RowKit
set_option maxRecDepth 100000
set_option linter.unusedSimpArgs false
set_option linter.unusedVariables false
namespace Go.Proofs.YtpljgkofbfeelaaGreatDoor
section
set_option maxHeartbeats 3000000
attribute [local irreducible] wpList Z9 wpX
theorem Q1e {w:AA}{o:AT}{a:Act}{x:AS}{c:UInt8}(ho:o.op=.convert 5 3 x)(hx:a.eval x=.int .u8 (c.toNat:Int)):(AQ a.eval o).run Tryz.prog w=.ok (.value (.int .i64 (c.toNat:Int))) w:=by
 have hc:=c.toNat_lt;have hw:AG.wrap .i64 (c.toNat:Int)=(c.toNat:Int):=by rw[AG.wrap_i64];omega
 simp[AQ,ho,hx,convert,run_underlying Tryz.underlying5,run_underlying Tryz.underlying3,Sem.run_bind,Conv.intToInt,hw]
theorem J2s {P:AC}{w:AA}{o:AT}{a:Act}{x y:AS}{t t' :AD}{p q:Int}(h:0≤p+q∧p+q<9223372036854775808)(ho:o.op=.binOp .add t x y t')(hx:a.eval x=.int .i64 p)(hy:a.eval y=.int .i64 q):(AQ a.eval o).run P w=.ok (.value (.int .i64 (p+q))) w:=by
 have h2:AG.i64.wrap (p+q)=p+q:=IntWalk.i64_in _ (by omega);simp only[AQ,ho,hx,hy,eqGuard,binOp,Sem.run_bind];simp[go_sem,Sem.run_bind,h2]
theorem J5s {P:AC}{w:AA}{o:AT}{a:Act}{x y:AS}{t t' :AD}{p q:Int}(hp:W4 p)(hq:W4 q)(ho:o.op=.binOp .xor t x y t')(hx:a.eval x=.int .i64 p)(hy:a.eval y=.int .i64 q):(AQ a.eval o).run P w=.ok (.value (.int .i64 (xo4 p q))) w:=by rw[←Z8u hp hq];exact Q6w ho hx hy
theorem Q5d {P:AC}{w:AA}{o:AT}{a:Act}{x y:AS}{t t' :AD}{p q:Int}(hp:W4 p)(hq:W4 q)(ho:o.op=.binOp .and t x y t')(hx:a.eval x=.int .i64 p)(hy:a.eval y=.int .i64 q):(AQ a.eval o).run P w=.ok (.value (.int .i64 (an4 p q))) w:=by rw[←V0x hp hq];exact J4c ho hx hy
theorem V5o {P:AC}{w:AA}{o:AT}{a:Act}{x y:AS}{t t' :AD}{q:Int}(hq:W4 q)(ho:o.op=.binOp .xor t x y t')(hx:a.eval x=.int .i64 4294967295)(hy:a.eval y=.int .i64 q):(AQ a.eval o).run P w=.ok (.value (.int .i64 (nt4 q))) w:=by rw[←V6c hq];exact Q6w ho hx hy
theorem shb (P:List UInt8)(J:Nat){n:Nat}(hn:n≤32):AG.wrap .i64 (bt P J*2^n)=bt P J*2^n:=by
 have h:=Q3w P J;obtain⟨b,hb⟩:=Int.eq_ofNat_of_zero_le h.1;have h3:2^n≤2^32:=Nat.pow_le_pow_right (by decide) hn;have e2:((b:Int)*2^n)=((b*2^n:Nat):Int):=by rw[Int.natCast_mul,Int.natCast_pow];rfl
 have l2:b*2^n<2^63:=by
  calc b*2^n≤b*2^32:=Nat.mul_le_mul_left _ h3
   _<2^63:=by omega
 rw[hb,e2];exact Z1k _ (Int.natCast_nonneg _) (by exact_mod_cast l2)
theorem Y83 (P:List UInt8)(n i J:Nat)(hJ:n+4*i=J):J3j (bt (P.drop n)) i 4=bits .or .i64 (bits .or .i64 (bits .or .i64 (bt P J*2^24) (bt P (J+1)*2^16)) (bt P (J+2)*2^8)) (bt P (J+3)):=by
 rw[Z8w (Q3w _ _) (Q3w _ _) (Q3w _ _) (Q3w _ _),Y4j (fun j=>Q3w _ j)];rw[J72,J72,J72,J72,←BN,←BN,←BN,hJ]
theorem Y84 {b:Nat→Int}{i:Nat}(h:i<16):upd (Q0 b i) i (J3j b i 4)=Q0 b (i+1):=by
 show _=upd (Q0 b i) i (if i<16 then J3j b i 4 else sg4 (Q0 b i) i);rw[if_pos h]
theorem Y85 (h b:Nat→Int):J0 .i64 8 (mx4 h (Q1 K6 (Q0 b 64) h 64) 8)=J0 .i64 8 (J7o h b):=X7 _ _ _ _ fun j hj=>by unfold mx4 J7o;rw[if_pos hj]
theorem K1g (x:Int):sr4 x 0=x:=by unfold sr4;simp

theorem Y86 (l:List UInt8)(hlen:l.length≤70368744177664)(w:AA)(hG:GR4 w):
  Az Tryz.prog 89 #[V3 l] w fun e w' =>V5 (V3 (Z1m l)) w w' e:=by
 have HG:=Lib.hid hG;clear hG;have α:=Q2t l;have τ:=(J8p l.length).2;have Δ:nb4 l.length≤1099511628000:=by unfold nb4;omega
 have hS:=SH.nil [] w
 go_enter Tryz.func89,Tryz.ntmps89
 go_upto_region 1 with fail;refine RL hS ?_;clear hS;refine MV ?_;refine MW ?_ (v:=.int .i64 (l.length:Int)) (hv:=fun _=>J0w (l:=l) rfl rfl);refine MV ?_;refine MZ fun W hS=> ?_;go_upto_region 2 with fail;refine RL hS ?_;clear hS;refine MV ?_;refine MY (m:=l) (by first|omega|(simp only[Ai,AV,Al,BE,J45,J3i];omega)) ?_;intro χ;refine MO (m:=[128]) (n:=1) (z:= #[.int .u8 128]) ?_;intro Γ;refine MAz 1 (xs:=l) (ys:=[128]) (fun W hS=>(hS.osl (i:=0) rfl)) (by first|omega|(simp only[Ai,AV,Al,BE,J45,J3i];omega)) ?_;intro Θ;refine MV ?_;refine MZ fun W hS=> ?_
 go_wp2_with fail
 go_loopw [4] (fun sv wr=> ∃(k:Nat)(bv:AB),(k≤zc4 l.length)∧(bv=sv)∧SH [] w wr [.w bv (l++[128]++List.replicate k 0)])
  (fun sv _=>l.length+300-Q2q sv)
 case atStart=>exact⟨0,_,Ah _,rfl,(by rw[List.replicate_zero,Aj];exact(hS.pick [1]))⟩
 clear hS
 case round=>
  obtain⟨k,bv,hk,rfl,hS⟩:=hrel;have lb:=J6p (hS.ozl (i:=0) rfl)
  by_cases hz:k<zc4 l.length
  ·
   have μ:=Y3z hz;go_upto_region 3 with fail;refine RL hS ?_;clear hS;refine MV ?_;refine MF (v:=.int .i64 ((l++[128]++List.replicate k 0).length:Int)) (fun W hS=>Q8 (hS.ozl (i:=0) rfl) rfl rfl) ?_;refine MW ?_ (v:=.int .i64 (((l.length+1+k) % 64:Nat):Int)) (hv:=by intro W;go_simp;(try simp only[Ai,AV,Al,BE]);rw[Int.tmod_eq_emod_of_nonneg (by omega)];omega);refine MW ?_ (v:=.bool true) (hv:=by intro W;go_simp;omega);refine MZ fun W hS=> ?_;go_upto_region 4 with fail;refine RL hS ?_;clear hS;refine MV ?_;refine MO (m:=[0]) (n:=1) (z:= #[.int .u8 0]) ?_;intro Ξ;refine MAz 1 (xs:=(l++[128]++List.replicate k 0)) (ys:=[0]) (fun W hS=>(hS.osl (i:=0) rfl)) (by first|omega|(simp only[Ai,AV,Al,BE,J45,J3i];omega)) ?_;intro Ψ;refine MV ?_;refine MZ fun W hS=> ?_;have la:=J6p (hS.ozl (i:=1) rfl);simp only[Ai,AV,Al,BE] at la lb;go_wp2;go_roundw
   case rel=>exact⟨k+1,_,by omega,rfl,(by have h_:=(hS.pick [1]);rw[Ak _ (List.replicate k 0),←List.replicate_succ'] at h_;exact h_)⟩
   case measure=>simp only[la,lb];omega
  obtain rfl:k=zc4 l.length:=by omega
  have μ:=(J8p l.length).1;go_upto_region 3 with fail;refine RL hS ?_;clear hS;refine MV ?_;refine MF (v:=.int .i64 ((l++[128]++List.replicate (zc4 l.length) 0).length:Int)) (fun W hS=>Q8 (hS.ozl (i:=0) rfl) rfl rfl) ?_;refine MW ?_ (v:=.int .i64 (((l.length+1+zc4 l.length) % 64:Nat):Int)) (hv:=by intro W;go_simp;(try simp only[Ai,AV,Al,BE]);rw[Int.tmod_eq_emod_of_nonneg (by omega)];omega);refine MW ?_ (v:=.bool false) (hv:=by intro W;first|(go_simp;done)|(go_simp;omega));refine MZ fun W hS=> ?_
  go_wp2_with fail
  go_loopw [4,5] (fun sv ii wr=> ∃(k:Nat)(bv:AB),(k≤8)∧(bv=sv)∧(ii=.int .i64 (56-8*(k:Int)))∧SH [] w wr [.w bv (l++[128]++List.replicate (zc4 l.length) 0++bk (8*l.length) k)])
   (fun sv ii _=>(intOf ii+8).toNat)
  case atStart=>exact⟨0,_,Ah _,rfl,rfl,(by rw[V0s];exact hS)⟩
  clear hS
  case round=>
   obtain⟨k,bv,hk,rfl,rfl,hS⟩:=hrel
   by_cases δ:k<8
   ·
    go_upto_region 6 with fail;refine RL hS ?_;clear hS;refine MV ?_;refine MW ?_ (v:=.bool true) (hv:=by intro W;go_simp;omega);refine MZ fun W hS=> ?_;go_upto_region 8 with fail;refine RL hS ?_;clear hS;refine MV ?_;refine MV ?_;refine MW ?_ (v:=.int .i64 (((8*l.length:Nat):Int))) (hv:=by intro W;go_simp;(try simp only[AG.wrap_u64,AG.wrap_i64]);(try omega));refine MV ?_;refine MW ?_ (v:=.int .i64 (((8*l.length / 2^(8*(7-k)):Nat):Int))) (hv:=by intro W;rw[←Y7w (8*l.length) (8*(7-k)) _ rfl];exact J2c (n:=8*(7-k)) (by omega) rfl rfl (by show AB.int .i64 (56-8*(k:Int))=_;congr 1;omega));refine MW ?_ (v:=.int .u8 ((u8 ((8*l.length) / 2^(8*(7-k)))).toNat:Int)) (hv:=by intro W;rw[←Y7v (8*l.length) (2^(8*(7-k)))];exact J3a rfl rfl);refine MO (m:=[u8 ((8*l.length) / 2^(8*(7-k)))]) (n:=1) (z:= #[.int .u8 ((u8 ((8*l.length) / 2^(8*(7-k)))).toNat:Int)]) ?_;intro ω;refine MAz 1 (xs:=(l++[128]++List.replicate (zc4 l.length) 0++bk (8*l.length) k)) (ys:=[u8 ((8*l.length) / 2^(8*(7-k)))]) (fun W hS=>(hS.osl (i:=0) rfl)) (by first|omega|(simp only[Ai,AV,Al,BE,J45,J3i];omega)) ?_;intro ξ;refine MV ?_;refine MZ fun W hS=> ?_;go_wp2;go_roundw
    case rel=>exact⟨k+1,ξ,by omega,rfl,by first|go_num|(go_simp;omega),(by rw[V0t];exact(hS.pick [1]))⟩
    case measure=>simp[intOf];omega
   obtain rfl:k=8:=by omega
   rw[V0u] at hS;go_upto_region 6 with fail;refine RL hS ?_;clear hS;refine MV ?_;refine MW ?_ (v:=.bool false) (hv:=by intro W;first|(go_simp;done)|(go_simp;omega));refine MZ fun W hS=> ?_;go_upto_region 9 with fail;refine RL hS ?_;clear hS;refine MF (v:=.agg (J0 .i64 8 hf4)) (fun W hS=>J0a rfl rfl ((Q0h HG.out hS.ext).2) (by kernel_rfl) (by rw[J1];kernel_rfl)) ?_;refine MN (z:=J0 .i64 8 (fun _=>0)) (t:=235) ?_;intro M;refine MR 0 ?_;refine MZ fun W hS=> ?_;have hS:=hS.readw (i:=1) rfl (hS.ozl (i:=1) rfl) J2n
   go_wp2_with fail
   go_loopw [7] (fun ii wr=> ∃(j:Nat),(j≤nb4 l.length)∧(ii=.int .i64 ((64*j:Nat):Int))∧SH [] w wr [.b M (J0 .i64 8 (Hs4 (J07 l) j)) 235,.s bv (J07 l)])
    (fun ii _=>64*nb4 l.length-(intOf ii).toNat)
   case atStart=>exact⟨0,Ah _,rfl,hS⟩
   clear hS
   case round=>
    obtain⟨j,hj,rfl,hS⟩:=hrel
    by_cases ε:j<nb4 l.length
    ·
     obtain⟨h_,U⟩:=exn (Hs4 (J07 l) j);obtain⟨b_,γ⟩:=exn (bt (List.drop (64*j) (J07 l)));rw[←U] at hS;have hh:=V6g (J07 l) j;have hb:=V6e (List.drop (64*j) (J07 l));rw[←U] at hh;rw[←γ] at hb;have Hh:=Lib.hid U;have Hb:=Lib.hid γ;clear U γ;go_upto_region 11 with fail;refine RL hS ?_;clear hS;refine MV ?_;refine MV ?_;refine MF (v:=.int .i64 ((J07 l).length:Int)) (fun W hS=>Q8 (hS.sl (i:=1) rfl) rfl rfl) ?_;refine MW ?_ (v:=.bool true) (hv:=by intro W;first|(go_simp;done)|(go_simp;(try simp only[α]);omega));refine MZ fun W hS=> ?_;go_upto_region 13 with fail;refine RL hS ?_;clear hS;refine MN (z:=J0 .i64 64 (fun _=>0)) (t:=236) ?_;intro N;refine MZ fun W hS=> ?_
     go_wp2_with fail
     go_loopw [9] (fun ii wr=> ∃(i:Nat),(i≤64)∧(ii=.int .i64 (i:Int))∧SH [] w wr [.b N (J0 .i64 64 (Q0 b_ i)) 236,.b M (J0 .i64 8 h_) 235,.s bv (J07 l)])
      (fun ii _=>64-(intOf ii).toNat)
     case atStart=>exact⟨0,Ah _,rfl,hS⟩
     clear hS
     case round=>
      obtain⟨i,hi,rfl,hS⟩:=hrel;have G:=Q74 hb i
      by_cases R:i<64
      ·
       go_upto_region 15 with fail;refine RL hS ?_;clear hS;refine MV ?_;refine Wt ?_;refine MZ fun W hS=> ?_
       by_cases S:i<16
       ·
        obtain⟨J,ρ⟩:∃J,64*j+4*i=J:=⟨_,rfl⟩
        have hJ:J+3<(J07 l).length:=by rw[α];omega
        have T:=Y83 (J07 l) (64*j) i J ρ;rw[←Hb.out] at T;have ν:=Lib.hid T;clear T;go_upto_region 17 with fail;refine RL hS ?_;clear hS;refine MV ?_;refine Wt ?_;refine MZ fun W hS=> ?_;go_upto_region 18 with fail;refine RL hS ?_;clear hS;refine MV ?_;refine MV ?_;refine MW ?_ (v:=.int .i64 (((4*i:Nat):Int))) (hv:=by intro W;go_simp;(try simp only[AG.wrap_u64,AG.wrap_i64]);(try omega));refine MW ?_ (v:=.int .i64 (((J:Nat):Int))) (hv:=by intro W;go_simp;(try simp only[AG.wrap_u64,AG.wrap_i64]);(try omega));refine MV ?_;refine MZ fun W hS=> ?_;go_upto_region 19 with fail;refine RX 31 hS ?_;clear hS;(iterate 3 refine MV ?_);refine MJ 2 J (b:=((J07 l).getD (J) 0)) (J2a (by omega)) ?_;intro θ c_ V;refine MF (v:=.int .u8 (((J07 l).getD (J) 0).toNat:Int)) (fun W hS=>Q6 rfl rfl (Q4l (by rw[←V.out];exact(hS.sl (i:=2) rfl)) (J2a (by omega))) (by kernel_rfl)) ?_;refine MW ?_ (hv:=fun _=>Q1e rfl rfl);refine MW ?_ (v:=.int .i64 ((bt (J07 l) (J))*2^24)) (hv:=by intro W;rw[←shb (J07 l) (J) (n:=24) (by decide)];exact J9d (n:=24) (by decide) rfl rfl rfl);refine MV ?_;refine MV ?_;refine MW ?_ (v:=.int .i64 (((J+1:Nat):Int))) (hv:=by intro W;go_simp;(try simp only[AG.wrap_u64,AG.wrap_i64]);(try omega));refine MJ 2 (J+1) (b:=((J07 l).getD (J+1) 0)) (J2a (by omega)) ?_;intro ζ c_ X;refine MF (v:=.int .u8 (((J07 l).getD (J+1) 0).toNat:Int)) (fun W hS=>Q6 rfl rfl (Q4l (by rw[←X.out];exact(hS.sl (i:=2) rfl)) (J2a (by omega))) (by kernel_rfl)) ?_;refine MW ?_ (hv:=fun _=>Q1e rfl rfl);refine MW ?_ (v:=.int .i64 ((bt (J07 l) (J+1))*2^16)) (hv:=by intro W;rw[←shb (J07 l) (J+1) (n:=16) (by decide)];exact J9d (n:=16) (by decide) rfl rfl rfl);refine MW ?_ (hv:=fun _=>Q1c rfl rfl rfl);refine MV ?_;refine MV ?_;refine MW ?_ (v:=.int .i64 (((J+2:Nat):Int))) (hv:=by intro W;go_simp;(try simp only[AG.wrap_u64,AG.wrap_i64]);(try omega));refine MJ 2 (J+2) (b:=((J07 l).getD (J+2) 0)) (J2a (by omega)) ?_;intro κ c_ Y;refine MF (v:=.int .u8 (((J07 l).getD (J+2) 0).toNat:Int)) (fun W hS=>Q6 rfl rfl (Q4l (by rw[←Y.out];exact(hS.sl (i:=2) rfl)) (J2a (by omega))) (by kernel_rfl)) ?_;refine MW ?_ (hv:=fun _=>Q1e rfl rfl);refine MW ?_ (v:=.int .i64 ((bt (J07 l) (J+2))*2^8)) (hv:=by intro W;rw[←shb (J07 l) (J+2) (n:=8) (by decide)];exact J9d (n:=8) (by decide) rfl rfl rfl);refine MW ?_ (hv:=fun _=>Q1c rfl rfl rfl);refine MV ?_;refine MV ?_;refine MW ?_ (v:=.int .i64 (((J+3:Nat):Int))) (hv:=by intro W;go_simp;(try simp only[AG.wrap_u64,AG.wrap_i64]);(try omega));refine MJ 2 (J+3) (b:=((J07 l).getD (J+3) 0)) (J2a (by omega)) ?_;intro η c_ Z;refine MF (v:=.int .u8 (((J07 l).getD (J+3) 0).toNat:Int)) (fun W hS=>Q6 rfl rfl (Q4l (by rw[←Z.out];exact(hS.sl (i:=2) rfl)) (J2a (by omega))) (by kernel_rfl)) ?_;refine MW ?_ (hv:=fun _=>Q1e rfl rfl);refine MW ?_ (v:=.int .i64 (J3j b_ i 4)) (hv:=by intro W;rw[ν.out];exact Q1c rfl rfl rfl);refine MW ?_ (v:=.pointer (some ⟨N,0+i,none⟩)) (hv:=fun _=>rxa Tryz.underlying236 (by omega));refine MZt ?_;refine MP 0 (v:=.int .i64 (J3j b_ i 4)) (cs' :=J0 .i64 64 (upd (Q0 b_ i) i (J3j b_ i 4))) ?_ (hs:=by rw[J1,AL];omega) (hc:=by rw[AL];exact V1 _ _ _ _ _);refine MZn fun W hS=> ?_;rw[Y84 S] at hS;go_wp2;go_roundw
        case rel=>exact⟨i+1,by omega,by go_num,hS⟩
        case measure=>simp[intOf];omega
       replace S:16≤i:=by omega
       have p1:=G (i-16);have p2:=Q93 (G (i-15)) 7 18 3;have p3:=G (i-7);have p4:=Q93 (G (i-2)) 17 19 10;unfold W4 at p1 p2 p3 p4;go_upto_region 17 with fail;refine RL hS ?_;clear hS;refine MV ?_;refine Wf ?_;refine MZ fun W hS=> ?_;go_upto_region 20 with fail;refine RS hS ?_;clear hS;refine MV ?_;refine MW ?_ (v:=.int .i64 (((i-15:Nat):Int))) (hv:=by intro W;go_simp;(try simp only[AG.wrap_u64,AG.wrap_i64]);(try omega));refine MW ?_ (v:=.pointer (some ⟨N,0+(i-15),none⟩)) (hv:=fun _=>rxa Tryz.underlying236 (by omega));refine MG 0 ?_ (j:=0+(i-15)) (v:=.int .i64 ((Q0 b_ i) (i-15))) (hj:=ag0 (by omega));refine MV ?_;refine MW ?_ (v:=.int .i64 (((i-2:Nat):Int))) (hv:=by intro W;go_simp;(try simp only[AG.wrap_u64,AG.wrap_i64]);(try omega));refine MW ?_ (v:=.pointer (some ⟨N,0+(i-2),none⟩)) (hv:=fun _=>rxa Tryz.underlying236 (by omega));refine MG 0 ?_ (j:=0+(i-2)) (v:=.int .i64 ((Q0 b_ i) (i-2))) (hj:=ag0 (by omega));refine MV ?_;refine MV ?_;refine MZx fun W hS=> ?_;go_upto_region 21 with fail;refine RX 30 hS ?_;clear hS;refine MV ?_;refine MV ?_;refine MW ?_ (v:=.int .i64 (((i-16:Nat):Int))) (hv:=by intro W;go_simp;(try simp only[AG.wrap_u64,AG.wrap_i64]);(try omega));refine MW ?_ (v:=.pointer (some ⟨N,0+(i-16),none⟩)) (hv:=fun _=>rxa Tryz.underlying236 (by omega));refine MG 0 ?_ (j:=0+(i-16)) (v:=.int .i64 ((Q0 b_ i) (i-16))) (hj:=ag0 (by omega));refine MV ?_;refine MC (v:=.int .i64 (rt4 ((Q0 b_ i) (i-15)) 7)) (fun W hS=>J37 ((Q0 b_ i) (i-15)) (G (i-15)) 7 (by decide) (by decide) W) ?_;refine MV ?_;refine MC (v:=.int .i64 (rt4 ((Q0 b_ i) (i-15)) 18)) (fun W hS=>J37 ((Q0 b_ i) (i-15)) (G (i-15)) 18 (by decide) (by decide) W) ?_;refine MW ?_ (hv:=fun _=>J5s (J2m (G (i-15))) (J2m (G (i-15))) rfl rfl rfl);refine MV ?_;refine MW ?_ (hv:=fun _=>J2c (n:=3) (by decide) rfl rfl rfl);refine MW ?_ (v:=.int .i64 (J1z (Q0 b_ i (i-15)) 7 18 3)) (hv:=fun _=>J5s (J51 (J2m (G (i-15))) (J2m (G (i-15)))) (Z3o (G (i-15))) rfl rfl rfl);refine MW ?_ (hv:=fun _=>J2s (by omega) rfl rfl rfl);refine MV ?_;refine MW ?_ (v:=.int .i64 (((i-7:Nat):Int))) (hv:=by intro W;go_simp;(try simp only[AG.wrap_u64,AG.wrap_i64]);(try omega));refine MW ?_ (v:=.pointer (some ⟨N,0+(i-7),none⟩)) (hv:=fun _=>rxa Tryz.underlying236 (by omega));refine MG 0 ?_ (j:=0+(i-7)) (v:=.int .i64 ((Q0 b_ i) (i-7))) (hj:=ag0 (by omega));refine MW ?_ (hv:=fun _=>J2s (by omega) rfl rfl rfl);refine MV ?_;refine MC (v:=.int .i64 (rt4 ((Q0 b_ i) (i-2)) 17)) (fun W hS=>J37 ((Q0 b_ i) (i-2)) (G (i-2)) 17 (by decide) (by decide) W) ?_;refine MV ?_;refine MC (v:=.int .i64 (rt4 ((Q0 b_ i) (i-2)) 19)) (fun W hS=>J37 ((Q0 b_ i) (i-2)) (G (i-2)) 19 (by decide) (by decide) W) ?_;refine MW ?_ (hv:=fun _=>J5s (J2m (G (i-2))) (J2m (G (i-2))) rfl rfl rfl);refine MV ?_;refine MW ?_ (hv:=fun _=>J2c (n:=10) (by decide) rfl rfl rfl);refine MW ?_ (v:=.int .i64 (J1z (Q0 b_ i (i-2)) 17 19 10)) (hv:=fun _=>J5s (J51 (J2m (G (i-2))) (J2m (G (i-2)))) (Z3o (G (i-2))) rfl rfl rfl);refine MW ?_ (hv:=fun _=>J2s (by omega) rfl rfl rfl);refine MW ?_ (v:=.int .i64 (sg4 (Q0 b_ i) i)) (hv:=by intro W;rw[V12,←Q3v (by omega) (by omega)];exact J4c rfl rfl rfl);refine MW ?_ (v:=.pointer (some ⟨N,0+i,none⟩)) (hv:=fun _=>rxa Tryz.underlying236 (by omega));refine MZt ?_;refine MP 0 (v:=.int .i64 (sg4 (Q0 b_ i) i)) (cs' :=J0 .i64 64 (upd (Q0 b_ i) i (sg4 (Q0 b_ i) i))) ?_ (hs:=by rw[J1,AL];omega) (hc:=by rw[AL];exact V1 _ _ _ _ _);refine MZn fun W hS=> ?_;rw[Z6m S] at hS;go_wp2;go_roundw
       case rel=>exact⟨i+1,by omega,by go_num,hS⟩
       case measure=>simp[intOf];omega
      obtain rfl:i=64:=by omega
      go_upto_region 15 with fail;refine RL hS ?_;clear hS;refine MV ?_;refine Wf ?_;refine MZ fun W hS=> ?_;go_upto_region 22 with fail;refine RL hS ?_;clear hS;refine ML 1 ?_;refine MN (z:=J0 .i64 8 (fun _=>0)) (t:=235) ?_;intro D;refine MR 0 ?_;refine MZ fun W hS=> ?_
      go_wp2_with fail
      go_loopw [14] (fun ii wr=> ∃(i:Nat),(i≤64)∧(ii=.int .i64 (i:Int))∧SH [] w wr [.b D (J0 .i64 8 (Q1 K6 (Q0 b_ 64) h_ i)) 235,.b N (J0 .i64 64 (Q0 b_ 64)) 236,.b M (J0 .i64 8 h_) 235,.s bv (J07 l)])
       (fun ii _=>64-(intOf ii).toNat)
      case atStart=>exact⟨0,Ah _,rfl,hS⟩
      clear hS
      case round=>
       obtain⟨i,hi,rfl,hS⟩:=hrel;have hv:=Q75 (k:=K6) (w:=Q0 b_ 64) hh i;have q7:=hv 7;have q3:=hv 3;have qk:=Y8n i;have qw:=Q74 hb 64 i;have qb:=Q73 (hv 4) 6 11 25;have qc:=J51 (J4l (hv 4) (hv 5)) (J4l (Z3m (hv 4)) (hv 6));have qB:=Q73 (hv 0) 2 13 22;have qM:=J51 (J51 (J4l (hv 0) (hv 1)) (J4l (hv 0) (hv 2))) (J4l (hv 1) (hv 2));have qT:=V14 i (Y8n i) (Q74 hb 64 i) hv;have qU:=V15 hv;unfold W4 at q7 q3 qk qw qb qc qB qM
       by_cases R:i<64
       ·
        go_upto_region 24 with fail;refine RL hS ?_;clear hS;refine MV ?_;refine Wt ?_;refine MZ fun W hS=> ?_;go_upto_region 26 with fail;refine RS hS ?_;clear hS;refine MW ?_ (v:=.pointer (some ⟨D,0+7,none⟩)) (hv:=fun _=>rxa Tryz.underlying235 (by omega));refine MG 0 ?_ (j:=0+7) (v:=.int .i64 ((Q1 K6 (Q0 b_ 64) h_ i) 7)) (hj:=ag0 (by omega));refine MW ?_ (v:=.pointer (some ⟨D,0+4,none⟩)) (hv:=fun _=>rxa Tryz.underlying235 (by omega));refine MG 0 ?_ (j:=0+4) (v:=.int .i64 ((Q1 K6 (Q0 b_ 64) h_ i) 4)) (hj:=ag0 (by omega));refine MC (v:=.int .i64 (rt4 ((Q1 K6 (Q0 b_ 64) h_ i) 4) 6)) (fun W hS=>J37 ((Q1 K6 (Q0 b_ 64) h_ i) 4) (hv 4) 6 (by decide) (by decide) W) ?_;refine MW ?_ (v:=.pointer (some ⟨D,0+4,none⟩)) (hv:=fun _=>rxa Tryz.underlying235 (by omega));refine MG 0 ?_ (j:=0+4) (v:=.int .i64 ((Q1 K6 (Q0 b_ 64) h_ i) 4)) (hj:=ag0 (by omega));refine MC (v:=.int .i64 (rt4 ((Q1 K6 (Q0 b_ 64) h_ i) 4) 11)) (fun W hS=>J37 ((Q1 K6 (Q0 b_ 64) h_ i) 4) (hv 4) 11 (by decide) (by decide) W) ?_;refine MW ?_ (hv:=fun _=>J5s (J2m (hv 4)) (J2m (hv 4)) rfl rfl rfl);refine MW ?_ (v:=.pointer (some ⟨D,0+4,none⟩)) (hv:=fun _=>rxa Tryz.underlying235 (by omega));refine MG 0 ?_ (j:=0+4) (v:=.int .i64 ((Q1 K6 (Q0 b_ 64) h_ i) 4)) (hj:=ag0 (by omega));refine MC (v:=.int .i64 (rt4 ((Q1 K6 (Q0 b_ 64) h_ i) 4) 25)) (fun W hS=>J37 ((Q1 K6 (Q0 b_ 64) h_ i) 4) (hv 4) 25 (by decide) (by decide) W) ?_;refine MW ?_ (v:=.int .i64 (Q0i (Q1 K6 (Q0 b_ 64) h_ i 4) 6 11 25)) (hv:=fun _=>J5s (J51 (J2m (hv 4)) (J2m (hv 4))) (J2m (hv 4)) rfl rfl rfl);refine MW ?_ (hv:=fun _=>J2s (by omega) rfl rfl rfl);refine MW ?_ (v:=.pointer (some ⟨D,0+4,none⟩)) (hv:=fun _=>rxa Tryz.underlying235 (by omega));refine MG 0 ?_ (j:=0+4) (v:=.int .i64 ((Q1 K6 (Q0 b_ 64) h_ i) 4)) (hj:=ag0 (by omega));refine MW ?_ (v:=.pointer (some ⟨D,0+5,none⟩)) (hv:=fun _=>rxa Tryz.underlying235 (by omega));refine MG 0 ?_ (j:=0+5) (v:=.int .i64 ((Q1 K6 (Q0 b_ 64) h_ i) 5)) (hj:=ag0 (by omega));refine MW ?_ (hv:=fun _=>Q5d (hv 4) (hv 5) rfl rfl rfl);refine MW ?_ (v:=.pointer (some ⟨D,0+4,none⟩)) (hv:=fun _=>rxa Tryz.underlying235 (by omega));refine MG 0 ?_ (j:=0+4) (v:=.int .i64 ((Q1 K6 (Q0 b_ 64) h_ i) 4)) (hj:=ag0 (by omega));refine MW ?_ (hv:=fun _=>V5o (hv 4) rfl rfl rfl);refine MW ?_ (v:=.pointer (some ⟨D,0+6,none⟩)) (hv:=fun _=>rxa Tryz.underlying235 (by omega));refine MG 0 ?_ (j:=0+6) (v:=.int .i64 ((Q1 K6 (Q0 b_ 64) h_ i) 6)) (hj:=ag0 (by omega));refine MW ?_ (hv:=fun _=>Q5d (Z3m (hv 4)) (hv 6) rfl rfl rfl);refine MW ?_ (hv:=fun _=>J5s (J4l (hv 4) (hv 5)) (J4l (Z3m (hv 4)) (hv 6)) rfl rfl rfl);refine MW ?_ (hv:=fun _=>J2s (by omega) rfl rfl rfl);refine MV ?_;refine MW ?_ (v:=.pointer (some ⟨7,0+i,none⟩)) (hv:=fun _=>rxa Tryz.underlying236 (by omega));refine MF (v:=.int .i64 (K6 i)) (fun W hS=>Q6 rfl rfl (((Q0h HG.out hS.ext).1).1 _ _ (ag0 (by omega))) (by kernel_rfl)) ?_;refine MW ?_ (hv:=fun _=>J2s (by omega) rfl rfl rfl);refine MV ?_;refine MW ?_ (v:=.pointer (some ⟨N,0+i,none⟩)) (hv:=fun _=>rxa Tryz.underlying236 (by omega));refine MG 1 ?_ (j:=0+i) (v:=.int .i64 ((Q0 b_ 64) i)) (hj:=ag0 (by omega));refine MW ?_ (v:=.int .i64 (rTs K6 (Q0 b_ 64) i (Q1 K6 (Q0 b_ 64) h_ i))) (hv:=by intro W;unfold rTs;exact J2s (by omega) rfl rfl rfl);refine MV ?_;refine MZx fun W hS=> ?_;go_upto_region 27 with fail;refine RS hS ?_;clear hS;refine MW ?_ (v:=.pointer (some ⟨D,0+0,none⟩)) (hv:=fun _=>rxa Tryz.underlying235 (by omega));refine MG 0 ?_ (j:=0+0) (v:=.int .i64 ((Q1 K6 (Q0 b_ 64) h_ i) 0)) (hj:=ag0 (by omega));refine MC (v:=.int .i64 (rt4 ((Q1 K6 (Q0 b_ 64) h_ i) 0) 2)) (fun W hS=>J37 ((Q1 K6 (Q0 b_ 64) h_ i) 0) (hv 0) 2 (by decide) (by decide) W) ?_;refine MW ?_ (v:=.pointer (some ⟨D,0+0,none⟩)) (hv:=fun _=>rxa Tryz.underlying235 (by omega));refine MG 0 ?_ (j:=0+0) (v:=.int .i64 ((Q1 K6 (Q0 b_ 64) h_ i) 0)) (hj:=ag0 (by omega));refine MC (v:=.int .i64 (rt4 ((Q1 K6 (Q0 b_ 64) h_ i) 0) 13)) (fun W hS=>J37 ((Q1 K6 (Q0 b_ 64) h_ i) 0) (hv 0) 13 (by decide) (by decide) W) ?_;refine MW ?_ (hv:=fun _=>J5s (J2m (hv 0)) (J2m (hv 0)) rfl rfl rfl);refine MW ?_ (v:=.pointer (some ⟨D,0+0,none⟩)) (hv:=fun _=>rxa Tryz.underlying235 (by omega));refine MG 0 ?_ (j:=0+0) (v:=.int .i64 ((Q1 K6 (Q0 b_ 64) h_ i) 0)) (hj:=ag0 (by omega));refine MC (v:=.int .i64 (rt4 ((Q1 K6 (Q0 b_ 64) h_ i) 0) 22)) (fun W hS=>J37 ((Q1 K6 (Q0 b_ 64) h_ i) 0) (hv 0) 22 (by decide) (by decide) W) ?_;refine MW ?_ (v:=.int .i64 (Q0i (Q1 K6 (Q0 b_ 64) h_ i 0) 2 13 22)) (hv:=fun _=>J5s (J51 (J2m (hv 0)) (J2m (hv 0))) (J2m (hv 0)) rfl rfl rfl);refine MW ?_ (v:=.pointer (some ⟨D,0+0,none⟩)) (hv:=fun _=>rxa Tryz.underlying235 (by omega));refine MG 0 ?_ (j:=0+0) (v:=.int .i64 ((Q1 K6 (Q0 b_ 64) h_ i) 0)) (hj:=ag0 (by omega));refine MW ?_ (v:=.pointer (some ⟨D,0+1,none⟩)) (hv:=fun _=>rxa Tryz.underlying235 (by omega));refine MG 0 ?_ (j:=0+1) (v:=.int .i64 ((Q1 K6 (Q0 b_ 64) h_ i) 1)) (hj:=ag0 (by omega));refine MW ?_ (hv:=fun _=>Q5d (hv 0) (hv 1) rfl rfl rfl);refine MW ?_ (v:=.pointer (some ⟨D,0+0,none⟩)) (hv:=fun _=>rxa Tryz.underlying235 (by omega));refine MG 0 ?_ (j:=0+0) (v:=.int .i64 ((Q1 K6 (Q0 b_ 64) h_ i) 0)) (hj:=ag0 (by omega));refine MW ?_ (v:=.pointer (some ⟨D,0+2,none⟩)) (hv:=fun _=>rxa Tryz.underlying235 (by omega));refine MG 0 ?_ (j:=0+2) (v:=.int .i64 ((Q1 K6 (Q0 b_ 64) h_ i) 2)) (hj:=ag0 (by omega));refine MW ?_ (hv:=fun _=>Q5d (hv 0) (hv 2) rfl rfl rfl);refine MW ?_ (hv:=fun _=>J5s (J4l (hv 0) (hv 1)) (J4l (hv 0) (hv 2)) rfl rfl rfl);refine MW ?_ (v:=.pointer (some ⟨D,0+1,none⟩)) (hv:=fun _=>rxa Tryz.underlying235 (by omega));refine MG 0 ?_ (j:=0+1) (v:=.int .i64 ((Q1 K6 (Q0 b_ 64) h_ i) 1)) (hj:=ag0 (by omega));refine MW ?_ (v:=.pointer (some ⟨D,0+2,none⟩)) (hv:=fun _=>rxa Tryz.underlying235 (by omega));refine MG 0 ?_ (j:=0+2) (v:=.int .i64 ((Q1 K6 (Q0 b_ 64) h_ i) 2)) (hj:=ag0 (by omega));refine MW ?_ (hv:=fun _=>Q5d (hv 1) (hv 2) rfl rfl rfl);refine MW ?_ (hv:=fun _=>J5s (J51 (J4l (hv 0) (hv 1)) (J4l (hv 0) (hv 2))) (J4l (hv 1) (hv 2)) rfl rfl rfl);refine MW ?_ (v:=.int .i64 (rUs (Q1 K6 (Q0 b_ 64) h_ i))) (hv:=by intro W;unfold rUs;exact J2s (by omega) rfl rfl rfl);refine MV ?_;refine MZx fun W hS=> ?_;go_upto_region 28 with fail;refine RL hS ?_;clear hS;refine MV ?_;refine MV ?_;refine MW ?_ (hv:=fun _=>J2s (by omega) rfl rfl rfl);refine MW ?_ (v:=.int .i64 (Z1l K6 (Q0 b_ 64) i (Q1 K6 (Q0 b_ 64) h_ i) 0)) (hv:=by intro W;rw[←K2b,←Q3v (by omega) (by omega)];exact J4c rfl rfl rfl);refine MW ?_ (v:=.pointer (some ⟨D,0+0,none⟩)) (hv:=fun _=>rxa Tryz.underlying235 (by omega));refine MG 0 ?_ (j:=0+0) (v:=.int .i64 ((Q1 K6 (Q0 b_ 64) h_ i) 0)) (hj:=ag0 (by omega));refine MW ?_ (v:=.pointer (some ⟨D,0+1,none⟩)) (hv:=fun _=>rxa Tryz.underlying235 (by omega));refine MG 0 ?_ (j:=0+1) (v:=.int .i64 ((Q1 K6 (Q0 b_ 64) h_ i) 1)) (hj:=ag0 (by omega));refine MW ?_ (v:=.pointer (some ⟨D,0+2,none⟩)) (hv:=fun _=>rxa Tryz.underlying235 (by omega));refine MG 0 ?_ (j:=0+2) (v:=.int .i64 ((Q1 K6 (Q0 b_ 64) h_ i) 2)) (hj:=ag0 (by omega));refine MW ?_ (v:=.pointer (some ⟨D,0+3,none⟩)) (hv:=fun _=>rxa Tryz.underlying235 (by omega));refine MG 0 ?_ (j:=0+3) (v:=.int .i64 ((Q1 K6 (Q0 b_ 64) h_ i) 3)) (hj:=ag0 (by omega));refine MV ?_;refine MW ?_ (hv:=fun _=>J2s (by omega) rfl rfl rfl);refine MW ?_ (v:=.int .i64 (Z1l K6 (Q0 b_ 64) i (Q1 K6 (Q0 b_ 64) h_ i) 4)) (hv:=by intro W;rw[←V6i,←Q3v (by omega) (by omega)];exact J4c rfl rfl rfl);refine MW ?_ (v:=.pointer (some ⟨D,0+4,none⟩)) (hv:=fun _=>rxa Tryz.underlying235 (by omega));refine MG 0 ?_ (j:=0+4) (v:=.int .i64 ((Q1 K6 (Q0 b_ 64) h_ i) 4)) (hj:=ag0 (by omega));refine MW ?_ (v:=.pointer (some ⟨D,0+5,none⟩)) (hv:=fun _=>rxa Tryz.underlying235 (by omega));refine MG 0 ?_ (j:=0+5) (v:=.int .i64 ((Q1 K6 (Q0 b_ 64) h_ i) 5)) (hj:=ag0 (by omega));refine MW ?_ (v:=.pointer (some ⟨D,0+6,none⟩)) (hv:=fun _=>rxa Tryz.underlying235 (by omega));refine MG 0 ?_ (j:=0+6) (v:=.int .i64 ((Q1 K6 (Q0 b_ 64) h_ i) 6)) (hj:=ag0 (by omega));refine MW ?_ (v:=.agg (J0 .i64 8 (Q1 K6 (Q0 b_ 64) h_ (i+1)))) (hv:=by intro W;first|rfl|(go_simp;rfl));refine MR 0 ?_;refine MZ fun W hS=> ?_;go_wp2;go_roundw
        case rel=>exact⟨i+1,by omega,by go_num,hS⟩
        case measure=>simp[intOf];omega
       obtain rfl:i=64:=by omega
       go_upto_region 24 with fail;refine RL hS ?_;clear hS;refine MV ?_;refine Wf ?_;refine MZ fun W hS=> ?_
       go_wp2_with fail
       go_loopw [17] (fun ii wr=> ∃(i:Nat),(i≤8)∧(ii=.int .i64 (i:Int))∧SH [] w wr [.b D (J0 .i64 8 (Q1 K6 (Q0 b_ 64) h_ 64)) 235,.b M (J0 .i64 8 (mx4 h_ (Q1 K6 (Q0 b_ 64) h_ 64) i)) 235,.s bv (J07 l)])
        (fun ii _=>8-(intOf ii).toNat)
       case atStart=>exact⟨0,Ah _,rfl,(by rw[Z13];exact(hS.pick [0,2,3]))⟩
       clear hS
       case round=>
        obtain⟨i,hi,rfl,hS⟩:=hrel;have qm:=V6h (v:=Q1 K6 (Q0 b_ 64) h_ 64) hh i i;have qv:=Q75 (k:=K6) (w:=Q0 b_ 64) hh 64 i;unfold W4 at qm qv
        by_cases h8:i<8
        ·
         go_upto_region 30 with fail;refine RL hS ?_;clear hS;refine MV ?_;refine Wt ?_;refine MZ fun W hS=> ?_;go_upto_region 32 with fail;refine RX 10 hS ?_;clear hS;refine MV ?_;refine MV ?_;refine MW ?_ (v:=.pointer (some ⟨M,0+i,none⟩)) (hv:=fun _=>rxa Tryz.underlying235 (by omega));refine MG 1 ?_ (j:=0+i) (v:=.int .i64 ((mx4 h_ (Q1 K6 (Q0 b_ 64) h_ 64) i) i)) (hj:=ag0 (by omega));refine MV ?_;refine MW ?_ (v:=.pointer (some ⟨D,0+i,none⟩)) (hv:=fun _=>rxa Tryz.underlying235 (by omega));refine MG 0 ?_ (j:=0+i) (v:=.int .i64 ((Q1 K6 (Q0 b_ 64) h_ 64) i)) (hj:=ag0 (by omega));refine MW ?_ (hv:=fun _=>J2s (by omega) rfl rfl rfl);refine MW ?_ (v:=.int .i64 (ad4 (mx4 h_ (Q1 K6 (Q0 b_ 64) h_ 64) i i) (Q1 K6 (Q0 b_ 64) h_ 64 i))) (hv:=by intro W;rw[Q1m,←Q3v (by omega) (by omega)];exact J4c rfl rfl rfl);refine MW ?_ (v:=.pointer (some ⟨M,0+i,none⟩)) (hv:=fun _=>rxa Tryz.underlying235 (by omega));refine MZt ?_;refine MP 1 (v:=.int .i64 (ad4 (mx4 h_ (Q1 K6 (Q0 b_ 64) h_ 64) i i) (Q1 K6 (Q0 b_ 64) h_ 64 i))) (cs' :=J0 .i64 8 (upd (mx4 h_ (Q1 K6 (Q0 b_ 64) h_ 64) i) i (ad4 (mx4 h_ (Q1 K6 (Q0 b_ 64) h_ 64) i i) (Q1 K6 (Q0 b_ 64) h_ 64 i)))) ?_ (hs:=by rw[J1,AL];omega) (hc:=by rw[AL];exact V1 _ _ _ _ _);refine MZn fun W hS=> ?_;go_wp2;go_roundw
         case rel=>exact⟨i+1,by omega,by go_num,(by rw[←Z12];exact hS)⟩
         case measure=>simp[intOf];omega
        obtain rfl:i=8:=by omega
        rw[Y85] at hS;go_upto_region 30 with fail;refine RL hS ?_;clear hS;refine MV ?_;refine Wf ?_;refine MZ fun W hS=> ?_;rw[Hh.out,Hb.out] at hS;go_wp2;go_roundw
        case rel=>exact⟨j+1,by omega,by first|go_num|(go_simp;omega),(hS.pick [1,2])⟩
        case measure=>simp[intOf];omega
    obtain rfl:j=nb4 l.length:=by omega
    obtain⟨n_,β⟩:=exn (Hs4 (J07 l) (nb4 l.length));rw[←β] at hS;have Hn:=Lib.hid β;clear β;go_upto_region 11 with fail;refine RL hS ?_;clear hS;refine MV ?_;refine MV ?_;refine MF (v:=.int .i64 ((J07 l).length:Int)) (fun W hS=>Q8 (hS.sl (i:=1) rfl) rfl rfl) ?_;refine MW ?_ (v:=.bool false) (hv:=by intro W;first|(go_simp;done)|(go_simp;(try simp only[α]);omega));refine MZ fun W hS=> ?_;go_upto_region 33 with fail;refine RL hS ?_;clear hS;refine MO (m:=[]) (n:=0) (z:= #[]) ?_;intro ψ;refine MV ?_;refine MZ fun W hS=> ?_
    go_wp2_with fail
    go_loopw [18,19] (fun sv ii wr=> ∃(i:Nat)(bv:AB),(i≤8)∧(bv=sv)∧(ii=.int .i64 (i:Int))∧SH [] w wr [.o bv (wb4 n_ (4*i)),.b M (J0 .i64 8 n_) 235])
     (fun sv ii _=>8-(intOf ii).toNat)
    case atStart=>exact⟨0,_,Ah _,rfl,rfl,(hS.pick [0,1])⟩
    clear hS
    case round=>
     obtain⟨i,bv,hi,rfl,rfl,hS⟩:=hrel
     by_cases h8:i<8
     ·
      go_upto_region 35 with fail;refine RL hS ?_;clear hS;refine MV ?_;refine Wt ?_;refine MZ fun W hS=> ?_;go_upto_region 37 with fail;refine RX 20 hS ?_;clear hS;refine MV ?_;refine MV ?_;refine MW ?_ (v:=.pointer (some ⟨M,0+i,none⟩)) (hv:=fun _=>rxa Tryz.underlying235 (by omega));refine MG 1 ?_ (j:=0+i) (v:=.int .i64 (n_ i)) (hj:=ag0 (by omega));refine MW ?_ (hv:=fun _=>J2c (n:=24) (by decide) rfl rfl rfl);refine MW ?_ (v:=.int .u8 ((bo4 n_ (4*i+0)).toNat:Int)) (hv:=by intro W;rw[←Q0j _ i 0 (by decide)];exact J3a rfl rfl);refine MV ?_;refine MW ?_ (v:=.pointer (some ⟨M,0+i,none⟩)) (hv:=fun _=>rxa Tryz.underlying235 (by omega));refine MG 1 ?_ (j:=0+i) (v:=.int .i64 (n_ i)) (hj:=ag0 (by omega));refine MW ?_ (hv:=fun _=>J2c (n:=16) (by decide) rfl rfl rfl);refine MW ?_ (v:=.int .u8 ((bo4 n_ (4*i+1)).toNat:Int)) (hv:=by intro W;rw[←Q0j _ i 1 (by decide)];exact J3a rfl rfl);refine MV ?_;refine MW ?_ (v:=.pointer (some ⟨M,0+i,none⟩)) (hv:=fun _=>rxa Tryz.underlying235 (by omega));refine MG 1 ?_ (j:=0+i) (v:=.int .i64 (n_ i)) (hj:=ag0 (by omega));refine MW ?_ (hv:=fun _=>J2c (n:=8) (by decide) rfl rfl rfl);refine MW ?_ (v:=.int .u8 ((bo4 n_ (4*i+2)).toNat:Int)) (hv:=by intro W;rw[←Q0j _ i 2 (by decide)];exact J3a rfl rfl);refine MV ?_;refine MW ?_ (v:=.pointer (some ⟨M,0+i,none⟩)) (hv:=fun _=>rxa Tryz.underlying235 (by omega));refine MG 1 ?_ (j:=0+i) (v:=.int .i64 (n_ i)) (hj:=ag0 (by omega));refine MW ?_ (v:=.int .u8 ((bo4 n_ (4*i+3)).toNat:Int)) (hv:=by intro W;rw[←Q0j _ i 3 (by decide),show sr4 (n_ i) (8*(3-3))=n_ i from K1g _];exact J3a rfl rfl);refine MZt ?_;refine MO (m:=[bo4 n_ (4*i+0),bo4 n_ (4*i+1),bo4 n_ (4*i+2),bo4 n_ (4*i+3)]) (n:=4) (z:= #[.int .u8 ((bo4 n_ (4*i+0)).toNat:Int),.int .u8 ((bo4 n_ (4*i+1)).toNat:Int),.int .u8 ((bo4 n_ (4*i+2)).toNat:Int),.int .u8 ((bo4 n_ (4*i+3)).toNat:Int)]) ?_;intro φ;refine MA 1 (xs:=(wb4 n_ (4*i))) (ys:=[bo4 n_ (4*i+0),bo4 n_ (4*i+1),bo4 n_ (4*i+2),bo4 n_ (4*i+3)]) (fun W hS=>(hS.osl (i:=0) rfl)) (by first|omega|(simp only[Ai,AV,Al,BE,J45,J3i];omega)) ?_;intro σ;refine MV ?_;refine MZn fun W hS=> ?_;go_wp2;go_roundw
      case rel=>exact⟨i+1,σ,by omega,rfl,by go_num,(by rw[←Z90];exact(hS.pick [1,2]))⟩
      case measure=>simp[intOf];omega
     obtain rfl:i=8:=by omega
     rw[Hn.out] at hS;go_upto_region 35 with fail;refine RL hS ?_;clear hS;refine MV ?_;refine Wf ?_;refine MZ fun W hS=> ?_;go_upto_region 38 with fail;refine RL hS ?_;clear hS;refine MV ?_;refine MF (v:=V3 (wb4 (Hs4 (J07 l) (nb4 l.length)) (4*8))) (fun W hS=>J01 (hS.osl (i:=0) rfl) rfl rfl) ?_;refine MV ?_;refine MZ fun W hS=> ?_;go_wp2;exact BC (v:=V3 (wb4 (Hs4 (J07 l) (nb4 l.length)) (4*8))) (by simp only[results,Tryz.results89];go_simp) rfl ⟨rfl,hS.ext⟩
end

section
set_option maxHeartbeats 1500000
attribute [local irreducible] wpList Z9 wpX
def GT (hr:Prop)(w:AA):Prop:=GS4 w∧(hr→GR4 w)
theorem X5 {q:Prop}{w W:AA}(h:GT q w)(e:Ext w W):GT q W:=⟨J0h h.1 e,fun x=>Q0h (h.2 x) e⟩
def db (d:Int):List UInt8:=[UInt8.ofNat (d / 256 % 256).toNat,UInt8.ofNat (d % 256).toNat]
theorem dbl (d:Int):(db d).length=2:=rfl
theorem Z1d {x:Int}(h0:0≤x)(h1:x<256):((UInt8.ofNat x.toNat).toNat:Int)=x:=by rw[UInt8.toNat_ofNat',Nat.mod_eq_of_lt (by omega)];omega
theorem Y1s (d:Int):AG.wrap .u8 (d / 256)=((UInt8.ofNat (d / 256 % 256).toNat).toNat:Int):=by rw[Z1d (by omega) (by omega),AG.wrap_u8]
theorem Y1t (d:Int):AG.wrap .u8 d=((UInt8.ofNat (d % 256).toNat).toNat:Int):=by rw[Z1d (by omega) (by omega),AG.wrap_u8]
def sE:Nat:=hs4 [2]
def sL (k v:Nat):Nat:=hs4 ([0]++lb 32 k++lb 32 v)
def sN (d:Int)(l r:Nat):Nat:=hs4 ([1]++db d++lb 32 l++lb 32 r)
theorem J2x {H:Nat}{F:List UInt8}(hH:H=hs4 F)(ps:List (List UInt8))(A:Option Addr)(c:Nat)(hF:ps.flatten=F)(hlen:F.length≤70368744177664)(hpn:ps.length≤9223372036854775000)(w:AA)(hps:∀i l,ps[i]?=some l→∃ad u,A=some ad∧w.cell? (ad.add i)=some u∧Sl w u l)(hG:GS4 w):
  Az Tryz.prog 62 #[.slice A ps.length c] w fun e w' =>V5 (.agg (J0 .u8 32 (J2 H))) w w' e:=by
 rw[hH,←Z91];exact V5n ps A c F hF hlen hpn w hps hG
theorem Q9g {H:Nat}{l:List UInt8}(hH:H=hs4 l)(hlen:l.length≤70368744177664)(w:AA)(hG:GR4 w):Az Tryz.prog 89 #[V3 l] w fun e w' =>V5 (V3 (lb 32 H)) w w' e:=by
 rw[hH,←Z3q];exact Y86 l hlen w hG
attribute [local irreducible] hs4

theorem Y8b {q:Prop}(w:AA)(hG:GT q w):
  Az Tryz.prog 66 #[] w fun e w' =>V5 (.agg (J0 .u8 32 (J2 sE))) w w' e:=by
 have hS:=SH.nil [] w
 go_enter Tryz.func66,Tryz.ntmps66
 go_upto_region 0 with fail;refine RL hS ?_;clear hS;refine MN (z:=J0 .u8 32 (J2 0)) (t:=23) ?_;intro M;refine MZ fun W hS=> ?_;go_upto_region 1 with fail;refine RL hS ?_;clear hS;refine MO (m:=[2]) (n:=1) (z:= #[.int .u8 2]) ?_;intro D;refine MB (z:= #[D]) (t:=22) (n:=1) (c:=1) ?_ (hr:=fun W hS=>Y0 [D] rfl rfl (vsc (J6 (hS.osl (i:=0) rfl)).1 vs0) Tryz.underlying155 (by kernel_rfl) (by kernel_rfl) rfl (by decide) (by decide));intro J;obtain⟨U1,G⟩:=exh (hs4 ([2]));refine MC (v:=.agg (J0 .u8 32 (J2 U1))) (fun W hS=>J2x G.out [[2]] (some ⟨J,0,none⟩) 1 (by simp only[An,List.flatten_nil,Aj,BM,Ak,BK]) (by first|omega|(simp only[Ai,AV,Al,J7,dbl];omega)) (by simp) W (J0c (hS.blk (i:=0) rfl) (pvc (hS.osl (i:=1) rfl) pv0)) (J0h hG.1 hS.ext)) ?_;refine MR 2 ?_;refine MZ fun W hS=> ?_;have e_:=G.out;subst e_;go_wp2;exact BC (Z6 rfl rfl (hS.blk (i:=2) rfl) (by kernel_rfl) (by rw[J1];kernel_rfl)) rfl ⟨rfl,hS.ext⟩
theorem Z8i {q:Prop}(k v:Nat)(w:AA)(hG:GT q w):
  Az Tryz.prog 184 #[.agg (lf k v)] w fun e w' =>V5 (.agg (J0 .u8 32 (J2 (sL k v)))) w w' e:=by
 have hS:=SH.nil [] w
 go_enter Tryz.func184,Tryz.ntmps184
 go_upto_region 0 with fail;refine RL hS ?_;clear hS;refine MN (z:=lf k v) (t:=40) ?_;intro U0;refine MN (z:=J0 .u8 32 (J2 0)) (t:=23) ?_;intro M;refine MZ fun W hS=> ?_;go_upto_region 1 with fail;refine RTp [1] (.q 1 (.q 2 (.q 3 (.q 4 (.e 0 (.e 5 (.e 6 (.e 7 .z)))))))) hS ?_;clear hS;refine TV ?_;refine TW ?_ (v:=.slice (some ⟨U0,0,none⟩) 32 32);refine TV ?_;refine TW ?_ (v:=.slice (some ⟨U0,32,none⟩) 32 32);refine TE (fun _ h=>h.pick [1]) ?_;refine MO (m:=[0]) (n:=1) (z:= #[.int .u8 0]) ?_;intro D;refine Y6 [0,2] [1] ?_;refine TE (fun _ h=>h.pick [0,2]) ?_;refine MB (z:= #[D,.slice (some ⟨U0,0,none⟩) 32 32,.slice (some ⟨U0,32,none⟩) 32 32]) (t:=22) (n:=3) (c:=3) ?_ (hr:=fun W hS=>Y0 [D,.slice (some ⟨U0,0,none⟩) 32 32,.slice (some ⟨U0,32,none⟩) 32 32] rfl rfl (vsc (J6 (hS.osl (i:=0) rfl)).1 (vsc rfl (vsc rfl vs0))) Tryz.underlying155 (by kernel_rfl) (by kernel_rfl) rfl (by decide) (by decide));intro J;refine Y6 [0,1,3] [1,2] ?_;refine TE (fun _ h=>h.pick [0,1,3]) ?_;obtain⟨U1,G⟩:=exh (hs4 ([0]++(lb 32 k)++(lb 32 v)));refine MC (v:=.agg (J0 .u8 32 (J2 U1))) (fun W hS=>J2x G.out [[0],lb 32 k,lb 32 v] (some ⟨J,0,none⟩) 3 (by simp only[An,List.flatten_nil,Aj,BM,Ak,BK]) (by first|omega|(simp only[Ai,AV,Al,J7,dbl];omega)) (by simp) W (J0c (hS.blk (i:=0) rfl) (pvc (hS.osl (i:=1) rfl) (pvc (Q7 (V:=k) (n:=32) (off:=0) (hS.blk (i:=3) rfl) Z2j (by decide) (by decide)) (pvc (Q7 (V:=v) (n:=32) (off:=32) (hS.blk (i:=3) rfl) V3l (by decide) (by decide)) pv0)))) (J0h hG.1 hS.ext)) ?_;refine Y6 [0,1,3] [0,1,2] ?_;refine TE (fun _ h=>h.pick [0,1,3]) ?_;refine MR 2 ?_;refine Y6 [0,1,3] [0,1,2] ?_;refine TZ (fun _ h=>h.pick [0,1,3]) fun W hS=> ?_;have e_:=G.out;subst e_;go_wp2;exact BC (Z6 rfl rfl (hS.blk (i:=2) rfl) (by kernel_rfl) (by rw[J1];kernel_rfl)) rfl ⟨rfl,hS.ext⟩
theorem Z8j {q:Prop}(d:Int)(l r:Nat)(w:AA)(hG:GT q w):
  Az Tryz.prog 186 #[.int .i64 d,.agg (J0 .u8 32 (J2 l)),.agg (J0 .u8 32 (J2 r))] w fun e w' =>V5 (.agg (J0 .u8 32 (J2 (sN d l r)))) w w' e:=by
 have hS:=SH.nil [] w
 go_enter Tryz.func186,Tryz.ntmps186
 go_upto_region 0 with fail;refine RL hS ?_;clear hS;refine MN (z:=J0 .u8 32 (J2 l)) (t:=23) ?_;intro D;refine MN (z:=J0 .u8 32 (J2 r)) (t:=23) ?_;intro G;refine MN (z:=J0 .u8 32 (J2 0)) (t:=23) ?_;intro R;refine MZ fun W hS=> ?_;go_upto_region 1 with fail;refine RTp [1,2] (.q 0 (.q 1 (.q 2 (.q 3 (.q 4 (.q 6 (.q 7 (.e 5 (.e 8 (.e 9 (.e 10 .z))))))))))) hS ?_;clear hS;refine TV ?_;refine TW ?_ (v:=.int .i64 (d / 256)) (hv:=by intro W;exact J2c (n:=8) (by decide) rfl rfl rfl);refine TW ?_ (v:=.int .u8 ((UInt8.ofNat (d / 256 % 256).toNat).toNat:Int)) (hv:=by intro W;rw[←Y1s d];exact J3a rfl rfl);refine TV ?_;refine TW ?_ (v:=.int .u8 ((UInt8.ofNat (d % 256).toNat).toNat:Int)) (hv:=by intro W;rw[←Y1t d];exact J3a rfl rfl);refine TW ?_ (v:=.slice (some ⟨D,0,none⟩) 32 32);refine TW ?_ (v:=.slice (some ⟨G,0,none⟩) 32 32);refine TE (fun _ h=>h.pick [1,2]) ?_;refine MO (m:=[1,UInt8.ofNat (d / 256 % 256).toNat,UInt8.ofNat (d % 256).toNat]) (n:=3) (z:= #[.int .u8 1,.int .u8 ((UInt8.ofNat (d / 256 % 256).toNat).toNat:Int),.int .u8 ((UInt8.ofNat (d % 256).toNat).toNat:Int)]) ?_;intro J;refine Y6 [0,2,3] [1,2] ?_;refine TE (fun _ h=>h.pick [0,2,3]) ?_;refine MB (z:= #[J,.slice (some ⟨D,0,none⟩) 32 32,.slice (some ⟨G,0,none⟩) 32 32]) (t:=22) (n:=3) (c:=3) ?_ (hr:=fun W hS=>Y0 [J,.slice (some ⟨D,0,none⟩) 32 32,.slice (some ⟨G,0,none⟩) 32 32] rfl rfl (vsc (J6 (hS.osl (i:=0) rfl)).1 (vsc rfl (vsc rfl vs0))) Tryz.underlying155 (by kernel_rfl) (by kernel_rfl) rfl (by decide) (by decide));intro N;refine Y6 [0,1,3,4] [1,2,3] ?_;refine TE (fun _ h=>h.pick [0,1,3,4]) ?_;obtain⟨U1,M⟩:=exh (hs4 ([1,UInt8.ofNat (d / 256 % 256).toNat,UInt8.ofNat (d % 256).toNat]++(lb 32 l)++(lb 32 r)));refine MC (v:=.agg (J0 .u8 32 (J2 U1))) (fun W hS=>J2x M.out [[1,UInt8.ofNat (d / 256 % 256).toNat,UInt8.ofNat (d % 256).toNat],lb 32 l,lb 32 r] (some ⟨N,0,none⟩) 3 (by simp only[An,List.flatten_nil,Aj,BM,Ak,BK]) (by first|omega|(simp only[Ai,AV,Al,J7,dbl];omega)) (by simp) W (J0c (hS.blk (i:=0) rfl) (pvc (hS.osl (i:=1) rfl) (pvc (Q7 (V:=l) (n:=32) (off:=0) (hS.blk (i:=4) rfl) ap0 (by decide) (by decide)) (pvc (Q7 (V:=r) (n:=32) (off:=0) (hS.blk (i:=3) rfl) ap0 (by decide) (by decide)) pv0)))) (J0h hG.1 hS.ext)) ?_;refine Y6 [0,1,3,4] [0,1,2,3] ?_;refine TE (fun _ h=>h.pick [0,1,3,4]) ?_;refine MR 2 ?_;refine Y6 [0,1,3,4] [0,1,2,3] ?_;refine TZ (fun _ h=>h.pick [0,1,3,4]) fun W hS=> ?_;have e_:=M.out;subst e_;go_wp2;exact BC (Z6 rfl rfl (hS.blk (i:=2) rfl) (by kernel_rfl) (by rw[J1];kernel_rfl)) rfl ⟨rfl,hS.ext⟩
theorem Y0l {q:Prop}(hr:q)(w:AA)(hG:GT q w):
  Az Tryz.prog 77 #[] w fun e w' =>V5 (V3 (lb 32 sE)) w w' e:=by
 have hS:=SH.nil [] w
 go_enter Tryz.func77,Tryz.ntmps77
 go_upto_region 1 with fail;refine RL hS ?_;clear hS;obtain⟨U1,D⟩:=exh (hs4 ([2]));refine MC (v:=V3 (lb 32 U1)) (fun W hS=>Q9g D.out (by first|omega|(simp only[Ai,AV,Al,J7,dbl];omega)) W (Q0h (hG.2 hr) hS.ext)) ?_;refine MV ?_;refine MZ fun W hS=> ?_;go_wp2;exact BC (v:=V3 (lb 32 U1)) (by simp only[results,Tryz.results77];go_simp) rfl ⟨(by(try rw[D.out]);rfl),hS.ext⟩
end

section
open S8 (Kn GA)
abbrev kn0:Kn:=⟨True,True,True,False⟩
def GX (w:AA):Prop:=GS4 w∧GA kn0 w
abbrev gxF:List Nat:=[14,11,10,13,8,2,0,1,12,3,9]
abbrev gx:As:=.p gxF GX
theorem J82 {w:AA}(h:GX w):gx.holds w:=by
  obtain⟨⟨s1,s2⟩,⟨⟨m1,m2⟩,e1,e2,e3,e4,e5⟩,⟨r1,r2⟩,⟨o1,o2,o3,o4,o5⟩,_⟩:=h;replace e1:Rd _ _ _:=e1 trivial;replace e2:=e2 trivial;replace e3:=e3 trivial;replace e4:=e4 trivial;replace e5:=e5 trivial;refine⟨⟨⟨s1,s2⟩,⟨⟨m1,m2⟩,fun _=>e1,fun _=>e2,fun _=>e3,fun _=>e4,fun _=>e5⟩,⟨r1,r2⟩,⟨o1,o2,o3,o4,o5⟩,fun h=>h.elim⟩,fun k hk=> ?_,fun W hs he=> ?_⟩
  · simp only[gxF,List.mem_cons,List.not_mem_nil,or_false] at hk
    rcases hk with rfl|rfl|rfl|rfl|rfl|rfl|rfl|rfl|rfl|rfl|rfl
    · exact s1.2
    · exact s2.2
    · exact m1.2
    · exact e1.2
    · exact e2.2
    · exact e3.2
    · exact e4.2
    · exact e5.2
    · exact r1.2
    · exact r2.2
    exact o5
  have c:∀j v,w.cell? ⟨9,j,none⟩=some v→W.cell? ⟨9,j,none⟩=some v:=fun j v h=>(AA.cell?_of_block (w:=w) (he _ (by simp))).trans h;exact⟨⟨J39 s1 hs (he _ (by simp)),J39 s2 hs (he _ (by simp))⟩,⟨⟨J39 m1 hs (he _ (by simp)),trivial⟩,fun _=>J39 e1 hs (he _ (by simp)),fun _=>J39 e2 hs (he _ (by simp)),fun _=>J39 e3 hs (he _ (by simp)),fun _=>J39 e4 hs (he _ (by simp)),fun _=>J39 e5 hs (he _ (by simp))⟩,⟨J39 r1 hs (he _ (by simp)),J39 r2 hs (he _ (by simp))⟩,⟨c _ _ o1,c _ _ o2,c _ _ o3,c _ _ o4,Nat.lt_of_lt_of_le o5 hs⟩,fun h=>h.elim⟩
theorem GX.gt {w:AA}(h:GX w):GT False w:=⟨h.1,fun x=>x.elim⟩
theorem GX.ext {w W:AA}(h:GX w)(k:Ext w W):GX W:=⟨J0h h.1 k,S8.GA_ext h.2 k⟩
theorem GX.of {kn:Kn}{q:Prop}{w:AA}(hd:kn.d)(hb:kn.b)(hc:kn.c)(hG:GT q w)(hA:GA kn w):GX w:=⟨hG.1,⟨hA.1.1,fun _=>hA.1.2.1 hc,fun _=>hA.1.2.2.1 hc,fun _=>hA.1.2.2.2.1 hd,fun _=>hA.1.2.2.2.2.1 hb,fun _=>hA.1.2.2.2.2.2 hb⟩,hA.2.1,hA.2.2.1,fun h=>h.elim⟩
end
end Go.Proofs.YtpljgkofbfeelaaGreatDoor

/- Contracts and plain laws for superSeals_holds. Conditions: the tables hold their numbers. -/
import Derived.Test.YtdjacgmmidbieaaGreatDoorJ20
open Go renaming World->AA,Value->AB,bodyPost_ret->BH,execOp->AV,Calls->BI,Program->AD,Operand->AW,TypeId->AE,Oper->AF,IntKind->AI
open Go.IntKind renaming wrap_i64->AJ,wrap_u64->AK
open _root_.List renaming length_append->Ao,length_cons->AY,nil_append->BU,append_nil->Ar,append_assoc->At,length_nil->Av,length_replicate->BJ,flatten_cons->Aw,cons_append->BT
open _root_.Nat renaming zero_le->An,zero_add->AP,add_assoc->Bb
open Go.RowKit
set_option maxRecDepth 100000
set_option linter.unusedSimpArgs false
set_option linter.unusedVariables false
namespace Go.Proofs.YtdjacgmmidbieaaGreatDoor
section
set_option maxHeartbeats 3000000
attribute [local irreducible] wpList K1 wpX
theorem Q0b {w:AA}{o:AF}{a:Act}{x:AW}{c:UInt8}(ho:o.op=.convert 5 3 x)(hx:a.eval x=.int .u8 (c.toNat:Int)):(AV a.eval o).run Tryz.prog w=.ok (.value (.int .i64 (c.toNat:Int))) w:=by
 have hc:=c.toNat_lt;have hw:AI.wrap .i64 (c.toNat:Int)=(c.toNat:Int):=by rw[AI.wrap_i64];omega
 simp[AV,ho,hx,convert,run_underlying Tryz.underlying5,run_underlying Tryz.underlying3,Sem.run_bind,Conv.intToInt,hw]
theorem J2g {P:AD}{w:AA}{o:AF}{a:Act}{x y:AW}{t t' :AE}{p q:Int}(h:0≤p+q∧p+q<9223372036854775808)(ho:o.op=.binOp .add t x y t')(hx:a.eval x=.int .i64 p)(hy:a.eval y=.int .i64 q):(AV a.eval o).run P w=.ok (.value (.int .i64 (p+q))) w:=by
 have h2:AI.i64.wrap (p+q)=p+q:=IntWalk.i64_in _ (by omega);simp only[AV,ho,hx,hy,eqGuard,binOp,Sem.run_bind];simp[go_sem,Sem.run_bind,h2]
theorem J5a {P:AD}{w:AA}{o:AF}{a:Act}{x y:AW}{t t' :AE}{p q:Int}(hp:W4 p)(hq:W4 q)(ho:o.op=.binOp .xor t x y t')(hx:a.eval x=.int .i64 p)(hy:a.eval y=.int .i64 q):(AV a.eval o).run P w=.ok (.value (.int .i64 (xo4 p q))) w:=by rw[←Z6w hp hq];exact Q5h ho hx hy
theorem Q3u {P:AD}{w:AA}{o:AF}{a:Act}{x y:AW}{t t' :AE}{p q:Int}(hp:W4 p)(hq:W4 q)(ho:o.op=.binOp .and t x y t')(hx:a.eval x=.int .i64 p)(hy:a.eval y=.int .i64 q):(AV a.eval o).run P w=.ok (.value (.int .i64 (an4 p q))) w:=by rw[←Y8b hp hq];exact J3u ho hx hy
theorem V0z {P:AD}{w:AA}{o:AF}{a:Act}{x y:AW}{t t' :AE}{q:Int}(hq:W4 q)(ho:o.op=.binOp .xor t x y t')(hx:a.eval x=.int .i64 4294967295)(hy:a.eval y=.int .i64 q):(AV a.eval o).run P w=.ok (.value (.int .i64 (nt4 q))) w:=by rw[←V2g hq];exact Q5h ho hx hy
theorem shb (P:List UInt8)(J:Nat){n:Nat}(hn:n≤32):AI.wrap .i64 (bt P J*2^n)=bt P J*2^n:=by
 have h:=Q2b P J;obtain⟨b,hb⟩:=Int.eq_ofNat_of_zero_le h.1;have h3:2^n≤2^32:=Nat.pow_le_pow_right (by decide) hn;have e2:((b:Int)*2^n)=((b*2^n:Nat):Int):=by rw[Int.natCast_mul,Int.natCast_pow];rfl
 have l2:b*2^n<2^63:=by
  calc b*2^n≤b*2^32:=Nat.mul_le_mul_left _ h3
   _<2^63:=by omega
 rw[hb,e2];exact Z07 _ (Int.natCast_nonneg _) (by exact_mod_cast l2)
theorem Y4m (P:List UInt8)(n i J:Nat)(hJ:n+4*i=J):J36 (bt (P.drop n)) i 4=bits .or .i64 (bits .or .i64 (bits .or .i64 (bt P J*2^24) (bt P (J+1)*2^16)) (bt P (J+2)*2^8)) (bt P (J+3)):=by
 rw[Z6y (Q2b _ _) (Q2b _ _) (Q2b _ _) (Q2b _ _),Y28 (fun j=>Q2b _ j)];rw[J6a,J6a,J6a,J6a,←Bb,←Bb,←Bb,hJ]
theorem Y4n {b:Nat→Int}{i:Nat}(h:i<16):upd (Q0 b i) i (J36 b i 4)=Q0 b (i+1):=by
 show _=upd (Q0 b i) i (if i<16 then J36 b i 4 else sg4 (Q0 b i) i);rw[if_pos h]
theorem Y4o (h b:Nat→Int):J0 .i64 8 (mx4 h (Q2 kf4 (Q0 b 64) h 64) 8)=J0 .i64 8 (J6q h b):=K6 _ _ _ _ fun j hj=>by unfold mx4 J6q;rw[if_pos hj]
theorem V5a (x:Int):sr4 x 0=x:=by unfold sr4;simp

theorem Y4p (l:List UInt8)(hlen:l.length≤70368744177664)(w:AA)(hG:GR4 w):
  BI Tryz.prog 48 #[Z9 l] w fun e w' =>V4 (Z9 (Z09 l)) w w' e:=by
 have HG:=Lib.hid hG;clear hG;have α:=Q1c l;have ψ:=(J7y l.length).2;have χ:nb4 l.length≤1099511628000:=by unfold nb4;omega
 have hS:=SH.nil [] w
 go_enter Tryz.func48,Tryz.ntmps48
 go_upto_region 1 with fail;refine RL hS ?_;clear hS;refine MV ?_;refine MW ?_ (v:=.int .i64 (l.length:Int)) (hv:=fun _=>Q2v (l:=l) rfl rfl);refine MV ?_;refine MZ fun W hS=> ?_;go_upto_region 2 with fail;refine RL hS ?_;clear hS;refine MV ?_;refine MY (m:=l) (by first|omega|(simp only[Ao,AY,Av,BJ,J3p,J35];omega)) ?_;intro τ;refine MO (m:=[128]) (n:=1) (z:= #[.int .u8 128]) ?_;intro Δ;refine MAz 1 (xs:=l) (ys:=[128]) (fun W hS=>(hS.osl (i:=0) rfl)) (by first|omega|(simp only[Ao,AY,Av,BJ,J3p,J35];omega)) ?_;intro φ;refine MV ?_;refine MZ fun W hS=> ?_
 go_wp2_with fail
 go_loopw [4] (fun sv wr=> ∃(k:Nat)(bv:AB),(k≤zc4 l.length)∧(bv=sv)∧SH [] w wr [.w bv (l++[128]++List.replicate k 0)])
  (fun sv _=>l.length+300-J70 sv)
 case atStart=>exact⟨0,_,An _,rfl,(by rw[List.replicate_zero,Ar];exact(hS.pick [1]))⟩
 clear hS
 case round=>
  obtain⟨k,bv,hk,rfl,hS⟩:=hrel;have lb:=J4n (hS.ozl (i:=0) rfl)
  by_cases hz:k<zc4 l.length
  ·
   have σ:=Y0m hz;go_upto_region 3 with fail;refine RL hS ?_;clear hS;refine MV ?_;refine MF (v:=.int .i64 ((l++[128]++List.replicate k 0).length:Int)) (fun W hS=>J03 (hS.ozl (i:=0) rfl) rfl rfl) ?_;refine MW ?_ (v:=.int .i64 (((l.length+1+k) % 64:Nat):Int)) (hv:=by intro W;go_simp;(try simp only[Ao,AY,Av,BJ]);rw[Int.tmod_eq_emod_of_nonneg (by omega)];omega);refine MW ?_ (v:=.bool true) (hv:=by intro W;go_simp;omega);refine MZ fun W hS=> ?_;go_upto_region 4 with fail;refine RL hS ?_;clear hS;refine MV ?_;refine MO (m:=[0]) (n:=1) (z:= #[.int .u8 0]) ?_;intro ω;refine MAz 1 (xs:=(l++[128]++List.replicate k 0)) (ys:=[0]) (fun W hS=>(hS.osl (i:=0) rfl)) (by first|omega|(simp only[Ao,AY,Av,BJ,J3p,J35];omega)) ?_;intro Θ;refine MV ?_;refine MZ fun W hS=> ?_;have la:=J4n (hS.ozl (i:=1) rfl);simp only[Ao,AY,Av,BJ] at la lb;go_wp2;go_roundw
   case rel=>exact⟨k+1,_,by omega,rfl,(by have h_:=(hS.pick [1]);rw[At _ (List.replicate k 0),←List.replicate_succ'] at h_;exact h_)⟩
   case measure=>simp only[la,lb];omega
  obtain rfl:k=zc4 l.length:=by omega
  have σ:=(J7y l.length).1;go_upto_region 3 with fail;refine RL hS ?_;clear hS;refine MV ?_;refine MF (v:=.int .i64 ((l++[128]++List.replicate (zc4 l.length) 0).length:Int)) (fun W hS=>J03 (hS.ozl (i:=0) rfl) rfl rfl) ?_;refine MW ?_ (v:=.int .i64 (((l.length+1+zc4 l.length) % 64:Nat):Int)) (hv:=by intro W;go_simp;(try simp only[Ao,AY,Av,BJ]);rw[Int.tmod_eq_emod_of_nonneg (by omega)];omega);refine MW ?_ (v:=.bool false) (hv:=by intro W;first|(go_simp;done)|(go_simp;omega));refine MZ fun W hS=> ?_
  go_wp2_with fail
  go_loopw [4,5] (fun sv ii wr=> ∃(k:Nat)(bv:AB),(k≤8)∧(bv=sv)∧(ii=.int .i64 (56-8*(k:Int)))∧SH [] w wr [.w bv (l++[128]++List.replicate (zc4 l.length) 0++bk (8*l.length) k)])
   (fun sv ii _=>(intOf ii+8).toNat)
  case atStart=>exact⟨0,_,An _,rfl,rfl,(by rw[Y86];exact hS)⟩
  clear hS
  case round=>
   obtain⟨k,bv,hk,rfl,rfl,hS⟩:=hrel
   by_cases δ:k<8
   ·
    go_upto_region 6 with fail;refine RL hS ?_;clear hS;refine MV ?_;refine MW ?_ (v:=.bool true) (hv:=by intro W;go_simp;omega);refine MZ fun W hS=> ?_;go_upto_region 8 with fail;refine RL hS ?_;clear hS;refine MV ?_;refine MV ?_;refine MW ?_ (v:=.int .i64 (((8*l.length:Nat):Int))) (hv:=by intro W;go_simp;(try simp only[AI.wrap_u64,AI.wrap_i64]);(try omega));refine MV ?_;refine MW ?_ (v:=.int .i64 (((8*l.length / 2^(8*(7-k)):Nat):Int))) (hv:=by intro W;rw[←Z2s (8*l.length) (8*(7-k)) _ rfl];exact J26 (n:=8*(7-k)) (by omega) rfl rfl (by show AB.int .i64 (56-8*(k:Int))=_;congr 1;omega));refine MW ?_ (v:=.int .u8 ((u8 ((8*l.length) / 2^(8*(7-k)))).toNat:Int)) (hv:=by intro W;rw[←Y4e (8*l.length) (2^(8*(7-k)))];exact J45 rfl rfl);refine MO (m:=[u8 ((8*l.length) / 2^(8*(7-k)))]) (n:=1) (z:= #[.int .u8 ((u8 ((8*l.length) / 2^(8*(7-k)))).toNat:Int)]) ?_;intro Ξ;refine MAz 1 (xs:=(l++[128]++List.replicate (zc4 l.length) 0++bk (8*l.length) k)) (ys:=[u8 ((8*l.length) / 2^(8*(7-k)))]) (fun W hS=>(hS.osl (i:=0) rfl)) (by first|omega|(simp only[Ao,AY,Av,BJ,J3p,J35];omega)) ?_;intro ρ;refine MV ?_;refine MZ fun W hS=> ?_;go_wp2;go_roundw
    case rel=>exact⟨k+1,ρ,by omega,rfl,by first|go_num|(go_simp;omega),(by rw[Y87];exact(hS.pick [1]))⟩
    case measure=>simp[intOf];omega
   obtain rfl:k=8:=by omega
   rw[Y88] at hS;go_upto_region 6 with fail;refine RL hS ?_;clear hS;refine MV ?_;refine MW ?_ (v:=.bool false) (hv:=by intro W;first|(go_simp;done)|(go_simp;omega));refine MZ fun W hS=> ?_;go_upto_region 9 with fail;refine RL hS ?_;clear hS;refine MF (v:=.agg (J0 .i64 8 hf4)) (fun W hS=>J0a rfl rfl ((J5h HG.out hS.ext).2) (by kernel_rfl) (by rw[J1];kernel_rfl)) ?_;refine MN (z:=J0 .i64 8 (fun _=>0)) (t:=154) ?_;intro M;refine MR 0 ?_;refine MZ fun W hS=> ?_;have hS:=hS.readw (i:=1) rfl (hS.ozl (i:=1) rfl) J2o
   go_wp2_with fail
   go_loopw [7] (fun ii wr=> ∃(j:Nat),(j≤nb4 l.length)∧(ii=.int .i64 ((64*j:Nat):Int))∧SH [] w wr [.b M (J0 .i64 8 (Hs4 (J0e l) j)) 154,.s bv (J0e l)])
    (fun ii _=>64*nb4 l.length-(intOf ii).toNat)
   case atStart=>exact⟨0,An _,rfl,hS⟩
   clear hS
   case round=>
    obtain⟨j,hj,rfl,hS⟩:=hrel
    by_cases ε:j<nb4 l.length
    ·
     obtain⟨h_,U⟩:=exn (Hs4 (J0e l) j);obtain⟨b_,β⟩:=exn (bt (List.drop (64*j) (J0e l)));rw[←U] at hS;have hh:=V2k (J0e l) j;have hb:=V2i (List.drop (64*j) (J0e l));rw[←U] at hh;rw[←β] at hb;have Hh:=Lib.hid U;have Hb:=Lib.hid β;clear U β;go_upto_region 11 with fail;refine RL hS ?_;clear hS;refine MV ?_;refine MV ?_;refine MF (v:=.int .i64 ((J0e l).length:Int)) (fun W hS=>J03 (hS.sl (i:=1) rfl) rfl rfl) ?_;refine MW ?_ (v:=.bool true) (hv:=by intro W;first|(go_simp;done)|(go_simp;(try simp only[α]);omega));refine MZ fun W hS=> ?_;go_upto_region 13 with fail;refine RL hS ?_;clear hS;refine MN (z:=J0 .i64 64 (fun _=>0)) (t:=155) ?_;intro N;refine MZ fun W hS=> ?_
     go_wp2_with fail
     go_loopw [9] (fun ii wr=> ∃(i:Nat),(i≤64)∧(ii=.int .i64 (i:Int))∧SH [] w wr [.b N (J0 .i64 64 (Q0 b_ i)) 155,.b M (J0 .i64 8 h_) 154,.s bv (J0e l)])
      (fun ii _=>64-(intOf ii).toNat)
     case atStart=>exact⟨0,An _,rfl,hS⟩
     clear hS
     case round=>
      obtain⟨i,hi,rfl,hS⟩:=hrel;have G:=Q62 hb i
      by_cases R:i<64
      ·
       go_upto_region 15 with fail;refine RL hS ?_;clear hS;refine MV ?_;refine Wt ?_;refine MZ fun W hS=> ?_
       by_cases S:i<16
       ·
        obtain⟨J,ξ⟩:∃J,64*j+4*i=J:=⟨_,rfl⟩
        have hJ:J+3<(J0e l).length:=by rw[α];omega
        have T:=Y4m (J0e l) (64*j) i J ξ;rw[←Hb.out] at T;have μ:=Lib.hid T;clear T;go_upto_region 17 with fail;refine RL hS ?_;clear hS;refine MV ?_;refine Wt ?_;refine MZ fun W hS=> ?_;go_upto_region 18 with fail;refine RL hS ?_;clear hS;refine MV ?_;refine MV ?_;refine MW ?_ (v:=.int .i64 (((4*i:Nat):Int))) (hv:=by intro W;go_simp;(try simp only[AI.wrap_u64,AI.wrap_i64]);(try omega));refine MW ?_ (v:=.int .i64 (((J:Nat):Int))) (hv:=by intro W;go_simp;(try simp only[AI.wrap_u64,AI.wrap_i64]);(try omega));refine MV ?_;refine MZ fun W hS=> ?_;go_upto_region 19 with fail;refine RX 31 hS ?_;clear hS;(iterate 3 refine MV ?_);refine MJ 2 J (b:=((J0e l).getD (J) 0)) (J1h (by omega)) ?_;intro η c_ V;refine MF (v:=.int .u8 (((J0e l).getD (J) 0).toNat:Int)) (fun W hS=>V6 rfl rfl (J9o (by rw[←V.out];exact(hS.sl (i:=2) rfl)) (J1h (by omega))) (by kernel_rfl)) ?_;refine MW ?_ (hv:=fun _=>Q0b rfl rfl);refine MW ?_ (v:=.int .i64 ((bt (J0e l) (J))*2^24)) (hv:=by intro W;rw[←shb (J0e l) (J) (n:=24) (by decide)];exact J8h (n:=24) (by decide) rfl rfl rfl);refine MV ?_;refine MV ?_;refine MW ?_ (v:=.int .i64 (((J+1:Nat):Int))) (hv:=by intro W;go_simp;(try simp only[AI.wrap_u64,AI.wrap_i64]);(try omega));refine MJ 2 (J+1) (b:=((J0e l).getD (J+1) 0)) (J1h (by omega)) ?_;intro ζ c_ Y;refine MF (v:=.int .u8 (((J0e l).getD (J+1) 0).toNat:Int)) (fun W hS=>V6 rfl rfl (J9o (by rw[←Y.out];exact(hS.sl (i:=2) rfl)) (J1h (by omega))) (by kernel_rfl)) ?_;refine MW ?_ (hv:=fun _=>Q0b rfl rfl);refine MW ?_ (v:=.int .i64 ((bt (J0e l) (J+1))*2^16)) (hv:=by intro W;rw[←shb (J0e l) (J+1) (n:=16) (by decide)];exact J8h (n:=16) (by decide) rfl rfl rfl);refine MW ?_ (hv:=fun _=>Q09 rfl rfl rfl);refine MV ?_;refine MV ?_;refine MW ?_ (v:=.int .i64 (((J+2:Nat):Int))) (hv:=by intro W;go_simp;(try simp only[AI.wrap_u64,AI.wrap_i64]);(try omega));refine MJ 2 (J+2) (b:=((J0e l).getD (J+2) 0)) (J1h (by omega)) ?_;intro θ c_ Z;refine MF (v:=.int .u8 (((J0e l).getD (J+2) 0).toNat:Int)) (fun W hS=>V6 rfl rfl (J9o (by rw[←Z.out];exact(hS.sl (i:=2) rfl)) (J1h (by omega))) (by kernel_rfl)) ?_;refine MW ?_ (hv:=fun _=>Q0b rfl rfl);refine MW ?_ (v:=.int .i64 ((bt (J0e l) (J+2))*2^8)) (hv:=by intro W;rw[←shb (J0e l) (J+2) (n:=8) (by decide)];exact J8h (n:=8) (by decide) rfl rfl rfl);refine MW ?_ (hv:=fun _=>Q09 rfl rfl rfl);refine MV ?_;refine MV ?_;refine MW ?_ (v:=.int .i64 (((J+3:Nat):Int))) (hv:=by intro W;go_simp;(try simp only[AI.wrap_u64,AI.wrap_i64]);(try omega));refine MJ 2 (J+3) (b:=((J0e l).getD (J+3) 0)) (J1h (by omega)) ?_;intro κ c_ X;refine MF (v:=.int .u8 (((J0e l).getD (J+3) 0).toNat:Int)) (fun W hS=>V6 rfl rfl (J9o (by rw[←X.out];exact(hS.sl (i:=2) rfl)) (J1h (by omega))) (by kernel_rfl)) ?_;refine MW ?_ (hv:=fun _=>Q0b rfl rfl);refine MW ?_ (v:=.int .i64 (J36 b_ i 4)) (hv:=by intro W;rw[μ.out];exact Q09 rfl rfl rfl);refine MW ?_ (v:=.pointer (some ⟨N,0+i,none⟩)) (hv:=fun _=>X3 Tryz.underlying155 (by omega));refine MZt ?_;refine MP 0 (v:=.int .i64 (J36 b_ i 4)) (cs' :=J0 .i64 64 (upd (Q0 b_ i) i (J36 b_ i 4))) ?_ (hs:=by rw[J1,AP];omega) (hc:=by rw[AP];exact Y9 _ _ _ _ _);refine MZn fun W hS=> ?_;rw[Y4n S] at hS;go_wp2;go_roundw
        case rel=>exact⟨i+1,by omega,by go_num,hS⟩
        case measure=>simp[intOf];omega
       replace S:16≤i:=by omega
       have p1:=G (i-16);have p2:=Q80 (G (i-15)) 7 18 3;have p3:=G (i-7);have p4:=Q80 (G (i-2)) 17 19 10;unfold W4 at p1 p2 p3 p4;go_upto_region 17 with fail;refine RL hS ?_;clear hS;refine MV ?_;refine Wf ?_;refine MZ fun W hS=> ?_;go_upto_region 20 with fail;refine RS hS ?_;clear hS;refine MV ?_;refine MW ?_ (v:=.int .i64 (((i-15:Nat):Int))) (hv:=by intro W;go_simp;(try simp only[AI.wrap_u64,AI.wrap_i64]);(try omega));refine MW ?_ (v:=.pointer (some ⟨N,0+(i-15),none⟩)) (hv:=fun _=>X3 Tryz.underlying155 (by omega));refine MG 0 ?_ (j:=0+(i-15)) (v:=.int .i64 ((Q0 b_ i) (i-15))) (hj:=ag0 (by omega));refine MV ?_;refine MW ?_ (v:=.int .i64 (((i-2:Nat):Int))) (hv:=by intro W;go_simp;(try simp only[AI.wrap_u64,AI.wrap_i64]);(try omega));refine MW ?_ (v:=.pointer (some ⟨N,0+(i-2),none⟩)) (hv:=fun _=>X3 Tryz.underlying155 (by omega));refine MG 0 ?_ (j:=0+(i-2)) (v:=.int .i64 ((Q0 b_ i) (i-2))) (hj:=ag0 (by omega));refine MV ?_;refine MV ?_;refine MZx fun W hS=> ?_;go_upto_region 21 with fail;refine RX 30 hS ?_;clear hS;refine MV ?_;refine MV ?_;refine MW ?_ (v:=.int .i64 (((i-16:Nat):Int))) (hv:=by intro W;go_simp;(try simp only[AI.wrap_u64,AI.wrap_i64]);(try omega));refine MW ?_ (v:=.pointer (some ⟨N,0+(i-16),none⟩)) (hv:=fun _=>X3 Tryz.underlying155 (by omega));refine MG 0 ?_ (j:=0+(i-16)) (v:=.int .i64 ((Q0 b_ i) (i-16))) (hj:=ag0 (by omega));refine MV ?_;refine MC (v:=.int .i64 (rt4 ((Q0 b_ i) (i-15)) 7)) (fun W hS=>J2p ((Q0 b_ i) (i-15)) (G (i-15)) 7 (by decide) (by decide) W) ?_;refine MV ?_;refine MC (v:=.int .i64 (rt4 ((Q0 b_ i) (i-15)) 18)) (fun W hS=>J2p ((Q0 b_ i) (i-15)) (G (i-15)) 18 (by decide) (by decide) W) ?_;refine MW ?_ (hv:=fun _=>J5a (J2c (G (i-15))) (J2c (G (i-15))) rfl rfl rfl);refine MV ?_;refine MW ?_ (hv:=fun _=>J26 (n:=3) (by decide) rfl rfl rfl);refine MW ?_ (v:=.int .i64 (J1q (Q0 b_ i (i-15)) 7 18 3)) (hv:=fun _=>J5a (J4r (J2c (G (i-15))) (J2c (G (i-15)))) (Z22 (G (i-15))) rfl rfl rfl);refine MW ?_ (hv:=fun _=>J2g (by omega) rfl rfl rfl);refine MV ?_;refine MW ?_ (v:=.int .i64 (((i-7:Nat):Int))) (hv:=by intro W;go_simp;(try simp only[AI.wrap_u64,AI.wrap_i64]);(try omega));refine MW ?_ (v:=.pointer (some ⟨N,0+(i-7),none⟩)) (hv:=fun _=>X3 Tryz.underlying155 (by omega));refine MG 0 ?_ (j:=0+(i-7)) (v:=.int .i64 ((Q0 b_ i) (i-7))) (hj:=ag0 (by omega));refine MW ?_ (hv:=fun _=>J2g (by omega) rfl rfl rfl);refine MV ?_;refine MC (v:=.int .i64 (rt4 ((Q0 b_ i) (i-2)) 17)) (fun W hS=>J2p ((Q0 b_ i) (i-2)) (G (i-2)) 17 (by decide) (by decide) W) ?_;refine MV ?_;refine MC (v:=.int .i64 (rt4 ((Q0 b_ i) (i-2)) 19)) (fun W hS=>J2p ((Q0 b_ i) (i-2)) (G (i-2)) 19 (by decide) (by decide) W) ?_;refine MW ?_ (hv:=fun _=>J5a (J2c (G (i-2))) (J2c (G (i-2))) rfl rfl rfl);refine MV ?_;refine MW ?_ (hv:=fun _=>J26 (n:=10) (by decide) rfl rfl rfl);refine MW ?_ (v:=.int .i64 (J1q (Q0 b_ i (i-2)) 17 19 10)) (hv:=fun _=>J5a (J4r (J2c (G (i-2))) (J2c (G (i-2)))) (Z22 (G (i-2))) rfl rfl rfl);refine MW ?_ (hv:=fun _=>J2g (by omega) rfl rfl rfl);refine MW ?_ (v:=.int .i64 (sg4 (Q0 b_ i) i)) (hv:=by intro W;rw[Y8g,←Q2a (by omega) (by omega)];exact J3u rfl rfl rfl);refine MW ?_ (v:=.pointer (some ⟨N,0+i,none⟩)) (hv:=fun _=>X3 Tryz.underlying155 (by omega));refine MZt ?_;refine MP 0 (v:=.int .i64 (sg4 (Q0 b_ i) i)) (cs' :=J0 .i64 64 (upd (Q0 b_ i) i (sg4 (Q0 b_ i) i))) ?_ (hs:=by rw[J1,AP];omega) (hc:=by rw[AP];exact Y9 _ _ _ _ _);refine MZn fun W hS=> ?_;rw[Z3u S] at hS;go_wp2;go_roundw
       case rel=>exact⟨i+1,by omega,by go_num,hS⟩
       case measure=>simp[intOf];omega
      obtain rfl:i=64:=by omega
      go_upto_region 15 with fail;refine RL hS ?_;clear hS;refine MV ?_;refine Wf ?_;refine MZ fun W hS=> ?_;go_upto_region 22 with fail;refine RL hS ?_;clear hS;refine ML 1 ?_;refine MN (z:=J0 .i64 8 (fun _=>0)) (t:=154) ?_;intro D;refine MR 0 ?_;refine MZ fun W hS=> ?_
      go_wp2_with fail
      go_loopw [14] (fun ii wr=> ∃(i:Nat),(i≤64)∧(ii=.int .i64 (i:Int))∧SH [] w wr [.b D (J0 .i64 8 (Q2 kf4 (Q0 b_ 64) h_ i)) 154,.b N (J0 .i64 64 (Q0 b_ 64)) 155,.b M (J0 .i64 8 h_) 154,.s bv (J0e l)])
       (fun ii _=>64-(intOf ii).toNat)
      case atStart=>exact⟨0,An _,rfl,hS⟩
      clear hS
      case round=>
       obtain⟨i,hi,rfl,hS⟩:=hrel;have hv:=Q63 (k:=kf4) (w:=Q0 b_ 64) hh i;have q7:=hv 7;have q3:=hv 3;have qk:=Y67 i;have qw:=Q62 hb 64 i;have qb:=Q61 (hv 4) 6 11 25;have qc:=J4r (J48 (hv 4) (hv 5)) (J48 (Z20 (hv 4)) (hv 6));have qB:=Q61 (hv 0) 2 13 22;have qM:=J4r (J4r (J48 (hv 0) (hv 1)) (J48 (hv 0) (hv 2))) (J48 (hv 1) (hv 2));have qT:=Y8i i (Y67 i) (Q62 hb 64 i) hv;have qU:=Y8j hv;unfold W4 at q7 q3 qk qw qb qc qB qM
       by_cases R:i<64
       ·
        go_upto_region 24 with fail;refine RL hS ?_;clear hS;refine MV ?_;refine Wt ?_;refine MZ fun W hS=> ?_;go_upto_region 26 with fail;refine RS hS ?_;clear hS;refine MW ?_ (v:=.pointer (some ⟨D,0+7,none⟩)) (hv:=fun _=>X3 Tryz.underlying154 (by omega));refine MG 0 ?_ (j:=0+7) (v:=.int .i64 ((Q2 kf4 (Q0 b_ 64) h_ i) 7)) (hj:=ag0 (by omega));refine MW ?_ (v:=.pointer (some ⟨D,0+4,none⟩)) (hv:=fun _=>X3 Tryz.underlying154 (by omega));refine MG 0 ?_ (j:=0+4) (v:=.int .i64 ((Q2 kf4 (Q0 b_ 64) h_ i) 4)) (hj:=ag0 (by omega));refine MC (v:=.int .i64 (rt4 ((Q2 kf4 (Q0 b_ 64) h_ i) 4) 6)) (fun W hS=>J2p ((Q2 kf4 (Q0 b_ 64) h_ i) 4) (hv 4) 6 (by decide) (by decide) W) ?_;refine MW ?_ (v:=.pointer (some ⟨D,0+4,none⟩)) (hv:=fun _=>X3 Tryz.underlying154 (by omega));refine MG 0 ?_ (j:=0+4) (v:=.int .i64 ((Q2 kf4 (Q0 b_ 64) h_ i) 4)) (hj:=ag0 (by omega));refine MC (v:=.int .i64 (rt4 ((Q2 kf4 (Q0 b_ 64) h_ i) 4) 11)) (fun W hS=>J2p ((Q2 kf4 (Q0 b_ 64) h_ i) 4) (hv 4) 11 (by decide) (by decide) W) ?_;refine MW ?_ (hv:=fun _=>J5a (J2c (hv 4)) (J2c (hv 4)) rfl rfl rfl);refine MW ?_ (v:=.pointer (some ⟨D,0+4,none⟩)) (hv:=fun _=>X3 Tryz.underlying154 (by omega));refine MG 0 ?_ (j:=0+4) (v:=.int .i64 ((Q2 kf4 (Q0 b_ 64) h_ i) 4)) (hj:=ag0 (by omega));refine MC (v:=.int .i64 (rt4 ((Q2 kf4 (Q0 b_ 64) h_ i) 4) 25)) (fun W hS=>J2p ((Q2 kf4 (Q0 b_ 64) h_ i) 4) (hv 4) 25 (by decide) (by decide) W) ?_;refine MW ?_ (v:=.int .i64 (J9f (Q2 kf4 (Q0 b_ 64) h_ i 4) 6 11 25)) (hv:=fun _=>J5a (J4r (J2c (hv 4)) (J2c (hv 4))) (J2c (hv 4)) rfl rfl rfl);refine MW ?_ (hv:=fun _=>J2g (by omega) rfl rfl rfl);refine MW ?_ (v:=.pointer (some ⟨D,0+4,none⟩)) (hv:=fun _=>X3 Tryz.underlying154 (by omega));refine MG 0 ?_ (j:=0+4) (v:=.int .i64 ((Q2 kf4 (Q0 b_ 64) h_ i) 4)) (hj:=ag0 (by omega));refine MW ?_ (v:=.pointer (some ⟨D,0+5,none⟩)) (hv:=fun _=>X3 Tryz.underlying154 (by omega));refine MG 0 ?_ (j:=0+5) (v:=.int .i64 ((Q2 kf4 (Q0 b_ 64) h_ i) 5)) (hj:=ag0 (by omega));refine MW ?_ (hv:=fun _=>Q3u (hv 4) (hv 5) rfl rfl rfl);refine MW ?_ (v:=.pointer (some ⟨D,0+4,none⟩)) (hv:=fun _=>X3 Tryz.underlying154 (by omega));refine MG 0 ?_ (j:=0+4) (v:=.int .i64 ((Q2 kf4 (Q0 b_ 64) h_ i) 4)) (hj:=ag0 (by omega));refine MW ?_ (hv:=fun _=>V0z (hv 4) rfl rfl rfl);refine MW ?_ (v:=.pointer (some ⟨D,0+6,none⟩)) (hv:=fun _=>X3 Tryz.underlying154 (by omega));refine MG 0 ?_ (j:=0+6) (v:=.int .i64 ((Q2 kf4 (Q0 b_ 64) h_ i) 6)) (hj:=ag0 (by omega));refine MW ?_ (hv:=fun _=>Q3u (Z20 (hv 4)) (hv 6) rfl rfl rfl);refine MW ?_ (hv:=fun _=>J5a (J48 (hv 4) (hv 5)) (J48 (Z20 (hv 4)) (hv 6)) rfl rfl rfl);refine MW ?_ (hv:=fun _=>J2g (by omega) rfl rfl rfl);refine MV ?_;refine MW ?_ (v:=.pointer (some ⟨3,0+i,none⟩)) (hv:=fun _=>X3 Tryz.underlying155 (by omega));refine MF (v:=.int .i64 (kf4 i)) (fun W hS=>V6 rfl rfl (((J5h HG.out hS.ext).1).1 _ _ (ag0 (by omega))) (by kernel_rfl)) ?_;refine MW ?_ (hv:=fun _=>J2g (by omega) rfl rfl rfl);refine MV ?_;refine MW ?_ (v:=.pointer (some ⟨N,0+i,none⟩)) (hv:=fun _=>X3 Tryz.underlying155 (by omega));refine MG 1 ?_ (j:=0+i) (v:=.int .i64 ((Q0 b_ 64) i)) (hj:=ag0 (by omega));refine MW ?_ (v:=.int .i64 (rTs kf4 (Q0 b_ 64) i (Q2 kf4 (Q0 b_ 64) h_ i))) (hv:=by intro W;unfold rTs;exact J2g (by omega) rfl rfl rfl);refine MV ?_;refine MZx fun W hS=> ?_;go_upto_region 27 with fail;refine RS hS ?_;clear hS;refine MW ?_ (v:=.pointer (some ⟨D,0+0,none⟩)) (hv:=fun _=>X3 Tryz.underlying154 (by omega));refine MG 0 ?_ (j:=0+0) (v:=.int .i64 ((Q2 kf4 (Q0 b_ 64) h_ i) 0)) (hj:=ag0 (by omega));refine MC (v:=.int .i64 (rt4 ((Q2 kf4 (Q0 b_ 64) h_ i) 0) 2)) (fun W hS=>J2p ((Q2 kf4 (Q0 b_ 64) h_ i) 0) (hv 0) 2 (by decide) (by decide) W) ?_;refine MW ?_ (v:=.pointer (some ⟨D,0+0,none⟩)) (hv:=fun _=>X3 Tryz.underlying154 (by omega));refine MG 0 ?_ (j:=0+0) (v:=.int .i64 ((Q2 kf4 (Q0 b_ 64) h_ i) 0)) (hj:=ag0 (by omega));refine MC (v:=.int .i64 (rt4 ((Q2 kf4 (Q0 b_ 64) h_ i) 0) 13)) (fun W hS=>J2p ((Q2 kf4 (Q0 b_ 64) h_ i) 0) (hv 0) 13 (by decide) (by decide) W) ?_;refine MW ?_ (hv:=fun _=>J5a (J2c (hv 0)) (J2c (hv 0)) rfl rfl rfl);refine MW ?_ (v:=.pointer (some ⟨D,0+0,none⟩)) (hv:=fun _=>X3 Tryz.underlying154 (by omega));refine MG 0 ?_ (j:=0+0) (v:=.int .i64 ((Q2 kf4 (Q0 b_ 64) h_ i) 0)) (hj:=ag0 (by omega));refine MC (v:=.int .i64 (rt4 ((Q2 kf4 (Q0 b_ 64) h_ i) 0) 22)) (fun W hS=>J2p ((Q2 kf4 (Q0 b_ 64) h_ i) 0) (hv 0) 22 (by decide) (by decide) W) ?_;refine MW ?_ (v:=.int .i64 (J9f (Q2 kf4 (Q0 b_ 64) h_ i 0) 2 13 22)) (hv:=fun _=>J5a (J4r (J2c (hv 0)) (J2c (hv 0))) (J2c (hv 0)) rfl rfl rfl);refine MW ?_ (v:=.pointer (some ⟨D,0+0,none⟩)) (hv:=fun _=>X3 Tryz.underlying154 (by omega));refine MG 0 ?_ (j:=0+0) (v:=.int .i64 ((Q2 kf4 (Q0 b_ 64) h_ i) 0)) (hj:=ag0 (by omega));refine MW ?_ (v:=.pointer (some ⟨D,0+1,none⟩)) (hv:=fun _=>X3 Tryz.underlying154 (by omega));refine MG 0 ?_ (j:=0+1) (v:=.int .i64 ((Q2 kf4 (Q0 b_ 64) h_ i) 1)) (hj:=ag0 (by omega));refine MW ?_ (hv:=fun _=>Q3u (hv 0) (hv 1) rfl rfl rfl);refine MW ?_ (v:=.pointer (some ⟨D,0+0,none⟩)) (hv:=fun _=>X3 Tryz.underlying154 (by omega));refine MG 0 ?_ (j:=0+0) (v:=.int .i64 ((Q2 kf4 (Q0 b_ 64) h_ i) 0)) (hj:=ag0 (by omega));refine MW ?_ (v:=.pointer (some ⟨D,0+2,none⟩)) (hv:=fun _=>X3 Tryz.underlying154 (by omega));refine MG 0 ?_ (j:=0+2) (v:=.int .i64 ((Q2 kf4 (Q0 b_ 64) h_ i) 2)) (hj:=ag0 (by omega));refine MW ?_ (hv:=fun _=>Q3u (hv 0) (hv 2) rfl rfl rfl);refine MW ?_ (hv:=fun _=>J5a (J48 (hv 0) (hv 1)) (J48 (hv 0) (hv 2)) rfl rfl rfl);refine MW ?_ (v:=.pointer (some ⟨D,0+1,none⟩)) (hv:=fun _=>X3 Tryz.underlying154 (by omega));refine MG 0 ?_ (j:=0+1) (v:=.int .i64 ((Q2 kf4 (Q0 b_ 64) h_ i) 1)) (hj:=ag0 (by omega));refine MW ?_ (v:=.pointer (some ⟨D,0+2,none⟩)) (hv:=fun _=>X3 Tryz.underlying154 (by omega));refine MG 0 ?_ (j:=0+2) (v:=.int .i64 ((Q2 kf4 (Q0 b_ 64) h_ i) 2)) (hj:=ag0 (by omega));refine MW ?_ (hv:=fun _=>Q3u (hv 1) (hv 2) rfl rfl rfl);refine MW ?_ (hv:=fun _=>J5a (J4r (J48 (hv 0) (hv 1)) (J48 (hv 0) (hv 2))) (J48 (hv 1) (hv 2)) rfl rfl rfl);refine MW ?_ (v:=.int .i64 (rUs (Q2 kf4 (Q0 b_ 64) h_ i))) (hv:=by intro W;unfold rUs;exact J2g (by omega) rfl rfl rfl);refine MV ?_;refine MZx fun W hS=> ?_;go_upto_region 28 with fail;refine RL hS ?_;clear hS;refine MV ?_;refine MV ?_;refine MW ?_ (hv:=fun _=>J2g (by omega) rfl rfl rfl);refine MW ?_ (v:=.int .i64 (Z08 kf4 (Q0 b_ 64) i (Q2 kf4 (Q0 b_ 64) h_ i) 0)) (hv:=by intro W;rw[←V7b,←Q2a (by omega) (by omega)];exact J3u rfl rfl rfl);refine MW ?_ (v:=.pointer (some ⟨D,0+0,none⟩)) (hv:=fun _=>X3 Tryz.underlying154 (by omega));refine MG 0 ?_ (j:=0+0) (v:=.int .i64 ((Q2 kf4 (Q0 b_ 64) h_ i) 0)) (hj:=ag0 (by omega));refine MW ?_ (v:=.pointer (some ⟨D,0+1,none⟩)) (hv:=fun _=>X3 Tryz.underlying154 (by omega));refine MG 0 ?_ (j:=0+1) (v:=.int .i64 ((Q2 kf4 (Q0 b_ 64) h_ i) 1)) (hj:=ag0 (by omega));refine MW ?_ (v:=.pointer (some ⟨D,0+2,none⟩)) (hv:=fun _=>X3 Tryz.underlying154 (by omega));refine MG 0 ?_ (j:=0+2) (v:=.int .i64 ((Q2 kf4 (Q0 b_ 64) h_ i) 2)) (hj:=ag0 (by omega));refine MW ?_ (v:=.pointer (some ⟨D,0+3,none⟩)) (hv:=fun _=>X3 Tryz.underlying154 (by omega));refine MG 0 ?_ (j:=0+3) (v:=.int .i64 ((Q2 kf4 (Q0 b_ 64) h_ i) 3)) (hj:=ag0 (by omega));refine MV ?_;refine MW ?_ (hv:=fun _=>J2g (by omega) rfl rfl rfl);refine MW ?_ (v:=.int .i64 (Z08 kf4 (Q0 b_ 64) i (Q2 kf4 (Q0 b_ 64) h_ i) 4)) (hv:=by intro W;rw[←V2m,←Q2a (by omega) (by omega)];exact J3u rfl rfl rfl);refine MW ?_ (v:=.pointer (some ⟨D,0+4,none⟩)) (hv:=fun _=>X3 Tryz.underlying154 (by omega));refine MG 0 ?_ (j:=0+4) (v:=.int .i64 ((Q2 kf4 (Q0 b_ 64) h_ i) 4)) (hj:=ag0 (by omega));refine MW ?_ (v:=.pointer (some ⟨D,0+5,none⟩)) (hv:=fun _=>X3 Tryz.underlying154 (by omega));refine MG 0 ?_ (j:=0+5) (v:=.int .i64 ((Q2 kf4 (Q0 b_ 64) h_ i) 5)) (hj:=ag0 (by omega));refine MW ?_ (v:=.pointer (some ⟨D,0+6,none⟩)) (hv:=fun _=>X3 Tryz.underlying154 (by omega));refine MG 0 ?_ (j:=0+6) (v:=.int .i64 ((Q2 kf4 (Q0 b_ 64) h_ i) 6)) (hj:=ag0 (by omega));refine MW ?_ (v:=.agg (J0 .i64 8 (Q2 kf4 (Q0 b_ 64) h_ (i+1)))) (hv:=by intro W;first|rfl|(go_simp;rfl));refine MR 0 ?_;refine MZ fun W hS=> ?_;go_wp2;go_roundw
        case rel=>exact⟨i+1,by omega,by go_num,hS⟩
        case measure=>simp[intOf];omega
       obtain rfl:i=64:=by omega
       go_upto_region 24 with fail;refine RL hS ?_;clear hS;refine MV ?_;refine Wf ?_;refine MZ fun W hS=> ?_
       go_wp2_with fail
       go_loopw [17] (fun ii wr=> ∃(i:Nat),(i≤8)∧(ii=.int .i64 (i:Int))∧SH [] w wr [.b D (J0 .i64 8 (Q2 kf4 (Q0 b_ 64) h_ 64)) 154,.b M (J0 .i64 8 (mx4 h_ (Q2 kf4 (Q0 b_ 64) h_ 64) i)) 154,.s bv (J0e l)])
        (fun ii _=>8-(intOf ii).toNat)
       case atStart=>exact⟨0,An _,rfl,(by rw[Q9b];exact(hS.pick [0,2,3]))⟩
       clear hS
       case round=>
        obtain⟨i,hi,rfl,hS⟩:=hrel;have qm:=V2l (v:=Q2 kf4 (Q0 b_ 64) h_ 64) hh i i;have qv:=Q63 (k:=kf4) (w:=Q0 b_ 64) hh 64 i;unfold W4 at qm qv
        by_cases h8:i<8
        ·
         go_upto_region 30 with fail;refine RL hS ?_;clear hS;refine MV ?_;refine Wt ?_;refine MZ fun W hS=> ?_;go_upto_region 32 with fail;refine RX 10 hS ?_;clear hS;refine MV ?_;refine MV ?_;refine MW ?_ (v:=.pointer (some ⟨M,0+i,none⟩)) (hv:=fun _=>X3 Tryz.underlying154 (by omega));refine MG 1 ?_ (j:=0+i) (v:=.int .i64 ((mx4 h_ (Q2 kf4 (Q0 b_ 64) h_ 64) i) i)) (hj:=ag0 (by omega));refine MV ?_;refine MW ?_ (v:=.pointer (some ⟨D,0+i,none⟩)) (hv:=fun _=>X3 Tryz.underlying154 (by omega));refine MG 0 ?_ (j:=0+i) (v:=.int .i64 ((Q2 kf4 (Q0 b_ 64) h_ 64) i)) (hj:=ag0 (by omega));refine MW ?_ (hv:=fun _=>J2g (by omega) rfl rfl rfl);refine MW ?_ (v:=.int .i64 (ad4 (mx4 h_ (Q2 kf4 (Q0 b_ 64) h_ 64) i i) (Q2 kf4 (Q0 b_ 64) h_ 64 i))) (hv:=by intro W;rw[Q0j,←Q2a (by omega) (by omega)];exact J3u rfl rfl rfl);refine MW ?_ (v:=.pointer (some ⟨M,0+i,none⟩)) (hv:=fun _=>X3 Tryz.underlying154 (by omega));refine MZt ?_;refine MP 1 (v:=.int .i64 (ad4 (mx4 h_ (Q2 kf4 (Q0 b_ 64) h_ 64) i i) (Q2 kf4 (Q0 b_ 64) h_ 64 i))) (cs' :=J0 .i64 8 (upd (mx4 h_ (Q2 kf4 (Q0 b_ 64) h_ 64) i) i (ad4 (mx4 h_ (Q2 kf4 (Q0 b_ 64) h_ 64) i i) (Q2 kf4 (Q0 b_ 64) h_ 64 i)))) ?_ (hs:=by rw[J1,AP];omega) (hc:=by rw[AP];exact Y9 _ _ _ _ _);refine MZn fun W hS=> ?_;go_wp2;go_roundw
         case rel=>exact⟨i+1,by omega,by go_num,(by rw[←Q9a];exact hS)⟩
         case measure=>simp[intOf];omega
        obtain rfl:i=8:=by omega
        rw[Y4o] at hS;go_upto_region 30 with fail;refine RL hS ?_;clear hS;refine MV ?_;refine Wf ?_;refine MZ fun W hS=> ?_;rw[Hh.out,Hb.out] at hS;go_wp2;go_roundw
        case rel=>exact⟨j+1,by omega,by first|go_num|(go_simp;omega),(hS.pick [1,2])⟩
        case measure=>simp[intOf];omega
    obtain rfl:j=nb4 l.length:=by omega
    obtain⟨n_,γ⟩:=exn (Hs4 (J0e l) (nb4 l.length));rw[←γ] at hS;have Hn:=Lib.hid γ;clear γ;go_upto_region 11 with fail;refine RL hS ?_;clear hS;refine MV ?_;refine MV ?_;refine MF (v:=.int .i64 ((J0e l).length:Int)) (fun W hS=>J03 (hS.sl (i:=1) rfl) rfl rfl) ?_;refine MW ?_ (v:=.bool false) (hv:=by intro W;first|(go_simp;done)|(go_simp;(try simp only[α]);omega));refine MZ fun W hS=> ?_;go_upto_region 33 with fail;refine RL hS ?_;clear hS;refine MO (m:=[]) (n:=0) (z:= #[]) ?_;intro Γ;refine MV ?_;refine MZ fun W hS=> ?_
    go_wp2_with fail
    go_loopw [18,19] (fun sv ii wr=> ∃(i:Nat)(bv:AB),(i≤8)∧(bv=sv)∧(ii=.int .i64 (i:Int))∧SH [] w wr [.o bv (wb4 n_ (4*i)),.b M (J0 .i64 8 n_) 154])
     (fun sv ii _=>8-(intOf ii).toNat)
    case atStart=>exact⟨0,_,An _,rfl,rfl,(hS.pick [0,1])⟩
    clear hS
    case round=>
     obtain⟨i,bv,hi,rfl,rfl,hS⟩:=hrel
     by_cases h8:i<8
     ·
      go_upto_region 35 with fail;refine RL hS ?_;clear hS;refine MV ?_;refine Wt ?_;refine MZ fun W hS=> ?_;go_upto_region 37 with fail;refine RX 20 hS ?_;clear hS;refine MV ?_;refine MV ?_;refine MW ?_ (v:=.pointer (some ⟨M,0+i,none⟩)) (hv:=fun _=>X3 Tryz.underlying154 (by omega));refine MG 1 ?_ (j:=0+i) (v:=.int .i64 (n_ i)) (hj:=ag0 (by omega));refine MW ?_ (hv:=fun _=>J26 (n:=24) (by decide) rfl rfl rfl);refine MW ?_ (v:=.int .u8 ((bo4 n_ (4*i+0)).toNat:Int)) (hv:=by intro W;rw[←J9g _ i 0 (by decide)];exact J45 rfl rfl);refine MV ?_;refine MW ?_ (v:=.pointer (some ⟨M,0+i,none⟩)) (hv:=fun _=>X3 Tryz.underlying154 (by omega));refine MG 1 ?_ (j:=0+i) (v:=.int .i64 (n_ i)) (hj:=ag0 (by omega));refine MW ?_ (hv:=fun _=>J26 (n:=16) (by decide) rfl rfl rfl);refine MW ?_ (v:=.int .u8 ((bo4 n_ (4*i+1)).toNat:Int)) (hv:=by intro W;rw[←J9g _ i 1 (by decide)];exact J45 rfl rfl);refine MV ?_;refine MW ?_ (v:=.pointer (some ⟨M,0+i,none⟩)) (hv:=fun _=>X3 Tryz.underlying154 (by omega));refine MG 1 ?_ (j:=0+i) (v:=.int .i64 (n_ i)) (hj:=ag0 (by omega));refine MW ?_ (hv:=fun _=>J26 (n:=8) (by decide) rfl rfl rfl);refine MW ?_ (v:=.int .u8 ((bo4 n_ (4*i+2)).toNat:Int)) (hv:=by intro W;rw[←J9g _ i 2 (by decide)];exact J45 rfl rfl);refine MV ?_;refine MW ?_ (v:=.pointer (some ⟨M,0+i,none⟩)) (hv:=fun _=>X3 Tryz.underlying154 (by omega));refine MG 1 ?_ (j:=0+i) (v:=.int .i64 (n_ i)) (hj:=ag0 (by omega));refine MW ?_ (v:=.int .u8 ((bo4 n_ (4*i+3)).toNat:Int)) (hv:=by intro W;rw[←J9g _ i 3 (by decide),show sr4 (n_ i) (8*(3-3))=n_ i from V5a _];exact J45 rfl rfl);refine MZt ?_;refine MO (m:=[bo4 n_ (4*i+0),bo4 n_ (4*i+1),bo4 n_ (4*i+2),bo4 n_ (4*i+3)]) (n:=4) (z:= #[.int .u8 ((bo4 n_ (4*i+0)).toNat:Int),.int .u8 ((bo4 n_ (4*i+1)).toNat:Int),.int .u8 ((bo4 n_ (4*i+2)).toNat:Int),.int .u8 ((bo4 n_ (4*i+3)).toNat:Int)]) ?_;intro Ψ;refine MA 1 (xs:=(wb4 n_ (4*i))) (ys:=[bo4 n_ (4*i+0),bo4 n_ (4*i+1),bo4 n_ (4*i+2),bo4 n_ (4*i+3)]) (fun W hS=>(hS.osl (i:=0) rfl)) (by first|omega|(simp only[Ao,AY,Av,BJ,J3p,J35];omega)) ?_;intro ν;refine MV ?_;refine MZn fun W hS=> ?_;go_wp2;go_roundw
      case rel=>exact⟨i+1,ν,by omega,rfl,by go_num,(by rw[←Z72];exact(hS.pick [1,2]))⟩
      case measure=>simp[intOf];omega
     obtain rfl:i=8:=by omega
     rw[Hn.out] at hS;go_upto_region 35 with fail;refine RL hS ?_;clear hS;refine MV ?_;refine Wf ?_;refine MZ fun W hS=> ?_;go_upto_region 38 with fail;refine RL hS ?_;clear hS;refine MV ?_;refine MF (v:=Z9 (wb4 (Hs4 (J0e l) (nb4 l.length)) (4*8))) (fun W hS=>J1j (hS.osl (i:=0) rfl) rfl rfl) ?_;refine MV ?_;refine MZ fun W hS=> ?_;go_wp2;exact BH (v:=Z9 (wb4 (Hs4 (J0e l) (nb4 l.length)) (4*8))) (by simp only[results,Tryz.results48];go_simp) rfl ⟨rfl,hS.ext⟩
end

section
set_option maxHeartbeats 1500000
attribute [local irreducible] wpList K1 wpX
def GT (hr:Prop)(w:AA):Prop:=GS4 w∧(hr→GR4 w)
theorem Y5 {q:Prop}{w W:AA}(h:GT q w)(e:Ext w W):GT q W:=⟨J29 h.1 e,fun x=>J5h (h.2 x) e⟩
def db (d:Int):List UInt8:=[UInt8.ofNat (d / 256 % 256).toNat,UInt8.ofNat (d % 256).toNat]
theorem dbl (d:Int):(db d).length=2:=rfl
theorem Q9m {x:Int}(h0:0≤x)(h1:x<256):((UInt8.ofNat x.toNat).toNat:Int)=x:=by rw[UInt8.toNat_ofNat',Nat.mod_eq_of_lt (by omega)];omega
theorem Y7p (d:Int):AI.wrap .u8 (d / 256)=((UInt8.ofNat (d / 256 % 256).toNat).toNat:Int):=by rw[Q9m (by omega) (by omega),AI.wrap_u8]
theorem Y7q (d:Int):AI.wrap .u8 d=((UInt8.ofNat (d % 256).toNat).toNat:Int):=by rw[Q9m (by omega) (by omega),AI.wrap_u8]
def sE:Nat:=hs4 [2]
def sL (k v:Nat):Nat:=hs4 ([0]++lb 32 k++lb 32 v)
def sN (d:Int)(l r:Nat):Nat:=hs4 ([1]++db d++lb 32 l++lb 32 r)
theorem J5n {H:Nat}{F:List UInt8}(hH:H=hs4 F)(ps:List (List UInt8))(A:Option Addr)(c:Nat)(hF:ps.flatten=F)(hlen:F.length≤70368744177664)(hpn:ps.length≤9223372036854775000)(w:AA)(hps:∀i l,ps[i]?=some l→∃ad u,A=some ad∧w.cell? (ad.add i)=some u∧Sl w u l)(hG:GS4 w):
  BI Tryz.prog 54 #[.slice A ps.length c] w fun e w' =>V4 (.agg (J0 .u8 32 (J6 H))) w w' e:=by
 rw[hH,←Y8k];exact V0y ps A c F hF hlen hpn w hps hG
theorem J4g {H:Nat}{l:List UInt8}(hH:H=hs4 l)(hlen:l.length≤70368744177664)(w:AA)(hG:GR4 w):BI Tryz.prog 48 #[Z9 l] w fun e w' =>V4 (Z9 (lb 32 H)) w w' e:=by
 rw[hH,←Z24];exact Y4p l hlen w hG
attribute [local irreducible] hs4

theorem Z3z {q:Prop}(w:AA)(hG:GT q w):
  BI Tryz.prog 28 #[] w fun e w' =>V4 (.agg (J0 .u8 32 (J6 sE))) w w' e:=by
 have hS:=SH.nil [] w
 go_enter Tryz.func28,Tryz.ntmps28
 go_upto_region 0 with fail;refine RL hS ?_;clear hS;refine MN (z:=J0 .u8 32 (J6 0)) (t:=22) ?_;intro M;refine MZ fun W hS=> ?_;go_upto_region 1 with fail;refine RL hS ?_;clear hS;refine MO (m:=[2]) (n:=1) (z:= #[.int .u8 2]) ?_;intro D;refine MB (z:= #[D]) (t:=45) (n:=1) (c:=1) ?_ (hr:=fun W hS=>J0p [D] rfl rfl (vsc (V9 (hS.osl (i:=0) rfl)).1 vs0) Tryz.underlying158 (by kernel_rfl) (by kernel_rfl) rfl (by decide) (by decide));intro J;obtain⟨U1,G⟩:=exh (hs4 ([2]));refine MC (v:=.agg (J0 .u8 32 (J6 U1))) (fun W hS=>J5n G.out [[2]] (some ⟨J,0,none⟩) 1 (by simp only[Aw,List.flatten_nil,Ar,BU,At,BT]) (by first|omega|(simp only[Ao,AY,Av,J2,dbl];omega)) (by simp) W (J1w (hS.blk (i:=0) rfl) (pvc (hS.osl (i:=1) rfl) pv0)) (J29 hG.1 hS.ext)) ?_;refine MR 2 ?_;refine MZ fun W hS=> ?_;have e_:=G.out;subst e_;go_wp2;exact BH (Z5 rfl rfl (hS.blk (i:=2) rfl) (by kernel_rfl) (by rw[J1];kernel_rfl)) rfl ⟨rfl,hS.ext⟩
theorem Z6a {q:Prop}(k v:Nat)(w:AA)(hG:GT q w):
  BI Tryz.prog 156 #[.agg (lf k v)] w fun e w' =>V4 (.agg (J0 .u8 32 (J6 (sL k v)))) w w' e:=by
 have hS:=SH.nil [] w
 go_enter Tryz.func156,Tryz.ntmps156
 go_upto_region 0 with fail;refine RL hS ?_;clear hS;refine MN (z:=lf k v) (t:=40) ?_;intro D;refine MN (z:=J0 .u8 32 (J6 0)) (t:=22) ?_;intro N;refine MZ fun W hS=> ?_;go_upto_region 1 with fail;refine RTp [1] (.q 1 (.q 2 (.q 3 (.q 4 (.e 0 (.e 5 (.e 6 (.e 7 .z)))))))) hS ?_;clear hS;refine TV ?_;refine TW ?_ (v:=.slice (some ⟨D,0,none⟩) 32 32);refine TV ?_;refine TW ?_ (v:=.slice (some ⟨D,32,none⟩) 32 32);refine TE (fun _ h=>h.pick [1]) ?_;refine MO (m:=[0]) (n:=1) (z:= #[.int .u8 0]) ?_;intro J;refine TNp [0,2] [1] ?_;refine TE (fun _ h=>h.pick [0,2]) ?_;refine MB (z:= #[J,.slice (some ⟨D,0,none⟩) 32 32,.slice (some ⟨D,32,none⟩) 32 32]) (t:=45) (n:=3) (c:=3) ?_ (hr:=fun W hS=>J0p [J,.slice (some ⟨D,0,none⟩) 32 32,.slice (some ⟨D,32,none⟩) 32 32] rfl rfl (vsc (V9 (hS.osl (i:=0) rfl)).1 (vsc rfl (vsc rfl vs0))) Tryz.underlying158 (by kernel_rfl) (by kernel_rfl) rfl (by decide) (by decide));intro M;refine TNp [0,1,3] [1,2] ?_;refine TE (fun _ h=>h.pick [0,1,3]) ?_;obtain⟨U1,G⟩:=exh (hs4 ([0]++(lb 32 k)++(lb 32 v)));refine MC (v:=.agg (J0 .u8 32 (J6 U1))) (fun W hS=>J5n G.out [[0],lb 32 k,lb 32 v] (some ⟨M,0,none⟩) 3 (by simp only[Aw,List.flatten_nil,Ar,BU,At,BT]) (by first|omega|(simp only[Ao,AY,Av,J2,dbl];omega)) (by simp) W (J1w (hS.blk (i:=0) rfl) (pvc (hS.osl (i:=1) rfl) (pvc (V2 (V:=k) (n:=32) (off:=0) (hS.blk (i:=3) rfl) J4o (by decide) (by decide)) (pvc (V2 (V:=v) (n:=32) (off:=32) (hS.blk (i:=3) rfl) V3a (by decide) (by decide)) pv0)))) (J29 hG.1 hS.ext)) ?_;refine TNp [0,1,3] [0,1,2] ?_;refine TE (fun _ h=>h.pick [0,1,3]) ?_;refine MR 2 ?_;refine TNp [0,1,3] [0,1,2] ?_;refine TZ (fun _ h=>h.pick [0,1,3]) fun W hS=> ?_;have e_:=G.out;subst e_;go_wp2;exact BH (Z5 rfl rfl (hS.blk (i:=2) rfl) (by kernel_rfl) (by rw[J1];kernel_rfl)) rfl ⟨rfl,hS.ext⟩
theorem Z6b {q:Prop}(d:Int)(l r:Nat)(w:AA)(hG:GT q w):
  BI Tryz.prog 159 #[.int .i64 d,.agg (J0 .u8 32 (J6 l)),.agg (J0 .u8 32 (J6 r))] w fun e w' =>V4 (.agg (J0 .u8 32 (J6 (sN d l r)))) w w' e:=by
 have hS:=SH.nil [] w
 go_enter Tryz.func159,Tryz.ntmps159
 go_upto_region 0 with fail;refine RL hS ?_;clear hS;refine MN (z:=J0 .u8 32 (J6 l)) (t:=22) ?_;intro G;refine MN (z:=J0 .u8 32 (J6 r)) (t:=22) ?_;intro D;refine MN (z:=J0 .u8 32 (J6 0)) (t:=22) ?_;intro R;refine MZ fun W hS=> ?_;go_upto_region 1 with fail;refine RTp [1,2] (.q 0 (.q 1 (.q 2 (.q 3 (.q 4 (.q 6 (.q 7 (.e 5 (.e 8 (.e 9 (.e 10 .z))))))))))) hS ?_;clear hS;refine TV ?_;refine TW ?_ (v:=.int .i64 (d / 256)) (hv:=by intro W;exact J26 (n:=8) (by decide) rfl rfl rfl);refine TW ?_ (v:=.int .u8 ((UInt8.ofNat (d / 256 % 256).toNat).toNat:Int)) (hv:=by intro W;rw[←Y7p d];exact J45 rfl rfl);refine TV ?_;refine TW ?_ (v:=.int .u8 ((UInt8.ofNat (d % 256).toNat).toNat:Int)) (hv:=by intro W;rw[←Y7q d];exact J45 rfl rfl);refine TW ?_ (v:=.slice (some ⟨G,0,none⟩) 32 32);refine TW ?_ (v:=.slice (some ⟨D,0,none⟩) 32 32);refine TE (fun _ h=>h.pick [1,2]) ?_;refine MO (m:=[1,UInt8.ofNat (d / 256 % 256).toNat,UInt8.ofNat (d % 256).toNat]) (n:=3) (z:= #[.int .u8 1,.int .u8 ((UInt8.ofNat (d / 256 % 256).toNat).toNat:Int),.int .u8 ((UInt8.ofNat (d % 256).toNat).toNat:Int)]) ?_;intro M;refine TNp [0,2,3] [1,2] ?_;refine TE (fun _ h=>h.pick [0,2,3]) ?_;refine MB (z:= #[M,.slice (some ⟨G,0,none⟩) 32 32,.slice (some ⟨D,0,none⟩) 32 32]) (t:=45) (n:=3) (c:=3) ?_ (hr:=fun W hS=>J0p [M,.slice (some ⟨G,0,none⟩) 32 32,.slice (some ⟨D,0,none⟩) 32 32] rfl rfl (vsc (V9 (hS.osl (i:=0) rfl)).1 (vsc rfl (vsc rfl vs0))) Tryz.underlying158 (by kernel_rfl) (by kernel_rfl) rfl (by decide) (by decide));intro N;refine TNp [0,1,3,4] [1,2,3] ?_;refine TE (fun _ h=>h.pick [0,1,3,4]) ?_;obtain⟨U1,J⟩:=exh (hs4 ([1,UInt8.ofNat (d / 256 % 256).toNat,UInt8.ofNat (d % 256).toNat]++(lb 32 l)++(lb 32 r)));refine MC (v:=.agg (J0 .u8 32 (J6 U1))) (fun W hS=>J5n J.out [[1,UInt8.ofNat (d / 256 % 256).toNat,UInt8.ofNat (d % 256).toNat],lb 32 l,lb 32 r] (some ⟨N,0,none⟩) 3 (by simp only[Aw,List.flatten_nil,Ar,BU,At,BT]) (by first|omega|(simp only[Ao,AY,Av,J2,dbl];omega)) (by simp) W (J1w (hS.blk (i:=0) rfl) (pvc (hS.osl (i:=1) rfl) (pvc (V2 (V:=l) (n:=32) (off:=0) (hS.blk (i:=4) rfl) ap0 (by decide) (by decide)) (pvc (V2 (V:=r) (n:=32) (off:=0) (hS.blk (i:=3) rfl) ap0 (by decide) (by decide)) pv0)))) (J29 hG.1 hS.ext)) ?_;refine TNp [0,1,3,4] [0,1,2,3] ?_;refine TE (fun _ h=>h.pick [0,1,3,4]) ?_;refine MR 2 ?_;refine TNp [0,1,3,4] [0,1,2,3] ?_;refine TZ (fun _ h=>h.pick [0,1,3,4]) fun W hS=> ?_;have e_:=J.out;subst e_;go_wp2;exact BH (Z5 rfl rfl (hS.blk (i:=2) rfl) (by kernel_rfl) (by rw[J1];kernel_rfl)) rfl ⟨rfl,hS.ext⟩
theorem Y0q {q:Prop}(hr:q)(w:AA)(hG:GT q w):
  BI Tryz.prog 77 #[] w fun e w' =>V4 (Z9 (lb 32 sE)) w w' e:=by
 have hS:=SH.nil [] w
 go_enter Tryz.func77,Tryz.ntmps77
 go_upto_region 1 with fail;refine RL hS ?_;clear hS;obtain⟨U1,D⟩:=exh (hs4 ([2]));refine MC (v:=Z9 (lb 32 U1)) (fun W hS=>J4g D.out (by first|omega|(simp only[Ao,AY,Av,J2,dbl];omega)) W (J5h (hG.2 hr) hS.ext)) ?_;refine MV ?_;refine MZ fun W hS=> ?_;go_wp2;exact BH (v:=Z9 (lb 32 U1)) (by simp only[results,Tryz.results77];go_simp) rfl ⟨(by(try rw[D.out]);rfl),hS.ext⟩
theorem Z1g {q:Prop}(hr:q)(k v:Nat)(w:AA)(hG:GT q w):
  BI Tryz.prog 78 #[.agg (lf k v)] w fun e w' =>V4 (Z9 (lb 32 (sL k v))) w w' e:=by
 have hS:=SH.nil [] w
 go_enter Tryz.func78,Tryz.ntmps78
 go_upto_region 0 with fail;refine RL hS ?_;clear hS;refine MN (z:=lf k v) (t:=139) ?_;intro D;refine MV ?_;refine MZ fun W hS=> ?_;go_upto_region 1 with fail;refine RTh (.q 0 (.q 1 (.q 2 (.q 3 (.q 4 (.q 5 (.q 6 (.q 7 (.e 8 (.q 9 .z)))))))))) hS ?_;clear hS;refine TV ?_;refine TW ?_ (v:=.slice (some ⟨D,0,none⟩) 32 32);refine TF (v:=Z9 (lb 32 k)) rfl (fun W hS=>J1j (V2 (V:=k) (n:=32) (off:=0) (hS.blk (i:=0) rfl) J4o (by decide) (by decide)) rfl rfl) ?_;refine TW ?_ (v:=Z9 ([0]++(lb 32 k))) (hv:=fun _=>J1d (l:=[0]) (m:=(lb 32 k)) rfl rfl rfl (by first|omega|(simp only[Ao,AY,Av,J2,dbl];omega)));refine TV ?_;refine TW ?_ (v:=.slice (some ⟨D,32,none⟩) 32 32);refine TF (v:=Z9 (lb 32 v)) rfl (fun W hS=>J1j (V2 (V:=v) (n:=32) (off:=32) (hS.blk (i:=0) rfl) V3a (by decide) (by decide)) rfl rfl) ?_;refine TW ?_ (v:=Z9 (([0]++(lb 32 k))++(lb 32 v))) (hv:=fun _=>J1d (l:=([0]++(lb 32 k))) (m:=(lb 32 v)) rfl rfl rfl (by first|omega|(simp only[Ao,AY,Av,J2,dbl];omega)));refine TE (fun _ h=>h) ?_;obtain⟨U1,G⟩:=exh (hs4 (([0]++(lb 32 k))++(lb 32 v)));refine MC (v:=Z9 (lb 32 U1)) (fun W hS=>J4g G.out (by first|omega|(simp only[Ao,AY,Av,J2,dbl];omega)) W (J5h (hG.2 hr) hS.ext)) ?_;refine TNh (fun W hS=>hS) ?_;refine TV ?_;refine TZ (fun _ h=>h) fun W hS=> ?_;go_wp2;exact BH (v:=Z9 (lb 32 U1)) (by simp only[results,Tryz.results78];go_simp) rfl ⟨(by(try rw[G.out]);rfl),hS.ext⟩
theorem Z1h {q:Prop}(hr:q)(d:Int)(l r:Nat)(w:AA)(hG:GT q w):
  BI Tryz.prog 79 #[.int .i64 d,Z9 (lb 32 l),Z9 (lb 32 r)] w fun e w' =>V4 (Z9 (lb 32 (sN d l r))) w w' e:=by
 have hS:=SH.nil [] w
 go_enter Tryz.func79,Tryz.ntmps79
 go_upto_region 1 with fail;refine RL hS ?_;clear hS;refine MV ?_;refine MW ?_ (v:=.int .i64 (d / 256)) (hv:=by intro W;exact J26 (n:=8) (by decide) rfl rfl rfl);refine MW ?_ (v:=.int .u8 ((UInt8.ofNat (d / 256 % 256).toNat).toNat:Int)) (hv:=by intro W;rw[←Y7p d];exact J45 rfl rfl);refine MV ?_;refine MW ?_ (v:=.int .u8 ((UInt8.ofNat (d % 256).toNat).toNat:Int)) (hv:=by intro W;rw[←Y7q d];exact J45 rfl rfl);refine MO (m:=[UInt8.ofNat (d / 256 % 256).toNat,UInt8.ofNat (d % 256).toNat]) (n:=2) (z:= #[.int .u8 ((UInt8.ofNat (d / 256 % 256).toNat).toNat:Int),.int .u8 ((UInt8.ofNat (d % 256).toNat).toNat:Int)]) ?_;intro G;refine MF (v:=Z9 [UInt8.ofNat (d / 256 % 256).toNat,UInt8.ofNat (d % 256).toNat]) (fun W hS=>J1j (hS.osl (i:=0) rfl) rfl rfl) ?_;refine MW ?_ (v:=Z9 ([1]++[UInt8.ofNat (d / 256 % 256).toNat,UInt8.ofNat (d % 256).toNat])) (hv:=fun _=>J1d (l:=[1]) (m:=[UInt8.ofNat (d / 256 % 256).toNat,UInt8.ofNat (d % 256).toNat]) rfl rfl rfl (by first|omega|(simp only[Ao,AY,Av,J2,dbl];omega)));refine MV ?_;refine MW ?_ (v:=Z9 (([1]++[UInt8.ofNat (d / 256 % 256).toNat,UInt8.ofNat (d % 256).toNat])++(lb 32 l))) (hv:=fun _=>J1d (l:=([1]++[UInt8.ofNat (d / 256 % 256).toNat,UInt8.ofNat (d % 256).toNat])) (m:=(lb 32 l)) rfl rfl rfl (by first|omega|(simp only[Ao,AY,Av,J2,dbl];omega)));refine MV ?_;refine MW ?_ (v:=Z9 ((([1]++[UInt8.ofNat (d / 256 % 256).toNat,UInt8.ofNat (d % 256).toNat])++(lb 32 l))++(lb 32 r))) (hv:=fun _=>J1d (l:=(([1]++[UInt8.ofNat (d / 256 % 256).toNat,UInt8.ofNat (d % 256).toNat])++(lb 32 l))) (m:=(lb 32 r)) rfl rfl rfl (by first|omega|(simp only[Ao,AY,Av,J2,dbl];omega)));obtain⟨U1,D⟩:=exh (hs4 ((([1]++[UInt8.ofNat (d / 256 % 256).toNat,UInt8.ofNat (d % 256).toNat])++(lb 32 l))++(lb 32 r)));refine MC (v:=Z9 (lb 32 U1)) (fun W hS=>J4g D.out (by first|omega|(simp only[Ao,AY,Av,J2,dbl];omega)) W (J5h (hG.2 hr) hS.ext)) ?_;refine MV ?_;refine MZ fun W hS=> ?_;go_wp2;exact BH (v:=Z9 (lb 32 U1)) (by simp only[results,Tryz.results79];go_simp) rfl ⟨(by(try rw[D.out]);rfl),hS.ext⟩
end

section
open S8 (Kn GA)
abbrev kn0:Kn:=⟨True,True,True,False⟩
def GX (w:AA):Prop:=GS4 w∧GA kn0 w
abbrev gxF:List Nat:=[14,10,13,12,8,9,5,6,11,4,7]
abbrev gx:As:=.p gxF GX
theorem Q9t {w:AA}(h:GX w):gx.holds w:=by
  obtain⟨⟨s1,s2⟩,⟨⟨m1,m2⟩,e1,e2,e3,e4,e5⟩,⟨r1,r2⟩,⟨o1,o2,o3,o4,o5⟩,_⟩:=h;replace e1:Rd _ _ _:=e1 trivial;replace e2:=e2 trivial;replace e3:=e3 trivial;replace e4:=e4 trivial;replace e5:=e5 trivial;refine⟨⟨⟨s1,s2⟩,⟨⟨m1,m2⟩,fun _=>e1,fun _=>e2,fun _=>e3,fun _=>e4,fun _=>e5⟩,⟨r1,r2⟩,⟨o1,o2,o3,o4,o5⟩,fun h=>h.elim⟩,fun k hk=> ?_,fun W hs he=> ?_⟩
  · simp only[gxF,List.mem_cons,List.not_mem_nil,or_false] at hk
    rcases hk with rfl|rfl|rfl|rfl|rfl|rfl|rfl|rfl|rfl|rfl|rfl
    · exact s1.2
    · exact s2.2
    · exact m1.2
    · exact e1.2
    · exact e2.2
    · exact e3.2
    · exact e4.2
    · exact e5.2
    · exact r1.2
    · exact r2.2
    exact o5
  have c:∀j v,w.cell? ⟨7,j,none⟩=some v→W.cell? ⟨7,j,none⟩=some v:=fun j v h=>(AA.cell?_of_block (w:=w) (he _ (by simp))).trans h;exact⟨⟨J2s s1 hs (he _ (by simp)),J2s s2 hs (he _ (by simp))⟩,⟨⟨J2s m1 hs (he _ (by simp)),trivial⟩,fun _=>J2s e1 hs (he _ (by simp)),fun _=>J2s e2 hs (he _ (by simp)),fun _=>J2s e3 hs (he _ (by simp)),fun _=>J2s e4 hs (he _ (by simp)),fun _=>J2s e5 hs (he _ (by simp))⟩,⟨J2s r1 hs (he _ (by simp)),J2s r2 hs (he _ (by simp))⟩,⟨c _ _ o1,c _ _ o2,c _ _ o3,c _ _ o4,Nat.lt_of_lt_of_le o5 hs⟩,fun h=>h.elim⟩
theorem GX.gt {w:AA}(h:GX w):GT False w:=⟨h.1,fun x=>x.elim⟩
theorem GX.ext {w W:AA}(h:GX w)(k:Ext w W):GX W:=⟨J29 h.1 k,S8.GA_ext h.2 k⟩
theorem GX.of {kn:Kn}{q:Prop}{w:AA}(hd:kn.d)(hb:kn.b)(hc:kn.c)(hG:GT q w)(hA:GA kn w):GX w:=⟨hG.1,⟨hA.1.1,fun _=>hA.1.2.1 hc,fun _=>hA.1.2.2.1 hc,fun _=>hA.1.2.2.2.1 hd,fun _=>hA.1.2.2.2.2.1 hb,fun _=>hA.1.2.2.2.2.2 hb⟩,hA.2.1,hA.2.2.1,fun h=>h.elim⟩
end
end Go.Proofs.YtdjacgmmidbieaaGreatDoor

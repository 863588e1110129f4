/- Contracts and plain laws for directStays_holds. Conditions: the tables hold their numbers. -/
import Derived.Test.YteehbddkcnkhfaaGreatDoorJ20
open Go.RowKit
set_option maxRecDepth 100000
set_option linter.unusedSimpArgs false
set_option linter.unusedVariables false
namespace Go.Proofs.YteehbddkcnkhfaaGreatDoor.S8
section
set_option maxHeartbeats 2000000
attribute [local irreducible] wpList V2 wpX
variable {kn : Kn}
open Sc (LL J12)
attribute [local irreducible] hs
theorem Q6d {A B:Nat}{v:Value}{w:World}(h:A=B)(c:Calls Tryz.prog 107 #[.agg (J0 .u8 32 (J5 B))] w fun e w' =>X5 v w w' e):Calls Tryz.prog 107 #[.agg (J0 .u8 32 (J5 A))] w fun e w' =>X5 v w w' e:=h▸c
theorem Z4b {w:World}{o:Oper}{a:Act}{x y:Operand}{t t' :TypeId}{i n:Nat}{c:Bool}(hc:decide (i<n)=c)(ho:o.op=.binOp .lss t x y t')(hx:a.eval x=.int .i64 (i:Int))(hy:a.eval y=.int .i64 (n:Int)):(execOp a.eval o).run Tryz.prog w=.ok (.value (.bool c)) w:=by
 have e:decide ((i:Int)<(n:Int))=c:=by rw[←hc];exact decide_eq_decide.2 Int.ofNat_lt
 simp only[execOp,ho,hx,hy,eqGuard,binOp,Sem.run_bind];simp[e,hc,go_sem,Sem.run_bind]
theorem Z4c {w:World}{o:Oper}{a:Act}{x:Operand}{i:Nat}(ho:o.op=.convert 3 5 x)(hx:a.eval x=.int .i64 (i:Int)):(execOp a.eval o).run Tryz.prog w=.ok (.value (.int .u8 ((u8 i).toNat:Int))) w:=by
 rw[J5q,show((i:Int) % 256)=w8 (i:Int) from(IntKind.wrap_u8 _).symm];exact J2j ho hx

theorem Z46 (hc:kn.c){V:Nat}{L:List UInt8}(hL:L.length≤1099511627776)(c0:Nat)(h256:c0<256)(hok:candOk V L c0=true)(hlow:∀i,i<c0→candOk V L i=false):
  ∃X Y Z T,RN X Y Z T (J47 V L c0)∧∀v w,GA kn w→Sl w v L→Calls Tryz.prog 66 #[.agg (J0 .u8 32 (J5 V)),v] w fun e w' =>X5 (.tuple #[.agg (p4 X Y Z T),.int .i64 0]) w w' e:=by
 obtain⟨χ,ψ,η,ν⟩:=Q9h (kn:=kn) hc (Q25 V L c0) (candOk_iff.1 hok).1;obtain⟨Θ,ε⟩:=exn (J61 V L c0 % 2^255);rw[←ε] at η ν;clear ε;obtain⟨γ,δ,S,α,M,ω⟩:=Q21 (kn:=kn) η.rw;replace M:RN γ δ S α (J47 V L c0):=M;refine⟨γ,δ,S,α,M,fun v w hG R=> ?_⟩;have hS:=SH.nil [] w
 go_enter Tryz.func66,Tryz.ntmps66
 go_upto_region 0 with fail;refine RL hS ?_;clear hS;refine MN (z:=J0 .u8 32 (J5 V)) (t:=23) ?_;intro K9;refine MN (z:=p4 0 0 0 0) (t:=154) ?_;intro φ;refine W0 ?_;refine MZ fun W hS=> ?_
 go_wp2_with fail
 go_loopw [10] (fun ii wr=> ∃(i:Nat),(i≤c0)∧(ii=.int .i64 (i:Int))∧SH [] w wr [.b φ (p4 0 0 0 0) 154,.b K9 (J0 .u8 32 (J5 V)) 23])
  (fun ii _=>(256-intOf ii).toNat)
 case atStart=>exact⟨0,Nat.zero_le _,rfl,hS⟩
 clear hS
 case round=>
  obtain⟨i,hi,rfl,hS⟩:=hrel;go_upto_region 2 with fail;refine RL hS ?_;clear hS;refine MW ?_ (v:=.bool true) (hv:=by intro W;exact Z4b (i:=i) (n:=256) (decide_eq_true (by omega)) rfl rfl rfl);refine MZ fun W hS=> ?_
  by_cases β:i=c0
  ·
   subst β;have D:=(candOk_iff.1 hok).1;have Δ:=(candOk_iff.1 hok).2;go_upto_region 4 with fail;refine RL hS ?_;clear hS;refine MO (m:=[3,1]) (n:=2) (z:= #[.int .u8 3,.int .u8 1]) ?_;intro ρ;refine MW ?_ (v:=.slice (some ⟨K9,0,none⟩) 32 32);refine MV ?_;refine MV ?_;refine MW ?_ (v:=.int .u8 ((UInt8.ofNat i).toNat:Int)) (hv:=by intro W;exact Z4c rfl rfl);refine MO (m:=[UInt8.ofNat i,0]) (n:=2) (z:= #[.int .u8 ((UInt8.ofNat i).toNat:Int),.int .u8 0]) ?_;intro κ;refine MB (z:= #[ρ,.slice (some ⟨K9,0,none⟩) 32 32,v,κ]) (t:=22) (n:=4) (c:=4) ?_ (hr:=fun W hS=>K6 [ρ,.slice (some ⟨K9,0,none⟩) 32 32,v,κ] rfl rfl (vsc (J8 (hS.osl (i:=1) rfl)).1 (vsc (J8 (Z6 (V:=V) (n:=32) (off:=0) (c:=32) (hS.blk (i:=3) rfl) ap0 (by decide) (by decide))).1 (vsc (J8 (J0c R hS.ext)).1 (vsc (J8 (hS.osl (i:=0) rfl)).1 vs0)))) Tryz.underlying168 (by kernel_rfl) (by kernel_rfl) rfl (by decide) (by decide));intro Ξ;obtain⟨U1,ζ⟩:=exh (hs ([3,1]++(lb 32 V)++L++[UInt8.ofNat i,0]));refine MC (v:=.agg (J0 .u8 64 (J5 U1))) (fun W hS=>J8e ζ.out [[3,1],lb 32 V,L,[UInt8.ofNat i,0]] (some ⟨Ξ,0,none⟩) 4 (by simp only[List.flatten_cons,List.flatten_nil,List.append_nil,List.nil_append,List.append_assoc,List.cons_append]) (by first|omega|(simp only[List.length_append,List.length_cons,List.length_nil,Q0];omega)) (by simp) W (J1v (hS.blk (i:=0) rfl) (pvc (hS.osl (i:=2) rfl) (pvc (Z6 (V:=V) (n:=32) (off:=0) (c:=32) (hS.blk (i:=4) rfl) ap0 (by decide) (by decide)) (pvc (J0c R hS.ext) (pvc (hS.osl (i:=1) rfl) pv0))))) (GA_ext hG hS.ext).2.1) ?_;refine MN (z:=J0 .u8 64 (J5 0)) (t:=89) ?_;intro μ;refine MR 0 ?_;refine MZ fun W hS=> ?_;go_upto_region 5 with fail;refine RL hS ?_;clear hS;refine MW ?_ (v:=.slice (some ⟨μ,0,none⟩) 32 64);refine MW ?_ (v:=.pointer (some ⟨μ,0,none⟩)) (hv:=by intro W;first|rfl|(go_simp;done)|(go_simp;with_reducible rfl));refine Ml 0 Z3w ?_;have G:lo U1=J61 V L i:=by rw[ζ.out];rfl
   refine MC (v:=.tuple #[.agg (p4 χ Θ 1 ψ),.int .i64 0]) (fun W hS=>Q6d G (ν W (GA_ext hG hS.ext).1)) ?_;refine MV ?_;refine MV ?_;refine W0 ?_;refine MN (z:=p4 0 0 0 0) (t:=154) ?_;intro D0;refine MR 0 ?_;refine W0 ?_;refine MZ fun W hS=> ?_;go_upto_region 7 with fail;refine RL hS ?_;clear hS;refine ML 0 ?_;refine MC (v:=.agg (p4 γ δ S α)) (fun W hS=>ω W (GA_ext hG hS.ext).1) ?_;refine MR 0 ?_;refine MZ fun W hS=> ?_;go_upto_region 8 with fail;refine RL hS ?_;clear hS;refine ML 0 ?_;refine MW ?_ (v:=.agg (p4 0 0 0 0)) (hv:=by intro W;kernel_rfl);have J:=Q9f (kn:=kn) M.rw Q4o;rw[show decide (J47 V L i=p0)=false from decide_eq_false Δ] at J;refine MC (v:=.bool false) (fun W hS=>J W (GA_ext hG hS.ext).1) ?_;refine Wt ?_;refine MZ fun W hS=> ?_;go_upto_region 9 with fail;refine RL hS ?_;clear hS;refine ML 0 ?_;refine MR 5 ?_;refine W0 ?_;refine MZ fun W hS=> ?_;go_wp2;exact bodyPost_ret (J03 rfl rfl rfl (hS.blk (i:=5) rfl) (by kernel_rfl) (by kernel_rfl)) rfl ⟨rfl,hS.ext⟩
  have τ:=hlow i (by omega);go_upto_region 4 with fail;refine RL hS ?_;clear hS;refine MO (m:=[3,1]) (n:=2) (z:= #[.int .u8 3,.int .u8 1]) ?_;intro θ;refine MW ?_ (v:=.slice (some ⟨K9,0,none⟩) 32 32);refine MV ?_;refine MV ?_;refine MW ?_ (v:=.int .u8 ((UInt8.ofNat i).toNat:Int)) (hv:=by intro W;exact Z4c rfl rfl);refine MO (m:=[UInt8.ofNat i,0]) (n:=2) (z:= #[.int .u8 ((UInt8.ofNat i).toNat:Int),.int .u8 0]) ?_;intro σ;refine MB (z:= #[θ,.slice (some ⟨K9,0,none⟩) 32 32,v,σ]) (t:=22) (n:=4) (c:=4) ?_ (hr:=fun W hS=>K6 [θ,.slice (some ⟨K9,0,none⟩) 32 32,v,σ] rfl rfl (vsc (J8 (hS.osl (i:=1) rfl)).1 (vsc (J8 (Z6 (V:=V) (n:=32) (off:=0) (c:=32) (hS.blk (i:=3) rfl) ap0 (by decide) (by decide))).1 (vsc (J8 (J0c R hS.ext)).1 (vsc (J8 (hS.osl (i:=0) rfl)).1 vs0)))) Tryz.underlying168 (by kernel_rfl) (by kernel_rfl) rfl (by decide) (by decide));intro Γ;obtain⟨U2,U⟩:=exh (hs ([3,1]++(lb 32 V)++L++[UInt8.ofNat i,0]));refine MC (v:=.agg (J0 .u8 64 (J5 U2))) (fun W hS=>J8e U.out [[3,1],lb 32 V,L,[UInt8.ofNat i,0]] (some ⟨Γ,0,none⟩) 4 (by simp only[List.flatten_cons,List.flatten_nil,List.append_nil,List.nil_append,List.append_assoc,List.cons_append]) (by first|omega|(simp only[List.length_append,List.length_cons,List.length_nil,Q0];omega)) (by simp) W (J1v (hS.blk (i:=0) rfl) (pvc (hS.osl (i:=2) rfl) (pvc (Z6 (V:=V) (n:=32) (off:=0) (c:=32) (hS.blk (i:=4) rfl) ap0 (by decide) (by decide)) (pvc (J0c R hS.ext) (pvc (hS.osl (i:=1) rfl) pv0))))) (GA_ext hG hS.ext).2.1) ?_;refine MN (z:=J0 .u8 64 (J5 0)) (t:=89) ?_;intro N;refine MR 0 ?_;refine MZ fun W hS=> ?_
  by_cases D:dOk (J61 V L i)=true
  ·
   go_upto_region 5 with fail;refine RL hS ?_;clear hS;refine MW ?_ (v:=.slice (some ⟨N,0,none⟩) 32 64);refine MW ?_ (v:=.pointer (some ⟨N,0,none⟩)) (hv:=by intro W;first|rfl|(go_simp;done)|(go_simp;with_reducible rfl));refine Ml 0 Z3w ?_;have G:lo U2=J61 V L i:=by rw[U.out];rfl
   obtain⟨dx,dt,dr,dc⟩:=Q9h (kn:=kn) hc (Q25 V L i) D;obtain⟨dy,ξ⟩:=exn (J61 V L i % 2^255);rw[←ξ] at dr dc;clear ξ;refine MC (v:=.tuple #[.agg (p4 dx dy 1 dt),.int .i64 0]) (fun W hS=>Q6d G (dc W (GA_ext hG hS.ext).1)) ?_;refine MV ?_;refine MV ?_;refine W0 ?_;refine MN (z:=p4 0 0 0 0) (t:=154) ?_;intro Ψ;refine MR 0 ?_;refine W0 ?_;refine MZ fun W hS=> ?_;go_upto_region 7 with fail;refine RL hS ?_;clear hS;refine ML 0 ?_;obtain⟨ex,ey,ez,et,er,ec⟩:=Q21 (kn:=kn) dr.rw;refine MC (v:=.agg (p4 ex ey ez et)) (fun W hS=>ec W (GA_ext hG hS.ext).1) ?_;refine MR 0 ?_;refine MZ fun W hS=> ?_;go_upto_region 8 with fail;refine RL hS ?_;clear hS;refine ML 0 ?_;refine MW ?_ (v:=.agg (p4 0 0 0 0)) (hv:=by intro W;kernel_rfl);have J:=Q9f (kn:=kn) er.rw Q4o;rw[show decide (pm (dPt (J61 V L i)) 8=p0)=true from decide_eq_true (Z1q τ D)] at J;refine MC (v:=.bool true) (fun W hS=>J W (GA_ext hG hS.ext).1) ?_;refine Wf ?_;refine MZ fun W hS=> ?_;go_upto_region 10 with fail;refine RL hS ?_;clear hS;refine MW ?_ (v:=.int .i64 (((i+1:Nat):Int))) (hv:=by intro W;go_simp;(try simp only[IntKind.wrap_i64]);(try omega));refine MV ?_;refine MZ fun W hS=> ?_;go_wp2;go_roundw
   case rel=>exact⟨i+1,by omega,by go_num,(hS.pick [5,6])⟩
   case measure=>simp[intOf];omega
  replace D:dOk (J61 V L i)=false:=by simpa using D
  go_upto_region 5 with fail;refine RL hS ?_;clear hS;refine MW ?_ (v:=.slice (some ⟨N,0,none⟩) 32 64);refine MW ?_ (v:=.pointer (some ⟨N,0,none⟩)) (hv:=by intro W;first|rfl|(go_simp;done)|(go_simp;with_reducible rfl));refine Ml 0 Z3w ?_;have G:lo U2=J61 V L i:=by rw[U.out];rfl
  refine MC (v:=.tuple #[.agg (p4 0 0 0 0),.int .i64 15]) (fun W hS=>Q6d G (Z3o (kn:=kn) hc (Q25 V L i) D W (GA_ext hG hS.ext).1)) ?_;refine MV ?_;refine MV ?_;refine MW ?_ (v:=.int .i64 15);refine MN (z:=p4 0 0 0 0) (t:=154) ?_;intro Ω;refine MR 0 ?_;refine MW ?_ (v:=.int .i64 15);refine MZ fun W hS=> ?_;go_upto_region 10 with fail;refine RL hS ?_;clear hS;refine MW ?_ (v:=.int .i64 (((i+1:Nat):Int))) (hv:=by intro W;go_simp;(try simp only[IntKind.wrap_i64]);(try omega));refine MV ?_;refine MZ fun W hS=> ?_;go_wp2;go_roundw
  case rel=>exact⟨i+1,by omega,by go_num,(hS.pick [5,6])⟩
  case measure=>simp[intOf];omega
theorem Z47 (hc:kn.c){V:Nat}{L:List UInt8}(hL:L.length≤1099511627776)(hlow:∀i,i<256→candOk V L i=false):
  ∀v w,GA kn w→Sl w v L→Calls Tryz.prog 66 #[.agg (J0 .u8 32 (J5 V)),v] w fun e w' =>X5 (.tuple #[.agg (p4 0 0 0 0),.int .i64 15]) w w' e:=by
 intro v w hG U;have hS:=SH.nil [] w
 go_enter Tryz.func66,Tryz.ntmps66
 go_upto_region 0 with fail;refine RL hS ?_;clear hS;refine MN (z:=J0 .u8 32 (J5 V)) (t:=23) ?_;intro K9;refine MN (z:=p4 0 0 0 0) (t:=154) ?_;intro Z;refine W0 ?_;refine MZ fun W hS=> ?_
 go_wp2_with fail
 go_loopw [10] (fun ii wr=> ∃(i:Nat),(i≤256)∧(ii=.int .i64 (i:Int))∧SH [] w wr [.b Z (p4 0 0 0 0) 154,.b K9 (J0 .u8 32 (J5 V)) 23])
  (fun ii _=>(256-intOf ii).toNat)
 case atStart=>exact⟨0,Nat.zero_le _,rfl,hS⟩
 clear hS
 case round=>
  obtain⟨i,hi,rfl,hS⟩:=hrel
  by_cases G:i<256
  ·
   have Y:=hlow i G;go_upto_region 2 with fail;refine RL hS ?_;clear hS;refine MW ?_ (v:=.bool true) (hv:=by intro W;exact Z4b (i:=i) (n:=256) (decide_eq_true G) rfl rfl rfl);refine MZ fun W hS=> ?_;go_upto_region 4 with fail;refine RL hS ?_;clear hS;refine MO (m:=[3,1]) (n:=2) (z:= #[.int .u8 3,.int .u8 1]) ?_;intro T;refine MW ?_ (v:=.slice (some ⟨K9,0,none⟩) 32 32);refine MV ?_;refine MV ?_;refine MW ?_ (v:=.int .u8 ((UInt8.ofNat i).toNat:Int)) (hv:=by intro W;exact Z4c rfl rfl);refine MO (m:=[UInt8.ofNat i,0]) (n:=2) (z:= #[.int .u8 ((UInt8.ofNat i).toNat:Int),.int .u8 0]) ?_;intro R;refine MB (z:= #[T,.slice (some ⟨K9,0,none⟩) 32 32,v,R]) (t:=22) (n:=4) (c:=4) ?_ (hr:=fun W hS=>K6 [T,.slice (some ⟨K9,0,none⟩) 32 32,v,R] rfl rfl (vsc (J8 (hS.osl (i:=1) rfl)).1 (vsc (J8 (Z6 (V:=V) (n:=32) (off:=0) (c:=32) (hS.blk (i:=3) rfl) ap0 (by decide) (by decide))).1 (vsc (J8 (J0c U hS.ext)).1 (vsc (J8 (hS.osl (i:=0) rfl)).1 vs0)))) Tryz.underlying168 (by kernel_rfl) (by kernel_rfl) rfl (by decide) (by decide));intro α;obtain⟨U1,N⟩:=exh (hs ([3,1]++(lb 32 V)++L++[UInt8.ofNat i,0]));refine MC (v:=.agg (J0 .u8 64 (J5 U1))) (fun W hS=>J8e N.out [[3,1],lb 32 V,L,[UInt8.ofNat i,0]] (some ⟨α,0,none⟩) 4 (by simp only[List.flatten_cons,List.flatten_nil,List.append_nil,List.nil_append,List.append_assoc,List.cons_append]) (by first|omega|(simp only[List.length_append,List.length_cons,List.length_nil,Q0];omega)) (by simp) W (J1v (hS.blk (i:=0) rfl) (pvc (hS.osl (i:=2) rfl) (pvc (Z6 (V:=V) (n:=32) (off:=0) (c:=32) (hS.blk (i:=4) rfl) ap0 (by decide) (by decide)) (pvc (J0c U hS.ext) (pvc (hS.osl (i:=1) rfl) pv0))))) (GA_ext hG hS.ext).2.1) ?_;refine MN (z:=J0 .u8 64 (J5 0)) (t:=89) ?_;intro M;refine MR 0 ?_;refine MZ fun W hS=> ?_
   by_cases D:dOk (J61 V L i)=true
   ·
    go_upto_region 5 with fail;refine RL hS ?_;clear hS;refine MW ?_ (v:=.slice (some ⟨M,0,none⟩) 32 64);refine MW ?_ (v:=.pointer (some ⟨M,0,none⟩)) (hv:=by intro W;first|rfl|(go_simp;done)|(go_simp;with_reducible rfl));refine Ml 0 Z3w ?_;have J:lo U1=J61 V L i:=by rw[N.out];rfl
    obtain⟨dx,dt,dr,dc⟩:=Q9h (kn:=kn) hc (Q25 V L i) D;obtain⟨dy,S⟩:=exn (J61 V L i % 2^255);rw[←S] at dr dc;clear S;refine MC (v:=.tuple #[.agg (p4 dx dy 1 dt),.int .i64 0]) (fun W hS=>Q6d J (dc W (GA_ext hG hS.ext).1)) ?_;refine MV ?_;refine MV ?_;refine W0 ?_;refine MN (z:=p4 0 0 0 0) (t:=154) ?_;intro β;refine MR 0 ?_;refine W0 ?_;refine MZ fun W hS=> ?_;go_upto_region 7 with fail;refine RL hS ?_;clear hS;refine ML 0 ?_;obtain⟨ex,ey,ez,et,er,ec⟩:=Q21 (kn:=kn) dr.rw;refine MC (v:=.agg (p4 ex ey ez et)) (fun W hS=>ec W (GA_ext hG hS.ext).1) ?_;refine MR 0 ?_;refine MZ fun W hS=> ?_;go_upto_region 8 with fail;refine RL hS ?_;clear hS;refine ML 0 ?_;refine MW ?_ (v:=.agg (p4 0 0 0 0)) (hv:=by intro W;kernel_rfl);have X:=Q9f (kn:=kn) er.rw Q4o;rw[show decide (pm (dPt (J61 V L i)) 8=p0)=true from decide_eq_true (Z1q Y D)] at X;refine MC (v:=.bool true) (fun W hS=>X W (GA_ext hG hS.ext).1) ?_;refine Wf ?_;refine MZ fun W hS=> ?_;go_upto_region 10 with fail;refine RL hS ?_;clear hS;refine MW ?_ (v:=.int .i64 (((i+1:Nat):Int))) (hv:=by intro W;go_simp;(try simp only[IntKind.wrap_i64]);(try omega));refine MV ?_;refine MZ fun W hS=> ?_;go_wp2;go_roundw
    case rel=>exact⟨i+1,by omega,by go_num,(hS.pick [5,6])⟩
    case measure=>simp[intOf];omega
   replace D:dOk (J61 V L i)=false:=by simpa using D
   go_upto_region 5 with fail;refine RL hS ?_;clear hS;refine MW ?_ (v:=.slice (some ⟨M,0,none⟩) 32 64);refine MW ?_ (v:=.pointer (some ⟨M,0,none⟩)) (hv:=by intro W;first|rfl|(go_simp;done)|(go_simp;with_reducible rfl));refine Ml 0 Z3w ?_;have J:lo U1=J61 V L i:=by rw[N.out];rfl
   refine MC (v:=.tuple #[.agg (p4 0 0 0 0),.int .i64 15]) (fun W hS=>Q6d J (Z3o (kn:=kn) hc (Q25 V L i) D W (GA_ext hG hS.ext).1)) ?_;refine MV ?_;refine MV ?_;refine MW ?_ (v:=.int .i64 15);refine MN (z:=p4 0 0 0 0) (t:=154) ?_;intro γ;refine MR 0 ?_;refine MW ?_ (v:=.int .i64 15);refine MZ fun W hS=> ?_;go_upto_region 10 with fail;refine RL hS ?_;clear hS;refine MW ?_ (v:=.int .i64 (((i+1:Nat):Int))) (hv:=by intro W;go_simp;(try simp only[IntKind.wrap_i64]);(try omega));refine MV ?_;refine MZ fun W hS=> ?_;go_wp2;go_roundw
   case rel=>exact⟨i+1,by omega,by go_num,(hS.pick [5,6])⟩
   case measure=>simp[intOf];omega
  go_upto_region 2 with fail;refine RL hS ?_;clear hS;refine MW ?_ (v:=.bool false) (hv:=by intro W;exact Z4b (i:=i) (n:=256) (decide_eq_false G) rfl rfl rfl);refine MZ fun W hS=> ?_;go_upto_region 11 with fail;refine RL hS ?_;clear hS;refine MW ?_ (v:=.agg (p4 0 0 0 0)) (hv:=by intro W;kernel_rfl);refine MR 0 ?_;refine MW ?_ (v:=.int .i64 15);refine MZ fun W hS=> ?_;go_wp2;exact bodyPost_ret (J03 rfl rfl rfl (hS.blk (i:=0) rfl) (by kernel_rfl) (by kernel_rfl)) rfl ⟨rfl,hS.ext⟩
end

section
set_option maxHeartbeats 2000000
attribute [local irreducible] wpList
variable {kn : Kn}
open Sc (LL J12)
attribute [local irreducible] hs

end

section
set_option maxHeartbeats 2000000
attribute [local irreducible] wpList
variable {kn : Kn}
open Sc (LL J12)
attribute [local irreducible] hs
def q4 (a b c d:Array Value):Array Value:=a++b++c++d
section
variable {X1 Y1 Z1 T1 X2 Y2 Z2 T2 X3 Y3 Z3 T3 X4 Y4 Z4 T4 : Nat}
theorem Z8w {X Y Z T:Nat}:(p4 X Y Z T).size=16:=rfl
theorem K4h:∀i v,(p4 X1 Y1 Z1 T1)[i]?=some v→(q4 (p4 X1 Y1 Z1 T1) (p4 X2 Y2 Z2 T2) (p4 X3 Y3 Z3 T3) (p4 X4 Y4 Z4 T4))[0+i]?=some v:=fun i v h=>by rw[Nat.zero_add];exact J2x (J2x (J2x h))
theorem K4i:∀i v,(p4 X2 Y2 Z2 T2)[i]?=some v→(q4 (p4 X1 Y1 Z1 T1) (p4 X2 Y2 Z2 T2) (p4 X3 Y3 Z3 T3) (p4 X4 Y4 Z4 T4))[16+i]?=some v:=fun i v h=>J2x (J2x (J6m Z8w h))
theorem K4j:∀i v,(p4 X3 Y3 Z3 T3)[i]?=some v→(q4 (p4 X1 Y1 Z1 T1) (p4 X2 Y2 Z2 T2) (p4 X3 Y3 Z3 T3) (p4 X4 Y4 Z4 T4))[32+i]?=some v:=fun i v h=>J2x (J6m (by rw[Array.size_append,Z8w,Z8w]) h)
theorem K4k:∀i v,(p4 X4 Y4 Z4 T4)[i]?=some v→(q4 (p4 X1 Y1 Z1 T1) (p4 X2 Y2 Z2 T2) (p4 X3 Y3 Z3 T3) (p4 X4 Y4 Z4 T4))[48+i]?=some v:=fun i v h=>J6m (by rw[Array.size_append,Array.size_append,Z8w,Z8w,Z8w]) h
end
theorem Q9s {w:World}{gP:Nat}{cs:Array Value}{t:TypeId}(h:Blk w gP cs t){P4:Array Value}{o:Nat}(hq:∀i v,P4[i]?=some v→cs[o+i]?=some v)(i:Nat)(x:Value)(hx:P4.toList[i]?=some x):w.cell? ⟨gP,o+i,none⟩=some x:=by
  rw[J3 h];exact hq i x (by rw[Array.getElem?_toList] at hx;exact hx)
theorem K4l {w:World}{gP k:Nat}{a b c d:List Value}(ha:∀i x,a[i]?=some x→w.cell? ⟨gP,0+i,none⟩=some x)(hb:∀i x,b[i]?=some x→w.cell? ⟨gP,k+i,none⟩=some x)(hc:∀i x,c[i]?=some x→w.cell? ⟨gP,2*k+i,none⟩=some x)(hd:∀i x,d[i]?=some x→w.cell? ⟨gP,3*k+i,none⟩=some x):
    RR k w (.slice (some ⟨gP,0,none⟩) 4 4) [a,b,c,d]:=by
  refine⟨_,_,rfl,Nat.le_refl _,fun e=>by(cases e),fun j e hj=>⟨gP,0,rfl,fun i x hx=> ?_⟩⟩
  match j,hj with
  |0,hj=>obtain rfl:=Option.some.inj hj;rw[show 0+0*k+i=0+i by omega];exact ha i x hx
  |1,hj=>obtain rfl:=Option.some.inj hj;rw[show 0+1*k+i=k+i by omega];exact hb i x hx
  |2,hj=>obtain rfl:=Option.some.inj hj;rw[show 0+2*k+i=2*k+i by omega];exact hc i x hx
  |3,hj=>obtain rfl:=Option.some.inj hj;rw[show 0+3*k+i=3*k+i by omega];exact hd i x hx
theorem rr4 {X1 Y1 Z1 T1 X2 Y2 Z2 T2 X3 Y3 Z3 T3 X4 Y4 Z4 T4 gP:Nat}{w:World}{t:TypeId}(h:Blk w gP (q4 (p4 X1 Y1 Z1 T1) (p4 X2 Y2 Z2 T2) (p4 X3 Y3 Z3 T3) (p4 X4 Y4 Z4 T4)) t):
    RR 16 w (.slice (some ⟨gP,0,none⟩) 4 4) [(p4 X1 Y1 Z1 T1).toList,(p4 X2 Y2 Z2 T2).toList,(p4 X3 Y3 Z3 T3).toList,(p4 X4 Y4 Z4 T4).toList]:=
  K4l (Q9s h K4h) (Q9s h K4i) (Q9s h K4j) (Q9s h K4k)
theorem V6m {V X:Nat}{X1 Y1 Z1 T1:Nat}{a1:Pr}(h1:RN X1 Y1 Z1 T1 a1){X2 Y2 Z2 T2:Nat}{a2:Pr}(h2:RN X2 Y2 Z2 T2 a2){X3 Y3 Z3 T3:Nat}{a3:Pr}(h3:RN X3 Y3 Z3 T3 a3){X4 Y4 Z4 T4:Nat}{a4:Pr}(h4:RN X4 Y4 Z4 T4 a4)(hX:X=chH V a1 a2 a3 a4):
    ∀gP w,GA kn w→Blk w gP (q4 (p4 X1 Y1 Z1 T1) (p4 X2 Y2 Z2 T2) (p4 X3 Y3 Z3 T3) (p4 X4 Y4 Z4 T4)) 154→Calls Tryz.prog 73 #[.agg (J0 .u8 32 (J5 V)),.slice (some ⟨gP,0,none⟩) 4 4] w fun e w' => ∃p,e=.returned (.slice (some ⟨p,0,none⟩) 16 64)∧w.heap.size≤p∧Off [] w w' ∧Blk w' p (J0 .u8 64 (J5 X)) 89:=by
  intro gP w hG hP;obtain⟨qs,D⟩:∃qs:List PQ,qs=[⟨X1,Y1,Z1,T1,a1⟩,⟨X2,Y2,Z2,T2,a2⟩,⟨X3,Y3,Z3,T3,a3⟩,⟨X4,Y4,Z4,T4,a4⟩]:=⟨_,rfl⟩
  have hx:RowKit.Hid (X=hs ([3,2]++lb 32 V++(qs.map fun q=>lb 32 (enc q.a)).flatten++[0])):=Lib.hid (by
    rw[hX,D];unfold chH
    congr 1)
  have hr:RR 16 w (.slice (some ⟨gP,0,none⟩) 4 4) (qs.map pqC):=by rw[D];exact rr4 hP
  have hn:qs.length≤1000:=by rw[D];simp
  refine(V6n (qs:=qs) (fun q hq=> ?_) hn hx w hG hr).mono fun e w' ⟨p,q1,hS⟩=>⟨p,q1,?_,hS.off,hS.blk (i:=0) rfl⟩
  · rw[D] at hq
    simp only[List.mem_cons,List.not_mem_nil,or_false] at hq;rcases hq with rfl|rfl|rfl|rfl
    · exact h1
    · exact h2
    · exact h3
    exact h4
  exact Nat.not_lt.1 fun h=>by cases hS.old (.b p (J0 .u8 64 (J5 X)) 89) (by simp) rfl p (by simp[As.foot]) h
end

section
set_option maxHeartbeats 2000000
attribute [local irreducible] wpList V2
variable {kn : Kn}
open Sc (LL J12)
attribute [local irreducible] hs
theorem Y95 {V m j:Nat}(hj:j<m):J5 (V % 2^(8*m)) j=J5 V j:=by
  unfold J5;have e:(2:Nat)^(8*m)=2^(8*j)*2^(8*m-8*j):=by rw[←Nat.pow_add];congr 1;omega
  have e2:(2:Nat)^(8*m-8*j)=256*2^(8*m-8*j-8):=by rw[show 8*m-8*j=8+(8*m-8*j-8) by omega,Nat.pow_add,Nat.add_sub_cancel_left]
  rw[e,Nat.mod_mul_right_div_self,e2,Nat.mod_mul_right_mod]
theorem Z78 {n m off V U:Nat}(hU:∀j,j<m→J5 U j=J5 V (off+j))(h:off+m≤n):∀i v,(J0 .u8 m (J5 U))[i]?=some v→(J0 .u8 n (J5 V))[off+i]?=some v:=fun i v hv=>by
  have hi:i<m:=by have:=(Array.getElem?_eq_some_iff.1 hv).1;rwa [J1] at this
  rw[V0 _ _ _ _ hi,hU i hi] at hv;rw[V0 _ _ _ _ (by omega)];exact hv
theorem K1x {P:Nat}:∀i v,(J0 .u8 32 (J5 (pG P)))[i]?=some v→(J0 .u8 80 (J5 P))[0+i]?=some v:=Z78 (fun j hj=>by rw[Nat.zero_add];exact Y4h hj) (by decide)
theorem V1y (P:Nat):pG P<2^256:=lo_lt P
theorem V6o (hc:kn.c){P:Nat}(hok:dOk (pG P)=false):
  ∀w,GA kn w→Calls Tryz.prog 74 #[.agg (J0 .u8 80 (J5 P))] w fun e w' =>X5 (.tuple #[.agg (J0 .u8 64 (J5 0)),.int .i64 17]) w w' e:=by
 have dc:=Z3o (kn:=kn) hc (V:=(pG P)) (V1y P) hok;intro w hG;have D:Off [] w w:=Off.refl _ _
 go_enter Tryz.func74,Tryz.ntmps74
 go_upto_region 0 with fail;refine wp_region_lit ?_;refine Ln ?_ (z:=J0 .u8 80 (J5 P)) (t:=40);intro N W1 R hO h_;replace D:=D.o hO;have J:=h_;clear hO h_ R;refine Ln ?_ (z:=J0 .u8 64 (J5 0)) (t:=89);intro U W2 M hO h_;have T:=fbn D M;replace J:=J.o hO;replace D:=D.o hO;have G:=h_;clear hO h_ M;refine Lw ?_ (v:=.int .i64 0);refine J6 ?_;go_upto_region 1 with fail;refine wp_region_lit ?_;refine Lw ?_ (v:=.slice (some ⟨N,0,none⟩) 32 80) (hv:=by first|rfl|(go_simp;done)|(go_simp;with_reducible rfl));refine Lw ?_ (v:=.pointer (some ⟨N,0,none⟩)) (hv:=by first|rfl|(go_simp;done)|(go_simp;with_reducible rfl));refine J7i (vs:=(J0 .u8 32 (J5 (pG P))).toList) (by rfl) rfl rfl J (Z86 K1x) (by kernel_rfl) (by kernel_rfl) ?_
 (try simp only[Act.put,mA,mB,mC])
 refine Lr ?_ (dc W2 (GA_ext hG D.ext).1);intro W3 hO;replace G:=G.o hO;replace D:=D.o hO;clear hO;refine Lv ?_;refine Lv ?_;refine Lw ?_ (v:=.int .i64 15);refine LnP ?_ (z:=p4 0 0 0 0) (t:=154) (cells:=p4 0 0 0 0);intro X W5 S hO h_;replace G:=G.o hO;replace D:=D.o hO;clear hO h_ S;refine Lw ?_ (v:=.int .i64 15);refine J6 ?_;go_upto_region 3 with fail;refine wp_region_lit ?_;refine Lw ?_ (v:=.agg (J0 .u8 64 (J5 0))) (hv:=by kernel_rfl);refine LpA ?_ G (k:=.u8) (n:=64) (f:=J5 0);intro W6 hO h_;replace G:Blk W6 U (J0 .u8 64 (J5 0)) 89:=h_;clear h_;replace D:=D.p hO T;clear hO;refine Lw ?_ (v:=.int .i64 17);refine J6 ?_;go_wp2;exact bodyPost_ret (J03 rfl rfl rfl G (by kernel_rfl) (by rw[J1];kernel_rfl)) rfl ⟨rfl,D.ext⟩
theorem V6p (hc:kn.c){P X:Nat}(hok:dOk (pG P)=true)(hX:X=Y96 P):
  ∀w,GA kn w→Calls Tryz.prog 74 #[.agg (J0 .u8 80 (J5 P))] w fun e w' =>X5 (.tuple #[.agg (J0 .u8 64 (J5 X)),.int .i64 0]) w w' e:=by
 obtain⟨dx,dt,dr,dc⟩:=Q9h hc (V:=(pG P)) (V1y P) hok;obtain⟨y0,γ⟩:=exn ((pG P) % 2^255);rw[←γ] at dr dc;clear γ;obtain⟨x1,y2,z3,t4,r5,c6⟩:=Q21 (kn:=kn) dr.rw;obtain⟨U1,Y⟩:=exn (enc (pm (dPt (pG P)) 8));have Θ:U1<2^256:=by rw[Y];exact Q19 _
 have Z:=Lib.hid Y;clear Y;obtain⟨U2,α⟩:=exh (hs ([3,3]++(lb 32 U1)++[0]));intro w hG;have D:Off [] w w:=Off.refl _ _
 go_enter Tryz.func74,Tryz.ntmps74
 go_upto_region 0 with fail;refine wp_region_lit ?_;refine Ln ?_ (z:=J0 .u8 80 (J5 P)) (t:=40);intro δ W1 θ hO h_;replace D:=D.o hO;have R:=h_;clear hO h_ θ;refine Ln ?_ (z:=J0 .u8 64 (J5 0)) (t:=89);intro χ W2 β hO h_;have τ:=fbn D β;replace R:=R.o hO;replace D:=D.o hO;have G:=h_;clear hO h_ β;refine Lw ?_ (v:=.int .i64 0);refine J6 ?_;go_upto_region 1 with fail;refine wp_region_lit ?_;refine Lw ?_ (v:=.slice (some ⟨δ,0,none⟩) 32 80) (hv:=by first|rfl|(go_simp;done)|(go_simp;with_reducible rfl));refine Lw ?_ (v:=.pointer (some ⟨δ,0,none⟩)) (hv:=by first|rfl|(go_simp;done)|(go_simp;with_reducible rfl));refine J7i (vs:=(J0 .u8 32 (J5 (pG P))).toList) (by rfl) rfl rfl R (Z86 K1x) (by kernel_rfl) (by kernel_rfl) ?_
 (try simp only[Act.put,mA,mB,mC])
 refine Lr ?_ (dc W2 (GA_ext hG D.ext).1);intro W3 hO;replace G:=G.o hO;replace D:=D.o hO;clear hO;refine Lv ?_;refine Lv ?_;refine Lw ?_ (v:=.int .i64 0);refine LnP ?_ (z:=p4 0 0 0 0) (t:=154) (cells:=p4 dx y0 1 dt);intro Δ W5 κ hO h_;replace G:=G.o hO;replace D:=D.o hO;have ε:=h_;clear hO h_ κ;refine Lw ?_ (v:=.int .i64 0);refine J6 ?_;go_upto_region 4 with fail;refine wp_region_lit ?_;refine L0 ?_ ε;refine Lr ?_ (c6 W5 (GA_ext hG D.ext).1);intro W6 hO;replace G:=G.o hO;replace D:=D.o hO;clear hO;refine Lr ?_ (Q68 r5.rw Z.out W6 (GA_ext hG D.ext).1);intro W7 hO;replace G:=G.o hO;replace D:=D.o hO;clear hO;refine LnA ?_ (z:=J0 .u8 32 (J5 0)) (t:=23) (k:=.u8) (n:=32) (f:=J5 U1);intro U W9 σ hO h_;replace G:=G.o hO;replace D:=D.o hO;have M:=h_;clear hO h_ σ;refine J6 ?_;go_upto_region 5 with fail;refine wp_region_lit ?_;refine LnS ?_ (z:= #[.int .u8 3,.int .u8 3]) (t:=5) (n:=2) (c:=2);intro S φ μ hO h_;replace G:=G.o hO;replace M:=M.o hO;replace D:=D.o hO;have J:Own φ (.slice (some ⟨S,0,none⟩) 2 2) [3,3]:=J2t h_ (by rfl) (by show 2≤maxLen;decide);clear hO h_ μ;refine Lw ?_ (v:=.slice (some ⟨U,0,none⟩) 32 32) (hv:=by first|rfl|(go_simp;done)|(go_simp;with_reducible rfl));refine LnS ?_ (z:= #[.int .u8 0]) (t:=5) (n:=1) (c:=1);intro T ψ η hO h_;replace G:=G.o hO;replace M:=M.o hO;replace J:=Own.off J hO f0;replace D:=D.o hO;have N:Own ψ (.slice (some ⟨T,0,none⟩) 1 1) [0]:=J2t h_ (by rfl) (by show 1≤maxLen;decide);clear hO h_ η;refine LnS ?_ (z:= #[(.slice (some ⟨S,0,none⟩) 2 2),.slice (some ⟨U,0,none⟩) 32 32,(.slice (some ⟨T,0,none⟩) 1 1)]) (t:=22) (n:=3) (c:=3) (hr:=by exact K6 [(.slice (some ⟨S,0,none⟩) 2 2),.slice (some ⟨U,0,none⟩) 32 32,(.slice (some ⟨T,0,none⟩) 1 1)] rfl rfl (vsc ((Q7j J).1) (vsc (rfl) (vsc ((Q7j N).1) vs0))) Tryz.underlying168 (by kernel_rfl) (by kernel_rfl) rfl (by decide) (by decide));intro ρ ν ζ hO h_;replace G:=G.o hO;replace M:=M.o hO;replace J:=Own.off J hO f0;replace N:=Own.off N hO f0;replace D:=D.o hO;have ω:=h_;clear hO h_ ζ;refine Lr ?_ (J8e α.out [[3,3],lb 32 U1,[0]] (some ⟨ρ,0,none⟩) 3 (by simp only[List.flatten_cons,List.flatten_nil,List.append_nil,List.nil_append,List.append_assoc,List.cons_append]) (by first|omega|(simp only[List.length_append,List.length_cons,List.length_nil,Q0];omega)) (by simp) ν (J1v ω (pvc (J.sl) (pvc (Z6 (V:=U1) (n:=32) (off:=0) M ap0 (by decide) (by decide)) (pvc (N.sl) pv0)))) (GA_ext hG D.ext).2.1);intro Γ hO;replace G:=G.o hO;replace D:=D.o hO;clear hO;refine LpA ?_ G (k:=.u8) (n:=64) (f:=J5 U2);intro ξ hO h_;replace G:Blk ξ χ (J0 .u8 64 (J5 U2)) 89:=h_;clear h_;replace D:=D.p hO τ;clear hO;refine Lw ?_ (v:=.int .i64 0);refine J6 ?_;go_wp2;rw[hX,show Y96 P=U2 by rw[α.out,Z.out];rfl];exact bodyPost_ret (J03 rfl rfl rfl G (by kernel_rfl) (by rw[J1];kernel_rfl)) rfl ⟨rfl,D.ext⟩
theorem index_c {X:Nat}(w:World):
  Calls Tryz.prog 34 #[.agg (J0 .u8 64 (J5 X))] w fun e w' =>X5 (.agg (J0 .u8 32 (J5 (lo X)))) w w' e:=by
 have D:Off [] w w:=Off.refl _ _
 go_enter Tryz.func34,Tryz.ntmps34
 go_upto_region 0 with fail;refine wp_region_lit ?_;refine Ln ?_ (z:=J0 .u8 64 (J5 X)) (t:=89);intro N W1 S hO h_;replace D:=D.o hO;have G:=h_;clear hO h_ S;refine Ln ?_ (z:=J0 .u8 32 (J5 0)) (t:=23);intro T W2 M hO h_;have R:=fbn D M;replace G:=G.o hO;replace D:=D.o hO;have J:=h_;clear hO h_ M;refine J6 ?_;go_upto_region 1 with fail;refine wp_region_lit ?_;refine Lw ?_ (v:=.slice (some ⟨N,0,none⟩) 32 64) (hv:=by first|rfl|(go_simp;done)|(go_simp;with_reducible rfl));refine Lw ?_ (v:=.pointer (some ⟨N,0,none⟩)) (hv:=by first|rfl|(go_simp;done)|(go_simp;with_reducible rfl));refine J7i (vs:=(J0 .u8 32 (J5 (lo X))).toList) (by rfl) rfl rfl G (Z86 Z3w) (by kernel_rfl) (by kernel_rfl) ?_
 (try simp only[Act.put,mA,mB,mC])
 refine LpA ?_ J (k:=.u8) (n:=32) (f:=J5 (lo X));intro W3 hO h_;replace J:Blk W3 T (J0 .u8 32 (J5 (lo X))) 23:=h_;clear h_;replace D:=D.p hO R;clear hO;refine J6 ?_;go_wp2;exact bodyPost_ret (Y0 rfl rfl J (by kernel_rfl) (by rw[J1];kernel_rfl)) rfl ⟨rfl,D.ext⟩
end
end Go.Proofs.YteehbddkcnkhfaaGreatDoor.S8

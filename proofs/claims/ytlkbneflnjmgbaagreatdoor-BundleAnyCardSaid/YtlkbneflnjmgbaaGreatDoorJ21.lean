/- Contracts and plain laws for bundleAny_holds. Conditions: the tables hold their numbers. -/
import Derived.Test.YtlkbneflnjmgbaaGreatDoorJ20
open Go.RowKit
set_option maxRecDepth 100000
set_option linter.unusedSimpArgs false
set_option linter.unusedVariables false
namespace Go.Proofs.YtlkbneflnjmgbaaGreatDoor.S8
section
set_option maxHeartbeats 2000000
attribute [local irreducible] wpList Z6 wpX
variable {kn : Kn}
open Sc (LL J10)
attribute [local irreducible] hs
theorem Q5a {A B:Nat}{v:Value}{w:World}(h:A=B)(c:Calls Tryz.prog 109 #[.agg (J0 .u8 32 (J7 B))] w fun e w' =>Ret v w w' e):Calls Tryz.prog 109 #[.agg (J0 .u8 32 (J7 A))] w fun e w' =>Ret v w w' e:=h▸c
theorem Z3c {w:World}{o:Oper}{a:Act}{x y:Operand}{t t' :TypeId}{i n:Nat}{c:Bool}(hc:decide (i<n)=c)(ho:o.op=.binOp .lss t x y t')(hx:a.eval x=.int .i64 (i:Int))(hy:a.eval y=.int .i64 (n:Int)):(execOp a.eval o).run Tryz.prog w=.ok (.value (.bool c)) w:=by
 have e:decide ((i:Int)<(n:Int))=c:=by rw[←hc];exact decide_eq_decide.2 Int.ofNat_lt
 simp only[execOp,ho,hx,hy,eqGuard,binOp,Sem.run_bind];simp[e,hc,go_sem,Sem.run_bind]
theorem Z3d {w:World}{o:Oper}{a:Act}{x:Operand}{i:Nat}(ho:o.op=.convert 3 5 x)(hx:a.eval x=.int .i64 (i:Int)):(execOp a.eval o).run Tryz.prog w=.ok (.value (.int .u8 ((u8 i).toNat:Int))) w:=by
 rw[J6e,show((i:Int) % 256)=w8 (i:Int) from(IntKind.wrap_u8 _).symm];exact Q8v ho hx

theorem Z37 (hc:kn.c){V:Nat}{L:List UInt8}(hL:L.length≤1099511627776)(c0:Nat)(h256:c0<256)(hok:J2j V L c0=true)(hlow:∀i,i<c0→J2j V L i=false):
  ∃X Y Z T,RN X Y Z T (J49 V L c0)∧∀v w,GA kn w→Sl w v L→Calls Tryz.prog 99 #[.agg (J0 .u8 32 (J7 V)),v] w fun e w' =>Ret (.tuple #[.agg (p4 X Y Z T),.int .i64 0]) w w' e:=by
 obtain⟨Ξ,Δ,ν,σ⟩:=Q8h (kn:=kn) hc (Q1r V L c0) (candOk_iff.1 hok).1;obtain⟨ψ,S⟩:=exn (J6y V L c0 % 2^255);rw[←S] at ν σ;clear S;obtain⟨β,α,U,ε,R,ω⟩:=Q1n (kn:=kn) ν.rw;replace R:RN β α U ε (J49 V L c0):=R;refine⟨β,α,U,ε,R,fun v w hG M=> ?_⟩;have hS:=SH.nil [] w
 go_enter Tryz.func99,Tryz.ntmps99
 go_upto_region 0 with fail;refine RL hS ?_;clear hS;refine MN (z:=J0 .u8 32 (J7 V)) (t:=22) ?_;intro Z8;refine MN (z:=p4 0 0 0 0) (t:=196) ?_;intro χ;refine W0 ?_;refine MZ fun W hS=> ?_
 go_wp2_with fail
 go_loopw [10] (fun ii wr=> ∃(i:Nat),(i≤c0)∧(ii=.int .i64 (i:Int))∧SH [] w wr [.b χ (p4 0 0 0 0) 196,.b Z8 (J0 .u8 32 (J7 V)) 22])
  (fun ii _=>(256-intOf ii).toNat)
 case atStart=>exact⟨0,Nat.zero_le _,rfl,hS⟩
 clear hS
 case round=>
  obtain⟨i,hi,rfl,hS⟩:=hrel;go_upto_region 2 with fail;refine RL hS ?_;clear hS;refine MW ?_ (v:=.bool true) (hv:=by intro W;exact Z3c (i:=i) (n:=256) (decide_eq_true (by omega)) rfl rfl rfl);refine MZ fun W hS=> ?_
  by_cases γ:i=c0
  ·
   subst γ;have D:=(candOk_iff.1 hok).1;have φ:=(candOk_iff.1 hok).2;go_upto_region 4 with fail;refine RL hS ?_;clear hS;refine MO (m:=[3,1]) (n:=2) (z:= #[.int .u8 3,.int .u8 1]) ?_;intro ρ;refine MW ?_ (v:=.slice (some ⟨Z8,0,none⟩) 32 32);refine MV ?_;refine MV ?_;refine MW ?_ (v:=.int .u8 ((UInt8.ofNat i).toNat:Int)) (hv:=by intro W;exact Z3d rfl rfl);refine MO (m:=[UInt8.ofNat i,0]) (n:=2) (z:= #[.int .u8 ((UInt8.ofNat i).toNat:Int),.int .u8 0]) ?_;intro θ;refine MB (z:= #[ρ,.slice (some ⟨Z8,0,none⟩) 32 32,v,θ]) (t:=35) (n:=4) (c:=4) ?_ (hr:=fun W hS=>J0a [ρ,.slice (some ⟨Z8,0,none⟩) 32 32,v,θ] rfl rfl (vsc (Q1 (hS.osl (i:=1) rfl)).1 (vsc (Q1 (V5 (V:=V) (n:=32) (off:=0) (c:=32) (hS.blk (i:=3) rfl) ap0 (by decide) (by decide))).1 (vsc (Q1 (J0i M hS.ext)).1 (vsc (Q1 (hS.osl (i:=0) rfl)).1 vs0)))) Tryz.underlying187 (by kernel_rfl) (by kernel_rfl) rfl (by decide) (by decide));intro Γ;obtain⟨U1,μ⟩:=exh (hs ([3,1]++(lb 32 V)++L++[UInt8.ofNat i,0]));refine MC (v:=.agg (J0 .u8 64 (J7 U1))) (fun W hS=>J81 μ.out [[3,1],lb 32 V,L,[UInt8.ofNat i,0]] (some ⟨Γ,0,none⟩) 4 (by simp only[List.flatten_cons,List.flatten_nil,List.append_nil,List.nil_append,List.append_assoc,List.cons_append]) (by first|omega|(simp only[List.length_append,List.length_cons,List.length_nil,J6];omega)) (by simp) W (J1q (hS.blk (i:=0) rfl) (pvc (hS.osl (i:=2) rfl) (pvc (V5 (V:=V) (n:=32) (off:=0) (c:=32) (hS.blk (i:=4) rfl) ap0 (by decide) (by decide)) (pvc (J0i M hS.ext) (pvc (hS.osl (i:=1) rfl) pv0))))) (GA_ext hG hS.ext).2.1) ?_;refine MN (z:=J0 .u8 64 (J7 0)) (t:=163) ?_;intro ξ;refine MR 0 ?_;refine MZ fun W hS=> ?_;go_upto_region 5 with fail;refine RL hS ?_;clear hS;refine MW ?_ (v:=.slice (some ⟨ξ,0,none⟩) 32 64);refine MW ?_ (v:=.pointer (some ⟨ξ,0,none⟩)) (hv:=by intro W;first|rfl|(go_simp;done)|(go_simp;with_reducible rfl));refine Ml 0 Z2x ?_;have G:lo U1=J6y V L i:=by rw[μ.out];rfl
   refine MC (v:=.tuple #[.agg (p4 Ξ ψ 1 Δ),.int .i64 0]) (fun W hS=>Q5a G (σ W (GA_ext hG hS.ext).1)) ?_;refine MV ?_;refine MV ?_;refine W0 ?_;refine MN (z:=p4 0 0 0 0) (t:=196) ?_;intro D0;refine MR 0 ?_;refine W0 ?_;refine MZ fun W hS=> ?_;go_upto_region 7 with fail;refine RL hS ?_;clear hS;refine ML 0 ?_;refine MC (v:=.agg (p4 β α U ε)) (fun W hS=>ω W (GA_ext hG hS.ext).1) ?_;refine MR 0 ?_;refine MZ fun W hS=> ?_;go_upto_region 8 with fail;refine RL hS ?_;clear hS;refine ML 0 ?_;refine MW ?_ (v:=.agg (p4 0 0 0 0)) (hv:=by intro W;kernel_rfl);have J:=Q8f (kn:=kn) R.rw Q3k;rw[show decide (J49 V L i=p0)=false from decide_eq_false φ] at J;refine MC (v:=.bool false) (fun W hS=>J W (GA_ext hG hS.ext).1) ?_;refine Wt ?_;refine MZ fun W hS=> ?_;go_upto_region 9 with fail;refine RL hS ?_;clear hS;refine ML 0 ?_;refine MR 5 ?_;refine W0 ?_;refine MZ fun W hS=> ?_;go_wp2;exact bodyPost_ret (K0 rfl rfl rfl (hS.blk (i:=5) rfl) (by kernel_rfl) (by kernel_rfl)) rfl ⟨rfl,hS.ext⟩
  have τ:=hlow i (by omega);go_upto_region 4 with fail;refine RL hS ?_;clear hS;refine MO (m:=[3,1]) (n:=2) (z:= #[.int .u8 3,.int .u8 1]) ?_;intro ζ;refine MW ?_ (v:=.slice (some ⟨Z8,0,none⟩) 32 32);refine MV ?_;refine MV ?_;refine MW ?_ (v:=.int .u8 ((UInt8.ofNat i).toNat:Int)) (hv:=by intro W;exact Z3d rfl rfl);refine MO (m:=[UInt8.ofNat i,0]) (n:=2) (z:= #[.int .u8 ((UInt8.ofNat i).toNat:Int),.int .u8 0]) ?_;intro η;refine MB (z:= #[ζ,.slice (some ⟨Z8,0,none⟩) 32 32,v,η]) (t:=35) (n:=4) (c:=4) ?_ (hr:=fun W hS=>J0a [ζ,.slice (some ⟨Z8,0,none⟩) 32 32,v,η] rfl rfl (vsc (Q1 (hS.osl (i:=1) rfl)).1 (vsc (Q1 (V5 (V:=V) (n:=32) (off:=0) (c:=32) (hS.blk (i:=3) rfl) ap0 (by decide) (by decide))).1 (vsc (Q1 (J0i M hS.ext)).1 (vsc (Q1 (hS.osl (i:=0) rfl)).1 vs0)))) Tryz.underlying187 (by kernel_rfl) (by kernel_rfl) rfl (by decide) (by decide));intro Θ;obtain⟨U2,δ⟩:=exh (hs ([3,1]++(lb 32 V)++L++[UInt8.ofNat i,0]));refine MC (v:=.agg (J0 .u8 64 (J7 U2))) (fun W hS=>J81 δ.out [[3,1],lb 32 V,L,[UInt8.ofNat i,0]] (some ⟨Θ,0,none⟩) 4 (by simp only[List.flatten_cons,List.flatten_nil,List.append_nil,List.nil_append,List.append_assoc,List.cons_append]) (by first|omega|(simp only[List.length_append,List.length_cons,List.length_nil,J6];omega)) (by simp) W (J1q (hS.blk (i:=0) rfl) (pvc (hS.osl (i:=2) rfl) (pvc (V5 (V:=V) (n:=32) (off:=0) (c:=32) (hS.blk (i:=4) rfl) ap0 (by decide) (by decide)) (pvc (J0i M hS.ext) (pvc (hS.osl (i:=1) rfl) pv0))))) (GA_ext hG hS.ext).2.1) ?_;refine MN (z:=J0 .u8 64 (J7 0)) (t:=163) ?_;intro N;refine MR 0 ?_;refine MZ fun W hS=> ?_
  by_cases D:dOk (J6y V L i)=true
  ·
   go_upto_region 5 with fail;refine RL hS ?_;clear hS;refine MW ?_ (v:=.slice (some ⟨N,0,none⟩) 32 64);refine MW ?_ (v:=.pointer (some ⟨N,0,none⟩)) (hv:=by intro W;first|rfl|(go_simp;done)|(go_simp;with_reducible rfl));refine Ml 0 Z2x ?_;have G:lo U2=J6y V L i:=by rw[δ.out];rfl
   obtain⟨dx,dt,dr,dc⟩:=Q8h (kn:=kn) hc (Q1r V L i) D;obtain⟨dy,κ⟩:=exn (J6y V L i % 2^255);rw[←κ] at dr dc;clear κ;refine MC (v:=.tuple #[.agg (p4 dx dy 1 dt),.int .i64 0]) (fun W hS=>Q5a G (dc W (GA_ext hG hS.ext).1)) ?_;refine MV ?_;refine MV ?_;refine W0 ?_;refine MN (z:=p4 0 0 0 0) (t:=196) ?_;intro Ω;refine MR 0 ?_;refine W0 ?_;refine MZ fun W hS=> ?_;go_upto_region 7 with fail;refine RL hS ?_;clear hS;refine ML 0 ?_;obtain⟨ex,ey,ez,et,er,ec⟩:=Q1n (kn:=kn) dr.rw;refine MC (v:=.agg (p4 ex ey ez et)) (fun W hS=>ec W (GA_ext hG hS.ext).1) ?_;refine MR 0 ?_;refine MZ fun W hS=> ?_;go_upto_region 8 with fail;refine RL hS ?_;clear hS;refine ML 0 ?_;refine MW ?_ (v:=.agg (p4 0 0 0 0)) (hv:=by intro W;kernel_rfl);have J:=Q8f (kn:=kn) er.rw Q3k;rw[show decide (pm (dPt (J6y V L i)) 8=p0)=true from decide_eq_true (Z0z τ D)] at J;refine MC (v:=.bool true) (fun W hS=>J W (GA_ext hG hS.ext).1) ?_;refine Wf ?_;refine MZ fun W hS=> ?_;go_upto_region 10 with fail;refine RL hS ?_;clear hS;refine MW ?_ (v:=.int .i64 (((i+1:Nat):Int))) (hv:=by intro W;go_simp;(try simp only[IntKind.wrap_i64]);(try omega));refine MV ?_;refine MZ fun W hS=> ?_;go_wp2;go_roundw
   case rel=>exact⟨i+1,by omega,by go_num,(hS.pick [5,6])⟩
   case measure=>simp[intOf];omega
  replace D:dOk (J6y V L i)=false:=by simpa using D
  go_upto_region 5 with fail;refine RL hS ?_;clear hS;refine MW ?_ (v:=.slice (some ⟨N,0,none⟩) 32 64);refine MW ?_ (v:=.pointer (some ⟨N,0,none⟩)) (hv:=by intro W;first|rfl|(go_simp;done)|(go_simp;with_reducible rfl));refine Ml 0 Z2x ?_;have G:lo U2=J6y V L i:=by rw[δ.out];rfl
  refine MC (v:=.tuple #[.agg (p4 0 0 0 0),.int .i64 15]) (fun W hS=>Q5a G (Z2p (kn:=kn) hc (Q1r V L i) D W (GA_ext hG hS.ext).1)) ?_;refine MV ?_;refine MV ?_;refine MW ?_ (v:=.int .i64 15);refine MN (z:=p4 0 0 0 0) (t:=196) ?_;intro Ψ;refine MR 0 ?_;refine MW ?_ (v:=.int .i64 15);refine MZ fun W hS=> ?_;go_upto_region 10 with fail;refine RL hS ?_;clear hS;refine MW ?_ (v:=.int .i64 (((i+1:Nat):Int))) (hv:=by intro W;go_simp;(try simp only[IntKind.wrap_i64]);(try omega));refine MV ?_;refine MZ fun W hS=> ?_;go_wp2;go_roundw
  case rel=>exact⟨i+1,by omega,by go_num,(hS.pick [5,6])⟩
  case measure=>simp[intOf];omega
theorem Z38 (hc:kn.c){V:Nat}{L:List UInt8}(hL:L.length≤1099511627776)(hlow:∀i,i<256→J2j V L i=false):
  ∀v w,GA kn w→Sl w v L→Calls Tryz.prog 99 #[.agg (J0 .u8 32 (J7 V)),v] w fun e w' =>Ret (.tuple #[.agg (p4 0 0 0 0),.int .i64 15]) w w' e:=by
 intro v w hG R;have hS:=SH.nil [] w
 go_enter Tryz.func99,Tryz.ntmps99
 go_upto_region 0 with fail;refine RL hS ?_;clear hS;refine MN (z:=J0 .u8 32 (J7 V)) (t:=22) ?_;intro Z8;refine MN (z:=p4 0 0 0 0) (t:=196) ?_;intro Z;refine W0 ?_;refine MZ fun W hS=> ?_
 go_wp2_with fail
 go_loopw [10] (fun ii wr=> ∃(i:Nat),(i≤256)∧(ii=.int .i64 (i:Int))∧SH [] w wr [.b Z (p4 0 0 0 0) 196,.b Z8 (J0 .u8 32 (J7 V)) 22])
  (fun ii _=>(256-intOf ii).toNat)
 case atStart=>exact⟨0,Nat.zero_le _,rfl,hS⟩
 clear hS
 case round=>
  obtain⟨i,hi,rfl,hS⟩:=hrel
  by_cases G:i<256
  ·
   have Y:=hlow i G;go_upto_region 2 with fail;refine RL hS ?_;clear hS;refine MW ?_ (v:=.bool true) (hv:=by intro W;exact Z3c (i:=i) (n:=256) (decide_eq_true G) rfl rfl rfl);refine MZ fun W hS=> ?_;go_upto_region 4 with fail;refine RL hS ?_;clear hS;refine MO (m:=[3,1]) (n:=2) (z:= #[.int .u8 3,.int .u8 1]) ?_;intro X;refine MW ?_ (v:=.slice (some ⟨Z8,0,none⟩) 32 32);refine MV ?_;refine MV ?_;refine MW ?_ (v:=.int .u8 ((UInt8.ofNat i).toNat:Int)) (hv:=by intro W;exact Z3d rfl rfl);refine MO (m:=[UInt8.ofNat i,0]) (n:=2) (z:= #[.int .u8 ((UInt8.ofNat i).toNat:Int),.int .u8 0]) ?_;intro T;refine MB (z:= #[X,.slice (some ⟨Z8,0,none⟩) 32 32,v,T]) (t:=35) (n:=4) (c:=4) ?_ (hr:=fun W hS=>J0a [X,.slice (some ⟨Z8,0,none⟩) 32 32,v,T] rfl rfl (vsc (Q1 (hS.osl (i:=1) rfl)).1 (vsc (Q1 (V5 (V:=V) (n:=32) (off:=0) (c:=32) (hS.blk (i:=3) rfl) ap0 (by decide) (by decide))).1 (vsc (Q1 (J0i R hS.ext)).1 (vsc (Q1 (hS.osl (i:=0) rfl)).1 vs0)))) Tryz.underlying187 (by kernel_rfl) (by kernel_rfl) rfl (by decide) (by decide));intro α;obtain⟨U1,N⟩:=exh (hs ([3,1]++(lb 32 V)++L++[UInt8.ofNat i,0]));refine MC (v:=.agg (J0 .u8 64 (J7 U1))) (fun W hS=>J81 N.out [[3,1],lb 32 V,L,[UInt8.ofNat i,0]] (some ⟨α,0,none⟩) 4 (by simp only[List.flatten_cons,List.flatten_nil,List.append_nil,List.nil_append,List.append_assoc,List.cons_append]) (by first|omega|(simp only[List.length_append,List.length_cons,List.length_nil,J6];omega)) (by simp) W (J1q (hS.blk (i:=0) rfl) (pvc (hS.osl (i:=2) rfl) (pvc (V5 (V:=V) (n:=32) (off:=0) (c:=32) (hS.blk (i:=4) rfl) ap0 (by decide) (by decide)) (pvc (J0i R hS.ext) (pvc (hS.osl (i:=1) rfl) pv0))))) (GA_ext hG hS.ext).2.1) ?_;refine MN (z:=J0 .u8 64 (J7 0)) (t:=163) ?_;intro M;refine MR 0 ?_;refine MZ fun W hS=> ?_
   by_cases D:dOk (J6y V L i)=true
   ·
    go_upto_region 5 with fail;refine RL hS ?_;clear hS;refine MW ?_ (v:=.slice (some ⟨M,0,none⟩) 32 64);refine MW ?_ (v:=.pointer (some ⟨M,0,none⟩)) (hv:=by intro W;first|rfl|(go_simp;done)|(go_simp;with_reducible rfl));refine Ml 0 Z2x ?_;have J:lo U1=J6y V L i:=by rw[N.out];rfl
    obtain⟨dx,dt,dr,dc⟩:=Q8h (kn:=kn) hc (Q1r V L i) D;obtain⟨dy,U⟩:=exn (J6y V L i % 2^255);rw[←U] at dr dc;clear U;refine MC (v:=.tuple #[.agg (p4 dx dy 1 dt),.int .i64 0]) (fun W hS=>Q5a J (dc W (GA_ext hG hS.ext).1)) ?_;refine MV ?_;refine MV ?_;refine W0 ?_;refine MN (z:=p4 0 0 0 0) (t:=196) ?_;intro β;refine MR 0 ?_;refine W0 ?_;refine MZ fun W hS=> ?_;go_upto_region 7 with fail;refine RL hS ?_;clear hS;refine ML 0 ?_;obtain⟨ex,ey,ez,et,er,ec⟩:=Q1n (kn:=kn) dr.rw;refine MC (v:=.agg (p4 ex ey ez et)) (fun W hS=>ec W (GA_ext hG hS.ext).1) ?_;refine MR 0 ?_;refine MZ fun W hS=> ?_;go_upto_region 8 with fail;refine RL hS ?_;clear hS;refine ML 0 ?_;refine MW ?_ (v:=.agg (p4 0 0 0 0)) (hv:=by intro W;kernel_rfl);have S:=Q8f (kn:=kn) er.rw Q3k;rw[show decide (pm (dPt (J6y V L i)) 8=p0)=true from decide_eq_true (Z0z Y D)] at S;refine MC (v:=.bool true) (fun W hS=>S W (GA_ext hG hS.ext).1) ?_;refine Wf ?_;refine MZ fun W hS=> ?_;go_upto_region 10 with fail;refine RL hS ?_;clear hS;refine MW ?_ (v:=.int .i64 (((i+1:Nat):Int))) (hv:=by intro W;go_simp;(try simp only[IntKind.wrap_i64]);(try omega));refine MV ?_;refine MZ fun W hS=> ?_;go_wp2;go_roundw
    case rel=>exact⟨i+1,by omega,by go_num,(hS.pick [5,6])⟩
    case measure=>simp[intOf];omega
   replace D:dOk (J6y V L i)=false:=by simpa using D
   go_upto_region 5 with fail;refine RL hS ?_;clear hS;refine MW ?_ (v:=.slice (some ⟨M,0,none⟩) 32 64);refine MW ?_ (v:=.pointer (some ⟨M,0,none⟩)) (hv:=by intro W;first|rfl|(go_simp;done)|(go_simp;with_reducible rfl));refine Ml 0 Z2x ?_;have J:lo U1=J6y V L i:=by rw[N.out];rfl
   refine MC (v:=.tuple #[.agg (p4 0 0 0 0),.int .i64 15]) (fun W hS=>Q5a J (Z2p (kn:=kn) hc (Q1r V L i) D W (GA_ext hG hS.ext).1)) ?_;refine MV ?_;refine MV ?_;refine MW ?_ (v:=.int .i64 15);refine MN (z:=p4 0 0 0 0) (t:=196) ?_;intro γ;refine MR 0 ?_;refine MW ?_ (v:=.int .i64 15);refine MZ fun W hS=> ?_;go_upto_region 10 with fail;refine RL hS ?_;clear hS;refine MW ?_ (v:=.int .i64 (((i+1:Nat):Int))) (hv:=by intro W;go_simp;(try simp only[IntKind.wrap_i64]);(try omega));refine MV ?_;refine MZ fun W hS=> ?_;go_wp2;go_roundw
   case rel=>exact⟨i+1,by omega,by go_num,(hS.pick [5,6])⟩
   case measure=>simp[intOf];omega
  go_upto_region 2 with fail;refine RL hS ?_;clear hS;refine MW ?_ (v:=.bool false) (hv:=by intro W;exact Z3c (i:=i) (n:=256) (decide_eq_false G) rfl rfl rfl);refine MZ fun W hS=> ?_;go_upto_region 11 with fail;refine RL hS ?_;clear hS;refine MW ?_ (v:=.agg (p4 0 0 0 0)) (hv:=by intro W;kernel_rfl);refine MR 0 ?_;refine MW ?_ (v:=.int .i64 15);refine MZ fun W hS=> ?_;go_wp2;exact bodyPost_ret (K0 rfl rfl rfl (hS.blk (i:=0) rfl) (by kernel_rfl) (by kernel_rfl)) rfl ⟨rfl,hS.ext⟩
end

section
set_option maxHeartbeats 2000000
attribute [local irreducible] wpList
variable {kn : Kn}
open Sc (LL J10)
attribute [local irreducible] hs

end

section
set_option maxHeartbeats 2000000
attribute [local irreducible] wpList
variable {kn : Kn}
open Sc (LL J10)
attribute [local irreducible] hs
def q4 (a b c d:Array Value):Array Value:=a++b++c++d
section
variable {X1 Y1 Z1 T1 X2 Y2 Z2 T2 X3 Y3 Z3 T3 X4 Y4 Z4 T4 : Nat}
theorem Z84 {X Y Z T:Nat}:(p4 X Y Z T).size=16:=rfl
theorem K3i:∀i v,(p4 X1 Y1 Z1 T1)[i]?=some v→(q4 (p4 X1 Y1 Z1 T1) (p4 X2 Y2 Z2 T2) (p4 X3 Y3 Z3 T3) (p4 X4 Y4 Z4 T4))[0+i]?=some v:=fun i v h=>by rw[Nat.zero_add];exact J3h (J3h (J3h h))
theorem K3j:∀i v,(p4 X2 Y2 Z2 T2)[i]?=some v→(q4 (p4 X1 Y1 Z1 T1) (p4 X2 Y2 Z2 T2) (p4 X3 Y3 Z3 T3) (p4 X4 Y4 Z4 T4))[16+i]?=some v:=fun i v h=>J3h (J3h (J79 Z84 h))
theorem K3k:∀i v,(p4 X3 Y3 Z3 T3)[i]?=some v→(q4 (p4 X1 Y1 Z1 T1) (p4 X2 Y2 Z2 T2) (p4 X3 Y3 Z3 T3) (p4 X4 Y4 Z4 T4))[32+i]?=some v:=fun i v h=>J3h (J79 (by rw[Array.size_append,Z84,Z84]) h)
theorem K3l:∀i v,(p4 X4 Y4 Z4 T4)[i]?=some v→(q4 (p4 X1 Y1 Z1 T1) (p4 X2 Y2 Z2 T2) (p4 X3 Y3 Z3 T3) (p4 X4 Y4 Z4 T4))[48+i]?=some v:=fun i v h=>J79 (by rw[Array.size_append,Array.size_append,Z84,Z84,Z84]) h
end
theorem Q8r {w:World}{gP:Nat}{cs:Array Value}{t:TypeId}(h:Blk w gP cs t){P4:Array Value}{o:Nat}(hq:∀i v,P4[i]?=some v→cs[o+i]?=some v)(i:Nat)(x:Value)(hx:P4.toList[i]?=some x):w.cell? ⟨gP,o+i,none⟩=some x:=by
  rw[J4 h];exact hq i x (by rw[Array.getElem?_toList] at hx;exact hx)
theorem K3m {w:World}{gP k:Nat}{a b c d:List Value}(ha:∀i x,a[i]?=some x→w.cell? ⟨gP,0+i,none⟩=some x)(hb:∀i x,b[i]?=some x→w.cell? ⟨gP,k+i,none⟩=some x)(hc:∀i x,c[i]?=some x→w.cell? ⟨gP,2*k+i,none⟩=some x)(hd:∀i x,d[i]?=some x→w.cell? ⟨gP,3*k+i,none⟩=some x):
    RR k w (.slice (some ⟨gP,0,none⟩) 4 4) [a,b,c,d]:=by
  refine⟨_,_,rfl,Nat.le_refl _,fun e=>by(cases e),fun j e hj=>⟨gP,0,rfl,fun i x hx=> ?_⟩⟩
  match j,hj with
  |0,hj=>obtain rfl:=Option.some.inj hj;rw[show 0+0*k+i=0+i by omega];exact ha i x hx
  |1,hj=>obtain rfl:=Option.some.inj hj;rw[show 0+1*k+i=k+i by omega];exact hb i x hx
  |2,hj=>obtain rfl:=Option.some.inj hj;rw[show 0+2*k+i=2*k+i by omega];exact hc i x hx
  |3,hj=>obtain rfl:=Option.some.inj hj;rw[show 0+3*k+i=3*k+i by omega];exact hd i x hx
theorem rr4 {X1 Y1 Z1 T1 X2 Y2 Z2 T2 X3 Y3 Z3 T3 X4 Y4 Z4 T4 gP:Nat}{w:World}{t:TypeId}(h:Blk w gP (q4 (p4 X1 Y1 Z1 T1) (p4 X2 Y2 Z2 T2) (p4 X3 Y3 Z3 T3) (p4 X4 Y4 Z4 T4)) t):
    RR 16 w (.slice (some ⟨gP,0,none⟩) 4 4) [(p4 X1 Y1 Z1 T1).toList,(p4 X2 Y2 Z2 T2).toList,(p4 X3 Y3 Z3 T3).toList,(p4 X4 Y4 Z4 T4).toList]:=
  K3m (Q8r h K3i) (Q8r h K3j) (Q8r h K3k) (Q8r h K3l)
theorem V6b {V X:Nat}{X1 Y1 Z1 T1:Nat}{a1:Pr}(h1:RN X1 Y1 Z1 T1 a1){X2 Y2 Z2 T2:Nat}{a2:Pr}(h2:RN X2 Y2 Z2 T2 a2){X3 Y3 Z3 T3:Nat}{a3:Pr}(h3:RN X3 Y3 Z3 T3 a3){X4 Y4 Z4 T4:Nat}{a4:Pr}(h4:RN X4 Y4 Z4 T4 a4)(hX:X=chH V a1 a2 a3 a4):
    ∀gP w,GA kn w→Blk w gP (q4 (p4 X1 Y1 Z1 T1) (p4 X2 Y2 Z2 T2) (p4 X3 Y3 Z3 T3) (p4 X4 Y4 Z4 T4)) 196→Calls Tryz.prog 104 #[.agg (J0 .u8 32 (J7 V)),.slice (some ⟨gP,0,none⟩) 4 4] w fun e w' => ∃p,e=.returned (.slice (some ⟨p,0,none⟩) 16 64)∧w.heap.size≤p∧Off [] w w' ∧Blk w' p (J0 .u8 64 (J7 X)) 163:=by
  intro gP w hG hP;obtain⟨qs,D⟩:∃qs:List PQ,qs=[⟨X1,Y1,Z1,T1,a1⟩,⟨X2,Y2,Z2,T2,a2⟩,⟨X3,Y3,Z3,T3,a3⟩,⟨X4,Y4,Z4,T4,a4⟩]:=⟨_,rfl⟩
  have hx:RowKit.Hid (X=hs ([3,2]++lb 32 V++(qs.map fun q=>lb 32 (enc q.a)).flatten++[0])):=Lib.hid (by
    rw[hX,D];unfold chH
    congr 1)
  have hr:RR 16 w (.slice (some ⟨gP,0,none⟩) 4 4) (qs.map pqC):=by rw[D];exact rr4 hP
  have hn:qs.length≤1000:=by rw[D];simp
  refine(V6c (qs:=qs) (fun q hq=> ?_) hn hx w hG hr).mono fun e w' ⟨p,q1,hS⟩=>⟨p,q1,?_,hS.off,hS.blk (i:=0) rfl⟩
  · rw[D] at hq
    simp only[List.mem_cons,List.not_mem_nil,or_false] at hq;rcases hq with rfl|rfl|rfl|rfl
    · exact h1
    · exact h2
    · exact h3
    exact h4
  exact Nat.not_lt.1 fun h=>by cases hS.old (.b p (J0 .u8 64 (J7 X)) 163) (by simp) rfl p (by simp[As.foot]) h
end

section
set_option maxHeartbeats 2000000
attribute [local irreducible] wpList Z6
variable {kn : Kn}
open Sc (LL J10)
attribute [local irreducible] hs
theorem Y99 {V m j:Nat}(hj:j<m):J7 (V % 2^(8*m)) j=J7 V j:=by
  unfold J7;have e:(2:Nat)^(8*m)=2^(8*j)*2^(8*m-8*j):=by rw[←Nat.pow_add];congr 1;omega
  have e2:(2:Nat)^(8*m-8*j)=256*2^(8*m-8*j-8):=by rw[show 8*m-8*j=8+(8*m-8*j-8) by omega,Nat.pow_add,Nat.add_sub_cancel_left]
  rw[e,Nat.mod_mul_right_div_self,e2,Nat.mod_mul_right_mod]
theorem Z67 {n m off V U:Nat}(hU:∀j,j<m→J7 U j=J7 V (off+j))(h:off+m≤n):∀i v,(J0 .u8 m (J7 U))[i]?=some v→(J0 .u8 n (J7 V))[off+i]?=some v:=fun i v hv=>by
  have hi:i<m:=by have:=(Array.getElem?_eq_some_iff.1 hv).1;rwa [J1] at this
  rw[K7 _ _ _ _ hi,hU i hi] at hv;rw[K7 _ _ _ _ (by omega)];exact hv
theorem K0z {P:Nat}:∀i v,(J0 .u8 32 (J7 (pG P)))[i]?=some v→(J0 .u8 80 (J7 P))[0+i]?=some v:=Z67 (fun j hj=>by rw[Nat.zero_add];exact Y45 hj) (by decide)
theorem V1y (P:Nat):pG P<2^256:=lo_lt P
theorem V6d (hc:kn.c){P:Nat}(hok:dOk (pG P)=false):
  ∀w,GA kn w→Calls Tryz.prog 78 #[.agg (J0 .u8 80 (J7 P))] w fun e w' =>Ret (.tuple #[.agg (J0 .u8 64 (J7 0)),.int .i64 17]) w w' e:=by
 have dc:=Z2p (kn:=kn) hc (V:=(pG P)) (V1y P) hok;intro w hG;have D:Off [] w w:=Off.refl _ _
 go_enter Tryz.func78,Tryz.ntmps78
 go_upto_region 0 with fail;refine wp_region_lit ?_;refine Ln ?_ (z:=J0 .u8 80 (J7 P)) (t:=53);intro M W1 U hO h_;replace D:=D.o hO;have J:=h_;clear hO h_ U;refine Ln ?_ (z:=J0 .u8 64 (J7 0)) (t:=163);intro R W2 N hO h_;have T:=fbn D N;replace J:=J.o hO;replace D:=D.o hO;have G:=h_;clear hO h_ N;refine Lw ?_ (v:=.int .i64 0);refine J2 ?_;go_upto_region 1 with fail;refine wp_region_lit ?_;refine Lw ?_ (v:=.slice (some ⟨M,0,none⟩) 32 80) (hv:=by first|rfl|(go_simp;done)|(go_simp;with_reducible rfl));refine Lw ?_ (v:=.pointer (some ⟨M,0,none⟩)) (hv:=by first|rfl|(go_simp;done)|(go_simp;with_reducible rfl));refine J78 (vs:=(J0 .u8 32 (J7 (pG P))).toList) (by rfl) rfl rfl J (Z7d K0z) (by kernel_rfl) (by kernel_rfl) ?_
 (try simp only[Act.put,mA,mB,mC])
 refine Lr ?_ (dc W2 (GA_ext hG D.ext).1);intro W3 hO;replace G:=G.o hO;replace D:=D.o hO;clear hO;refine Lv ?_;refine Lv ?_;refine Lw ?_ (v:=.int .i64 15);refine LnP ?_ (z:=p4 0 0 0 0) (t:=196) (cells:=p4 0 0 0 0);intro X W5 S hO h_;replace G:=G.o hO;replace D:=D.o hO;clear hO h_ S;refine Lw ?_ (v:=.int .i64 15);refine J2 ?_;go_upto_region 3 with fail;refine wp_region_lit ?_;refine Lw ?_ (v:=.agg (J0 .u8 64 (J7 0))) (hv:=by kernel_rfl);refine LpA ?_ G (k:=.u8) (n:=64) (f:=J7 0);intro W6 hO h_;replace G:Blk W6 R (J0 .u8 64 (J7 0)) 163:=h_;clear h_;replace D:=D.p hO T;clear hO;refine Lw ?_ (v:=.int .i64 17);refine J2 ?_;go_wp2;exact bodyPost_ret (K0 rfl rfl rfl G (by kernel_rfl) (by rw[J1];kernel_rfl)) rfl ⟨rfl,D.ext⟩
theorem V6e (hc:kn.c){P X:Nat}(hok:dOk (pG P)=true)(hX:X=Y9a P):
  ∀w,GA kn w→Calls Tryz.prog 78 #[.agg (J0 .u8 80 (J7 P))] w fun e w' =>Ret (.tuple #[.agg (J0 .u8 64 (J7 X)),.int .i64 0]) w w' e:=by
 obtain⟨dx,dt,dr,dc⟩:=Q8h hc (V:=(pG P)) (V1y P) hok;obtain⟨y0,α⟩:=exn ((pG P) % 2^255);rw[←α] at dr dc;clear α;obtain⟨x1,y2,z3,t4,r5,c6⟩:=Q1n (kn:=kn) dr.rw;obtain⟨U1,U⟩:=exn (enc (pm (dPt (pG P)) 8));have Γ:U1<2^256:=by rw[U];exact Q0l _
 have β:=Lib.hid U;clear U;obtain⟨U2,γ⟩:=exh (hs ([3,3]++(lb 32 U1)++[0]));intro w hG;have D:Off [] w w:=Off.refl _ _
 go_enter Tryz.func78,Tryz.ntmps78
 go_upto_region 0 with fail;refine wp_region_lit ?_;refine Ln ?_ (z:=J0 .u8 80 (J7 P)) (t:=53);intro Z W1 ω hO h_;replace D:=D.o hO;have R:=h_;clear hO h_ ω;refine Ln ?_ (z:=J0 .u8 64 (J7 0)) (t:=163);intro σ W2 δ hO h_;have ψ:=fbn D δ;replace R:=R.o hO;replace D:=D.o hO;have G:=h_;clear hO h_ δ;refine Lw ?_ (v:=.int .i64 0);refine J2 ?_;go_upto_region 1 with fail;refine wp_region_lit ?_;refine Lw ?_ (v:=.slice (some ⟨Z,0,none⟩) 32 80) (hv:=by first|rfl|(go_simp;done)|(go_simp;with_reducible rfl));refine Lw ?_ (v:=.pointer (some ⟨Z,0,none⟩)) (hv:=by first|rfl|(go_simp;done)|(go_simp;with_reducible rfl));refine J78 (vs:=(J0 .u8 32 (J7 (pG P))).toList) (by rfl) rfl rfl R (Z7d K0z) (by kernel_rfl) (by kernel_rfl) ?_
 (try simp only[Act.put,mA,mB,mC])
 refine Lr ?_ (dc W2 (GA_ext hG D.ext).1);intro W3 hO;replace G:=G.o hO;replace D:=D.o hO;clear hO;refine Lv ?_;refine Lv ?_;refine Lw ?_ (v:=.int .i64 0);refine LnP ?_ (z:=p4 0 0 0 0) (t:=196) (cells:=p4 dx y0 1 dt);intro Θ W5 τ hO h_;replace G:=G.o hO;replace D:=D.o hO;have ε:=h_;clear hO h_ τ;refine Lw ?_ (v:=.int .i64 0);refine J2 ?_;go_upto_region 4 with fail;refine wp_region_lit ?_;refine L0 ?_ ε;refine Lr ?_ (c6 W5 (GA_ext hG D.ext).1);intro W6 hO;replace G:=G.o hO;replace D:=D.o hO;clear hO;refine Lr ?_ (Q53 r5.rw β.out W6 (GA_ext hG D.ext).1);intro W7 hO;replace G:=G.o hO;replace D:=D.o hO;clear hO;refine LnA ?_ (z:=J0 .u8 32 (J7 0)) (t:=22) (k:=.u8) (n:=32) (f:=J7 U1);intro S W9 ν hO h_;replace G:=G.o hO;replace D:=D.o hO;have M:=h_;clear hO h_ ν;refine J2 ?_;go_upto_region 5 with fail;refine wp_region_lit ?_;refine LnS ?_ (z:= #[.int .u8 3,.int .u8 3]) (t:=5) (n:=2) (c:=2);intro T κ μ hO h_;replace G:=G.o hO;replace M:=M.o hO;replace D:=D.o hO;have J:Own κ (.slice (some ⟨T,0,none⟩) 2 2) [3,3]:=J1s h_ (by rfl) (by show 2≤maxLen;decide);clear hO h_ μ;refine Lw ?_ (v:=.slice (some ⟨S,0,none⟩) 32 32) (hv:=by first|rfl|(go_simp;done)|(go_simp;with_reducible rfl));refine LnS ?_ (z:= #[.int .u8 0]) (t:=5) (n:=1) (c:=1);intro Y ζ η hO h_;replace G:=G.o hO;replace M:=M.o hO;replace J:=Own.off J hO f0;replace D:=D.o hO;have N:Own ζ (.slice (some ⟨Y,0,none⟩) 1 1) [0]:=J1s h_ (by rfl) (by show 1≤maxLen;decide);clear hO h_ η;refine LnS ?_ (z:= #[(.slice (some ⟨T,0,none⟩) 2 2),.slice (some ⟨S,0,none⟩) 32 32,(.slice (some ⟨Y,0,none⟩) 1 1)]) (t:=35) (n:=3) (c:=3) (hr:=by exact J0a [(.slice (some ⟨T,0,none⟩) 2 2),.slice (some ⟨S,0,none⟩) 32 32,(.slice (some ⟨Y,0,none⟩) 1 1)] rfl rfl (vsc ((J77 J).1) (vsc (rfl) (vsc ((J77 N).1) vs0))) Tryz.underlying187 (by kernel_rfl) (by kernel_rfl) rfl (by decide) (by decide));intro φ θ ξ hO h_;replace G:=G.o hO;replace M:=M.o hO;replace J:=Own.off J hO f0;replace N:=Own.off N hO f0;replace D:=D.o hO;have ρ:=h_;clear hO h_ ξ;refine Lr ?_ (J81 γ.out [[3,3],lb 32 U1,[0]] (some ⟨φ,0,none⟩) 3 (by simp only[List.flatten_cons,List.flatten_nil,List.append_nil,List.nil_append,List.append_assoc,List.cons_append]) (by first|omega|(simp only[List.length_append,List.length_cons,List.length_nil,J6];omega)) (by simp) θ (J1q ρ (pvc (J.sl) (pvc (V5 (V:=U1) (n:=32) (off:=0) M ap0 (by decide) (by decide)) (pvc (N.sl) pv0)))) (GA_ext hG D.ext).2.1);intro Δ hO;replace G:=G.o hO;replace D:=D.o hO;clear hO;refine LpA ?_ G (k:=.u8) (n:=64) (f:=J7 U2);intro χ hO h_;replace G:Blk χ σ (J0 .u8 64 (J7 U2)) 163:=h_;clear h_;replace D:=D.p hO ψ;clear hO;refine Lw ?_ (v:=.int .i64 0);refine J2 ?_;go_wp2;rw[hX,show Y9a P=U2 by rw[γ.out,β.out];rfl];exact bodyPost_ret (K0 rfl rfl rfl G (by kernel_rfl) (by rw[J1];kernel_rfl)) rfl ⟨rfl,D.ext⟩
theorem index_c {X:Nat}(w:World):
  Calls Tryz.prog 79 #[.agg (J0 .u8 64 (J7 X))] w fun e w' =>Ret (.agg (J0 .u8 32 (J7 (lo X)))) w w' e:=by
 have D:Off [] w w:=Off.refl _ _
 go_enter Tryz.func79,Tryz.ntmps79
 go_upto_region 0 with fail;refine wp_region_lit ?_;refine Ln ?_ (z:=J0 .u8 64 (J7 X)) (t:=163);intro M W1 S hO h_;replace D:=D.o hO;have G:=h_;clear hO h_ S;refine Ln ?_ (z:=J0 .u8 32 (J7 0)) (t:=22);intro T W2 N hO h_;have R:=fbn D N;replace G:=G.o hO;replace D:=D.o hO;have J:=h_;clear hO h_ N;refine J2 ?_;go_upto_region 1 with fail;refine wp_region_lit ?_;refine Lw ?_ (v:=.slice (some ⟨M,0,none⟩) 32 64) (hv:=by first|rfl|(go_simp;done)|(go_simp;with_reducible rfl));refine Lw ?_ (v:=.pointer (some ⟨M,0,none⟩)) (hv:=by first|rfl|(go_simp;done)|(go_simp;with_reducible rfl));refine J78 (vs:=(J0 .u8 32 (J7 (lo X))).toList) (by rfl) rfl rfl G (Z7d Z2x) (by kernel_rfl) (by kernel_rfl) ?_
 (try simp only[Act.put,mA,mB,mC])
 refine LpA ?_ J (k:=.u8) (n:=32) (f:=J7 (lo X));intro W3 hO h_;replace J:Blk W3 T (J0 .u8 32 (J7 (lo X))) 22:=h_;clear h_;replace D:=D.p hO R;clear hO;refine J2 ?_;go_wp2;exact bodyPost_ret (Z0 rfl rfl J (by kernel_rfl) (by rw[J1];kernel_rfl)) rfl ⟨rfl,D.ext⟩
end
end Go.Proofs.YtlkbneflnjmgbaaGreatDoor.S8

/- Contracts and plain laws for bundleAny_holds. Conditions: the tables hold their numbers. -/
import Derived.Test.YtlkbneflnjmgbaaGreatDoorJ23
open Go.RowKit
set_option maxRecDepth 100000
set_option linter.unusedSimpArgs false
set_option linter.unusedVariables false
namespace Go.Proofs.YtlkbneflnjmgbaaGreatDoor
section
set_option maxHeartbeats 3000000
attribute [local irreducible] wpList Z6 wpX
attribute [local irreducible] eI be8 hs4 lb J3e J2f J01 xt hm

theorem Z6z (n:Int)(X:Nat)(hx:n % 18446744073709551616=(X:Int))(w:World):
  Calls Tryz.prog 83 #[.int .i64 n] w fun e w' => ∃u,e=.returned u∧SH [] w w' [.o u (be8 X)]:=by
 have M:IntKind.wrap .u64 n=(X:Int):=by rw[IntKind.wrap_u64];exact hx
 have hS:=SH.nil [] w
 go_enter Tryz.func83,Tryz.ntmps83
 go_upto_region 1 with fail;refine RL hS ?_;clear hS;refine MK (n:=8) (by first|omega|(simp only[lA,lM,lT,lD,lC,lN,J6,K5,V0,V1];omega)) ?_;intro G;refine MV ?_;refine MZ fun W hS=> ?_;go_upto_region 2 with fail;refine RL hS ?_;clear hS;refine MV ?_;refine MF (v:=.int .i64 8) (fun W hS=>(by rw[show(8:Int)=((List.replicate 8 (0:UInt8)).length:Int) from rfl];exact X5 (hS.osl (i:=0) rfl) rfl rfl)) ?_;refine W0 ?_;refine MZ fun W hS=> ?_
 go_wp2_with fail
 go_loopw [8] (fun jj wr=> ∃(j:Nat),(j≤8)∧(jj=.int .i64 (j:Int))∧SH [] w wr [.o G (nz X j)])
  (fun jj _=>8-(intOf jj).toNat)
 case atStart=>exact⟨0,Nat.zero_le _,rfl,(by have h_:=hS;exact h_)⟩
 clear hS
 case round=>
  obtain⟨j,hj,rfl,hS⟩:=hrel
  by_cases D:j<8
  ·
   go_upto_region 3 with fail;refine RL hS ?_;clear hS;refine Wto ?_;refine MZ fun W hS=> ?_;go_upto_region 5 with fail;refine RL hS ?_;clear hS;(iterate 3 refine MV ?_);refine MW ?_ (v:=.int .u64 (X:Int)) (hv:=by intro W;go_simp;(try simp only[M]));refine MV ?_;refine MW ?_ (v:=.int .i64 ((7-j:Nat):Int)) (hv:=by intro W;go_simp;(try simp only[IntKind.wrap_i64]);omega);refine MW ?_ (v:=.int .i64 ((8*(7-j):Nat):Int)) (hv:=by intro W;go_simp;(try simp only[IntKind.wrap_i64]);omega);refine MW ?_ (v:=.int .u64 ((X / 2^(8*(7-j)):Nat):Int)) (hv:=by intro W;exact Q9m (by omega) rfl rfl rfl);refine MW ?_ (v:=.int .u8 ((by8 X j).toNat:Int)) (hv:=by intro W;exact Z42 rfl rfl Tryz.underlying43 Tryz.underlying5);refine MIo 0 j (l:=(nz X j)) (by rw[Z9r X (by omega)];omega) ?_;intro N _ J;refine MPo 0 (j:=j) (b:=(by8 X j)) (l:=(nz X j)) (by rw[Z9r X (by omega)];omega) J.out ?_;refine MT (fun W hS=>by rw[show(nz X j).set j (by8 X j)=nz X (j+1) from Y6g X D] at hS;exact hS) ?_;refine MZ fun W hS=> ?_;go_wp2;go_roundw
   case rel=>exact⟨j+1,by omega,by go_num,hS⟩
   case measure=>simp[intOf];omega
  obtain rfl:j=8:=by omega
  rw[K2p] at hS;go_upto_region 3 with fail;refine RL hS ?_;clear hS;refine Wfo ?_;refine MZ fun W hS=> ?_;go_wp2;exact bodyPost_ret (v:=G) (by simp only[results,Tryz.results83];go_simp) rfl ⟨_,rfl,hS.pick [0]⟩
theorem Q7e (n:Int)(w:World):Calls Tryz.prog 83 #[.int .i64 n] w fun e w' => ∃u,e=.returned u∧SH [] w w' [.o u (eI n)]:=by
 have h:=Z6z n (n % 18446744073709551616).toNat (by omega) w;unfold eI;exact h
theorem Q7f {q:Prop}{o i R:Nat}{n:Int}{v:Value}{x:List UInt8}(hR:R=bnd o i n x)(w:World)(hG:GT q w)(hx:Sl w v x)(hl:x.length≤100000000):
  Calls Tryz.prog 84 #[.agg (J0 .u8 32 (J7 o)),.agg (J0 .u8 32 (J7 i)),.int .i64 n,v] w fun e w' =>Ret (.agg (J0 .u8 32 (J7 R))) w w' e:=by
 have hS:=SH.nil [] w
 go_enter Tryz.func84,Tryz.ntmps84
 go_upto_region 0 with fail;refine RL hS ?_;clear hS;refine MN (z:=J0 .u8 32 (J7 o)) (t:=22) ?_;intro M;refine MN (z:=J0 .u8 32 (J7 i)) (t:=22) ?_;intro D;refine MN (z:=J0 .u8 32 (J7 0)) (t:=22) ?_;intro S;refine MZ fun W hS=> ?_;go_upto_region 1 with fail;refine RTp [1,2] (.q 0 (.q 1 (.q 2 (.q 4 (.e 3 (.e 5 (.e 6 (.e 7 .z)))))))) hS ?_;clear hS;refine TW ?_ (v:=.slice (some ⟨M,0,none⟩) 32 32);refine TW ?_ (v:=.slice (some ⟨D,0,none⟩) 32 32);refine TV ?_;refine TV ?_;refine TE (fun _ h=>h.pick [1,2]) ?_;refine ME (V:=fun v=>v) (fun W hS=>J47 hS (Q7e n W) (fun _=>⟨rfl,rfl⟩)) ?_;intro J;refine TNp [0,2,3] [1,2] ?_;refine TE (fun _ h=>h.pick [0,2,3]) ?_;refine MB (z:= #[.slice (some ⟨D,0,none⟩) 32 32,J,v]) (t:=35) (n:=3) (c:=3) ?_ (hr:=fun W hS=>J0a [.slice (some ⟨D,0,none⟩) 32 32,J,v] rfl rfl (vsc (Q1 (V5 (V:=i) (n:=32) (off:=0) (c:=32) (hS.blk (i:=2) rfl) ap0 (by decide) (by decide))).1 (vsc (Q1 (hS.osl (i:=0) rfl)).1 (vsc (Q1 (J0i hx hS.ext)).1 vs0))) Tryz.underlying187 (by kernel_rfl) (by kernel_rfl) rfl (by decide) (by decide));intro N;refine TNp [0,1,3,4] [1,2,3] ?_;refine TE (fun _ h=>h.pick [0,1,3,4]) ?_;obtain⟨U1,G⟩:=exh (hm o ((lb 32 i)++(eI n)++x));refine MC (v:=.agg (J0 .u8 32 (J7 U1))) (fun W hS=>Q7c [lb 32 i,eI n,x] (some ⟨N,0,none⟩) 3 (F:=(lb 32 i)++(eI n)++x) (by simp only[List.flatten_cons,List.flatten_nil,List.append_nil,List.nil_append,List.append_assoc,List.cons_append]) (by first|omega|(simp only[lA,lM,lT,lD,lC,lN,J6,J22,J0s,K5,V0,V1,J4k];omega)) (by simp) G.out W (J1q (hS.blk (i:=0) rfl) (pvc (V5 (V:=i) (n:=32) (off:=0) (c:=32) (hS.blk (i:=3) rfl) ap0 (by decide) (by decide)) (pvc (hS.osl (i:=1) rfl) (pvc (J0i hx hS.ext) pv0)))) (V5 (V:=o) (n:=32) (off:=0) (c:=32) (hS.blk (i:=4) rfl) ap0 (by decide) (by decide)) (J0y hG hS.ext)) ?_;refine TNp [0,1,3,4] [0,1,2,3] ?_;refine TE (fun _ h=>h.pick [0,1,3,4]) ?_;refine MR 2 ?_;refine TNp [0,1,3,4] [0,1,2,3] ?_;refine TZ (fun _ h=>h.pick [0,1,3,4]) fun W hS=> ?_;rw[show U1=R by rw[hR];try rw[G.out];first|done|rfl] at hS;go_wp2;exact bodyPost_ret (Z0 rfl rfl (hS.blk (i:=2) rfl) (by kernel_rfl) (by rw[J1];kernel_rfl)) rfl ⟨rfl,hS.ext⟩
theorem V2r {P:Program}{fn:Func}{p q:Tmp}{ty t tz t2:TypeId}{tmps:Array Value}{w:World}{g g2:Nat}{cs cs2:Array Value}(h:fn.results= #[.cell p ty,.cell q tz])
 (hp:tmps.getD p undef=.pointer (some ⟨g,0,none⟩)) (hq:tmps.getD q undef=.pointer (some ⟨g2,0,none⟩)) (hB:Blk w g cs t) (hB2:Blk w g2 cs2 t2) (hk:(P.underlying ty).map TypeDesc.isRow=some true) (hk2:(P.underlying tz).map TypeDesc.isRow=some true) (hi:(P.info? ty).map (·.size)=some cs.size) (hi2:(P.info? tz).map (·.size)=some cs2.size):
 (results fn tmps).run P w=.ok (.tuple #[.agg cs,.agg cs2]) w:=by
 cases hu:P.underlying ty with
 |none=>simp[hu] at hk
 |some d=>
 cases hu2:P.underlying tz with
 |none=>simp[hu2] at hk2
 |some d2=>
 have hd:d.isRow=true:=by simpa[hu] using hk
 have D:d2.isRow=true:=by simpa[hu2] using hk2
 have hp' :tmps[p]?.getD undef=.pointer (some ⟨g,0,none⟩):=by simpa using hp
 have hq' :tmps[q]?.getD undef=.pointer (some ⟨g2,0,none⟩):=by simpa using hq
 simp[results,h,hp',hq',asAddr,run_loadVar_row w g t ty cs _ d hB hu (by cases d<;>simp_all [TypeDesc.isRow]) hi,run_loadVar_row w g2 t2 tz cs2 _ d2 hB2 hu2 (by cases d2<;>simp_all [TypeDesc.isRow]) hi2]
theorem Y6m {q:Prop}{b i R O:Nat}{n:Int}{v:Value}{x:List UInt8}(hO:O=opn b i n)(hR:R=bnd (opn b i n) i n x)(w:World)(hG:GT q w)(hx:Sl w v x)(hl:x.length≤100000000):
  Calls Tryz.prog 52 #[.agg (J0 .u8 32 (J7 b)),.agg (J0 .u8 32 (J7 i)),.int .i64 n,v] w fun e w' =>Ret (.tuple #[.agg (J0 .u8 32 (J7 R)),.agg (J0 .u8 32 (J7 O))]) w w' e:=by
 have hS:=SH.nil [] w
 go_enter Tryz.func52,Tryz.ntmps52
 go_upto_region 0 with fail;refine RL hS ?_;clear hS;refine MN (z:=J0 .u8 32 (J7 b)) (t:=22) ?_;intro T;refine MN (z:=J0 .u8 32 (J7 i)) (t:=22) ?_;intro G;refine MN (z:=J0 .u8 32 (J7 0)) (t:=22) ?_;intro β;refine MN (z:=J0 .u8 32 (J7 0)) (t:=22) ?_;intro γ;refine MZ fun W hS=> ?_;go_upto_region 1 with fail;refine RJ (R:=fun a_ w_=> ∃(J:Value),∃(M:Value),∃(U:Nat),∃(D:Nat),a_={tmps:= #[.agg (J0 .u8 32 (J7 b)),.agg (J0 .u8 32 (J7 i)),.int .i64 n,v,.pointer (some ⟨T,0,none⟩),.pointer (some ⟨G,0,none⟩),undef,undef,.pointer (some ⟨β,0,none⟩),.pointer (some ⟨γ,0,none⟩),.slice (some ⟨T,0,none⟩) 32 32,J,J,.slice (some ⟨G,0,none⟩) 32 32,.int .i64 n,M,.slice (some ⟨U,0,none⟩) 3 3,.agg (J0 .u8 32 (J7 D)),undef,undef,undef,undef,undef,undef],defers:=[]}∧D=hm b ([111,112,101,110]++(lb 32 i)++(eI n))∧SH [] w w_ [.o M (eI n),.s J [111,112,101,110],.b U #[J,.slice (some ⟨G,0,none⟩) 32 32,M] 35,.b T (J0 .u8 32 (J7 b)) 22,.b G (J0 .u8 32 (J7 i)) 22,.b β (J0 .u8 32 (J7 0)) 22,.b γ (J0 .u8 32 (J7 D)) 22]) ?_ ?_
 ·
  refine RTp [1,2,3] (.q 0 (.q 3 (.q 4 (.b 1 (.b 2 (.e 5 (.e 6 (.e 7 (.e 8 .z)))) 5 (.e 2 (.e 6 (.e 7 (.e 8 .z))))) 5 (.e 1 (.e 2 (.e 6 (.e 7 (.e 8 .z))))))))) hS ?_;clear hS;refine TW ?_ (v:=.slice (some ⟨T,0,none⟩) 32 32);refine TW ?_ (v:=.slice (some ⟨G,0,none⟩) 32 32);refine TV ?_;refine TB (fun _ h=>h.pick [1,2,3]) ?_ ?_
  ·
   refine MO (m:=[111,112,101,110]) (n:=4) (z:= #[.int .u8 111,.int .u8 112,.int .u8 101,.int .u8 110]) ?_;intro X;refine TNp [2,3,4] [0,1,2] ?_;refine TB (fun _ h=>h.pick [2,3,4]) ?_ ?_
   ·
    refine MSm 0 (l:=[111,112,101,110]) (by first|decide|(simp only[List.length_append,List.length_cons,List.length_nil];omega)) ?_;refine TNp [2,3,4] [0,1,2] ?_;refine TE (fun _ h=>h.pick [2,3,4]) ?_;refine ME (V:=fun v=>v) (fun W hS=>J47 hS (Q7e n W) (fun _=>⟨rfl,rfl⟩)) ?_;intro η;refine TNp [0,3,4,5] [1,2,3] ?_;refine TE (fun _ h=>h.pick [0,3,4,5]) ?_;refine MB (z:= #[X,.slice (some ⟨G,0,none⟩) 32 32,η]) (t:=35) (n:=3) (c:=3) ?_ (hr:=fun W hS=>J0a [X,.slice (some ⟨G,0,none⟩) 32 32,η] rfl rfl (vsc (Q1 (hS.sl (i:=1) rfl)).1 (vsc (Q1 (V5 (V:=i) (n:=32) (off:=0) (c:=32) (hS.blk (i:=4) rfl) ap0 (by decide) (by decide))).1 (vsc (Q1 (hS.osl (i:=0) rfl)).1 vs0))) Tryz.underlying187 (by kernel_rfl) (by kernel_rfl) rfl (by decide) (by decide));intro μ;refine TNp [0,1,4,5,6] [1,2,3,4] ?_;refine TE (fun _ h=>h.pick [0,1,4,5,6]) ?_;obtain⟨U1,S⟩:=exh (hm b ([111,112,101,110]++(lb 32 i)++(eI n)));refine MC (v:=.agg (J0 .u8 32 (J7 U1))) (fun W hS=>Q7c [[111,112,101,110],lb 32 i,eI n] (some ⟨μ,0,none⟩) 3 (F:=[111,112,101,110]++(lb 32 i)++(eI n)) (by simp only[List.flatten_cons,List.flatten_nil,List.append_nil,List.nil_append,List.append_assoc,List.cons_append]) (by first|omega|(simp only[lA,lM,lT,lD,lC,lN,J6,J22,J0s,K5,V0,V1,J4k];omega)) (by simp) S.out W (J1q (hS.blk (i:=0) rfl) (pvc (hS.sl (i:=2) rfl) (pvc (V5 (V:=i) (n:=32) (off:=0) (c:=32) (hS.blk (i:=5) rfl) ap0 (by decide) (by decide)) (pvc (hS.osl (i:=1) rfl) pv0)))) (V5 (V:=b) (n:=32) (off:=0) (c:=32) (hS.blk (i:=6) rfl) ap0 (by decide) (by decide)) (J0y hG hS.ext)) ?_;refine TNp [0,1,4,5,6] [0,1,2,3,4] ?_;refine TE (fun _ h=>h.pick [0,1,4,5,6]) ?_;refine MR 3 ?_;refine TNp [0,1,4,5,6] [0,1,2,3,4] ?_;refine TZ (fun _ h=>h.pick [0,1,4,5,6]) fun W hS=> ?_;exact⟨X,η,μ,U1,rfl,S.out,hS.pick [1,2,0,6,5,4,3]⟩
   refine ME (V:=fun v=>v) (fun W hS=>J47 hS (Q7e n W) (fun _=>⟨rfl,rfl⟩)) ?_;intro ζ;refine TNp [0,3,4,5] [1,2,3] ?_;refine TE (fun _ h=>h.pick [0,3,4,5]) ?_;refine MSm 1 (l:=[111,112,101,110]) (by first|decide|(simp only[List.length_append,List.length_cons,List.length_nil];omega)) ?_;refine TNp [0,3,4,5] [0,1,2,3] ?_;refine TE (fun _ h=>h.pick [0,3,4,5]) ?_;refine MB (z:= #[X,.slice (some ⟨G,0,none⟩) 32 32,ζ]) (t:=35) (n:=3) (c:=3) ?_ (hr:=fun W hS=>J0a [X,.slice (some ⟨G,0,none⟩) 32 32,ζ] rfl rfl (vsc (Q1 (hS.sl (i:=1) rfl)).1 (vsc (Q1 (V5 (V:=i) (n:=32) (off:=0) (c:=32) (hS.blk (i:=4) rfl) ap0 (by decide) (by decide))).1 (vsc (Q1 (hS.osl (i:=0) rfl)).1 vs0))) Tryz.underlying187 (by kernel_rfl) (by kernel_rfl) rfl (by decide) (by decide));intro ν;refine TNp [0,1,4,5,6] [1,2,3,4] ?_;refine TE (fun _ h=>h.pick [0,1,4,5,6]) ?_;obtain⟨U1,S⟩:=exh (hm b ([111,112,101,110]++(lb 32 i)++(eI n)));refine MC (v:=.agg (J0 .u8 32 (J7 U1))) (fun W hS=>Q7c [[111,112,101,110],lb 32 i,eI n] (some ⟨ν,0,none⟩) 3 (F:=[111,112,101,110]++(lb 32 i)++(eI n)) (by simp only[List.flatten_cons,List.flatten_nil,List.append_nil,List.nil_append,List.append_assoc,List.cons_append]) (by first|omega|(simp only[lA,lM,lT,lD,lC,lN,J6,J22,J0s,K5,V0,V1,J4k];omega)) (by simp) S.out W (J1q (hS.blk (i:=0) rfl) (pvc (hS.sl (i:=2) rfl) (pvc (V5 (V:=i) (n:=32) (off:=0) (c:=32) (hS.blk (i:=5) rfl) ap0 (by decide) (by decide)) (pvc (hS.osl (i:=1) rfl) pv0)))) (V5 (V:=b) (n:=32) (off:=0) (c:=32) (hS.blk (i:=6) rfl) ap0 (by decide) (by decide)) (J0y hG hS.ext)) ?_;refine TNp [0,1,4,5,6] [0,1,2,3,4] ?_;refine TE (fun _ h=>h.pick [0,1,4,5,6]) ?_;refine MR 3 ?_;refine TNp [0,1,4,5,6] [0,1,2,3,4] ?_;refine TZ (fun _ h=>h.pick [0,1,4,5,6]) fun W hS=> ?_;exact⟨X,ζ,ν,U1,rfl,S.out,hS.pick [1,2,0,6,5,4,3]⟩
  refine ME (V:=fun v=>v) (fun W hS=>J47 hS (Q7e n W) (fun _=>⟨rfl,rfl⟩)) ?_;intro δ;refine TNp [0,2,3,4] [1,2,3] ?_;refine TE (fun _ h=>h.pick [0,2,3,4]) ?_;refine MO (m:=[111,112,101,110]) (n:=4) (z:= #[.int .u8 111,.int .u8 112,.int .u8 101,.int .u8 110]) ?_;intro ε;refine TNp [1,3,4,5] [0,1,2,3] ?_;refine TE (fun _ h=>h.pick [1,3,4,5]) ?_;refine MSm 0 (l:=[111,112,101,110]) (by first|decide|(simp only[List.length_append,List.length_cons,List.length_nil];omega)) ?_;refine TNp [1,3,4,5] [0,1,2,3] ?_;refine TE (fun _ h=>h.pick [1,3,4,5]) ?_;refine MB (z:= #[ε,.slice (some ⟨G,0,none⟩) 32 32,δ]) (t:=35) (n:=3) (c:=3) ?_ (hr:=fun W hS=>J0a [ε,.slice (some ⟨G,0,none⟩) 32 32,δ] rfl rfl (vsc (Q1 (hS.sl (i:=0) rfl)).1 (vsc (Q1 (V5 (V:=i) (n:=32) (off:=0) (c:=32) (hS.blk (i:=4) rfl) ap0 (by decide) (by decide))).1 (vsc (Q1 (hS.osl (i:=1) rfl)).1 vs0))) Tryz.underlying187 (by kernel_rfl) (by kernel_rfl) rfl (by decide) (by decide));intro ξ;refine TNp [0,2,4,5,6] [1,2,3,4] ?_;refine TE (fun _ h=>h.pick [0,2,4,5,6]) ?_;obtain⟨U1,S⟩:=exh (hm b ([111,112,101,110]++(lb 32 i)++(eI n)));refine MC (v:=.agg (J0 .u8 32 (J7 U1))) (fun W hS=>Q7c [[111,112,101,110],lb 32 i,eI n] (some ⟨ξ,0,none⟩) 3 (F:=[111,112,101,110]++(lb 32 i)++(eI n)) (by simp only[List.flatten_cons,List.flatten_nil,List.append_nil,List.nil_append,List.append_assoc,List.cons_append]) (by first|omega|(simp only[lA,lM,lT,lD,lC,lN,J6,J22,J0s,K5,V0,V1,J4k];omega)) (by simp) S.out W (J1q (hS.blk (i:=0) rfl) (pvc (hS.sl (i:=1) rfl) (pvc (V5 (V:=i) (n:=32) (off:=0) (c:=32) (hS.blk (i:=5) rfl) ap0 (by decide) (by decide)) (pvc (hS.osl (i:=2) rfl) pv0)))) (V5 (V:=b) (n:=32) (off:=0) (c:=32) (hS.blk (i:=6) rfl) ap0 (by decide) (by decide)) (J0y hG hS.ext)) ?_;refine TNp [0,2,4,5,6] [0,1,2,3,4] ?_;refine TE (fun _ h=>h.pick [0,2,4,5,6]) ?_;refine MR 3 ?_;refine TNp [0,2,4,5,6] [0,1,2,3,4] ?_;refine TZ (fun _ h=>h.pick [0,2,4,5,6]) fun W hS=> ?_;exact⟨ε,δ,ξ,U1,rfl,S.out,hS.pick [2,1,0,6,5,4,3]⟩
 rintro _ W ⟨J,M,U,D,rfl,Z,hS⟩;have κ:=Lib.hid Z;clear Z;go_upto_region 2 with fail;refine RJ (R:=fun a_ w_=> ∃(Y:Nat),a_={tmps:= #[.agg (J0 .u8 32 (J7 b)),.agg (J0 .u8 32 (J7 i)),.int .i64 n,v,.pointer (some ⟨T,0,none⟩),.pointer (some ⟨G,0,none⟩),undef,undef,.pointer (some ⟨β,0,none⟩),.pointer (some ⟨γ,0,none⟩),.slice (some ⟨T,0,none⟩) 32 32,J,J,.slice (some ⟨G,0,none⟩) 32 32,.int .i64 n,M,.slice (some ⟨U,0,none⟩) 3 3,.agg (J0 .u8 32 (J7 D)),.agg (J0 .u8 32 (J7 D)),.agg (J0 .u8 32 (J7 i)),.int .i64 n,v,.agg (J0 .u8 32 (J7 Y)),.agg (J0 .u8 32 (J7 D))],defers:=[]}∧Y=bnd D i n x∧SH [] w w_ [.o M (eI n),.s J [111,112,101,110],.b U #[J,.slice (some ⟨G,0,none⟩) 32 32,M] 35,.b T (J0 .u8 32 (J7 b)) 22,.b G (J0 .u8 32 (J7 i)) 22,.b β (J0 .u8 32 (J7 Y)) 22,.b γ (J0 .u8 32 (J7 D)) 22]) ?_ ?_
 ·
  refine RTp [0,1,2,3,4] (.q 1 (.q 2 (.q 3 (.b 0 (.b 4 (.b 5 (.e 6 (.e 7 .z)) 6 (.e 5 (.e 7 .z))) 5 (.e 4 (.e 6 (.e 7 .z)))) 5 (.e 0 (.e 4 (.e 6 (.e 7 .z)))))))) hS ?_;clear hS;refine TL 4 ?_;refine TV ?_;refine TV ?_;refine TB (fun _ h=>h.pick [0,1,2,3,4]) ?_ ?_
  ·
   refine ML 6 ?_;refine TNp [0,1,2,3,4] [0,1,2,3,4] ?_;refine TB (fun _ h=>h.pick [0,1,2,3,4]) ?_ ?_
   ·
    obtain⟨U2,N⟩:=exh (bnd D i n x);refine MC (v:=.agg (J0 .u8 32 (J7 U2))) (fun W hS=>Q7f N.out W (J0y hG hS.ext) (J0i hx hS.ext) hl) ?_;refine TNp [0,1,2,3,4] [0,1,2,3,4] ?_;refine TB (fun _ h=>h.pick [0,1,2,3,4]) ?_ ?_
    ·
     refine ML 6 ?_;refine TNp [0,1,2,3,4] [0,1,2,3,4] ?_;refine TE (fun _ h=>h.pick [0,1,2,3,4]) ?_;refine MR 5 ?_;refine TNp [0,1,2,3,4] [0,1,2,3,4] ?_;refine TE (fun _ h=>h.pick [0,1,2,3,4]) ?_;refine MR 6 ?_;refine TNp [0,1,2,3,4] [0,1,2,3,4] ?_;refine TZ (fun _ h=>h.pick [0,1,2,3,4]) fun W hS=> ?_;exact⟨U2,rfl,N.out,hS⟩
    refine MR 5 ?_;refine TNp [0,1,2,3,4] [0,1,2,3,4] ?_;refine TE (fun _ h=>h.pick [0,1,2,3,4]) ?_;refine ML 6 ?_;refine TNp [0,1,2,3,4] [0,1,2,3,4] ?_;refine TE (fun _ h=>h.pick [0,1,2,3,4]) ?_;refine MR 6 ?_;refine TNp [0,1,2,3,4] [0,1,2,3,4] ?_;refine TZ (fun _ h=>h.pick [0,1,2,3,4]) fun W hS=> ?_;exact⟨U2,rfl,N.out,hS⟩
   refine ML 6 ?_;refine TNp [0,1,2,3,4] [0,1,2,3,4] ?_;refine TE (fun _ h=>h.pick [0,1,2,3,4]) ?_;obtain⟨U2,N⟩:=exh (bnd D i n x);refine MC (v:=.agg (J0 .u8 32 (J7 U2))) (fun W hS=>Q7f N.out W (J0y hG hS.ext) (J0i hx hS.ext) hl) ?_;refine TNp [0,1,2,3,4] [0,1,2,3,4] ?_;refine TE (fun _ h=>h.pick [0,1,2,3,4]) ?_;refine MR 5 ?_;refine TNp [0,1,2,3,4] [0,1,2,3,4] ?_;refine TE (fun _ h=>h.pick [0,1,2,3,4]) ?_;refine MR 6 ?_;refine TNp [0,1,2,3,4] [0,1,2,3,4] ?_;refine TZ (fun _ h=>h.pick [0,1,2,3,4]) fun W hS=> ?_;exact⟨U2,rfl,N.out,hS⟩
  refine ML 6 ?_;refine TNp [0,1,2,3,4] [0,1,2,3,4] ?_;refine TE (fun _ h=>h.pick [0,1,2,3,4]) ?_;refine ML 6 ?_;refine TNp [0,1,2,3,4] [0,1,2,3,4] ?_;refine TE (fun _ h=>h.pick [0,1,2,3,4]) ?_;obtain⟨U2,N⟩:=exh (bnd D i n x);refine MC (v:=.agg (J0 .u8 32 (J7 U2))) (fun W hS=>Q7f N.out W (J0y hG hS.ext) (J0i hx hS.ext) hl) ?_;refine TNp [0,1,2,3,4] [0,1,2,3,4] ?_;refine TE (fun _ h=>h.pick [0,1,2,3,4]) ?_;refine MR 5 ?_;refine TNp [0,1,2,3,4] [0,1,2,3,4] ?_;refine TE (fun _ h=>h.pick [0,1,2,3,4]) ?_;refine MR 6 ?_;refine TNp [0,1,2,3,4] [0,1,2,3,4] ?_;refine TZ (fun _ h=>h.pick [0,1,2,3,4]) fun W hS=> ?_;exact⟨U2,rfl,N.out,hS⟩
 rintro _ W ⟨Y,rfl,α,hS⟩;have θ:=Lib.hid α;clear α;go_wp2;exact bodyPost_ret (V2r rfl rfl rfl (hS.blk (i:=5) rfl) (hS.blk (i:=6) rfl) (by kernel_rfl) (by kernel_rfl) (by rw[J1];kernel_rfl) (by rw[J1];kernel_rfl)) rfl ⟨by rw[hR,hO,θ.out,κ.out];rfl,hS.ext⟩
theorem Q9n {q:Prop}{R:Nat}{v:Value}{id:List UInt8}(hR:R=lk0 id)(w:World)(hG:GT q w)(hid:Sl w v id)(hl:id.length≤100000000):
  Calls Tryz.prog 54 #[v] w fun e w' =>Ret (.agg (J0 .u8 32 (J7 R))) w w' e:=by
 have hS:=SH.nil [] w
 go_enter Tryz.func54,Tryz.ntmps54
 go_upto_region 0 with fail;refine RL hS ?_;clear hS;refine MN (z:=J0 .u8 32 (J7 0)) (t:=22) ?_;intro Z8;refine MZ fun W hS=> ?_;go_upto_region 1 with fail;refine RL hS ?_;clear hS;refine MO (m:=[4]) (n:=1) (z:= #[.int .u8 4]) ?_;intro G;refine MV ?_;refine MB (z:= #[G,v]) (t:=35) (n:=2) (c:=2) ?_ (hr:=fun W hS=>J0a [G,v] rfl rfl (vsc (Q1 (hS.osl (i:=0) rfl)).1 (vsc (Q1 (J0i hid hS.ext)).1 vs0)) Tryz.underlying187 (by kernel_rfl) (by kernel_rfl) rfl (by decide) (by decide));intro J;obtain⟨U1,D⟩:=exh (hs4 ([4]++id));refine MC (v:=.agg (J0 .u8 32 (J7 U1))) (fun W hS=>J9l D.out [[4],id] (some ⟨J,0,none⟩) 2 (by simp only[List.flatten_cons,List.flatten_nil,List.append_nil,List.nil_append,List.append_assoc,List.cons_append]) (by first|omega|(simp only[lA,lM,lT,lD,lC,lN,J6,J22,J0s,K5,V0,V1,J4k];omega)) (by simp) W (J1q (hS.blk (i:=0) rfl) (pvc (hS.osl (i:=1) rfl) (pvc (J0i hid hS.ext) pv0))) (J23 hG.1 hS.ext)) ?_;refine MR 2 ?_;refine MZ fun W hS=> ?_;rw[show U1=R by rw[hR];try rw[D.out];first|done|rfl] at hS;go_wp2;exact bodyPost_ret (Z0 rfl rfl (hS.blk (i:=2) rfl) (by kernel_rfl) (by rw[J1];kernel_rfl)) rfl ⟨rfl,hS.ext⟩
theorem Y6o {v:Value}{id:List UInt8}{r a:Nat}(n:Int)(X:Nat)(hx:n % 18446744073709551616=(X:Int))(w:World)(hid:Sl w v id)(hl:id.length≤100000000):
  Calls Tryz.prog 75 #[v,.int .i64 n,.agg (J0 .u8 32 (J7 r)),.agg (J0 .u8 32 (J7 a))] w fun e w' => ∃u,e=.returned u∧SH [] w w' [.o u ([3]++([u8 (id.length / 256),u8 id.length]++id)++be8 X++lb 32 r++lb 32 a)]:=by
 have M:IntKind.wrap .u64 n=(X:Int):=by rw[IntKind.wrap_u64];exact hx
 have hS:=SH.nil [] w
 go_enter Tryz.func75,Tryz.ntmps75
 go_upto_region 0 with fail;refine RL hS ?_;clear hS;refine MN (z:=J0 .u8 32 (J7 r)) (t:=22) ?_;intro G;refine MN (z:=J0 .u8 32 (J7 a)) (t:=22) ?_;intro J;refine MV ?_;refine MZ fun W hS=> ?_;go_upto_region 1 with fail;refine RL hS ?_;clear hS;refine MV ?_;refine MF (v:=.int .i64 (id.length:Int)) (fun W hS=>X5 (J0i hid hS.ext) rfl rfl) ?_;refine MW ?_ (v:=.int .i64 ((id.length / 256:Nat):Int)) (hv:=by intro W;go_simp;(try omega));refine MW ?_ (v:=.int .u8 ((u8 (id.length / 256)).toNat:Int)) (hv:=by intro W;go_simp;(try simp only[J6e,IntKind.wrap_u8]);(try omega));refine MV ?_;refine MF (v:=.int .i64 (id.length:Int)) (fun W hS=>X5 (J0i hid hS.ext) rfl rfl) ?_;refine MW ?_ (v:=.int .u8 ((u8 id.length).toNat:Int)) (hv:=by intro W;go_simp;(try simp only[J6e,IntKind.wrap_u8]);(try omega));refine MO (m:=[3,u8 (id.length / 256),u8 id.length]) (n:=3) (z:= #[.int .u8 3,.int .u8 ((u8 (id.length / 256)).toNat:Int),.int .u8 ((u8 id.length).toNat:Int)]) ?_;intro Y;refine MV ?_;refine MA 0 (xs:=[3,u8 (id.length / 256),u8 id.length]) (ys:=id) (fun W hS=>(J0i hid hS.ext)) (by first|omega|(simp only[lA,lM,lT,lD,lC,lN,J6,J22,J0s,K5,V0,V1,J4k];omega)) ?_;intro T;refine MV ?_;refine MZ fun W hS=> ?_
 go_wp2_with fail
 go_loopw [9,10] (fun uv kk wr=> ∃(j:Nat)(sv:Value),(j≤8)∧(sv=uv)∧(kk=.int .i64 ((7:Int)-(j:Int)))∧SH [] w wr [.o sv ([3]++([u8 (id.length / 256),u8 id.length]++id)++List.take j (be8 X)),.b J (J0 .u8 32 (J7 a)) 22,.b G (J0 .u8 32 (J7 r)) 22])
  (fun uv kk _=>(intOf kk+1).toNat)
 case atStart=>exact⟨0,_,Nat.zero_le _,rfl,rfl,(by rw[List.take_zero,List.append_nil];exact hS)⟩
 clear hS
 case round=>
  obtain⟨j,sv,hj,rfl,rfl,hS⟩:=hrel
  by_cases D:j<8
  ·
   go_upto_region 3 with fail;refine RL hS ?_;clear hS;refine MV ?_;refine Wto ?_;refine MZ fun W hS=> ?_;go_upto_region 5 with fail;refine RL hS ?_;clear hS;refine MV ?_;refine MV ?_;refine MW ?_ (v:=.int .u64 (X:Int)) (hv:=by intro W;go_simp;(try simp only[M]));refine MV ?_;refine MW ?_ (v:=.int .i64 ((8*(7-j):Nat):Int)) (hv:=by intro W;go_simp;(try simp only[IntKind.wrap_i64]);omega);refine MW ?_ (v:=.int .u64 ((X / 2^(8*(7-j)):Nat):Int)) (hv:=by intro W;exact Q9m (by omega) rfl rfl rfl);refine MW ?_ (v:=.int .u8 ((by8 X j).toNat:Int)) (hv:=by intro W;exact Z42 rfl rfl Tryz.underlying43 Tryz.underlying5);refine MO (m:=[by8 X j]) (n:=1) (z:= #[.int .u8 ((by8 X j).toNat:Int)]) ?_;intro S;refine MA 1 (xs:=([3]++([u8 (id.length / 256),u8 id.length]++id)++List.take j (be8 X))) (ys:=[by8 X j]) (fun W hS=>(hS.osl (i:=0) rfl)) (by first|omega|(simp only[lA,lM,lT,lD,lC,lN,J6,J22,J0s,K5,V0,V1,J4k];omega)) ?_;intro R;refine MV ?_;refine MZ fun W hS=> ?_;go_wp2;go_roundw
   case rel=>exact⟨j+1,R,by omega,rfl,by rw[show(7:Int)-((j+1:Nat):Int)=7-(j:Int)-1 by omega],(by rw[Q9l X D,←List.append_assoc];exact(hS.pick [1,2,3]))⟩
   case measure=>simp[intOf];omega
  obtain rfl:j=8:=by omega
  rw[V7s] at hS;go_upto_region 3 with fail;refine RL hS ?_;clear hS;refine MV ?_;refine Wfo ?_;refine MZ fun W hS=> ?_;go_upto_region 6 with fail;refine RTp [1,2] (.q 0 (.q 1 (.q 3 (.e 2 (.e 4 (.q 5 .z)))))) hS ?_;clear hS;refine TV ?_;refine TW ?_ (v:=.slice (some ⟨G,0,none⟩) 32 32);refine TW ?_ (v:=.slice (some ⟨J,0,none⟩) 32 32);refine TE (fun _ h=>h.pick [1,2]) ?_;refine MA 0 (xs:=([3]++([u8 (id.length / 256),u8 id.length]++id)++be8 X)) (ys:=(lb 32 r)) (fun W hS=>(V5 (V:=r) (n:=32) (off:=0) (c:=32) (hS.blk (i:=2) rfl) ap0 (by decide) (by decide))) (by first|omega|(simp only[lA,lM,lT,lD,lC,lN,J6,J22,J0s,K5,V0,V1,J4k];omega)) ?_;intro U;refine TNp [1,2] [0,1] ?_;refine TE (fun _ h=>h.pick [1,2]) ?_;refine MA 0 (xs:=(([3]++([u8 (id.length / 256),u8 id.length]++id)++be8 X)++(lb 32 r))) (ys:=(lb 32 a)) (fun W hS=>(V5 (V:=a) (n:=32) (off:=0) (c:=32) (hS.blk (i:=1) rfl) ap0 (by decide) (by decide))) (by first|omega|(simp only[lA,lM,lT,lD,lC,lN,J6,J22,J0s,K5,V0,V1,J4k];omega)) ?_;intro N;refine TNp [0,1,2] [1,2] ?_;refine TV ?_;refine TZ (fun _ h=>h) fun W hS=> ?_;go_wp2;exact bodyPost_ret (v:=N) (by simp only[results,Tryz.results75];go_simp) rfl ⟨_,rfl,hS.pick [0]⟩
theorem Y6p {v:Value}{id:List UInt8}{r a:Nat}(n:Int)(w:World)(hid:Sl w v id)(hl:id.length≤100000000):Calls Tryz.prog 75 #[v,.int .i64 n,.agg (J0 .u8 32 (J7 r)),.agg (J0 .u8 32 (J7 a))] w fun e w' => ∃u,e=.returned u∧SH [] w w' [.o u (lkT id n r a)]:=by
 have h:=Y6o (r:=r) (a:=a) n (n % 18446744073709551616).toNat (by omega) w hid hl;unfold lkT eI;exact h
theorem Y6q {q:Prop}{R r a:Nat}{n:Int}{v:Value}{id:List UInt8}(hR:R=lkn id n r a)(w:World)(hG:GT q w)(hid:Sl w v id)(hl:id.length≤100000000):
  Calls Tryz.prog 43 #[v,.int .i64 n,.agg (J0 .u8 32 (J7 r)),.agg (J0 .u8 32 (J7 a))] w fun e w' =>Ret (.agg (J0 .u8 32 (J7 R))) w w' e:=by
 have hS:=SH.nil [] w
 go_enter Tryz.func43,Tryz.ntmps43
 go_upto_region 0 with fail;refine RL hS ?_;clear hS;refine MN (z:=J0 .u8 32 (J7 r)) (t:=22) ?_;intro S;refine MN (z:=J0 .u8 32 (J7 a)) (t:=22) ?_;intro N;refine MN (z:=J0 .u8 32 (J7 0)) (t:=22) ?_;intro M;refine MZ fun W hS=> ?_;go_upto_region 1 with fail;refine RL hS ?_;clear hS;refine MV ?_;refine MV ?_;refine ML 2 ?_;refine ML 1 ?_;refine ME (V:=fun v=>v) (fun W hS=>J47 hS (Y6p (r:=r) (a:=a) n W (J0i hid hS.ext) hl) (fun _=>⟨rfl,rfl⟩)) ?_;intro G;refine MB (z:= #[G]) (t:=35) (n:=1) (c:=1) ?_ (hr:=fun W hS=>J0a [G] rfl rfl (vsc (Q1 (hS.osl (i:=0) rfl)).1 vs0) Tryz.underlying187 (by kernel_rfl) (by kernel_rfl) rfl (by decide) (by decide));intro J;obtain⟨U1,D⟩:=exh (hs4 ((lkT id n r a)));refine MC (v:=.agg (J0 .u8 32 (J7 U1))) (fun W hS=>J9l D.out [lkT id n r a] (some ⟨J,0,none⟩) 1 (by simp only[List.flatten_cons,List.flatten_nil,List.append_nil,List.nil_append,List.append_assoc,List.cons_append]) (by first|omega|(simp only[lA,lM,lT,lD,lC,lN,J6,J22,J0s,K5,V0,V1,J4k];omega)) (by simp) W (J1q (hS.blk (i:=0) rfl) (pvc (hS.osl (i:=1) rfl) pv0)) (J23 hG.1 hS.ext)) ?_;refine MR 2 ?_;refine MZ fun W hS=> ?_;rw[show U1=R by rw[hR];try rw[D.out];first|done|rfl] at hS;go_wp2;exact bodyPost_ret (Z0 rfl rfl (hS.blk (i:=2) rfl) (by kernel_rfl) (by rw[J1];kernel_rfl)) rfl ⟨rfl,hS.ext⟩
end

section
set_option maxHeartbeats 3000000
attribute [local irreducible] wpList Z6 wpX
theorem DOk.pos {D:DD}(h:DOk D):1≤D.puts.length:=by
 have:=(List.getElem?_eq_some_iff.1 h.zero).1;omega
theorem DOk.len {D:DD}(h:DOk D):D.puts.length≤33:=by have:=h.ep;have:=h.e2;omega
def win (n m:Int):Bool:=decide (1≤n∧n≤m)
attribute [local irreducible] eI be8 hs4 lb J3e J2f J01 xt hm
theorem Z9z {w:World}{v:Value}{l:List UInt8}(h:Sl w v l):(v=.slice none 0 0∧l=[])∨∃ad n c,v=.slice (some ad) n c:=by
 obtain⟨A,c,rfl,h1,h2,h0,h3⟩:=h;cases A with
 |none=>
  cases l with
  |nil=>exact .inl ⟨by rw[h0 rfl];rfl,rfl⟩
  |cons a l=>obtain⟨ad,e,_⟩:=h3 0 a rfl;cases e
 |some ad=>exact .inr ⟨ad,_,c,rfl⟩
theorem J5s {h:Nat}{m:List (List UInt8×Nat)}{w W:World}(hm:Q44 h m w)(q:Ext w W):Q44 h m W:=by
 have D:=Z43 hm;obtain⟨es,c,h1,h2⟩:=hm;exact⟨es,c,by rw[q.block h D];exact h1,h2⟩

theorem Q22:zer Tryz.prog 130=some (some (Q6 [.c (.int .i64 0),.c (.int .i64 0),.c (.slice none 0 0)])):=by kernel_rfl
theorem Q23:plc Tryz.prog 130=some [(0,1),(1,1),(2,1)]:=by kernel_rfl
theorem J52:zer Tryz.prog 115=some (some (Q6 [.c (.slice none 0 0),.c (.slice none 0 0)])):=by kernel_rfl
theorem J53:plc Tryz.prog 115=some [(0,1),(1,1)]:=by kernel_rfl
theorem Q09:zer Tryz.prog 127=some (some (Q6 [.a 32 0,.a 80 0,.c (.slice none 0 0)])):=by kernel_rfl
theorem Q0a:plc Tryz.prog 127=some [(0,32),(32,80),(112,1)]:=by kernel_rfl
theorem J0z (n m:Int)(w:World):
  Calls Tryz.prog 53 #[.int .i64 n,.int .i64 m] w fun e w' =>Ret (.bool (win n m)) w w' e:=by
 have hS:=SH.nil [] w
 go_enter Tryz.func53,Tryz.ntmps53
 by_cases D:1≤n
 ·
  go_upto_region 1 with fail;refine RL hS ?_;clear hS;refine MV ?_;refine Wto ?_;refine Wt ?_;refine MV ?_;refine MV ?_;refine MW ?_ (v:=.bool (decide (n≤m))) (hv:=by intro W;go_simp;first|done|rfl);refine MW ?_ (v:=.bool (decide (n≤m)));refine MW ?_ (v:=.bool (decide (n≤m)));refine MZ fun W hS=> ?_;go_wp2;exact bodyPost_ret (v:=.bool (decide (n≤m))) (by simp only[results,Tryz.results53];go_simp) rfl ⟨congrArg (fun b=>Ending.returned (Value.bool b)) (by unfold win;exact(decide_eq_decide.2 ⟨fun h=>⟨D,h⟩,And.right⟩)),hS.ext⟩
 go_upto_region 1 with fail;refine RL hS ?_;clear hS;refine MV ?_;refine Wfo ?_;refine Wf ?_;(iterate 3 refine MS ?_);refine Wf ?_;refine Wf ?_;refine MZ fun W hS=> ?_;go_wp2;exact bodyPost_ret (v:=.bool false) (by simp only[results,Tryz.results53];go_simp) rfl ⟨congrArg (fun b=>Ending.returned (Value.bool b)) (by unfold win;exact(decide_eq_false (fun h=>absurd h.1 (by omega))).symm),hS.ext⟩
theorem J7p {v:Value}{l:List UInt8}(w:World)(hs:Sl w v l):
  Calls Tryz.prog 45 #[v] w fun e w' =>Ret (.bool (win (l.length:Int) 32)) w w' e:=by
 have hS:=SH.nil [] w
 go_enter Tryz.func45,Tryz.ntmps45
 go_upto_region 1 with fail;refine RL hS ?_;clear hS;refine MV ?_;refine MF (v:=.int .i64 (l.length:Int)) (fun W hS=>X5 (J0i hs hS.ext) rfl rfl) ?_;refine MC (v:=.bool (win (l.length:Int) 32)) (fun W hS=>J0z (l.length:Int) 32 W) ?_;refine MW ?_ (v:=.bool (win (l.length:Int) 32));refine MZ fun W hS=> ?_;go_wp2;exact bodyPost_ret (v:=.bool (win (l.length:Int) 32)) (by simp only[results,Tryz.results45];go_simp) rfl ⟨rfl,hS.ext⟩

theorem J5h {v:Value}{l:List UInt8}(w:World)(hs:Sl w v l)(hl:l.length≤100000000):
  Calls Tryz.prog 51 #[v] w fun e w' => ∃u,e=.returned u∧SH [] w w' [.o u l]:=by
 have hS:=SH.nil [] w
 go_enter Tryz.func51,Tryz.ntmps51
 rcases Z9z hs with⟨rfl,rfl⟩|⟨G,n0,c0,rfl⟩
 ·
  go_upto_region 1 with fail;refine RL hS ?_;clear hS;refine MV ?_;refine MW ?_ (v:=.bool true) (hv:=by intro W;go_simp;first|done|rfl);refine MZ fun W hS=> ?_;have hS:=hS.onil rfl;go_wp2;exact bodyPost_ret (v:=.slice none 0 0) (by simp only[results,Tryz.results51];go_simp) rfl ⟨_,rfl,hS⟩
 go_upto_region 1 with fail;refine RL hS ?_;clear hS;refine MV ?_;refine MW ?_ (v:=.bool false) (hv:=by intro W;go_simp;first|done|rfl);refine MZ fun W hS=> ?_;go_upto_region 3 with fail;refine RL hS ?_;clear hS;refine MO (m:=[]) (n:=0) (z:= #[]) ?_;intro J;refine MV ?_;refine MA 0 (xs:=[]) (ys:=l) (fun W hS=>(J0i hs hS.ext)) (by first|omega|(simp only[lA,lM,lT,lD,lC,lN,J6,K5,V0,V1];omega)) ?_;intro D;refine MV ?_;refine MZ fun W hS=> ?_;go_wp2;exact bodyPost_ret (v:=D) (by simp only[results,Tryz.results51];go_simp) rfl ⟨_,rfl,hS.pick [0]⟩
theorem Q35 {D:DD}{y:LD}(w:World)(hD:DK D y w)(hL:LOk D y)(hK:DOk D):
  Calls Tryz.prog 29 #[.pointer (some ⟨y.p,0,none⟩)] w fun e w' =>Ret (.int .i64 ((D.puts.length-1:Nat):Int)) w w' e:=by
 have G:=hK.pos;have J:=hK.len;have hS:=SH.nil [] w
 go_enter Tryz.func29,Tryz.ntmps29
 go_upto_region 3 with fail;refine RL hS ?_;clear hS;(iterate 3 refine MV ?_);refine MF (v:=y.lv) (fun W hS=>Z9 rfl rfl (by rw[J4 (J3 hD.d hS.ext)];exact(J9 (off:=72) 10)) (by kernel_rfl)) ?_;refine MF (v:=.int .i64 (D.puts.length:Int)) (fun W hS=>(by rw[show(D.puts.length:Int)=((List.map J46 D.links).length:Int) by rw[List.length_map,DD.links_len]];exact J3f (Row.off hD.lk hS.off0 f0) rfl rfl Tryz.underlying54)) ?_;refine MW ?_ (v:=.int .i64 ((D.puts.length-1:Nat):Int)) (hv:=by intro W;go_simp;(try simp only[IntKind.wrap_i64]);omega);refine MV ?_;refine MZ fun W hS=> ?_;go_wp2;exact bodyPost_ret (v:=.int .i64 ((D.puts.length-1:Nat):Int)) (by simp only[results,Tryz.results29];go_simp) rfl ⟨rfl,hS.ext⟩
end

section
set_option maxHeartbeats 3000000
attribute [local irreducible] wpList Z6 wpX
open S8 (Kn GA kP vprv vsm lo)
abbrev enZ:En:=⟨0,0,.slice none 0 0,[]⟩
def J5c (es:List En)(e:Int):En:=(es.filter fun x=>decide ((x.ep:Int)≤e)).getLastD enZ
theorem Z71 {es:List En}{e:Int}:J5c es e=enZ∨J5c es e∈es:=by
 unfold J5c;cases h:(es.filter fun x=>decide ((x.ep:Int)≤e)).getLast? with
 |none=>left;rw[List.getLastD_eq_getLast?,h];rfl
 |some x=>
  right;rw[List.getLastD_eq_getLast?,h];exact(List.mem_filter.1 (List.mem_of_getLast? h)).1
theorem Y00 {acs:List Ac}{l:List UInt8}(h:l∉acs.map (·.l)):mlk (J16 acs) l=none:=by
 induction acs with
 |nil=>rfl
 |cons a acs ih=>
  show(if a.l=l then some a.b else mlk (J16 acs) l)=none;rw[if_neg (fun e=>h (by rw[List.map_cons,e];simp))];exact ih fun hm=>h (List.mem_cons_of_mem _ hm)
theorem Q9p {acs:List Ac}{a:Ac}(h:a∈acs)(hn:(acs.map (·.l)).Nodup):mlk (J16 acs) a.l=some a.b:=by
 induction acs with
 |nil=>cases h
 |cons b acs ih=>
  show(if b.l=a.l then some b.b else mlk (J16 acs) a.l)=some a.b;rw[List.map_cons,List.nodup_cons] at hn;rcases List.mem_cons.1 h with rfl|h
  ·
   rw[if_pos rfl]
  ·
   rw[if_neg (fun e=>hn.1 (by rw[e];exact List.mem_map.2 ⟨a,h,rfl⟩))];exact ih h hn.2
theorem LOk.mlk_n {D:DD}{y:LD}(h:LOk D y){l:List UInt8}(hl:l∉D.labs):mlk (J16 y.acs) l=none:=Y00 (by rw[h.a];exact hl)
theorem LOk.mlk_s {D:DD}{y:LD}(h:LOk D y){a:Ac}(ha:a∈y.acs):mlk (J16 y.acs) a.l=some a.b:=Q9p ha (by rw[h.a];exact D.labs_nodup)
theorem LOk.acc {D:DD}{y:LD}(h:LOk D y){l:List UInt8}(hl:l∈D.labs):∃a∈y.acs,a.l=l:=by
 rw[←h.a] at hl;exact List.mem_map.1 hl
theorem V2u {vk:Nat}{l:List UInt8}(h:erN vk l=0):(vsm (pfN vk l)).2=0:=by
 unfold erN at h;unfold pfN vsm;cases hv:S8.vpt (kP vk) l with
 |none=>rw[S8.vprv_none hv] at h;cases h
 |some c=>
  have D:=S8.candP_on (S8.vpt_some hv).2.1;rw[S8.vprv_some hv,(S8.vPr_parts D).1,(S8.dec_enc (S8.pm_on D _)).1,if_pos rfl]
attribute [local irreducible] eI be8 hs4 lb J3e J2f J01 xt hm S8.vprv S8.vsm ixN pfN erN J5c

theorem Y6r {D:DD}{y:LD}{a:Ac}{v:Value}(ha:a∈y.acs)(w:World)(hD:DK D y w)(hL:LOk D y)(hs:Sl w v a.l):
  Calls Tryz.prog 46 #[.pointer (some ⟨y.p,0,none⟩),v] w fun e w' =>Ret (.tuple #[.pointer (some ⟨a.b,0,none⟩),.int .i64 0]) w w' e:=by
 have hS:=SH.nil [] w
 go_enter Tryz.func46,Tryz.ntmps46
 go_upto_region 1 with fail;refine RTh (.q 0 (.q 1 (.q 2 (.q 3 (.q 4 (.q 5 (.q 6 (.q 7 .z)))))))) hS ?_;clear hS;(iterate 3 refine TV ?_);refine TF (v:=.map (some y.h)) rfl (fun W hS=>Z9 rfl rfl (by rw[J4 (J3 hD.d hS.ext)];exact(J9 (off:=68) 6)) (by kernel_rfl)) ?_;refine TV ?_;refine TF (v:=str a.l) rfl (fun W hS=>J2q (J0i hs hS.ext) rfl rfl) ?_;refine TF (v:=.pointer (some ⟨a.b,0,none⟩)) rfl (fun W hS=>(by rw[show(.pointer (some ⟨a.b,0,none⟩):Value)=mpt (mlk (J16 y.acs) a.l) by rw[hL.mlk_s ha];rfl];exact J6f (J5s hD.m hS.ext) Tryz.underlying108 Tryz.underlying9 (by kernel_rfl) rfl rfl rfl)) ?_;refine TV ?_;refine TZ (fun _ h=>h) fun W hS=> ?_;go_upto_region 2 with fail;refine RL hS ?_;clear hS;refine MV ?_;refine MW ?_ (v:=.bool true) (hv:=by intro W;go_simp;first|done|rfl);refine MZ fun W hS=> ?_;go_wp2;exact bodyPost_ret (v:=.tuple #[.pointer (some ⟨a.b,0,none⟩),.int .i64 0]) (by simp only[results,Tryz.results46];go_simp) rfl ⟨rfl,hS.ext⟩
theorem Y6s {D:DD}{y:LD}{l:List UInt8}{v:Value}(hn:l∉D.labs)(he:erN D.vk l=0)(w:World)(hX:GX w)(hD:DK D y w)(hL:LOk D y)(hs:Sl w v l)(hl:l.length≤32):
  Calls Tryz.prog 46 #[.pointer (some ⟨y.p,0,none⟩),v] w fun e w' => ∃b,e=.returned (.tuple #[.pointer (some ⟨b,0,none⟩),.int .i64 0])∧SH [] w w' [.b b (Q6 [.a 32 (ixN D.vk l),.a 80 (pfN D.vk l),.c (.slice none 0 0)]) 127]:=by
 have hS:=SH.nil [] w
 go_enter Tryz.func46,Tryz.ntmps46
 go_upto_region 1 with fail;refine RTh (.q 0 (.q 1 (.q 2 (.q 3 (.q 4 (.q 5 (.q 6 (.q 7 .z)))))))) hS ?_;clear hS;(iterate 3 refine TV ?_);refine TF (v:=.map (some y.h)) rfl (fun W hS=>Z9 rfl rfl (by rw[J4 (J3 hD.d hS.ext)];exact(J9 (off:=68) 6)) (by kernel_rfl)) ?_;refine TV ?_;refine TF (v:=str l) rfl (fun W hS=>J2q (J0i hs hS.ext) rfl rfl) ?_;refine TF (v:=.pointer none) rfl (fun W hS=>(by rw[show(.pointer none:Value)=mpt (mlk (J16 y.acs) l) by rw[hL.mlk_n hn];rfl];exact J6f (J5s hD.m hS.ext) Tryz.underlying108 Tryz.underlying9 (by kernel_rfl) rfl rfl rfl)) ?_;refine TV ?_;refine TZ (fun _ h=>h) fun W hS=> ?_;go_upto_region 2 with fail;refine RL hS ?_;clear hS;refine MV ?_;refine MW ?_ (v:=.bool false) (hv:=by intro W;go_simp;first|done|rfl);refine MZ fun W hS=> ?_;go_upto_region 4 with fail;refine RL hS ?_;clear hS;(iterate 4 refine MV ?_);refine MF (v:=.agg (J0 .u8 32 (J7 D.vk))) (fun W hS=>J1y rfl rfl (fun i v hv=>by rw[J4 (J3 hD.d hS.ext)];exact(J4j (off:=1) 1) i v hv) (by kernel_rfl) (by first|kernel_rfl|(rw[J1];kernel_rfl))) ?_;refine MV ?_;obtain⟨P,HP⟩:=exh (pfN D.vk l);refine MC (v:=.tuple #[.agg (J0 .u8 80 (J7 P)),.int .i64 0]) (fun W hS=>S8.proveN_c (kn:=kn0) trivial trivial trivial (X:=P) (by rw[HP.out];unfold pfN;rfl) (E:=0) (by unfold erN at he;exact he.symm) v (Nat.le_trans hl (by decide)) W (hX.ext hS.ext).2 (J0i hs hS.ext)) ?_;refine MV ?_;refine MV ?_;refine W0 ?_;refine MN (z:=J0 .u8 80 (J7 0)) (t:=53) ?_;intro N;refine MR 0 ?_;refine W0 ?_;refine MZ fun W hS=> ?_;go_upto_region 5 with fail;refine RL hS ?_;clear hS;refine W0 ?_;refine Wfo ?_;refine MZ fun W hS=> ?_;go_upto_region 7 with fail;refine RL hS ?_;clear hS;refine ML 0 ?_;obtain⟨S_,G⟩:=exh (vsm P).1;refine MC (v:=.tuple #[.agg (J0 .u8 64 (J7 S_)),.int .i64 0]) (fun W hS=>S8.vsumN_c (kn:=kn0) trivial (X:=S_) (E:=0) G.out (by rw[HP.out];exact(V2u he).symm) W (hX.ext hS.ext).2) ?_;refine MV ?_;refine MV ?_;refine W0 ?_;refine MN (z:=J0 .u8 64 (J7 0)) (t:=163) ?_;intro M;refine MR 0 ?_;refine W0 ?_;refine MZ fun W hS=> ?_;go_upto_region 8 with fail;refine RL hS ?_;clear hS;refine W0 ?_;refine Wfo ?_;refine MZ fun W hS=> ?_;go_upto_region 10 with fail;refine RTh (.q 0 (.q 2 (.e 1 (.q 3 (.e 4 (.q 5 (.q 6 .z))))))) hS ?_;clear hS;refine TL 0 ?_;refine TL 1 ?_;refine TE (fun _ h=>h) ?_;refine MC (v:=.agg (J0 .u8 32 (J7 (lo S_)))) (fun W hS=>S8.index_c (X:=S_) W) ?_;refine TNh (fun W hS=>hS) ?_;refine TF (v:=.agg (Q6 [.a 32 (lo S_),.a 80 P,.c (.slice none 0 0)])) rfl (fun W hS=>J5q [(0,[.a 32 (lo S_)]),(1,[.a 80 P])] rfl rfl Q09 Q0a (.c ((Q3x _ _).symm) (.c ((Q3x _ _).symm) .n))) ?_;refine TE (fun _ h=>h) ?_;refine MN (z:=Q6 [.a 32 (lo S_),.a 80 P,.c (.slice none 0 0)]) (t:=127) ?_;intro J;refine TNh (fun W hS=>hS.pick [1,2]) ?_;refine TV ?_;refine T0 ?_;refine TZ (fun _ h=>h) fun W hS=> ?_;go_wp2;exact bodyPost_ret (v:=.tuple #[.pointer (some ⟨J,0,none⟩),.int .i64 0]) (by simp only[results,Tryz.results46];go_simp) rfl ⟨J,rfl,by rw[show ixN D.vk l=lo S_ by unfold ixN;rw[G.out,HP.out],←HP.out];exact hS.pick [0]⟩
theorem Y6t {D:DD}{y:LD}{l:List UInt8}{v:Value}{E:Nat}(hE:E=erN D.vk l)(hn:l∉D.labs)(he:E≠0)(w:World)(hX:GX w)(hD:DK D y w)(hL:LOk D y)(hs:Sl w v l)(hl:l.length≤32):
  Calls Tryz.prog 46 #[.pointer (some ⟨y.p,0,none⟩),v] w fun e w' =>Ret (.tuple #[.pointer none,.int .i64 (E:Int)]) w w' e:=by
 obtain⟨P0,G⟩:=exh (S8.vprv D.vk l).1;have hS:=SH.nil [] w
 go_enter Tryz.func46,Tryz.ntmps46
 go_upto_region 1 with fail;refine RTh (.q 0 (.q 1 (.q 2 (.q 3 (.q 4 (.q 5 (.q 6 (.q 7 .z)))))))) hS ?_;clear hS;(iterate 3 refine TV ?_);refine TF (v:=.map (some y.h)) rfl (fun W hS=>Z9 rfl rfl (by rw[J4 (J3 hD.d hS.ext)];exact(J9 (off:=68) 6)) (by kernel_rfl)) ?_;refine TV ?_;refine TF (v:=str l) rfl (fun W hS=>J2q (J0i hs hS.ext) rfl rfl) ?_;refine TF (v:=.pointer none) rfl (fun W hS=>(by rw[show(.pointer none:Value)=mpt (mlk (J16 y.acs) l) by rw[hL.mlk_n hn];rfl];exact J6f (J5s hD.m hS.ext) Tryz.underlying108 Tryz.underlying9 (by kernel_rfl) rfl rfl rfl)) ?_;refine TV ?_;refine TZ (fun _ h=>h) fun W hS=> ?_;go_upto_region 2 with fail;refine RL hS ?_;clear hS;refine MV ?_;refine MW ?_ (v:=.bool false) (hv:=by intro W;go_simp;first|done|rfl);refine MZ fun W hS=> ?_;go_upto_region 4 with fail;refine RL hS ?_;clear hS;(iterate 4 refine MV ?_);refine MF (v:=.agg (J0 .u8 32 (J7 D.vk))) (fun W hS=>J1y rfl rfl (fun i v hv=>by rw[J4 (J3 hD.d hS.ext)];exact(J4j (off:=1) 1) i v hv) (by kernel_rfl) (by first|kernel_rfl|(rw[J1];kernel_rfl))) ?_;refine MV ?_;refine MC (v:=.tuple #[.agg (J0 .u8 80 (J7 P0)),.int .i64 (E:Int)]) (fun W hS=>S8.proveN_c (kn:=kn0) trivial trivial trivial (X:=P0) G.out (E:=E) (by rw[hE];unfold erN;rfl) v (Nat.le_trans hl (by decide)) W (hX.ext hS.ext).2 (J0i hs hS.ext)) ?_;(iterate 3 refine MV ?_);refine MN (z:=J0 .u8 80 (J7 0)) (t:=53) ?_;intro J;refine MR 0 ?_;refine MV ?_;refine MZ fun W hS=> ?_;go_upto_region 5 with fail;refine RL hS ?_;clear hS;refine MV ?_;refine Wto ?_;refine MZ fun W hS=> ?_;go_wp2;exact bodyPost_ret (v:=.tuple #[.pointer none,.int .i64 (E:Int)]) (by simp only[results,Tryz.results46];go_simp) rfl ⟨rfl,hS.ext⟩
end

section
set_option maxHeartbeats 3000000
attribute [local irreducible] wpList Z6 wpX
theorem J7n {P:Program}{α:Type}{f:FuncId}{args:Array Value}{F:List Nat}{w W:World}{H:List As}{V:α→Value}{X:α→List As}(hS:SH F w W H)(hc:Calls P f args W fun e W' => ∃x,e=.returned (V x)∧SH [] W W' (X x))(ht:∀x,(X x).all (fun y=>y.mv &&(match y with| .t _ _=>false|_=>true) && H.all (SH.tyOk y))=true):
  Calls P f args W fun e W' => ∃x,e=.returned (V x)∧SH F w W' (X x++H):=by
 refine Z1m hS (hc.mono fun e W' ⟨x,h1,h2⟩=>⟨x,h1,h2,fun y hy hm=> ?_⟩) fun x=> ?_
 ·
  have:=List.all_eq_true.1 (ht x) y hy;rw[hm] at this;simp at this
 refine List.all_eq_true.2 fun y hy=> ?_;have:=List.all_eq_true.1 (ht x) y hy;simp only[Bool.and_eq_true] at this⊢;exact⟨this.1.2,this.2⟩
theorem Z93 {W:World}{A:Option Addr}{n c i g o:Nat}{ps:List Pv}{y:Pv}(h:RR 2 W (.slice A n c) (ps.map pvC))(yh:ps[i]?=some y)(hA:A=some ⟨g,o,none⟩):∀(j:Nat) (v:Value),(pvF y)[j]?=some v→W.cell? ⟨g,o+i*2+j,none⟩=some v:=fun j v hv=>
 RR.cellat h (by rw[List.getElem?_map,yh];rfl) hA j v (V84 j v hv)
theorem Q9q {α β:Type}{l:List α}{i:Nat}{x:α}(h:l[i]?=some x)(f:α→β):List.map f (l.take (i+1))=List.map f (l.take i)++[f x]:=by rw[List.take_add_one,h,List.map_append];rfl
def pbs (ps:List Pv):List (Value×List UInt8):=ps.flatMap fun p=>[(p.lu,p.l),(p.xu,p.x)]
theorem Y01 (ps:List Pv)(p:Pv):pbs (ps++[p])=pbs ps++[(p.lu,p.l)]++[(p.xu,p.x)]:=by unfold pbs;rw[List.flatMap_append,List.append_assoc];rfl
def pvk (ps:List Pv)(W:World):Prop:=∀p∈ps,(Sl W p.lu p.l∧p.l.length≤100)∧Sl W p.xu p.x∧p.x.length≤100
attribute [local irreducible] eI be8 hs4 lb J3e J2f J01 xt hm pbs

theorem J8o {p:Pv}(w:World)(h1:Sl w p.lu p.l)(h2:Sl w p.xu p.x)(hl1:p.l.length≤100)(hl2:p.x.length≤100):
  Calls Tryz.prog 47 #[.agg (pvF p)] w fun e w' => ∃x:Value×Value,e=.returned (.agg (Q6 [.c x.1,.c x.2]))∧SH [] w w' [.o x.1 p.l,.o x.2 p.x]:=by
 have R:=Q1 h1;have N:=Q1 h2;have hS:=SH.nil [] w
 go_enter Tryz.func47,Tryz.ntmps47
 go_upto_region 0 with fail;refine RL hS ?_;clear hS;refine MN (z:=Q6 [.c p.lu,.c p.xu]) (t:=115) ?_;intro S;refine MN (z:=Q6 [.c (.slice none 0 0),.c (.slice none 0 0)]) (t:=115) ?_;intro T;refine MZ fun W hS=> ?_;go_upto_region 1 with fail;refine RTp [1] (.q 0 (.q 1 (.q 3 (.q 4 (.e 2 (.e 5 (.q 6 (.e 7 .z)))))))) hS ?_;clear hS;refine TV ?_;refine TG 0 ?_ (v:=p.lu) (hj:=(J9 (off:=0) 0));refine TV ?_;refine TG 0 ?_ (v:=p.xu) (hj:=(J9 (off:=1) 1));refine TE (fun _ h=>h.pick [1]) ?_;refine ME (V:=fun v=>v) (fun W hS=>J47 hS (J5h W (J0i h1 hS.ext) (by first|omega|(simp only[lA,lM,lT,lD,lC,lN,J6,K5,V0,V1];omega))) (fun _=>⟨rfl,rfl⟩)) ?_;intro J;refine TNp [0,2] [1] ?_;refine TE (fun _ h=>h.pick [0,2]) ?_;refine ME (V:=fun v=>v) (fun W hS=>J47 hS (J5h W (J0i h2 hS.ext) (by first|omega|(simp only[lA,lM,lT,lD,lC,lN,J6,K5,V0,V1];omega))) (fun _=>⟨rfl,rfl⟩)) ?_;intro M;refine TNp [0,1,3] [1,2] ?_;refine Z44 (fun W hS=>(Q1 (hS.osl (i:=1) rfl)).2) ?_;intro D;refine Z44 (fun W hS=>(Q1 (hS.osl (i:=0) rfl)).2) ?_;intro G;refine TF (v:=.agg (Q6 [.c J,.c M])) rfl (fun W hS=>J5q [(0,[.c J]),(1,[.c M])] rfl rfl J52 J53 (.c ((Q1 (hS.osl (i:=1) rfl)).1) (.c ((Q1 (hS.osl (i:=0) rfl)).1) .n))) ?_;refine TE (fun _ h=>h.pick [0,1,3]) ?_;refine MRa 2 ?_ (h1:=by exact(V6 ⟨D,G,trivial⟩));refine TNp [0,1,3] [0,1,2] ?_;refine TZ (fun _ h=>h.pick [0,1,3]) fun W hS=> ?_;go_wp2;exact bodyPost_ret (Z0 rfl rfl (hS.blk (i:=2) rfl) (by kernel_rfl) (by rw[J5];kernel_rfl)) rfl ⟨(J,M),rfl,hS.pick [1,0]⟩
theorem Q9r {ps:List Pv}{v:Value}(hn:ps.length≤1000)(w:World)(hr:RR 2 w v (ps.map pvC))(hs:pvk ps w):
  Calls Tryz.prog 65 #[v] w fun e w' => ∃x:{x:Value×List Pv // x.2.map pvP=ps.map pvP},e=.returned x.1.1∧SH [] w w' [.r 115 2 x.1.1 (x.1.2.map pvC),obT (pbs x.1.2)]:=by
 obtain⟨Am,cm,rfl,β,α⟩:=RR.opf hr;have hS:=SH.nil [] w
 go_enter Tryz.func65,Tryz.ntmps65
 go_upto_region 2 with fail;refine RL hS ?_;clear hS;refine MV ?_;refine MV ?_;refine W0 ?_;refine MZ fun W hS=> ?_;have hS:=hS.rnil 115 2 rfl;have hS:=hS.obnil rfl
 go_wp2_with fail
 go_loopw [3,8] (fun uv jj wr=> ∃(k:Nat)(qs:List Pv)(sv:Value),(k≤ps.length)∧(RowKit.Hid (qs.map pvP=(ps.take k).map pvP))∧(sv=uv)∧(jj=.int .i64 (k:Int))∧SH [] w wr [obT (pbs qs),.r 115 2 sv (List.map pvC qs)])
  (fun uv jj _=>ps.length-(intOf jj).toNat)
 case atStart=>exact⟨0,[],_,Nat.zero_le _,Lib.hid rfl,rfl,rfl,(by have h_:=hS;unfold pbs;exact h_)⟩
 clear hS
 case round=>
  obtain⟨k,qs,sv,hk,hq,rfl,rfl,hS⟩:=hrel;have ε:qs.length=k:=by have h_:=congrArg List.length hq.out;rw[List.length_map,List.length_map,List.length_take] at h_;omega
  by_cases J:k<ps.length
  ·
   obtain⟨p,ph⟩:∃x,ps[k]?=some x:=⟨_,List.getElem?_eq_getElem J⟩
   obtain⟨gm,om,U,_⟩:=α.out k p ph;have T:=Lib.hid U;clear U;obtain⟨⟨h1,X⟩,h2,Z⟩:=hs p (List.mem_of_getElem? ph);have S:=Q1 h1;have R:=Q1 h2;go_upto_region 3 with fail;refine RL hS ?_;clear hS;refine Wto ?_;refine MZ fun W hS=> ?_;go_upto_region 4 with fail;refine RL hS ?_;clear hS;refine MW ?_ (v:=.pointer (some ⟨gm,om+k*2,none⟩)) (hv:=fun _=>J2l T.out J rfl rfl rfl Tryz.underlying87 (by kernel_rfl));refine MF (v:=.agg (Q6 [.c p.lu,.c p.xu])) (fun W hS=>J1y rfl rfl (fun i_ v hv=>(Z93 (hr.ext hS.ext) ph T.out) i_ v (by simpa using hv)) (by kernel_rfl) (by rw[J5];kernel_rfl)) ?_;refine MN (z:=Q6 [.c (.slice none 0 0),.c (.slice none 0 0)]) (t:=115) ?_;intro δ;refine MRa 0 ?_ (h1:=by exact(V6 ⟨S.2,R.2,trivial⟩));refine MZ fun W hS=> ?_;go_upto_region 5 with fail;refine RL hS ?_;clear hS;refine MV ?_;refine ML 0 ?_ (hs:=by rw[J5];kernel_rfl);refine ME (V:=fun x:Value×Value=> .agg (Q6 [.c x.1,.c x.2])) (fun W hS=>J7n hS (J8o (p:=p) W (J0i h1 hS.ext) (J0i h2 hS.ext) X Z) (fun _=>rfl)) ?_;rintro⟨D,G⟩;dsimp only;refine J0g (fun W hS=>(Q1 (hS.osl (i:=0) rfl)).2) ?_;intro N;refine J0g (fun W hS=>(Q1 (hS.osl (i:=1) rfl)).2) ?_;intro M;refine MB (z:=(Q6 [.c D,.c G])) (t:=115) (n:=1) (c:=1) ?_ (hr:=fun W _=>J2s rfl rfl rfl Tryz.underlying87 (by rw[J5];kernel_rfl) (by rw[J5];kernel_rfl) (by rw[J5];exact Nat.le_of_ble_eq_true (by kernel_rfl)) (by rw[J5];exact Nat.le_of_ble_eq_true (by kernel_rfl)));intro γ;refine MAr 5 0 (tS:=87) (bytes:=48) (es:=(List.map pvC qs)) (by first|omega|(simp only[lA,lM,lT,lD,lC,lN,J6,K5,V0,V1];omega)) (e:=pvC (⟨D,G,p.l,p.x⟩:Pv)) (hk:=by rw[J5];kernel_rfl) (h1:=by exact(V6 ⟨N,M,trivial⟩)) (cs:=(Q6 [.c D,.c G])) ?_;intro Y;refine MV ?_;refine MZ fun W hS=> ?_;go_wp2;go_roundw
   case rel=>exact⟨(k+1),(qs++[(⟨D,G,p.l,p.x⟩:Pv)]),Y,by omega,Lib.hid (by rw[List.map_append,hq.out,Q9q ph];rfl),rfl,by go_num,(by have h_:=hS.pick [1,4,2,5];have h_:=h_.obadd;have h_:=(h_.pick [1,0,2]).obadd;rw[Y01,List.map_append];exact h_)⟩
   case measure=>simp[intOf];omega
  obtain rfl:k=ps.length:=by omega
  rw[List.take_length] at hq;go_upto_region 3 with fail;refine RL hS ?_;clear hS;refine Wfo ?_;refine MZ fun W hS=> ?_;go_wp2;exact bodyPost_ret (v:=sv) (by simp only[results,Tryz.results65];go_simp) rfl ⟨⟨(sv,qs),hq.out⟩,rfl,hS.pick [1,0]⟩
end
end Go.Proofs.YtlkbneflnjmgbaaGreatDoor

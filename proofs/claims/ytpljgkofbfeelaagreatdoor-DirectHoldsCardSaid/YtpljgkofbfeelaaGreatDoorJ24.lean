/- Contracts and plain laws for directHolds_holds. Conditions: the tables hold their numbers. -/
import Derived.Test.YtpljgkofbfeelaaGreatDoorJ23
open Go renaming undef->AP,World->AA,Value->AB,bodyPost_ret->BC,Calls->Az,IntKind->AG
open Go.IntKind renaming wrap_i64->BD,wrap_u64->AH
open _root_.List renaming length_append->Ai,length_cons->AV,nil_append->BM,append_nil->Aj,append_assoc->Ak,length_nil->Al,getElem?_map->BO,map_cons->AX,flatten_cons->An,cons_append->BK
open Go.RowKit
set_option maxRecDepth 100000
set_option linter.unusedSimpArgs false
set_option linter.unusedVariables false
namespace Go.Proofs.YtpljgkofbfeelaaGreatDoor
section
set_option maxHeartbeats 3000000
attribute [local irreducible] wpList Z9 wpX
attribute [local irreducible] eI be8 hs4 lb J33 J25 K3 xt hm

theorem Z75 (n:Int)(X:Nat)(hx:n % 18446744073709551616=(X:Int))(w:AA):
  Az Tryz.prog 72 #[.int .i64 n] w fun e w' => ∃u,e=.returned u∧SH [] w w' [.o u (be8 X)]:=by
 have M:AG.wrap .u64 n=(X:Int):=by rw[AG.wrap_u64];exact hx
 have hS:=SH.nil [] w
 go_enter Tryz.func72,Tryz.ntmps72
 go_upto_region 1 with fail;refine RL hS ?_;clear hS;refine MK (n:=8) (by first|omega|(simp only[lA,lM,lT,lD,lC,lN,J7,Y8,Z0,Z5];omega)) ?_;intro G;refine MV ?_;refine MZ fun W hS=> ?_;go_upto_region 2 with fail;refine RL hS ?_;clear hS;refine MV ?_;refine MF (v:=.int .i64 8) (fun W hS=>(by rw[show(8:Int)=((List.replicate 8 (0:UInt8)).length:Int) from rfl];exact Q8 (hS.osl (i:=0) rfl) rfl rfl)) ?_;refine W0 ?_;refine MZ fun W hS=> ?_
 go_wp2_with fail
 go_loopw [8] (fun jj wr=> ∃(j:Nat),(j≤8)∧(jj=.int .i64 (j:Int))∧SH [] w wr [.o G (nz X j)])
  (fun jj _=>8-(intOf jj).toNat)
 case atStart=>exact⟨0,Nat.zero_le _,rfl,(by have h_:=hS;exact h_)⟩
 clear hS
 case round=>
  obtain⟨j,hj,rfl,hS⟩:=hrel
  by_cases D:j<8
  ·
   go_upto_region 3 with fail;refine RL hS ?_;clear hS;refine Wto ?_;refine MZ fun W hS=> ?_;go_upto_region 5 with fail;refine RL hS ?_;clear hS;(iterate 3 refine MV ?_);refine MW ?_ (v:=.int .u64 (X:Int)) (hv:=by intro W;go_simp;(try simp only[M]));refine MV ?_;refine MW ?_ (v:=.int .i64 ((7-j:Nat):Int)) (hv:=by intro W;go_simp;(try simp only[AG.wrap_i64]);omega);refine MW ?_ (v:=.int .i64 ((8*(7-j):Nat):Int)) (hv:=by intro W;go_simp;(try simp only[AG.wrap_i64]);omega);refine MW ?_ (v:=.int .u64 ((X / 2^(8*(7-j)):Nat):Int)) (hv:=by intro W;exact Q9d (by omega) rfl rfl rfl);refine MW ?_ (v:=.int .u8 ((by8 X j).toNat:Int)) (hv:=by intro W;exact Z3y rfl rfl Tryz.underlying121 Tryz.underlying5);refine MIo 0 j (l:=(nz X j)) (by rw[Z94 X (by omega)];omega) ?_;intro N _ J;refine MPo 0 (j:=j) (b:=(by8 X j)) (l:=(nz X j)) (by rw[Z94 X (by omega)];omega) J.out ?_;refine MT (fun W hS=>by rw[show(nz X j).set j (by8 X j)=nz X (j+1) from Y4n X D] at hS;exact hS) ?_;refine MZ fun W hS=> ?_;go_wp2;go_roundw
   case rel=>exact⟨j+1,by omega,by go_num,hS⟩
   case measure=>simp[intOf];omega
  obtain rfl:j=8:=by omega
  rw[K2c] at hS;go_upto_region 3 with fail;refine RL hS ?_;clear hS;refine Wfo ?_;refine MZ fun W hS=> ?_;go_wp2;exact BC (v:=G) (by simp only[results,Tryz.results72];go_simp) rfl ⟨_,rfl,hS.pick [0]⟩
theorem Q7c (n:Int)(w:AA):Az Tryz.prog 72 #[.int .i64 n] w fun e w' => ∃u,e=.returned u∧SH [] w w' [.o u (eI n)]:=by
 have h:=Z75 n (n % 18446744073709551616).toNat (by omega) w;unfold eI;exact h
theorem Q3a {q:Prop}{o i R:Nat}{n:Int}{v:AB}{x:List UInt8}(hR:R=bnd o i n x)(w:AA)(hG:GT q w)(hx:Sl w v x)(hl:x.length≤100000000):
  Az Tryz.prog 63 #[.agg (J0 .u8 32 (J2 o)),.agg (J0 .u8 32 (J2 i)),.int .i64 n,v] w fun e w' =>V5 (.agg (J0 .u8 32 (J2 R))) w w' e:=by
 have hS:=SH.nil [] w
 go_enter Tryz.func63,Tryz.ntmps63
 go_upto_region 0 with fail;refine RL hS ?_;clear hS;refine MN (z:=J0 .u8 32 (J2 o)) (t:=23) ?_;intro M;refine MN (z:=J0 .u8 32 (J2 i)) (t:=23) ?_;intro D;refine MN (z:=J0 .u8 32 (J2 0)) (t:=23) ?_;intro S;refine MZ fun W hS=> ?_;go_upto_region 1 with fail;refine RTp [1,2] (.q 0 (.q 1 (.q 2 (.q 4 (.e 3 (.e 5 (.e 6 (.e 7 .z)))))))) hS ?_;clear hS;refine TW ?_ (v:=.slice (some ⟨M,0,none⟩) 32 32);refine TW ?_ (v:=.slice (some ⟨D,0,none⟩) 32 32);refine TV ?_;refine TV ?_;refine TE (fun _ h=>h.pick [1,2]) ?_;refine ME (V:=fun v=>v) (fun W hS=>J1y hS (Q7c n W) (fun _=>⟨rfl,rfl⟩)) ?_;intro G;refine Y6 [0,2,3] [1,2] ?_;refine TE (fun _ h=>h.pick [0,2,3]) ?_;refine MB (z:= #[.slice (some ⟨D,0,none⟩) 32 32,G,v]) (t:=22) (n:=3) (c:=3) ?_ (hr:=fun W hS=>Y0 [.slice (some ⟨D,0,none⟩) 32 32,G,v] rfl rfl (vsc (J6 (Q7 (V:=i) (n:=32) (off:=0) (c:=32) (hS.blk (i:=2) rfl) ap0 (by decide) (by decide))).1 (vsc (J6 (hS.osl (i:=0) rfl)).1 (vsc (J6 (K4 hx hS.ext)).1 vs0))) Tryz.underlying155 (by kernel_rfl) (by kernel_rfl) rfl (by decide) (by decide));intro N;refine Y6 [0,1,3,4] [1,2,3] ?_;refine TE (fun _ h=>h.pick [0,1,3,4]) ?_;obtain⟨U1,J⟩:=exh (hm o ((lb 32 i)++(eI n)++x));refine MC (v:=.agg (J0 .u8 32 (J2 U1))) (fun W hS=>Q77 [lb 32 i,eI n,x] (some ⟨N,0,none⟩) 3 (F:=(lb 32 i)++(eI n)++x) (by simp only[An,List.flatten_nil,Aj,BM,Ak,BK]) (by first|omega|(simp only[lA,lM,lT,lD,lC,lN,J7,J1g,J5f,Y8,Z0,Z5,J3k];omega)) (by simp) J.out W (J0c (hS.blk (i:=0) rfl) (pvc (Q7 (V:=i) (n:=32) (off:=0) (c:=32) (hS.blk (i:=3) rfl) ap0 (by decide) (by decide)) (pvc (hS.osl (i:=1) rfl) (pvc (K4 hx hS.ext) pv0)))) (Q7 (V:=o) (n:=32) (off:=0) (c:=32) (hS.blk (i:=4) rfl) ap0 (by decide) (by decide)) (X5 hG hS.ext)) ?_;refine Y6 [0,1,3,4] [0,1,2,3] ?_;refine TE (fun _ h=>h.pick [0,1,3,4]) ?_;refine MR 2 ?_;refine Y6 [0,1,3,4] [0,1,2,3] ?_;refine TZ (fun _ h=>h.pick [0,1,3,4]) fun W hS=> ?_;rw[show U1=R by rw[hR];try rw[J.out];first|done|rfl] at hS;go_wp2;exact BC (Z6 rfl rfl (hS.blk (i:=2) rfl) (by kernel_rfl) (by rw[J1];kernel_rfl)) rfl ⟨rfl,hS.ext⟩
theorem V20 {P:Program}{fn:Func}{p q:Tmp}{ty t tz t2:TypeId}{tmps:Array AB}{w:AA}{g g2:Nat}{cs cs2:Array AB}(h:fn.results= #[.cell p ty,.cell q tz])
 (hp:tmps.getD p AP=.pointer (some ⟨g,0,none⟩)) (hq:tmps.getD q AP=.pointer (some ⟨g2,0,none⟩)) (hB:Blk w g cs t) (hB2:Blk w g2 cs2 t2) (hk:(P.underlying ty).map TypeDesc.isRow=some true) (hk2:(P.underlying tz).map TypeDesc.isRow=some true) (hi:(P.info? ty).map (·.size)=some cs.size) (hi2:(P.info? tz).map (·.size)=some cs2.size):
 (results fn tmps).run P w=.ok (.tuple #[.agg cs,.agg cs2]) w:=by
 cases hu:P.underlying ty with
 |none=>simp[hu] at hk
 |some d=>
 cases hu2:P.underlying tz with
 |none=>simp[hu2] at hk2
 |some d2=>
 have hd:d.isRow=true:=by simpa[hu] using hk
 have D:d2.isRow=true:=by simpa[hu2] using hk2
 have hp' :tmps[p]?.getD AP=.pointer (some ⟨g,0,none⟩):=by simpa using hp
 have hq' :tmps[q]?.getD AP=.pointer (some ⟨g2,0,none⟩):=by simpa using hq
 simp[results,h,hp',hq',asAddr,run_loadVar_row w g t ty cs _ d hB hu (by cases d<;>simp_all [TypeDesc.isRow]) hi,run_loadVar_row w g2 t2 tz cs2 _ d2 hB2 hu2 (by cases d2<;>simp_all [TypeDesc.isRow]) hi2]
theorem Q7d {q:Prop}{b i R O:Nat}{n:Int}{v:AB}{x:List UInt8}(hO:O=opn b i n)(hR:R=bnd (opn b i n) i n x)(w:AA)(hG:GT q w)(hx:Sl w v x)(hl:x.length≤100000000):
  Az Tryz.prog 34 #[.agg (J0 .u8 32 (J2 b)),.agg (J0 .u8 32 (J2 i)),.int .i64 n,v] w fun e w' =>V5 (.tuple #[.agg (J0 .u8 32 (J2 R)),.agg (J0 .u8 32 (J2 O))]) w w' e:=by
 have hS:=SH.nil [] w
 go_enter Tryz.func34,Tryz.ntmps34
 go_upto_region 0 with fail;refine RL hS ?_;clear hS;refine MN (z:=J0 .u8 32 (J2 b)) (t:=23) ?_;intro U;refine MN (z:=J0 .u8 32 (J2 i)) (t:=23) ?_;intro G;refine MN (z:=J0 .u8 32 (J2 0)) (t:=23) ?_;intro β;refine MN (z:=J0 .u8 32 (J2 0)) (t:=23) ?_;intro γ;refine MZ fun W hS=> ?_;go_upto_region 1 with fail;refine RJ (R:=fun a_ w_=> ∃(J:AB),∃(M:AB),∃(T:Nat),∃(D:Nat),a_={tmps:= #[.agg (J0 .u8 32 (J2 b)),.agg (J0 .u8 32 (J2 i)),.int .i64 n,v,.pointer (some ⟨U,0,none⟩),.pointer (some ⟨G,0,none⟩),AP,AP,.pointer (some ⟨β,0,none⟩),.pointer (some ⟨γ,0,none⟩),.slice (some ⟨U,0,none⟩) 32 32,J,J,.slice (some ⟨G,0,none⟩) 32 32,.int .i64 n,M,.slice (some ⟨T,0,none⟩) 3 3,.agg (J0 .u8 32 (J2 D)),AP,AP,AP,AP,AP,AP],defers:=[]}∧D=hm b ([111,112,101,110]++(lb 32 i)++(eI n))∧SH [] w w_ [.o M (eI n),.s J [111,112,101,110],.b T #[J,.slice (some ⟨G,0,none⟩) 32 32,M] 22,.b U (J0 .u8 32 (J2 b)) 23,.b G (J0 .u8 32 (J2 i)) 23,.b β (J0 .u8 32 (J2 0)) 23,.b γ (J0 .u8 32 (J2 D)) 23]) ?_ ?_
 ·
  refine RTp [1,2,3] (.q 0 (.q 3 (.q 4 (.b 1 (.b 2 (.e 5 (.e 6 (.e 7 (.e 8 .z)))) 5 (.e 2 (.e 6 (.e 7 (.e 8 .z))))) 5 (.e 1 (.e 2 (.e 6 (.e 7 (.e 8 .z))))))))) hS ?_;clear hS;refine TW ?_ (v:=.slice (some ⟨U,0,none⟩) 32 32);refine TW ?_ (v:=.slice (some ⟨G,0,none⟩) 32 32);refine TV ?_;refine TB (fun _ h=>h.pick [1,2,3]) ?_ ?_
  ·
   refine MO (m:=[111,112,101,110]) (n:=4) (z:= #[.int .u8 111,.int .u8 112,.int .u8 101,.int .u8 110]) ?_;intro X;refine Y6 [2,3,4] [0,1,2] ?_;refine TB (fun _ h=>h.pick [2,3,4]) ?_ ?_
   ·
    refine MSm 0 (l:=[111,112,101,110]) (by first|decide|(simp only[Ai,AV,Al];omega)) ?_;refine Y6 [2,3,4] [0,1,2] ?_;refine TE (fun _ h=>h.pick [2,3,4]) ?_;refine ME (V:=fun v=>v) (fun W hS=>J1y hS (Q7c n W) (fun _=>⟨rfl,rfl⟩)) ?_;intro ε;refine Y6 [0,3,4,5] [1,2,3] ?_;refine TE (fun _ h=>h.pick [0,3,4,5]) ?_;refine MB (z:= #[X,.slice (some ⟨G,0,none⟩) 32 32,ε]) (t:=22) (n:=3) (c:=3) ?_ (hr:=fun W hS=>Y0 [X,.slice (some ⟨G,0,none⟩) 32 32,ε] rfl rfl (vsc (J6 (hS.sl (i:=1) rfl)).1 (vsc (J6 (Q7 (V:=i) (n:=32) (off:=0) (c:=32) (hS.blk (i:=4) rfl) ap0 (by decide) (by decide))).1 (vsc (J6 (hS.osl (i:=0) rfl)).1 vs0))) Tryz.underlying155 (by kernel_rfl) (by kernel_rfl) rfl (by decide) (by decide));intro ν;refine Y6 [0,1,4,5,6] [1,2,3,4] ?_;refine TE (fun _ h=>h.pick [0,1,4,5,6]) ?_;obtain⟨U1,S⟩:=exh (hm b ([111,112,101,110]++(lb 32 i)++(eI n)));refine MC (v:=.agg (J0 .u8 32 (J2 U1))) (fun W hS=>Q77 [[111,112,101,110],lb 32 i,eI n] (some ⟨ν,0,none⟩) 3 (F:=[111,112,101,110]++(lb 32 i)++(eI n)) (by simp only[An,List.flatten_nil,Aj,BM,Ak,BK]) (by first|omega|(simp only[lA,lM,lT,lD,lC,lN,J7,J1g,J5f,Y8,Z0,Z5,J3k];omega)) (by simp) S.out W (J0c (hS.blk (i:=0) rfl) (pvc (hS.sl (i:=2) rfl) (pvc (Q7 (V:=i) (n:=32) (off:=0) (c:=32) (hS.blk (i:=5) rfl) ap0 (by decide) (by decide)) (pvc (hS.osl (i:=1) rfl) pv0)))) (Q7 (V:=b) (n:=32) (off:=0) (c:=32) (hS.blk (i:=6) rfl) ap0 (by decide) (by decide)) (X5 hG hS.ext)) ?_;refine Y6 [0,1,4,5,6] [0,1,2,3,4] ?_;refine TE (fun _ h=>h.pick [0,1,4,5,6]) ?_;refine MR 3 ?_;refine Y6 [0,1,4,5,6] [0,1,2,3,4] ?_;refine TZ (fun _ h=>h.pick [0,1,4,5,6]) fun W hS=> ?_;exact⟨X,ε,ν,U1,rfl,S.out,hS.pick [1,2,0,6,5,4,3]⟩
   refine ME (V:=fun v=>v) (fun W hS=>J1y hS (Q7c n W) (fun _=>⟨rfl,rfl⟩)) ?_;intro η;refine Y6 [0,3,4,5] [1,2,3] ?_;refine TE (fun _ h=>h.pick [0,3,4,5]) ?_;refine MSm 1 (l:=[111,112,101,110]) (by first|decide|(simp only[Ai,AV,Al];omega)) ?_;refine Y6 [0,3,4,5] [0,1,2,3] ?_;refine TE (fun _ h=>h.pick [0,3,4,5]) ?_;refine MB (z:= #[X,.slice (some ⟨G,0,none⟩) 32 32,η]) (t:=22) (n:=3) (c:=3) ?_ (hr:=fun W hS=>Y0 [X,.slice (some ⟨G,0,none⟩) 32 32,η] rfl rfl (vsc (J6 (hS.sl (i:=1) rfl)).1 (vsc (J6 (Q7 (V:=i) (n:=32) (off:=0) (c:=32) (hS.blk (i:=4) rfl) ap0 (by decide) (by decide))).1 (vsc (J6 (hS.osl (i:=0) rfl)).1 vs0))) Tryz.underlying155 (by kernel_rfl) (by kernel_rfl) rfl (by decide) (by decide));intro ξ;refine Y6 [0,1,4,5,6] [1,2,3,4] ?_;refine TE (fun _ h=>h.pick [0,1,4,5,6]) ?_;obtain⟨U1,S⟩:=exh (hm b ([111,112,101,110]++(lb 32 i)++(eI n)));refine MC (v:=.agg (J0 .u8 32 (J2 U1))) (fun W hS=>Q77 [[111,112,101,110],lb 32 i,eI n] (some ⟨ξ,0,none⟩) 3 (F:=[111,112,101,110]++(lb 32 i)++(eI n)) (by simp only[An,List.flatten_nil,Aj,BM,Ak,BK]) (by first|omega|(simp only[lA,lM,lT,lD,lC,lN,J7,J1g,J5f,Y8,Z0,Z5,J3k];omega)) (by simp) S.out W (J0c (hS.blk (i:=0) rfl) (pvc (hS.sl (i:=2) rfl) (pvc (Q7 (V:=i) (n:=32) (off:=0) (c:=32) (hS.blk (i:=5) rfl) ap0 (by decide) (by decide)) (pvc (hS.osl (i:=1) rfl) pv0)))) (Q7 (V:=b) (n:=32) (off:=0) (c:=32) (hS.blk (i:=6) rfl) ap0 (by decide) (by decide)) (X5 hG hS.ext)) ?_;refine Y6 [0,1,4,5,6] [0,1,2,3,4] ?_;refine TE (fun _ h=>h.pick [0,1,4,5,6]) ?_;refine MR 3 ?_;refine Y6 [0,1,4,5,6] [0,1,2,3,4] ?_;refine TZ (fun _ h=>h.pick [0,1,4,5,6]) fun W hS=> ?_;exact⟨X,η,ξ,U1,rfl,S.out,hS.pick [1,2,0,6,5,4,3]⟩
  refine ME (V:=fun v=>v) (fun W hS=>J1y hS (Q7c n W) (fun _=>⟨rfl,rfl⟩)) ?_;intro ζ;refine Y6 [0,2,3,4] [1,2,3] ?_;refine TE (fun _ h=>h.pick [0,2,3,4]) ?_;refine MO (m:=[111,112,101,110]) (n:=4) (z:= #[.int .u8 111,.int .u8 112,.int .u8 101,.int .u8 110]) ?_;intro δ;refine Y6 [1,3,4,5] [0,1,2,3] ?_;refine TE (fun _ h=>h.pick [1,3,4,5]) ?_;refine MSm 0 (l:=[111,112,101,110]) (by first|decide|(simp only[Ai,AV,Al];omega)) ?_;refine Y6 [1,3,4,5] [0,1,2,3] ?_;refine TE (fun _ h=>h.pick [1,3,4,5]) ?_;refine MB (z:= #[δ,.slice (some ⟨G,0,none⟩) 32 32,ζ]) (t:=22) (n:=3) (c:=3) ?_ (hr:=fun W hS=>Y0 [δ,.slice (some ⟨G,0,none⟩) 32 32,ζ] rfl rfl (vsc (J6 (hS.sl (i:=0) rfl)).1 (vsc (J6 (Q7 (V:=i) (n:=32) (off:=0) (c:=32) (hS.blk (i:=4) rfl) ap0 (by decide) (by decide))).1 (vsc (J6 (hS.osl (i:=1) rfl)).1 vs0))) Tryz.underlying155 (by kernel_rfl) (by kernel_rfl) rfl (by decide) (by decide));intro μ;refine Y6 [0,2,4,5,6] [1,2,3,4] ?_;refine TE (fun _ h=>h.pick [0,2,4,5,6]) ?_;obtain⟨U1,S⟩:=exh (hm b ([111,112,101,110]++(lb 32 i)++(eI n)));refine MC (v:=.agg (J0 .u8 32 (J2 U1))) (fun W hS=>Q77 [[111,112,101,110],lb 32 i,eI n] (some ⟨μ,0,none⟩) 3 (F:=[111,112,101,110]++(lb 32 i)++(eI n)) (by simp only[An,List.flatten_nil,Aj,BM,Ak,BK]) (by first|omega|(simp only[lA,lM,lT,lD,lC,lN,J7,J1g,J5f,Y8,Z0,Z5,J3k];omega)) (by simp) S.out W (J0c (hS.blk (i:=0) rfl) (pvc (hS.sl (i:=1) rfl) (pvc (Q7 (V:=i) (n:=32) (off:=0) (c:=32) (hS.blk (i:=5) rfl) ap0 (by decide) (by decide)) (pvc (hS.osl (i:=2) rfl) pv0)))) (Q7 (V:=b) (n:=32) (off:=0) (c:=32) (hS.blk (i:=6) rfl) ap0 (by decide) (by decide)) (X5 hG hS.ext)) ?_;refine Y6 [0,2,4,5,6] [0,1,2,3,4] ?_;refine TE (fun _ h=>h.pick [0,2,4,5,6]) ?_;refine MR 3 ?_;refine Y6 [0,2,4,5,6] [0,1,2,3,4] ?_;refine TZ (fun _ h=>h.pick [0,2,4,5,6]) fun W hS=> ?_;exact⟨δ,ζ,μ,U1,rfl,S.out,hS.pick [2,1,0,6,5,4,3]⟩
 rintro _ W ⟨J,M,T,D,rfl,α,hS⟩;have κ:=Lib.hid α;clear α;go_upto_region 2 with fail;refine RJ (R:=fun a_ w_=> ∃(Y:Nat),a_={tmps:= #[.agg (J0 .u8 32 (J2 b)),.agg (J0 .u8 32 (J2 i)),.int .i64 n,v,.pointer (some ⟨U,0,none⟩),.pointer (some ⟨G,0,none⟩),AP,AP,.pointer (some ⟨β,0,none⟩),.pointer (some ⟨γ,0,none⟩),.slice (some ⟨U,0,none⟩) 32 32,J,J,.slice (some ⟨G,0,none⟩) 32 32,.int .i64 n,M,.slice (some ⟨T,0,none⟩) 3 3,.agg (J0 .u8 32 (J2 D)),.agg (J0 .u8 32 (J2 D)),.agg (J0 .u8 32 (J2 i)),.int .i64 n,v,.agg (J0 .u8 32 (J2 Y)),.agg (J0 .u8 32 (J2 D))],defers:=[]}∧Y=bnd D i n x∧SH [] w w_ [.o M (eI n),.s J [111,112,101,110],.b T #[J,.slice (some ⟨G,0,none⟩) 32 32,M] 22,.b U (J0 .u8 32 (J2 b)) 23,.b G (J0 .u8 32 (J2 i)) 23,.b β (J0 .u8 32 (J2 Y)) 23,.b γ (J0 .u8 32 (J2 D)) 23]) ?_ ?_
 ·
  refine RTp [0,1,2,3,4] (.q 1 (.q 2 (.q 3 (.b 0 (.b 4 (.b 5 (.e 6 (.e 7 .z)) 6 (.e 5 (.e 7 .z))) 5 (.e 4 (.e 6 (.e 7 .z)))) 5 (.e 0 (.e 4 (.e 6 (.e 7 .z)))))))) hS ?_;clear hS;refine TL 4 ?_;refine TV ?_;refine TV ?_;refine TB (fun _ h=>h.pick [0,1,2,3,4]) ?_ ?_
  ·
   refine ML 6 ?_;refine Y6 [0,1,2,3,4] [0,1,2,3,4] ?_;refine TB (fun _ h=>h.pick [0,1,2,3,4]) ?_ ?_
   ·
    obtain⟨U2,N⟩:=exh (bnd D i n x);refine MC (v:=.agg (J0 .u8 32 (J2 U2))) (fun W hS=>Q3a N.out W (X5 hG hS.ext) (K4 hx hS.ext) hl) ?_;refine Y6 [0,1,2,3,4] [0,1,2,3,4] ?_;refine TB (fun _ h=>h.pick [0,1,2,3,4]) ?_ ?_
    ·
     refine ML 6 ?_;refine Y6 [0,1,2,3,4] [0,1,2,3,4] ?_;refine TE (fun _ h=>h.pick [0,1,2,3,4]) ?_;refine MR 5 ?_;refine Y6 [0,1,2,3,4] [0,1,2,3,4] ?_;refine TE (fun _ h=>h.pick [0,1,2,3,4]) ?_;refine MR 6 ?_;refine Y6 [0,1,2,3,4] [0,1,2,3,4] ?_;refine TZ (fun _ h=>h.pick [0,1,2,3,4]) fun W hS=> ?_;exact⟨U2,rfl,N.out,hS⟩
    refine MR 5 ?_;refine Y6 [0,1,2,3,4] [0,1,2,3,4] ?_;refine TE (fun _ h=>h.pick [0,1,2,3,4]) ?_;refine ML 6 ?_;refine Y6 [0,1,2,3,4] [0,1,2,3,4] ?_;refine TE (fun _ h=>h.pick [0,1,2,3,4]) ?_;refine MR 6 ?_;refine Y6 [0,1,2,3,4] [0,1,2,3,4] ?_;refine TZ (fun _ h=>h.pick [0,1,2,3,4]) fun W hS=> ?_;exact⟨U2,rfl,N.out,hS⟩
   refine ML 6 ?_;refine Y6 [0,1,2,3,4] [0,1,2,3,4] ?_;refine TE (fun _ h=>h.pick [0,1,2,3,4]) ?_;obtain⟨U2,N⟩:=exh (bnd D i n x);refine MC (v:=.agg (J0 .u8 32 (J2 U2))) (fun W hS=>Q3a N.out W (X5 hG hS.ext) (K4 hx hS.ext) hl) ?_;refine Y6 [0,1,2,3,4] [0,1,2,3,4] ?_;refine TE (fun _ h=>h.pick [0,1,2,3,4]) ?_;refine MR 5 ?_;refine Y6 [0,1,2,3,4] [0,1,2,3,4] ?_;refine TE (fun _ h=>h.pick [0,1,2,3,4]) ?_;refine MR 6 ?_;refine Y6 [0,1,2,3,4] [0,1,2,3,4] ?_;refine TZ (fun _ h=>h.pick [0,1,2,3,4]) fun W hS=> ?_;exact⟨U2,rfl,N.out,hS⟩
  refine ML 6 ?_;refine Y6 [0,1,2,3,4] [0,1,2,3,4] ?_;refine TE (fun _ h=>h.pick [0,1,2,3,4]) ?_;refine ML 6 ?_;refine Y6 [0,1,2,3,4] [0,1,2,3,4] ?_;refine TE (fun _ h=>h.pick [0,1,2,3,4]) ?_;obtain⟨U2,N⟩:=exh (bnd D i n x);refine MC (v:=.agg (J0 .u8 32 (J2 U2))) (fun W hS=>Q3a N.out W (X5 hG hS.ext) (K4 hx hS.ext) hl) ?_;refine Y6 [0,1,2,3,4] [0,1,2,3,4] ?_;refine TE (fun _ h=>h.pick [0,1,2,3,4]) ?_;refine MR 5 ?_;refine Y6 [0,1,2,3,4] [0,1,2,3,4] ?_;refine TE (fun _ h=>h.pick [0,1,2,3,4]) ?_;refine MR 6 ?_;refine Y6 [0,1,2,3,4] [0,1,2,3,4] ?_;refine TZ (fun _ h=>h.pick [0,1,2,3,4]) fun W hS=> ?_;exact⟨U2,rfl,N.out,hS⟩
 rintro _ W ⟨Y,rfl,Z,hS⟩;have θ:=Lib.hid Z;clear Z;go_wp2;exact BC (V20 rfl rfl rfl (hS.blk (i:=5) rfl) (hS.blk (i:=6) rfl) (by kernel_rfl) (by kernel_rfl) (by rw[J1];kernel_rfl) (by rw[J1];kernel_rfl)) rfl ⟨by rw[hR,hO,θ.out,κ.out];rfl,hS.ext⟩
theorem Q9e {q:Prop}{R:Nat}{v:AB}{id:List UInt8}(hR:R=lk0 id)(w:AA)(hG:GT q w)(hid:Sl w v id)(hl:id.length≤100000000):
  Az Tryz.prog 73 #[v] w fun e w' =>V5 (.agg (J0 .u8 32 (J2 R))) w w' e:=by
 have hS:=SH.nil [] w
 go_enter Tryz.func73,Tryz.ntmps73
 go_upto_region 0 with fail;refine RL hS ?_;clear hS;refine MN (z:=J0 .u8 32 (J2 0)) (t:=23) ?_;intro K9;refine MZ fun W hS=> ?_;go_upto_region 1 with fail;refine RL hS ?_;clear hS;refine MO (m:=[4]) (n:=1) (z:= #[.int .u8 4]) ?_;intro D;refine MV ?_;refine MB (z:= #[D,v]) (t:=22) (n:=2) (c:=2) ?_ (hr:=fun W hS=>Y0 [D,v] rfl rfl (vsc (J6 (hS.osl (i:=0) rfl)).1 (vsc (J6 (K4 hid hS.ext)).1 vs0)) Tryz.underlying155 (by kernel_rfl) (by kernel_rfl) rfl (by decide) (by decide));intro J;obtain⟨U1,G⟩:=exh (hs4 ([4]++id));refine MC (v:=.agg (J0 .u8 32 (J2 U1))) (fun W hS=>J2x G.out [[4],id] (some ⟨J,0,none⟩) 2 (by simp only[An,List.flatten_nil,Aj,BM,Ak,BK]) (by first|omega|(simp only[lA,lM,lT,lD,lC,lN,J7,J1g,J5f,Y8,Z0,Z5,J3k];omega)) (by simp) W (J0c (hS.blk (i:=0) rfl) (pvc (hS.osl (i:=1) rfl) (pvc (K4 hid hS.ext) pv0))) (J0h hG.1 hS.ext)) ?_;refine MR 2 ?_;refine MZ fun W hS=> ?_;rw[show U1=R by rw[hR];try rw[G.out];first|done|rfl] at hS;go_wp2;exact BC (Z6 rfl rfl (hS.blk (i:=2) rfl) (by kernel_rfl) (by rw[J1];kernel_rfl)) rfl ⟨rfl,hS.ext⟩
theorem Y53 {v:AB}{id:List UInt8}{r a:Nat}(n:Int)(X:Nat)(hx:n % 18446744073709551616=(X:Int))(w:AA)(hid:Sl w v id)(hl:id.length≤100000000):
  Az Tryz.prog 65 #[v,.int .i64 n,.agg (J0 .u8 32 (J2 r)),.agg (J0 .u8 32 (J2 a))] w fun e w' => ∃u,e=.returned u∧SH [] w w' [.o u ([3]++([u8 (id.length / 256),u8 id.length]++id)++be8 X++lb 32 r++lb 32 a)]:=by
 have R:AG.wrap .u64 n=(X:Int):=by rw[AG.wrap_u64];exact hx
 have hS:=SH.nil [] w
 go_enter Tryz.func65,Tryz.ntmps65
 go_upto_region 0 with fail;refine RL hS ?_;clear hS;refine MN (z:=J0 .u8 32 (J2 r)) (t:=23) ?_;intro J;refine MN (z:=J0 .u8 32 (J2 a)) (t:=23) ?_;intro G;refine MV ?_;refine MZ fun W hS=> ?_;go_upto_region 1 with fail;refine RL hS ?_;clear hS;refine MV ?_;refine MF (v:=.int .i64 (id.length:Int)) (fun W hS=>Q8 (K4 hid hS.ext) rfl rfl) ?_;refine MW ?_ (v:=.int .i64 ((id.length / 256:Nat):Int)) (hv:=by intro W;go_simp;(try omega));refine MW ?_ (v:=.int .u8 ((u8 (id.length / 256)).toNat:Int)) (hv:=by intro W;go_simp;(try simp only[J62,AG.wrap_u8]);(try omega));refine MV ?_;refine MF (v:=.int .i64 (id.length:Int)) (fun W hS=>Q8 (K4 hid hS.ext) rfl rfl) ?_;refine MW ?_ (v:=.int .u8 ((u8 id.length).toNat:Int)) (hv:=by intro W;go_simp;(try simp only[J62,AG.wrap_u8]);(try omega));refine MO (m:=[3,u8 (id.length / 256),u8 id.length]) (n:=3) (z:= #[.int .u8 3,.int .u8 ((u8 (id.length / 256)).toNat:Int),.int .u8 ((u8 id.length).toNat:Int)]) ?_;intro U;refine MV ?_;refine MA 0 (xs:=[3,u8 (id.length / 256),u8 id.length]) (ys:=id) (fun W hS=>(K4 hid hS.ext)) (by first|omega|(simp only[lA,lM,lT,lD,lC,lN,J7,J1g,J5f,Y8,Z0,Z5,J3k];omega)) ?_;intro T;refine MV ?_;refine MZ fun W hS=> ?_
 go_wp2_with fail
 go_loopw [9,10] (fun uv kk wr=> ∃(j:Nat)(sv:AB),(j≤8)∧(sv=uv)∧(kk=.int .i64 ((7:Int)-(j:Int)))∧SH [] w wr [.o sv ([3]++([u8 (id.length / 256),u8 id.length]++id)++List.take j (be8 X)),.b G (J0 .u8 32 (J2 a)) 23,.b J (J0 .u8 32 (J2 r)) 23])
  (fun uv kk _=>(intOf kk+1).toNat)
 case atStart=>exact⟨0,_,Nat.zero_le _,rfl,rfl,(by rw[List.take_zero,Aj];exact hS)⟩
 clear hS
 case round=>
  obtain⟨j,sv,hj,rfl,rfl,hS⟩:=hrel
  by_cases D:j<8
  ·
   go_upto_region 3 with fail;refine RL hS ?_;clear hS;refine MV ?_;refine Wto ?_;refine MZ fun W hS=> ?_;go_upto_region 5 with fail;refine RL hS ?_;clear hS;refine MV ?_;refine MV ?_;refine MW ?_ (v:=.int .u64 (X:Int)) (hv:=by intro W;go_simp;(try simp only[R]));refine MV ?_;refine MW ?_ (v:=.int .i64 ((8*(7-j):Nat):Int)) (hv:=by intro W;go_simp;(try simp only[AG.wrap_i64]);omega);refine MW ?_ (v:=.int .u64 ((X / 2^(8*(7-j)):Nat):Int)) (hv:=by intro W;exact Q9d (by omega) rfl rfl rfl);refine MW ?_ (v:=.int .u8 ((by8 X j).toNat:Int)) (hv:=by intro W;exact Z3y rfl rfl Tryz.underlying121 Tryz.underlying5);refine MO (m:=[by8 X j]) (n:=1) (z:= #[.int .u8 ((by8 X j).toNat:Int)]) ?_;intro Y;refine MA 1 (xs:=([3]++([u8 (id.length / 256),u8 id.length]++id)++List.take j (be8 X))) (ys:=[by8 X j]) (fun W hS=>(hS.osl (i:=0) rfl)) (by first|omega|(simp only[lA,lM,lT,lD,lC,lN,J7,J1g,J5f,Y8,Z0,Z5,J3k];omega)) ?_;intro N;refine MV ?_;refine MZ fun W hS=> ?_;go_wp2;go_roundw
   case rel=>exact⟨j+1,N,by omega,rfl,by rw[show(7:Int)-((j+1:Nat):Int)=7-(j:Int)-1 by omega],(by rw[Q96 X D,←Ak];exact(hS.pick [1,2,3]))⟩
   case measure=>simp[intOf];omega
  obtain rfl:j=8:=by omega
  rw[V6l] at hS;go_upto_region 3 with fail;refine RL hS ?_;clear hS;refine MV ?_;refine Wfo ?_;refine MZ fun W hS=> ?_;go_upto_region 6 with fail;refine RTp [1,2] (.q 0 (.q 1 (.q 3 (.e 2 (.e 4 (.q 5 .z)))))) hS ?_;clear hS;refine TV ?_;refine TW ?_ (v:=.slice (some ⟨J,0,none⟩) 32 32);refine TW ?_ (v:=.slice (some ⟨G,0,none⟩) 32 32);refine TE (fun _ h=>h.pick [1,2]) ?_;refine MA 0 (xs:=([3]++([u8 (id.length / 256),u8 id.length]++id)++be8 X)) (ys:=(lb 32 r)) (fun W hS=>(Q7 (V:=r) (n:=32) (off:=0) (c:=32) (hS.blk (i:=2) rfl) ap0 (by decide) (by decide))) (by first|omega|(simp only[lA,lM,lT,lD,lC,lN,J7,J1g,J5f,Y8,Z0,Z5,J3k];omega)) ?_;intro S;refine Y6 [1,2] [0,1] ?_;refine TE (fun _ h=>h.pick [1,2]) ?_;refine MA 0 (xs:=(([3]++([u8 (id.length / 256),u8 id.length]++id)++be8 X)++(lb 32 r))) (ys:=(lb 32 a)) (fun W hS=>(Q7 (V:=a) (n:=32) (off:=0) (c:=32) (hS.blk (i:=1) rfl) ap0 (by decide) (by decide))) (by first|omega|(simp only[lA,lM,lT,lD,lC,lN,J7,J1g,J5f,Y8,Z0,Z5,J3k];omega)) ?_;intro M;refine Y6 [0,1,2] [1,2] ?_;refine TV ?_;refine TZ (fun _ h=>h) fun W hS=> ?_;go_wp2;exact BC (v:=M) (by simp only[results,Tryz.results65];go_simp) rfl ⟨_,rfl,hS.pick [0]⟩
theorem Y54 {v:AB}{id:List UInt8}{r a:Nat}(n:Int)(w:AA)(hid:Sl w v id)(hl:id.length≤100000000):Az Tryz.prog 65 #[v,.int .i64 n,.agg (J0 .u8 32 (J2 r)),.agg (J0 .u8 32 (J2 a))] w fun e w' => ∃u,e=.returned u∧SH [] w w' [.o u (lkT id n r a)]:=by
 have h:=Y53 (r:=r) (a:=a) n (n % 18446744073709551616).toNat (by omega) w hid hl;unfold lkT eI;exact h
theorem Y55 {q:Prop}{R r a:Nat}{n:Int}{v:AB}{id:List UInt8}(hR:R=lkn id n r a)(w:AA)(hG:GT q w)(hid:Sl w v id)(hl:id.length≤100000000):
  Az Tryz.prog 26 #[v,.int .i64 n,.agg (J0 .u8 32 (J2 r)),.agg (J0 .u8 32 (J2 a))] w fun e w' =>V5 (.agg (J0 .u8 32 (J2 R))) w w' e:=by
 have hS:=SH.nil [] w
 go_enter Tryz.func26,Tryz.ntmps26
 go_upto_region 0 with fail;refine RL hS ?_;clear hS;refine MN (z:=J0 .u8 32 (J2 r)) (t:=23) ?_;intro S;refine MN (z:=J0 .u8 32 (J2 a)) (t:=23) ?_;intro M;refine MN (z:=J0 .u8 32 (J2 0)) (t:=23) ?_;intro N;refine MZ fun W hS=> ?_;go_upto_region 1 with fail;refine RL hS ?_;clear hS;refine MV ?_;refine MV ?_;refine ML 2 ?_;refine ML 1 ?_;refine ME (V:=fun v=>v) (fun W hS=>J1y hS (Y54 (r:=r) (a:=a) n W (K4 hid hS.ext) hl) (fun _=>⟨rfl,rfl⟩)) ?_;intro D;refine MB (z:= #[D]) (t:=22) (n:=1) (c:=1) ?_ (hr:=fun W hS=>Y0 [D] rfl rfl (vsc (J6 (hS.osl (i:=0) rfl)).1 vs0) Tryz.underlying155 (by kernel_rfl) (by kernel_rfl) rfl (by decide) (by decide));intro J;obtain⟨U1,G⟩:=exh (hs4 ((lkT id n r a)));refine MC (v:=.agg (J0 .u8 32 (J2 U1))) (fun W hS=>J2x G.out [lkT id n r a] (some ⟨J,0,none⟩) 1 (by simp only[An,List.flatten_nil,Aj,BM,Ak,BK]) (by first|omega|(simp only[lA,lM,lT,lD,lC,lN,J7,J1g,J5f,Y8,Z0,Z5,J3k];omega)) (by simp) W (J0c (hS.blk (i:=0) rfl) (pvc (hS.osl (i:=1) rfl) pv0)) (J0h hG.1 hS.ext)) ?_;refine MR 2 ?_;refine MZ fun W hS=> ?_;rw[show U1=R by rw[hR];try rw[G.out];first|done|rfl] at hS;go_wp2;exact BC (Z6 rfl rfl (hS.blk (i:=2) rfl) (by kernel_rfl) (by rw[J1];kernel_rfl)) rfl ⟨rfl,hS.ext⟩
theorem Q9f {q:Prop}(hr:q){R:Nat}{id:List UInt8}(hR:R=lk0 id)(hl:id.length≤100000000)(w:AA)(hG:GT q w):
  Az Tryz.prog 78 #[V3 id] w fun e w' =>V5 (V3 (lb 32 R)) w w' e:=by
 have hS:=SH.nil [] w
 go_enter Tryz.func78,Tryz.ntmps78
 go_upto_region 1 with fail;refine RL hS ?_;clear hS;refine MV ?_;refine MW ?_ (v:=V3 ([4]++id)) (hv:=fun _=>Y56 (l:=[4]) (m:=id) rfl rfl rfl (by first|omega|(simp only[lA,lM,lT,lD,lC,lN,J7,Y8,Z0,Z5];omega)));obtain⟨U1,D⟩:=exh (hs4 ([4]++id));refine MC (v:=V3 (lb 32 U1)) (fun W hS=>Q9g D.out (by first|omega|(simp only[lA,lM,lT,lD,lC,lN,J7,J1g,J5f,Y8,Z0,Z5,J3k];omega)) W (Q0h (hG.2 hr) hS.ext)) ?_;refine MV ?_;refine MZ fun W hS=> ?_;go_wp2;exact BC (v:=V3 (lb 32 U1)) (by simp only[results,Tryz.results78];first|(go_simp;done)|(go_simp;rfl)) rfl ⟨by rw[hR,D.out];unfold lk0;rfl,hS.ext⟩
end

section
set_option maxHeartbeats 3000000
attribute [local irreducible] wpList Z9 wpX
theorem DOk.pos {D:DD}(h:DOk D):1≤D.puts.length:=by
 have:=(List.getElem?_eq_some_iff.1 h.zero).1;omega
theorem DOk.len {D:DD}(h:DOk D):D.puts.length≤33:=by have:=h.ep;have:=h.e2;omega
def win (n m:Int):Bool:=decide (1≤n∧n≤m)
attribute [local irreducible] eI be8 hs4 lb J33 J25 K3 xt hm
theorem Z9o {w:AA}{v:AB}{l:List UInt8}(h:Sl w v l):(v=.slice none 0 0∧l=[])∨∃ad n c,v=.slice (some ad) n c:=by
 obtain⟨A,c,rfl,h1,h2,h0,h3⟩:=h;cases A with
 |none=>
  cases l with
  |nil=>exact .inl ⟨by rw[h0 rfl];rfl,rfl⟩
  |cons a l=>obtain⟨ad,e,_⟩:=h3 0 a rfl;cases e
 |some ad=>exact .inr ⟨ad,_,c,rfl⟩
theorem J5j {h:Nat}{m:List (List UInt8×Nat)}{w W:AA}(hm:Q47 h m w)(q:Ext w W):Q47 h m W:=by
 have D:=Z43 hm;obtain⟨es,c,h1,h2⟩:=hm;exact⟨es,c,by rw[q.block h D];exact h1,h2⟩

theorem Q1q:zer Tryz.prog 97=some (some (Q2 [.c (.int .i64 0),.c (.int .i64 0),.c (.slice none 0 0)])):=by kernel_rfl
theorem Q1r:plc Tryz.prog 97=some [(0,1),(1,1),(2,1)]:=by kernel_rfl
theorem J4v:zer Tryz.prog 84=some (some (Q2 [.c (.slice none 0 0),.c (.slice none 0 0)])):=by kernel_rfl
theorem J4w:plc Tryz.prog 84=some [(0,1),(1,1)]:=by kernel_rfl
theorem J9w:zer Tryz.prog 94=some (some (Q2 [.a 32 0,.a 80 0,.c (.slice none 0 0)])):=by kernel_rfl
theorem J9x:plc Tryz.prog 94=some [(0,32),(32,80),(112,1)]:=by kernel_rfl
theorem J10 (n m:Int)(w:AA):
  Az Tryz.prog 67 #[.int .i64 n,.int .i64 m] w fun e w' =>V5 (.bool (win n m)) w w' e:=by
 have hS:=SH.nil [] w
 go_enter Tryz.func67,Tryz.ntmps67
 by_cases D:1≤n
 ·
  go_upto_region 1 with fail;refine RL hS ?_;clear hS;refine MV ?_;refine Wto ?_;refine Wt ?_;refine MV ?_;refine MV ?_;refine MW ?_ (v:=.bool (decide (n≤m))) (hv:=by intro W;go_simp;first|done|rfl);refine MW ?_ (v:=.bool (decide (n≤m)));refine MW ?_ (v:=.bool (decide (n≤m)));refine MZ fun W hS=> ?_;go_wp2;exact BC (v:=.bool (decide (n≤m))) (by simp only[results,Tryz.results67];go_simp) rfl ⟨congrArg (fun b=>Ending.returned (AB.bool b)) (by unfold win;exact(decide_eq_decide.2 ⟨fun h=>⟨D,h⟩,And.right⟩)),hS.ext⟩
 go_upto_region 1 with fail;refine RL hS ?_;clear hS;refine MV ?_;refine Wfo ?_;refine Wf ?_;(iterate 3 refine MS ?_);refine Wf ?_;refine Wf ?_;refine MZ fun W hS=> ?_;go_wp2;exact BC (v:=.bool false) (by simp only[results,Tryz.results67];go_simp) rfl ⟨congrArg (fun b=>Ending.returned (AB.bool b)) (by unfold win;exact(decide_eq_false (fun h=>absurd h.1 (by omega))).symm),hS.ext⟩
theorem J3n {v:AB}{l:List UInt8}(w:AA)(hs:Sl w v l):
  Az Tryz.prog 28 #[v] w fun e w' =>V5 (.bool (win (l.length:Int) 32)) w w' e:=by
 have hS:=SH.nil [] w
 go_enter Tryz.func28,Tryz.ntmps28
 go_upto_region 1 with fail;refine RL hS ?_;clear hS;refine MV ?_;refine MF (v:=.int .i64 (l.length:Int)) (fun W hS=>Q8 (K4 hs hS.ext) rfl rfl) ?_;refine MC (v:=.bool (win (l.length:Int) 32)) (fun W hS=>J10 (l.length:Int) 32 W) ?_;refine MW ?_ (v:=.bool (win (l.length:Int) 32));refine MZ fun W hS=> ?_;go_wp2;exact BC (v:=.bool (win (l.length:Int) 32)) (by simp only[results,Tryz.results28];go_simp) rfl ⟨rfl,hS.ext⟩

theorem J8x {v:AB}{l:List UInt8}(w:AA)(hs:Sl w v l)(hl:l.length≤100000000):
  Az Tryz.prog 33 #[v] w fun e w' => ∃u,e=.returned u∧SH [] w w' [.o u l]:=by
 have hS:=SH.nil [] w
 go_enter Tryz.func33,Tryz.ntmps33
 rcases Z9o hs with⟨rfl,rfl⟩|⟨G,n0,c0,rfl⟩
 ·
  go_upto_region 1 with fail;refine RL hS ?_;clear hS;refine MV ?_;refine MW ?_ (v:=.bool true) (hv:=by intro W;go_simp;first|done|rfl);refine MZ fun W hS=> ?_;have hS:=hS.onil rfl;go_wp2;exact BC (v:=.slice none 0 0) (by simp only[results,Tryz.results33];go_simp) rfl ⟨_,rfl,hS⟩
 go_upto_region 1 with fail;refine RL hS ?_;clear hS;refine MV ?_;refine MW ?_ (v:=.bool false) (hv:=by intro W;go_simp;first|done|rfl);refine MZ fun W hS=> ?_;go_upto_region 3 with fail;refine RL hS ?_;clear hS;refine MO (m:=[]) (n:=0) (z:= #[]) ?_;intro J;refine MV ?_;refine MA 0 (xs:=[]) (ys:=l) (fun W hS=>(K4 hs hS.ext)) (by first|omega|(simp only[lA,lM,lT,lD,lC,lN,J7,Y8,Z0,Z5];omega)) ?_;intro D;refine MV ?_;refine MZ fun W hS=> ?_;go_wp2;exact BC (v:=D) (by simp only[results,Tryz.results33];go_simp) rfl ⟨_,rfl,hS.pick [0]⟩
theorem J58 {D:DD}{y:LD}(w:AA)(hD:DK D y w)(hL:LOk D y)(hK:DOk D):
  Az Tryz.prog 12 #[.pointer (some ⟨y.p,0,none⟩)] w fun e w' =>V5 (.int .i64 ((D.puts.length-1:Nat):Int)) w w' e:=by
 have G:=hK.pos;have J:=hK.len;have hS:=SH.nil [] w
 go_enter Tryz.func12,Tryz.ntmps12
 go_upto_region 3 with fail;refine RL hS ?_;clear hS;(iterate 3 refine MV ?_);refine MF (v:=y.lv) (fun W hS=>Q6 rfl rfl (by rw[J3 (J4 hD.d hS.ext)];exact(J5 (off:=72) 10)) (by kernel_rfl)) ?_;refine MF (v:=.int .i64 (D.puts.length:Int)) (fun W hS=>(by rw[show(D.puts.length:Int)=((List.map J0d D.links).length:Int) by rw[List.length_map,DD.links_len]];exact J1b (Row.off hD.lk hS.off0 f0) rfl rfl Tryz.underlying37)) ?_;refine MW ?_ (v:=.int .i64 ((D.puts.length-1:Nat):Int)) (hv:=by intro W;go_simp;(try simp only[AG.wrap_i64]);omega);refine MV ?_;refine MZ fun W hS=> ?_;go_wp2;exact BC (v:=.int .i64 ((D.puts.length-1:Nat):Int)) (by simp only[results,Tryz.results12];go_simp) rfl ⟨rfl,hS.ext⟩
end

section
set_option maxHeartbeats 3000000
attribute [local irreducible] wpList Z9 wpX
open S8 (Kn GA kP vprv vsm lo)
abbrev enZ:En:=⟨0,0,.slice none 0 0,[]⟩
def J0l (es:List En)(e:Int):En:=(es.filter fun x=>decide ((x.ep:Int)≤e)).getLastD enZ
theorem Y59 (e:Int):J0l [] e=enZ:=rfl
theorem Q48 {es:List En}{k:Nat}{x:En}{e:Int}(h:es[k]?=some x):J0l (es.take (k+1)) e=if(x.ep:Int)≤e then x else J0l (es.take k) e:=by
 unfold J0l;rw[List.take_add_one,h,List.filter_append]
 by_cases hx:(x.ep:Int)≤e
 ·
  rw[if_pos hx,show List.filter (fun x=>decide ((x.ep:Int)≤e)) (some x).toList=[x] by simp[hx]];rw[List.getLastD_eq_getLast?,List.getLast?_append];rfl
 rw[if_neg hx,show List.filter (fun x=>decide ((x.ep:Int)≤e)) (some x).toList=[] by simp[hx],Aj]
theorem Q1s {es:List En}{e:Int}:J0l es e=enZ∨J0l es e∈es:=by
 unfold J0l;cases h:(es.filter fun x=>decide ((x.ep:Int)≤e)).getLast? with
 |none=>left;rw[List.getLastD_eq_getLast?,h];rfl
 |some x=>
  right;rw[List.getLastD_eq_getLast?,h];exact(List.mem_filter.1 (List.mem_of_getLast? h)).1
theorem V76 {W:AA}{A:Option Addr}{n c i g o:Nat}{es:List En}{y:En}(h:RR 3 W (.slice A n c) (es.map enC))(yh:es[i]?=some y)(hA:A=some ⟨g,o,none⟩):∀(j:Nat) (v:AB),(enF y)[j]?=some v→W.cell? ⟨g,o+i*3+j,none⟩=some v:=fun j v hv=>
 RR.cellat h (by rw[BO,yh];rfl) hA j v (V77 j v hv)
theorem Z9p {acs:List Ac}{l:List UInt8}(h:l∉acs.map (·.l)):mlk (J0j acs) l=none:=by
 induction acs with
 |nil=>rfl
 |cons a acs ih=>
  show(if a.l=l then some a.b else mlk (J0j acs) l)=none;rw[if_neg (fun e=>h (by rw[AX,e];simp))];exact ih fun hm=>h (List.mem_cons_of_mem _ hm)
theorem Q9i {acs:List Ac}{a:Ac}(h:a∈acs)(hn:(acs.map (·.l)).Nodup):mlk (J0j acs) a.l=some a.b:=by
 induction acs with
 |nil=>cases h
 |cons b acs ih=>
  show(if b.l=a.l then some b.b else mlk (J0j acs) a.l)=some a.b;rw[AX,List.nodup_cons] at hn;rcases List.mem_cons.1 h with rfl|h
  ·
   rw[if_pos rfl]
  ·
   rw[if_neg (fun e=>hn.1 (by rw[e];exact List.mem_map.2 ⟨a,h,rfl⟩))];exact ih h hn.2
theorem LOk.mlk_n {D:DD}{y:LD}(h:LOk D y){l:List UInt8}(hl:l∉D.labs):mlk (J0j y.acs) l=none:=Z9p (by rw[h.a];exact hl)
theorem LOk.mlk_s {D:DD}{y:LD}(h:LOk D y){a:Ac}(ha:a∈y.acs):mlk (J0j y.acs) a.l=some a.b:=Q9i ha (by rw[h.a];exact D.labs_nodup)
theorem LOk.acc {D:DD}{y:LD}(h:LOk D y){l:List UInt8}(hl:l∈D.labs):∃a∈y.acs,a.l=l:=by
 rw[←h.a] at hl;exact List.mem_map.1 hl
theorem V22 {vk:Nat}{l:List UInt8}(h:erN vk l=0):(vsm (pfN vk l)).2=0:=by
 unfold erN at h;unfold pfN vsm;cases hv:S8.vpt (kP vk) l with
 |none=>rw[S8.vprv_none hv] at h;cases h
 |some c=>
  have D:=S8.candP_on (S8.vpt_some hv).2.1;rw[S8.vprv_some hv,(S8.vPr_parts D).1,(S8.dec_enc (S8.pm_on D _)).1,if_pos rfl]
attribute [local irreducible] eI be8 hs4 lb J33 J25 K3 xt hm S8.vprv S8.vsm ixN pfN erN J0l

theorem V78 {b ix pf:Nat}{mv:AB}{es:List En}{n:Int}(hn:es.length≤1000)(w:AA)(hb:Blk w b (Q2 [.a 32 ix,.a 80 pf,.c mv]) 94)(hr:RR 3 w mv (es.map enC))(hs:∀x∈es,Sl w x.u x.x):
  Az Tryz.prog 32 #[.pointer (some ⟨b,0,none⟩),.int .i64 n] w fun e w' =>V5 (.tuple #[.agg (enF (J0l es n)),.bool (decide (0<((J0l es n).ver:Int)))]) w w' e:=by
 obtain⟨Am,cm,rfl,Y,X⟩:=RR.opf hr;have hS:=SH.nil [] w
 go_enter Tryz.func32,Tryz.ntmps32
 go_upto_region 0 with fail;refine RL hS ?_;clear hS;refine MN (z:=Q2 [.c (.int .i64 0),.c (.int .i64 0),.c (.slice none 0 0)]) (t:=97) ?_;intro V;refine Wf ?_;refine MZ fun W hS=> ?_;go_upto_region 1 with fail;refine RL hS ?_;clear hS;refine MN (z:=Q2 [.c (.int .i64 0),.c (.int .i64 0),.c (.slice none 0 0)]) (t:=97) ?_;intro U;refine MZ fun W hS=> ?_;go_upto_region 2 with fail;refine RL hS ?_;clear hS;(iterate 3 refine MV ?_);refine MF (v:=.slice Am es.length cm) (fun W hS=>Q6 rfl rfl (by rw[J3 (J4 hb hS.ext)];exact(J5 (off:=112) 2)) (by kernel_rfl)) ?_;refine MV ?_;refine W0 ?_;refine MZ fun W hS=> ?_
 go_wp2_with fail
 go_loopw [14] (fun jj wr=> ∃(k:Nat)(z:En),(k≤es.length)∧(RowKit.Hid (z=J0l (es.take k) n))∧(Sl w z.u z.x)∧(jj=.int .i64 (k:Int))∧SH [] w wr [.b V (Q2 [.c (.int .i64 0),.c (.int .i64 0),.c (.slice none 0 0)]) 97,.b U (Q2 [.c (.int .i64 (z.ep:Int)),.c (.int .i64 (z.ver:Int)),.c z.u]) 97])
  (fun jj _=>es.length-(intOf jj).toNat)
 case atStart=>exact⟨0,enZ,Nat.zero_le _,Lib.hid (by rw[List.take_zero,Y59]),Q1p w,rfl,(hS.pick [1,0])⟩
 clear hS
 case round=>
  obtain⟨k,z,hk,hz,S,rfl,hS⟩:=hrel;have M:=J6 S
  by_cases J:k<es.length
  ·
   obtain⟨x,xh⟩:∃x,es[k]?=some x:=⟨_,List.getElem?_eq_getElem J⟩
   obtain⟨gm,om,N,_⟩:=X.out k x xh;have T:=Lib.hid N;clear N;have R:=hs x (List.mem_of_getElem? xh);have D:=J6 R;go_upto_region 3 with fail;refine RL hS ?_;clear hS;refine Wto ?_;refine MZ fun W hS=> ?_;go_upto_region 4 with fail;refine RL hS ?_;clear hS;refine MW ?_ (v:=.pointer (some ⟨gm,om+k*3,none⟩)) (hv:=fun _=>J0m T.out J rfl rfl rfl Tryz.underlying47 (by kernel_rfl));refine MF (v:=.agg (Q2 [.c (.int .i64 (x.ep:Int)),.c (.int .i64 (x.ver:Int)),.c x.u])) (fun W hS=>V4 rfl rfl (fun i_ v hv=>(V76 (hr.ext hS.ext) xh T.out) i_ v (by simpa using hv)) (by kernel_rfl) (by rw[J9];kernel_rfl)) ?_;refine MN (z:=Q2 [.c (.int .i64 0),.c (.int .i64 0),.c (.slice none 0 0)]) (t:=97) ?_;intro Z;refine MRa 0 ?_ (h1:=by exact(V6 ⟨rfl,rfl,D.2,trivial⟩));refine MZ fun W hS=> ?_
   by_cases G:(x.ep:Int)≤n
   ·
    go_upto_region 5 with fail;refine RL hS ?_;clear hS;refine MV ?_;refine MG 0 ?_ (v:=.int .i64 (x.ep:Int)) (hj:=(J5 (off:=0) 0));refine MV ?_;refine Wto ?_;refine MZ fun W hS=> ?_;go_upto_region 6 with fail;refine RL hS ?_;clear hS;refine ML 0 ?_ (hs:=by rw[J9];kernel_rfl);refine MRa 2 ?_ (h1:=by exact(V6 ⟨rfl,rfl,D.2,trivial⟩));refine MZ fun W hS=> ?_;go_wp2;go_roundw
    case rel=>exact⟨(k+1),x,by omega,Lib.hid (by rw[Q48 xh,if_pos G]),R,by go_num,(hS.pick [1,2])⟩
    case measure=>simp[intOf];omega
   go_upto_region 5 with fail;refine RL hS ?_;clear hS;refine MV ?_;refine MG 0 ?_ (v:=.int .i64 (x.ep:Int)) (hj:=(J5 (off:=0) 0));refine MV ?_;refine Wfo ?_;refine MZ fun W hS=> ?_;go_wp2;go_roundw
   case rel=>exact⟨(k+1),z,by omega,Lib.hid (by rw[Q48 xh,if_neg G];exact hz.out),S,by go_num,(hS.pick [1,2])⟩
   case measure=>simp[intOf];omega
  obtain rfl:k=es.length:=by omega
  rw[List.take_length] at hz;go_upto_region 3 with fail;refine RL hS ?_;clear hS;refine Wfo ?_;refine MZ fun W hS=> ?_;go_upto_region 8 with fail;refine RTp [1] (.q 0 (.q 1 (.q 2 (.q 3 (.e 4 (.q 5 .z)))))) hS ?_;clear hS;refine TL 0 ?_ (hs:=by rw[J9];kernel_rfl);refine TV ?_;refine TG 0 ?_ (v:=.int .i64 (z.ver:Int)) (hj:=(J5 (off:=1) 1));refine TW ?_ (v:=.bool (decide (0<(z.ver:Int)))) (hv:=by intro W;go_simp;first|done|rfl);refine TE (fun _ h=>h.pick [1]) ?_;refine MRa 0 ?_ (h1:=by exact(V6 ⟨rfl,rfl,M.2,trivial⟩));refine Y6 [1] [0] ?_;refine TW ?_ (v:=.bool (decide (0<(z.ver:Int))));refine TZ (fun _ h=>h.pick [1]) fun W hS=> ?_;go_wp2;exact BC (Y7 rfl rfl rfl (hS.blk (i:=0) rfl) (by kernel_rfl) (by rw[J9];kernel_rfl)) rfl ⟨by rw[←hz.out];rfl,hS.ext⟩
theorem Z44 {D:DD}{y:LD}{a:Ac}{v:AB}(ha:a∈y.acs)(w:AA)(hD:DK D y w)(hL:LOk D y)(hs:Sl w v a.l):
  Az Tryz.prog 29 #[.pointer (some ⟨y.p,0,none⟩),v] w fun e w' =>V5 (.tuple #[.pointer (some ⟨a.b,0,none⟩),.int .i64 0]) w w' e:=by
 have hS:=SH.nil [] w
 go_enter Tryz.func29,Tryz.ntmps29
 go_upto_region 1 with fail;refine RTh (.q 0 (.q 1 (.q 2 (.q 3 (.q 4 (.q 5 (.q 6 (.q 7 .z)))))))) hS ?_;clear hS;(iterate 3 refine TV ?_);refine TF (v:=.map (some y.h)) rfl (fun W hS=>Q6 rfl rfl (by rw[J3 (J4 hD.d hS.ext)];exact(J5 (off:=68) 6)) (by kernel_rfl)) ?_;refine TV ?_;refine TF (v:=V3 a.l) rfl (fun W hS=>J01 (K4 hs hS.ext) rfl rfl) ?_;refine TF (v:=.pointer (some ⟨a.b,0,none⟩)) rfl (fun W hS=>(by rw[show(.pointer (some ⟨a.b,0,none⟩):AB)=mpt (mlk (J0j y.acs) a.l) by rw[hL.mlk_s ha];rfl];exact J67 (J5j hD.m hS.ext) Tryz.underlying76 Tryz.underlying9 (by kernel_rfl) rfl rfl rfl)) ?_;refine TV ?_;refine TZ (fun _ h=>h) fun W hS=> ?_;go_upto_region 2 with fail;refine RL hS ?_;clear hS;refine MV ?_;refine MW ?_ (v:=.bool true) (hv:=by intro W;go_simp;first|done|rfl);refine MZ fun W hS=> ?_;go_wp2;exact BC (v:=.tuple #[.pointer (some ⟨a.b,0,none⟩),.int .i64 0]) (by simp only[results,Tryz.results29];go_simp) rfl ⟨rfl,hS.ext⟩
theorem Z45 {D:DD}{y:LD}{l:List UInt8}{v:AB}(hn:l∉D.labs)(he:erN D.vk l=0)(w:AA)(hX:GX w)(hD:DK D y w)(hL:LOk D y)(hs:Sl w v l)(hl:l.length≤32):
  Az Tryz.prog 29 #[.pointer (some ⟨y.p,0,none⟩),v] w fun e w' => ∃b,e=.returned (.tuple #[.pointer (some ⟨b,0,none⟩),.int .i64 0])∧SH [] w w' [.b b (Q2 [.a 32 (ixN D.vk l),.a 80 (pfN D.vk l),.c (.slice none 0 0)]) 94]:=by
 have hS:=SH.nil [] w
 go_enter Tryz.func29,Tryz.ntmps29
 go_upto_region 1 with fail;refine RTh (.q 0 (.q 1 (.q 2 (.q 3 (.q 4 (.q 5 (.q 6 (.q 7 .z)))))))) hS ?_;clear hS;(iterate 3 refine TV ?_);refine TF (v:=.map (some y.h)) rfl (fun W hS=>Q6 rfl rfl (by rw[J3 (J4 hD.d hS.ext)];exact(J5 (off:=68) 6)) (by kernel_rfl)) ?_;refine TV ?_;refine TF (v:=V3 l) rfl (fun W hS=>J01 (K4 hs hS.ext) rfl rfl) ?_;refine TF (v:=.pointer none) rfl (fun W hS=>(by rw[show(.pointer none:AB)=mpt (mlk (J0j y.acs) l) by rw[hL.mlk_n hn];rfl];exact J67 (J5j hD.m hS.ext) Tryz.underlying76 Tryz.underlying9 (by kernel_rfl) rfl rfl rfl)) ?_;refine TV ?_;refine TZ (fun _ h=>h) fun W hS=> ?_;go_upto_region 2 with fail;refine RL hS ?_;clear hS;refine MV ?_;refine MW ?_ (v:=.bool false) (hv:=by intro W;go_simp;first|done|rfl);refine MZ fun W hS=> ?_;go_upto_region 4 with fail;refine RL hS ?_;clear hS;(iterate 4 refine MV ?_);refine MF (v:=.agg (J0 .u8 32 (J2 D.vk))) (fun W hS=>V4 rfl rfl (fun i v hv=>by rw[J3 (J4 hD.d hS.ext)];exact(K0 (off:=1) 1) i v hv) (by kernel_rfl) (by first|kernel_rfl|(rw[J1];kernel_rfl))) ?_;refine MV ?_;obtain⟨P,HP⟩:=exh (pfN D.vk l);refine MC (v:=.tuple #[.agg (J0 .u8 80 (J2 P)),.int .i64 0]) (fun W hS=>S8.proveN_c (kn:=kn0) trivial trivial trivial (X:=P) (by rw[HP.out];unfold pfN;rfl) (E:=0) (by unfold erN at he;exact he.symm) v (Nat.le_trans hl (by decide)) W (hX.ext hS.ext).2 (K4 hs hS.ext)) ?_;refine MV ?_;refine MV ?_;refine W0 ?_;refine MN (z:=J0 .u8 80 (J2 0)) (t:=36) ?_;intro M;refine MR 0 ?_;refine W0 ?_;refine MZ fun W hS=> ?_;go_upto_region 5 with fail;refine RL hS ?_;clear hS;refine W0 ?_;refine Wfo ?_;refine MZ fun W hS=> ?_;go_upto_region 7 with fail;refine RL hS ?_;clear hS;refine ML 0 ?_;obtain⟨S_,J⟩:=exh (vsm P).1;refine MC (v:=.tuple #[.agg (J0 .u8 64 (J2 S_)),.int .i64 0]) (fun W hS=>S8.vsumN_c (kn:=kn0) trivial (X:=S_) (E:=0) J.out (by rw[HP.out];exact(V22 he).symm) W (hX.ext hS.ext).2) ?_;refine MV ?_;refine MV ?_;refine W0 ?_;refine MN (z:=J0 .u8 64 (J2 0)) (t:=67) ?_;intro N;refine MR 0 ?_;refine W0 ?_;refine MZ fun W hS=> ?_;go_upto_region 8 with fail;refine RL hS ?_;clear hS;refine W0 ?_;refine Wfo ?_;refine MZ fun W hS=> ?_;go_upto_region 10 with fail;refine RTh (.q 0 (.q 2 (.e 1 (.q 3 (.e 4 (.q 5 (.q 6 .z))))))) hS ?_;clear hS;refine TL 0 ?_;refine TL 1 ?_;refine TE (fun _ h=>h) ?_;refine MC (v:=.agg (J0 .u8 32 (J2 (lo S_)))) (fun W hS=>S8.index_c (X:=S_) W) ?_;refine TNh (fun W hS=>hS) ?_;refine TF (v:=.agg (Q2 [.a 32 (lo S_),.a 80 P,.c (.slice none 0 0)])) rfl (fun W hS=>J21 [(0,[.a 32 (lo S_)]),(1,[.a 80 P])] rfl rfl J9w J9x (.c ((J1m _ _).symm) (.c ((J1m _ _).symm) .n))) ?_;refine TE (fun _ h=>h) ?_;refine MN (z:=Q2 [.a 32 (lo S_),.a 80 P,.c (.slice none 0 0)]) (t:=94) ?_;intro G;refine TNh (fun W hS=>hS.pick [1,2]) ?_;refine TV ?_;refine T0 ?_;refine TZ (fun _ h=>h) fun W hS=> ?_;go_wp2;exact BC (v:=.tuple #[.pointer (some ⟨G,0,none⟩),.int .i64 0]) (by simp only[results,Tryz.results29];go_simp) rfl ⟨G,rfl,by rw[show ixN D.vk l=lo S_ by unfold ixN;rw[J.out,HP.out],←HP.out];exact hS.pick [0]⟩
theorem Z46 {D:DD}{y:LD}{l:List UInt8}{v:AB}{E:Nat}(hE:E=erN D.vk l)(hn:l∉D.labs)(he:E≠0)(w:AA)(hX:GX w)(hD:DK D y w)(hL:LOk D y)(hs:Sl w v l)(hl:l.length≤32):
  Az Tryz.prog 29 #[.pointer (some ⟨y.p,0,none⟩),v] w fun e w' =>V5 (.tuple #[.pointer none,.int .i64 (E:Int)]) w w' e:=by
 obtain⟨P0,G⟩:=exh (S8.vprv D.vk l).1;have hS:=SH.nil [] w
 go_enter Tryz.func29,Tryz.ntmps29
 go_upto_region 1 with fail;refine RTh (.q 0 (.q 1 (.q 2 (.q 3 (.q 4 (.q 5 (.q 6 (.q 7 .z)))))))) hS ?_;clear hS;(iterate 3 refine TV ?_);refine TF (v:=.map (some y.h)) rfl (fun W hS=>Q6 rfl rfl (by rw[J3 (J4 hD.d hS.ext)];exact(J5 (off:=68) 6)) (by kernel_rfl)) ?_;refine TV ?_;refine TF (v:=V3 l) rfl (fun W hS=>J01 (K4 hs hS.ext) rfl rfl) ?_;refine TF (v:=.pointer none) rfl (fun W hS=>(by rw[show(.pointer none:AB)=mpt (mlk (J0j y.acs) l) by rw[hL.mlk_n hn];rfl];exact J67 (J5j hD.m hS.ext) Tryz.underlying76 Tryz.underlying9 (by kernel_rfl) rfl rfl rfl)) ?_;refine TV ?_;refine TZ (fun _ h=>h) fun W hS=> ?_;go_upto_region 2 with fail;refine RL hS ?_;clear hS;refine MV ?_;refine MW ?_ (v:=.bool false) (hv:=by intro W;go_simp;first|done|rfl);refine MZ fun W hS=> ?_;go_upto_region 4 with fail;refine RL hS ?_;clear hS;(iterate 4 refine MV ?_);refine MF (v:=.agg (J0 .u8 32 (J2 D.vk))) (fun W hS=>V4 rfl rfl (fun i v hv=>by rw[J3 (J4 hD.d hS.ext)];exact(K0 (off:=1) 1) i v hv) (by kernel_rfl) (by first|kernel_rfl|(rw[J1];kernel_rfl))) ?_;refine MV ?_;refine MC (v:=.tuple #[.agg (J0 .u8 80 (J2 P0)),.int .i64 (E:Int)]) (fun W hS=>S8.proveN_c (kn:=kn0) trivial trivial trivial (X:=P0) G.out (E:=E) (by rw[hE];unfold erN;rfl) v (Nat.le_trans hl (by decide)) W (hX.ext hS.ext).2 (K4 hs hS.ext)) ?_;(iterate 3 refine MV ?_);refine MN (z:=J0 .u8 80 (J2 0)) (t:=36) ?_;intro J;refine MR 0 ?_;refine MV ?_;refine MZ fun W hS=> ?_;go_upto_region 5 with fail;refine RL hS ?_;clear hS;refine MV ?_;refine Wto ?_;refine MZ fun W hS=> ?_;go_wp2;exact BC (v:=.tuple #[.pointer none,.int .i64 (E:Int)]) (by simp only[results,Tryz.results29];go_simp) rfl ⟨rfl,hS.ext⟩
end

section
set_option maxHeartbeats 3000000
attribute [local irreducible] wpList Z9 wpX
theorem J79 {P:Program}{α:Type}{f:FuncId}{args:Array AB}{F:List Nat}{w W:AA}{H:List As}{V:α→AB}{X:α→List As}(hS:SH F w W H)(hc:Az P f args W fun e W' => ∃x,e=.returned (V x)∧SH [] W W' (X x))(ht:∀x,(X x).all (fun y=>y.mv &&(match y with| .t _ _=>false|_=>true) && H.all (SH.tyOk y))=true):
  Az P f args W fun e W' => ∃x,e=.returned (V x)∧SH F w W' (X x++H):=by
 refine Z1x hS (hc.mono fun e W' ⟨x,h1,h2⟩=>⟨x,h1,h2,fun y hy hm=> ?_⟩) fun x=> ?_
 ·
  have:=List.all_eq_true.1 (ht x) y hy;rw[hm] at this;simp at this
 refine List.all_eq_true.2 fun y hy=> ?_;have:=List.all_eq_true.1 (ht x) y hy;simp only[Bool.and_eq_true] at this⊢;exact⟨this.1.2,this.2⟩
theorem V79 {W:AA}{A:Option Addr}{n c i g o:Nat}{ps:List Pv}{y:Pv}(h:RR 2 W (.slice A n c) (ps.map pvC))(yh:ps[i]?=some y)(hA:A=some ⟨g,o,none⟩):∀(j:Nat) (v:AB),(pvF y)[j]?=some v→W.cell? ⟨g,o+i*2+j,none⟩=some v:=fun j v hv=>
 RR.cellat h (by rw[BO,yh];rfl) hA j v (V7a j v hv)
def pbs (ps:List Pv):List (AB×List UInt8):=ps.flatMap fun p=>[(p.lu,p.l),(p.xu,p.x)]
attribute [local irreducible] eI be8 hs4 lb J33 J25 K3 xt hm pbs

theorem Q0p {p:Pv}(w:AA)(h1:Sl w p.lu p.l)(h2:Sl w p.xu p.x)(hl1:p.l.length≤100)(hl2:p.x.length≤100):
  Az Tryz.prog 36 #[.agg (pvF p)] w fun e w' => ∃x:AB×AB,e=.returned (.agg (Q2 [.c x.1,.c x.2]))∧SH [] w w' [.o x.1 p.l,.o x.2 p.x]:=by
 have N:=J6 h1;have R:=J6 h2;have hS:=SH.nil [] w
 go_enter Tryz.func36,Tryz.ntmps36
 go_upto_region 0 with fail;refine RL hS ?_;clear hS;refine MN (z:=Q2 [.c p.lu,.c p.xu]) (t:=84) ?_;intro U0;refine MN (z:=Q2 [.c (.slice none 0 0),.c (.slice none 0 0)]) (t:=84) ?_;intro S;refine MZ fun W hS=> ?_;go_upto_region 1 with fail;refine RTp [1] (.q 0 (.q 1 (.q 3 (.q 4 (.e 2 (.e 5 (.q 6 (.e 7 .z)))))))) hS ?_;clear hS;refine TV ?_;refine TG 0 ?_ (v:=p.lu) (hj:=(J5 (off:=0) 0));refine TV ?_;refine TG 0 ?_ (v:=p.xu) (hj:=(J5 (off:=1) 1));refine TE (fun _ h=>h.pick [1]) ?_;refine ME (V:=fun v=>v) (fun W hS=>J1y hS (J8x W (K4 h1 hS.ext) (by first|omega|(simp only[lA,lM,lT,lD,lC,lN,J7,Y8,Z0,Z5];omega))) (fun _=>⟨rfl,rfl⟩)) ?_;intro J;refine Y6 [0,2] [1] ?_;refine TE (fun _ h=>h.pick [0,2]) ?_;refine ME (V:=fun v=>v) (fun W hS=>J1y hS (J8x W (K4 h2 hS.ext) (by first|omega|(simp only[lA,lM,lT,lD,lC,lN,J7,Y8,Z0,Z5];omega))) (fun _=>⟨rfl,rfl⟩)) ?_;intro M;refine Y6 [0,1,3] [1,2] ?_;refine J9l (fun W hS=>(J6 (hS.osl (i:=1) rfl)).2) ?_;intro G;refine J9l (fun W hS=>(J6 (hS.osl (i:=0) rfl)).2) ?_;intro D;refine TF (v:=.agg (Q2 [.c J,.c M])) rfl (fun W hS=>J21 [(0,[.c J]),(1,[.c M])] rfl rfl J4v J4w (.c ((J6 (hS.osl (i:=1) rfl)).1) (.c ((J6 (hS.osl (i:=0) rfl)).1) .n))) ?_;refine TE (fun _ h=>h.pick [0,1,3]) ?_;refine MRa 2 ?_ (h1:=by exact(V6 ⟨G,D,trivial⟩));refine Y6 [0,1,3] [0,1,2] ?_;refine TZ (fun _ h=>h.pick [0,1,3]) fun W hS=> ?_;go_wp2;exact BC (Z6 rfl rfl (hS.blk (i:=2) rfl) (by kernel_rfl) (by rw[J9];kernel_rfl)) rfl ⟨(J,M),rfl,hS.pick [1,0]⟩
end
end Go.Proofs.YtpljgkofbfeelaaGreatDoor

/- Contracts and plain laws for directStays_holds. Conditions: the tables hold their numbers. -/
import Derived.Test.YteehbddkcnkhfaaGreatDoorJ23
open Go.RowKit
set_option maxRecDepth 100000
set_option linter.unusedSimpArgs false
set_option linter.unusedVariables false
namespace Go.Proofs.YteehbddkcnkhfaaGreatDoor
section
set_option maxHeartbeats 3000000
attribute [local irreducible] wpList V2 wpX
attribute [local irreducible] eI be8 hs4 lb J43 J2v J01 xt hm

theorem Z7r (n:Int)(X:Nat)(hx:n % 18446744073709551616=(X:Int))(w:World):
  Calls Tryz.prog 86 #[.int .i64 n] w fun e w' => ∃u,e=.returned u∧SH [] w w' [.o u (be8 X)]:=by
 have J:IntKind.wrap .u64 n=(X:Int):=by rw[IntKind.wrap_u64];exact hx
 have hS:=SH.nil [] w
 go_enter Tryz.func86,Tryz.ntmps86
 go_upto_region 1 with fail;refine RL hS ?_;clear hS;refine MK (n:=8) (by first|omega|(simp only[lA,lM,lT,lD,lC,lN,Q0,V5,Z7,Z8];omega)) ?_;intro G;refine MV ?_;refine MZ fun W hS=> ?_;go_upto_region 2 with fail;refine RL hS ?_;clear hS;refine MV ?_;refine MF (v:=.int .i64 8) (fun W hS=>(by rw[show(8:Int)=((List.replicate 8 (0:UInt8)).length:Int) from rfl];exact Y9 (hS.osl (i:=0) rfl) rfl rfl)) ?_;refine W0 ?_;refine MZ fun W hS=> ?_
 go_wp2_with fail
 go_loopw [8] (fun jj wr=> ∃(j:Nat),(j≤8)∧(jj=.int .i64 (j:Int))∧SH [] w wr [.o G (nz X j)])
  (fun jj _=>8-(intOf jj).toNat)
 case atStart=>exact⟨0,Nat.zero_le _,rfl,(by have h_:=hS;exact h_)⟩
 clear hS
 case round=>
  obtain⟨j,hj,rfl,hS⟩:=hrel
  by_cases D:j<8
  ·
   go_upto_region 3 with fail;refine RL hS ?_;clear hS;refine Wto ?_;refine MZ fun W hS=> ?_;go_upto_region 5 with fail;refine RL hS ?_;clear hS;(iterate 3 refine MV ?_);refine MW ?_ (v:=.int .u64 (X:Int)) (hv:=by intro W;go_simp;(try simp only[J]));refine MV ?_;refine MW ?_ (v:=.int .i64 ((7-j:Nat):Int)) (hv:=by intro W;go_simp;(try simp only[IntKind.wrap_i64]);omega);refine MW ?_ (v:=.int .i64 ((8*(7-j):Nat):Int)) (hv:=by intro W;go_simp;(try simp only[IntKind.wrap_i64]);omega);refine MW ?_ (v:=.int .u64 ((X / 2^(8*(7-j)):Nat):Int)) (hv:=by intro W;exact Z0g (by omega) rfl rfl rfl);refine MW ?_ (v:=.int .u8 ((by8 X j).toNat:Int)) (hv:=by intro W;exact Z4y rfl rfl Tryz.underlying99 Tryz.underlying5);refine MIo 0 j (l:=(nz X j)) (by rw[Z9y X (by omega)];omega) ?_;intro N _ M;refine MPo 0 (j:=j) (b:=(by8 X j)) (l:=(nz X j)) (by rw[Z9y X (by omega)];omega) M.out ?_;refine MT (fun W hS=>by rw[show(nz X j).set j (by8 X j)=nz X (j+1) from Y66 X D] at hS;exact hS) ?_;refine MZ fun W hS=> ?_;go_wp2;go_roundw
   case rel=>exact⟨j+1,by omega,by go_num,hS⟩
   case measure=>simp[intOf];omega
  obtain rfl:j=8:=by omega
  rw[K3m] at hS;go_upto_region 3 with fail;refine RL hS ?_;clear hS;refine Wfo ?_;refine MZ fun W hS=> ?_;go_wp2;exact bodyPost_ret (v:=G) (by simp only[results,Tryz.results86];go_simp) rfl ⟨_,rfl,hS.pick [0]⟩
theorem Q8e (n:Int)(w:World):Calls Tryz.prog 86 #[.int .i64 n] w fun e w' => ∃u,e=.returned u∧SH [] w w' [.o u (eI n)]:=by
 have h:=Z7r n (n % 18446744073709551616).toNat (by omega) w;unfold eI;exact h
theorem Q8f {q:Prop}{o i R:Nat}{n:Int}{v:Value}{x:List UInt8}(hR:R=bnd o i n x)(w:World)(hG:GT q w)(hx:Sl w v x)(hl:x.length≤100000000):
  Calls Tryz.prog 78 #[.agg (J0 .u8 32 (J5 o)),.agg (J0 .u8 32 (J5 i)),.int .i64 n,v] w fun e w' =>X5 (.agg (J0 .u8 32 (J5 R))) w w' e:=by
 have hS:=SH.nil [] w
 go_enter Tryz.func78,Tryz.ntmps78
 go_upto_region 0 with fail;refine RL hS ?_;clear hS;refine MN (z:=J0 .u8 32 (J5 o)) (t:=23) ?_;intro M;refine MN (z:=J0 .u8 32 (J5 i)) (t:=23) ?_;intro D;refine MN (z:=J0 .u8 32 (J5 0)) (t:=23) ?_;intro S;refine MZ fun W hS=> ?_;go_upto_region 1 with fail;refine RTp [1,2] (.q 0 (.q 1 (.q 2 (.q 4 (.e 3 (.e 5 (.e 6 (.e 7 .z)))))))) hS ?_;clear hS;refine TW ?_ (v:=.slice (some ⟨M,0,none⟩) 32 32);refine TW ?_ (v:=.slice (some ⟨D,0,none⟩) 32 32);refine TV ?_;refine TV ?_;refine TE (fun _ h=>h.pick [1,2]) ?_;refine ME (V:=fun v=>v) (fun W hS=>J3i hS (Q8e n W) (fun _=>⟨rfl,rfl⟩)) ?_;intro J;refine K5 [0,2,3] [1,2] ?_;refine TE (fun _ h=>h.pick [0,2,3]) ?_;refine MB (z:= #[.slice (some ⟨D,0,none⟩) 32 32,J,v]) (t:=22) (n:=3) (c:=3) ?_ (hr:=fun W hS=>K6 [.slice (some ⟨D,0,none⟩) 32 32,J,v] rfl rfl (vsc (J8 (Z6 (V:=i) (n:=32) (off:=0) (c:=32) (hS.blk (i:=2) rfl) ap0 (by decide) (by decide))).1 (vsc (J8 (hS.osl (i:=0) rfl)).1 (vsc (J8 (J0c hx hS.ext)).1 vs0))) Tryz.underlying168 (by kernel_rfl) (by kernel_rfl) rfl (by decide) (by decide));intro N;refine K5 [0,1,3,4] [1,2,3] ?_;refine TE (fun _ h=>h.pick [0,1,3,4]) ?_;obtain⟨U1,G⟩:=exh (hm o ((lb 32 i)++(eI n)++x));refine MC (v:=.agg (J0 .u8 32 (J5 U1))) (fun W hS=>Q8a [lb 32 i,eI n,x] (some ⟨N,0,none⟩) 3 (F:=(lb 32 i)++(eI n)++x) (by simp only[List.flatten_cons,List.flatten_nil,List.append_nil,List.nil_append,List.append_assoc,List.cons_append]) (by first|omega|(simp only[lA,lM,lT,lD,lC,lN,Q0,J1o,J5y,V5,Z7,Z8,J44];omega)) (by simp) G.out W (J1v (hS.blk (i:=0) rfl) (pvc (Z6 (V:=i) (n:=32) (off:=0) (c:=32) (hS.blk (i:=3) rfl) ap0 (by decide) (by decide)) (pvc (hS.osl (i:=1) rfl) (pvc (J0c hx hS.ext) pv0)))) (Z6 (V:=o) (n:=32) (off:=0) (c:=32) (hS.blk (i:=4) rfl) ap0 (by decide) (by decide)) (J0b hG hS.ext)) ?_;refine K5 [0,1,3,4] [0,1,2,3] ?_;refine TE (fun _ h=>h.pick [0,1,3,4]) ?_;refine MR 2 ?_;refine K5 [0,1,3,4] [0,1,2,3] ?_;refine TZ (fun _ h=>h.pick [0,1,3,4]) fun W hS=> ?_;rw[show U1=R by rw[hR];try rw[G.out];first|done|rfl] at hS;go_wp2;exact bodyPost_ret (Y0 rfl rfl (hS.blk (i:=2) rfl) (by kernel_rfl) (by rw[J1];kernel_rfl)) rfl ⟨rfl,hS.ext⟩
theorem V36 {P:Program}{fn:Func}{p q:Tmp}{ty t tz t2:TypeId}{tmps:Array Value}{w:World}{g g2:Nat}{cs cs2:Array Value}(h:fn.results= #[.cell p ty,.cell q tz])
 (hp:tmps.getD p undef=.pointer (some ⟨g,0,none⟩)) (hq:tmps.getD q undef=.pointer (some ⟨g2,0,none⟩)) (hB:Blk w g cs t) (hB2:Blk w g2 cs2 t2) (hk:(P.underlying ty).map TypeDesc.isRow=some true) (hk2:(P.underlying tz).map TypeDesc.isRow=some true) (hi:(P.info? ty).map (·.size)=some cs.size) (hi2:(P.info? tz).map (·.size)=some cs2.size):
 (results fn tmps).run P w=.ok (.tuple #[.agg cs,.agg cs2]) w:=by
 cases hu:P.underlying ty with
 |none=>simp[hu] at hk
 |some d=>
 cases hu2:P.underlying tz with
 |none=>simp[hu2] at hk2
 |some d2=>
 have hd:d.isRow=true:=by simpa[hu] using hk
 have D:d2.isRow=true:=by simpa[hu2] using hk2
 have hp' :tmps[p]?.getD undef=.pointer (some ⟨g,0,none⟩):=by simpa using hp
 have hq' :tmps[q]?.getD undef=.pointer (some ⟨g2,0,none⟩):=by simpa using hq
 simp[results,h,hp',hq',asAddr,run_loadVar_row w g t ty cs _ d hB hu (by cases d<;>simp_all [TypeDesc.isRow]) hi,run_loadVar_row w g2 t2 tz cs2 _ d2 hB2 hu2 (by cases d2<;>simp_all [TypeDesc.isRow]) hi2]
theorem Q8g {q:Prop}{b i R O:Nat}{n:Int}{v:Value}{x:List UInt8}(hO:O=opn b i n)(hR:R=bnd (opn b i n) i n x)(w:World)(hG:GT q w)(hx:Sl w v x)(hl:x.length≤100000000):
  Calls Tryz.prog 49 #[.agg (J0 .u8 32 (J5 b)),.agg (J0 .u8 32 (J5 i)),.int .i64 n,v] w fun e w' =>X5 (.tuple #[.agg (J0 .u8 32 (J5 R)),.agg (J0 .u8 32 (J5 O))]) w w' e:=by
 have hS:=SH.nil [] w
 go_enter Tryz.func49,Tryz.ntmps49
 go_upto_region 0 with fail;refine RL hS ?_;clear hS;refine MN (z:=J0 .u8 32 (J5 b)) (t:=23) ?_;intro U;refine MN (z:=J0 .u8 32 (J5 i)) (t:=23) ?_;intro G;refine MN (z:=J0 .u8 32 (J5 0)) (t:=23) ?_;intro β;refine MN (z:=J0 .u8 32 (J5 0)) (t:=23) ?_;intro γ;refine MZ fun W hS=> ?_;go_upto_region 1 with fail;refine RJ (R:=fun a_ w_=> ∃(J:Value),∃(M:Value),∃(T:Nat),∃(D:Nat),a_={tmps:= #[.agg (J0 .u8 32 (J5 b)),.agg (J0 .u8 32 (J5 i)),.int .i64 n,v,.pointer (some ⟨U,0,none⟩),.pointer (some ⟨G,0,none⟩),undef,undef,.pointer (some ⟨β,0,none⟩),.pointer (some ⟨γ,0,none⟩),.slice (some ⟨U,0,none⟩) 32 32,J,J,.slice (some ⟨G,0,none⟩) 32 32,.int .i64 n,M,.slice (some ⟨T,0,none⟩) 3 3,.agg (J0 .u8 32 (J5 D)),undef,undef,undef,undef,undef,undef],defers:=[]}∧D=hm b ([111,112,101,110]++(lb 32 i)++(eI n))∧SH [] w w_ [.o M (eI n),.s J [111,112,101,110],.b T #[J,.slice (some ⟨G,0,none⟩) 32 32,M] 22,.b U (J0 .u8 32 (J5 b)) 23,.b G (J0 .u8 32 (J5 i)) 23,.b β (J0 .u8 32 (J5 0)) 23,.b γ (J0 .u8 32 (J5 D)) 23]) ?_ ?_
 ·
  refine RTp [1,2,3] (.q 0 (.q 3 (.q 4 (.b 1 (.b 2 (.e 5 (.e 6 (.e 7 (.e 8 .z)))) 5 (.e 2 (.e 6 (.e 7 (.e 8 .z))))) 5 (.e 1 (.e 2 (.e 6 (.e 7 (.e 8 .z))))))))) hS ?_;clear hS;refine TW ?_ (v:=.slice (some ⟨U,0,none⟩) 32 32);refine TW ?_ (v:=.slice (some ⟨G,0,none⟩) 32 32);refine TV ?_;refine TB (fun _ h=>h.pick [1,2,3]) ?_ ?_
  ·
   refine MO (m:=[111,112,101,110]) (n:=4) (z:= #[.int .u8 111,.int .u8 112,.int .u8 101,.int .u8 110]) ?_;intro X;refine K5 [2,3,4] [0,1,2] ?_;refine TB (fun _ h=>h.pick [2,3,4]) ?_ ?_
   ·
    refine MSm 0 (l:=[111,112,101,110]) (by first|decide|(simp only[List.length_append,List.length_cons,List.length_nil];omega)) ?_;refine K5 [2,3,4] [0,1,2] ?_;refine TE (fun _ h=>h.pick [2,3,4]) ?_;refine ME (V:=fun v=>v) (fun W hS=>J3i hS (Q8e n W) (fun _=>⟨rfl,rfl⟩)) ?_;intro η;refine K5 [0,3,4,5] [1,2,3] ?_;refine TE (fun _ h=>h.pick [0,3,4,5]) ?_;refine MB (z:= #[X,.slice (some ⟨G,0,none⟩) 32 32,η]) (t:=22) (n:=3) (c:=3) ?_ (hr:=fun W hS=>K6 [X,.slice (some ⟨G,0,none⟩) 32 32,η] rfl rfl (vsc (J8 (hS.sl (i:=1) rfl)).1 (vsc (J8 (Z6 (V:=i) (n:=32) (off:=0) (c:=32) (hS.blk (i:=4) rfl) ap0 (by decide) (by decide))).1 (vsc (J8 (hS.osl (i:=0) rfl)).1 vs0))) Tryz.underlying168 (by kernel_rfl) (by kernel_rfl) rfl (by decide) (by decide));intro μ;refine K5 [0,1,4,5,6] [1,2,3,4] ?_;refine TE (fun _ h=>h.pick [0,1,4,5,6]) ?_;obtain⟨U1,S⟩:=exh (hm b ([111,112,101,110]++(lb 32 i)++(eI n)));refine MC (v:=.agg (J0 .u8 32 (J5 U1))) (fun W hS=>Q8a [[111,112,101,110],lb 32 i,eI n] (some ⟨μ,0,none⟩) 3 (F:=[111,112,101,110]++(lb 32 i)++(eI n)) (by simp only[List.flatten_cons,List.flatten_nil,List.append_nil,List.nil_append,List.append_assoc,List.cons_append]) (by first|omega|(simp only[lA,lM,lT,lD,lC,lN,Q0,J1o,J5y,V5,Z7,Z8,J44];omega)) (by simp) S.out W (J1v (hS.blk (i:=0) rfl) (pvc (hS.sl (i:=2) rfl) (pvc (Z6 (V:=i) (n:=32) (off:=0) (c:=32) (hS.blk (i:=5) rfl) ap0 (by decide) (by decide)) (pvc (hS.osl (i:=1) rfl) pv0)))) (Z6 (V:=b) (n:=32) (off:=0) (c:=32) (hS.blk (i:=6) rfl) ap0 (by decide) (by decide)) (J0b hG hS.ext)) ?_;refine K5 [0,1,4,5,6] [0,1,2,3,4] ?_;refine TE (fun _ h=>h.pick [0,1,4,5,6]) ?_;refine MR 3 ?_;refine K5 [0,1,4,5,6] [0,1,2,3,4] ?_;refine TZ (fun _ h=>h.pick [0,1,4,5,6]) fun W hS=> ?_;exact⟨X,η,μ,U1,rfl,S.out,hS.pick [1,2,0,6,5,4,3]⟩
   refine ME (V:=fun v=>v) (fun W hS=>J3i hS (Q8e n W) (fun _=>⟨rfl,rfl⟩)) ?_;intro ε;refine K5 [0,3,4,5] [1,2,3] ?_;refine TE (fun _ h=>h.pick [0,3,4,5]) ?_;refine MSm 1 (l:=[111,112,101,110]) (by first|decide|(simp only[List.length_append,List.length_cons,List.length_nil];omega)) ?_;refine K5 [0,3,4,5] [0,1,2,3] ?_;refine TE (fun _ h=>h.pick [0,3,4,5]) ?_;refine MB (z:= #[X,.slice (some ⟨G,0,none⟩) 32 32,ε]) (t:=22) (n:=3) (c:=3) ?_ (hr:=fun W hS=>K6 [X,.slice (some ⟨G,0,none⟩) 32 32,ε] rfl rfl (vsc (J8 (hS.sl (i:=1) rfl)).1 (vsc (J8 (Z6 (V:=i) (n:=32) (off:=0) (c:=32) (hS.blk (i:=4) rfl) ap0 (by decide) (by decide))).1 (vsc (J8 (hS.osl (i:=0) rfl)).1 vs0))) Tryz.underlying168 (by kernel_rfl) (by kernel_rfl) rfl (by decide) (by decide));intro ν;refine K5 [0,1,4,5,6] [1,2,3,4] ?_;refine TE (fun _ h=>h.pick [0,1,4,5,6]) ?_;obtain⟨U1,S⟩:=exh (hm b ([111,112,101,110]++(lb 32 i)++(eI n)));refine MC (v:=.agg (J0 .u8 32 (J5 U1))) (fun W hS=>Q8a [[111,112,101,110],lb 32 i,eI n] (some ⟨ν,0,none⟩) 3 (F:=[111,112,101,110]++(lb 32 i)++(eI n)) (by simp only[List.flatten_cons,List.flatten_nil,List.append_nil,List.nil_append,List.append_assoc,List.cons_append]) (by first|omega|(simp only[lA,lM,lT,lD,lC,lN,Q0,J1o,J5y,V5,Z7,Z8,J44];omega)) (by simp) S.out W (J1v (hS.blk (i:=0) rfl) (pvc (hS.sl (i:=2) rfl) (pvc (Z6 (V:=i) (n:=32) (off:=0) (c:=32) (hS.blk (i:=5) rfl) ap0 (by decide) (by decide)) (pvc (hS.osl (i:=1) rfl) pv0)))) (Z6 (V:=b) (n:=32) (off:=0) (c:=32) (hS.blk (i:=6) rfl) ap0 (by decide) (by decide)) (J0b hG hS.ext)) ?_;refine K5 [0,1,4,5,6] [0,1,2,3,4] ?_;refine TE (fun _ h=>h.pick [0,1,4,5,6]) ?_;refine MR 3 ?_;refine K5 [0,1,4,5,6] [0,1,2,3,4] ?_;refine TZ (fun _ h=>h.pick [0,1,4,5,6]) fun W hS=> ?_;exact⟨X,ε,ν,U1,rfl,S.out,hS.pick [1,2,0,6,5,4,3]⟩
  refine ME (V:=fun v=>v) (fun W hS=>J3i hS (Q8e n W) (fun _=>⟨rfl,rfl⟩)) ?_;intro δ;refine K5 [0,2,3,4] [1,2,3] ?_;refine TE (fun _ h=>h.pick [0,2,3,4]) ?_;refine MO (m:=[111,112,101,110]) (n:=4) (z:= #[.int .u8 111,.int .u8 112,.int .u8 101,.int .u8 110]) ?_;intro ζ;refine K5 [1,3,4,5] [0,1,2,3] ?_;refine TE (fun _ h=>h.pick [1,3,4,5]) ?_;refine MSm 0 (l:=[111,112,101,110]) (by first|decide|(simp only[List.length_append,List.length_cons,List.length_nil];omega)) ?_;refine K5 [1,3,4,5] [0,1,2,3] ?_;refine TE (fun _ h=>h.pick [1,3,4,5]) ?_;refine MB (z:= #[ζ,.slice (some ⟨G,0,none⟩) 32 32,δ]) (t:=22) (n:=3) (c:=3) ?_ (hr:=fun W hS=>K6 [ζ,.slice (some ⟨G,0,none⟩) 32 32,δ] rfl rfl (vsc (J8 (hS.sl (i:=0) rfl)).1 (vsc (J8 (Z6 (V:=i) (n:=32) (off:=0) (c:=32) (hS.blk (i:=4) rfl) ap0 (by decide) (by decide))).1 (vsc (J8 (hS.osl (i:=1) rfl)).1 vs0))) Tryz.underlying168 (by kernel_rfl) (by kernel_rfl) rfl (by decide) (by decide));intro ξ;refine K5 [0,2,4,5,6] [1,2,3,4] ?_;refine TE (fun _ h=>h.pick [0,2,4,5,6]) ?_;obtain⟨U1,S⟩:=exh (hm b ([111,112,101,110]++(lb 32 i)++(eI n)));refine MC (v:=.agg (J0 .u8 32 (J5 U1))) (fun W hS=>Q8a [[111,112,101,110],lb 32 i,eI n] (some ⟨ξ,0,none⟩) 3 (F:=[111,112,101,110]++(lb 32 i)++(eI n)) (by simp only[List.flatten_cons,List.flatten_nil,List.append_nil,List.nil_append,List.append_assoc,List.cons_append]) (by first|omega|(simp only[lA,lM,lT,lD,lC,lN,Q0,J1o,J5y,V5,Z7,Z8,J44];omega)) (by simp) S.out W (J1v (hS.blk (i:=0) rfl) (pvc (hS.sl (i:=1) rfl) (pvc (Z6 (V:=i) (n:=32) (off:=0) (c:=32) (hS.blk (i:=5) rfl) ap0 (by decide) (by decide)) (pvc (hS.osl (i:=2) rfl) pv0)))) (Z6 (V:=b) (n:=32) (off:=0) (c:=32) (hS.blk (i:=6) rfl) ap0 (by decide) (by decide)) (J0b hG hS.ext)) ?_;refine K5 [0,2,4,5,6] [0,1,2,3,4] ?_;refine TE (fun _ h=>h.pick [0,2,4,5,6]) ?_;refine MR 3 ?_;refine K5 [0,2,4,5,6] [0,1,2,3,4] ?_;refine TZ (fun _ h=>h.pick [0,2,4,5,6]) fun W hS=> ?_;exact⟨ζ,δ,ξ,U1,rfl,S.out,hS.pick [2,1,0,6,5,4,3]⟩
 rintro _ W ⟨J,M,T,D,rfl,α,hS⟩;have κ:=Lib.hid α;clear α;go_upto_region 2 with fail;refine RJ (R:=fun a_ w_=> ∃(Y:Nat),a_={tmps:= #[.agg (J0 .u8 32 (J5 b)),.agg (J0 .u8 32 (J5 i)),.int .i64 n,v,.pointer (some ⟨U,0,none⟩),.pointer (some ⟨G,0,none⟩),undef,undef,.pointer (some ⟨β,0,none⟩),.pointer (some ⟨γ,0,none⟩),.slice (some ⟨U,0,none⟩) 32 32,J,J,.slice (some ⟨G,0,none⟩) 32 32,.int .i64 n,M,.slice (some ⟨T,0,none⟩) 3 3,.agg (J0 .u8 32 (J5 D)),.agg (J0 .u8 32 (J5 D)),.agg (J0 .u8 32 (J5 i)),.int .i64 n,v,.agg (J0 .u8 32 (J5 Y)),.agg (J0 .u8 32 (J5 D))],defers:=[]}∧Y=bnd D i n x∧SH [] w w_ [.o M (eI n),.s J [111,112,101,110],.b T #[J,.slice (some ⟨G,0,none⟩) 32 32,M] 22,.b U (J0 .u8 32 (J5 b)) 23,.b G (J0 .u8 32 (J5 i)) 23,.b β (J0 .u8 32 (J5 Y)) 23,.b γ (J0 .u8 32 (J5 D)) 23]) ?_ ?_
 ·
  refine RTp [0,1,2,3,4] (.q 1 (.q 2 (.q 3 (.b 0 (.b 4 (.b 5 (.e 6 (.e 7 .z)) 6 (.e 5 (.e 7 .z))) 5 (.e 4 (.e 6 (.e 7 .z)))) 5 (.e 0 (.e 4 (.e 6 (.e 7 .z)))))))) hS ?_;clear hS;refine TL 4 ?_;refine TV ?_;refine TV ?_;refine TB (fun _ h=>h.pick [0,1,2,3,4]) ?_ ?_
  ·
   refine ML 6 ?_;refine K5 [0,1,2,3,4] [0,1,2,3,4] ?_;refine TB (fun _ h=>h.pick [0,1,2,3,4]) ?_ ?_
   ·
    obtain⟨U2,N⟩:=exh (bnd D i n x);refine MC (v:=.agg (J0 .u8 32 (J5 U2))) (fun W hS=>Q8f N.out W (J0b hG hS.ext) (J0c hx hS.ext) hl) ?_;refine K5 [0,1,2,3,4] [0,1,2,3,4] ?_;refine TB (fun _ h=>h.pick [0,1,2,3,4]) ?_ ?_
    ·
     refine ML 6 ?_;refine K5 [0,1,2,3,4] [0,1,2,3,4] ?_;refine TE (fun _ h=>h.pick [0,1,2,3,4]) ?_;refine MR 5 ?_;refine K5 [0,1,2,3,4] [0,1,2,3,4] ?_;refine TE (fun _ h=>h.pick [0,1,2,3,4]) ?_;refine MR 6 ?_;refine K5 [0,1,2,3,4] [0,1,2,3,4] ?_;refine TZ (fun _ h=>h.pick [0,1,2,3,4]) fun W hS=> ?_;exact⟨U2,rfl,N.out,hS⟩
    refine MR 5 ?_;refine K5 [0,1,2,3,4] [0,1,2,3,4] ?_;refine TE (fun _ h=>h.pick [0,1,2,3,4]) ?_;refine ML 6 ?_;refine K5 [0,1,2,3,4] [0,1,2,3,4] ?_;refine TE (fun _ h=>h.pick [0,1,2,3,4]) ?_;refine MR 6 ?_;refine K5 [0,1,2,3,4] [0,1,2,3,4] ?_;refine TZ (fun _ h=>h.pick [0,1,2,3,4]) fun W hS=> ?_;exact⟨U2,rfl,N.out,hS⟩
   refine ML 6 ?_;refine K5 [0,1,2,3,4] [0,1,2,3,4] ?_;refine TE (fun _ h=>h.pick [0,1,2,3,4]) ?_;obtain⟨U2,N⟩:=exh (bnd D i n x);refine MC (v:=.agg (J0 .u8 32 (J5 U2))) (fun W hS=>Q8f N.out W (J0b hG hS.ext) (J0c hx hS.ext) hl) ?_;refine K5 [0,1,2,3,4] [0,1,2,3,4] ?_;refine TE (fun _ h=>h.pick [0,1,2,3,4]) ?_;refine MR 5 ?_;refine K5 [0,1,2,3,4] [0,1,2,3,4] ?_;refine TE (fun _ h=>h.pick [0,1,2,3,4]) ?_;refine MR 6 ?_;refine K5 [0,1,2,3,4] [0,1,2,3,4] ?_;refine TZ (fun _ h=>h.pick [0,1,2,3,4]) fun W hS=> ?_;exact⟨U2,rfl,N.out,hS⟩
  refine ML 6 ?_;refine K5 [0,1,2,3,4] [0,1,2,3,4] ?_;refine TE (fun _ h=>h.pick [0,1,2,3,4]) ?_;refine ML 6 ?_;refine K5 [0,1,2,3,4] [0,1,2,3,4] ?_;refine TE (fun _ h=>h.pick [0,1,2,3,4]) ?_;obtain⟨U2,N⟩:=exh (bnd D i n x);refine MC (v:=.agg (J0 .u8 32 (J5 U2))) (fun W hS=>Q8f N.out W (J0b hG hS.ext) (J0c hx hS.ext) hl) ?_;refine K5 [0,1,2,3,4] [0,1,2,3,4] ?_;refine TE (fun _ h=>h.pick [0,1,2,3,4]) ?_;refine MR 5 ?_;refine K5 [0,1,2,3,4] [0,1,2,3,4] ?_;refine TE (fun _ h=>h.pick [0,1,2,3,4]) ?_;refine MR 6 ?_;refine K5 [0,1,2,3,4] [0,1,2,3,4] ?_;refine TZ (fun _ h=>h.pick [0,1,2,3,4]) fun W hS=> ?_;exact⟨U2,rfl,N.out,hS⟩
 rintro _ W ⟨Y,rfl,Z,hS⟩;have θ:=Lib.hid Z;clear Z;go_wp2;exact bodyPost_ret (V36 rfl rfl rfl (hS.blk (i:=5) rfl) (hS.blk (i:=6) rfl) (by kernel_rfl) (by kernel_rfl) (by rw[J1];kernel_rfl) (by rw[J1];kernel_rfl)) rfl ⟨by rw[hR,hO,θ.out,κ.out];rfl,hS.ext⟩
theorem Z0h {q:Prop}{R:Nat}{v:Value}{id:List UInt8}(hR:R=lk0 id)(w:World)(hG:GT q w)(hid:Sl w v id)(hl:id.length≤100000000):
  Calls Tryz.prog 62 #[v] w fun e w' =>X5 (.agg (J0 .u8 32 (J5 R))) w w' e:=by
 have hS:=SH.nil [] w
 go_enter Tryz.func62,Tryz.ntmps62
 go_upto_region 0 with fail;refine RL hS ?_;clear hS;refine MN (z:=J0 .u8 32 (J5 0)) (t:=23) ?_;intro K9;refine MZ fun W hS=> ?_;go_upto_region 1 with fail;refine RL hS ?_;clear hS;refine MO (m:=[4]) (n:=1) (z:= #[.int .u8 4]) ?_;intro G;refine MV ?_;refine MB (z:= #[G,v]) (t:=22) (n:=2) (c:=2) ?_ (hr:=fun W hS=>K6 [G,v] rfl rfl (vsc (J8 (hS.osl (i:=0) rfl)).1 (vsc (J8 (J0c hid hS.ext)).1 vs0)) Tryz.underlying168 (by kernel_rfl) (by kernel_rfl) rfl (by decide) (by decide));intro J;obtain⟨U1,D⟩:=exh (hs4 ([4]++id));refine MC (v:=.agg (J0 .u8 32 (J5 U1))) (fun W hS=>Q01 D.out [[4],id] (some ⟨J,0,none⟩) 2 (by simp only[List.flatten_cons,List.flatten_nil,List.append_nil,List.nil_append,List.append_assoc,List.cons_append]) (by first|omega|(simp only[lA,lM,lT,lD,lC,lN,Q0,J1o,J5y,V5,Z7,Z8,J44];omega)) (by simp) W (J1v (hS.blk (i:=0) rfl) (pvc (hS.osl (i:=1) rfl) (pvc (J0c hid hS.ext) pv0))) (J21 hG.1 hS.ext)) ?_;refine MR 2 ?_;refine MZ fun W hS=> ?_;rw[show U1=R by rw[hR];try rw[D.out];first|done|rfl] at hS;go_wp2;exact bodyPost_ret (Y0 rfl rfl (hS.blk (i:=2) rfl) (by kernel_rfl) (by rw[J1];kernel_rfl)) rfl ⟨rfl,hS.ext⟩
theorem Y6p {v:Value}{id:List UInt8}{r a:Nat}(n:Int)(X:Nat)(hx:n % 18446744073709551616=(X:Int))(w:World)(hid:Sl w v id)(hl:id.length≤100000000):
  Calls Tryz.prog 88 #[v,.int .i64 n,.agg (J0 .u8 32 (J5 r)),.agg (J0 .u8 32 (J5 a))] w fun e w' => ∃u,e=.returned u∧SH [] w w' [.o u ([3]++([u8 (id.length / 256),u8 id.length]++id)++be8 X++lb 32 r++lb 32 a)]:=by
 have N:IntKind.wrap .u64 n=(X:Int):=by rw[IntKind.wrap_u64];exact hx
 have hS:=SH.nil [] w
 go_enter Tryz.func88,Tryz.ntmps88
 go_upto_region 0 with fail;refine RL hS ?_;clear hS;refine MN (z:=J0 .u8 32 (J5 r)) (t:=23) ?_;intro G;refine MN (z:=J0 .u8 32 (J5 a)) (t:=23) ?_;intro J;refine MV ?_;refine MZ fun W hS=> ?_;go_upto_region 1 with fail;refine RL hS ?_;clear hS;refine MV ?_;refine MF (v:=.int .i64 (id.length:Int)) (fun W hS=>Y9 (J0c hid hS.ext) rfl rfl) ?_;refine MW ?_ (v:=.int .i64 ((id.length / 256:Nat):Int)) (hv:=by intro W;go_simp;(try omega));refine MW ?_ (v:=.int .u8 ((u8 (id.length / 256)).toNat:Int)) (hv:=by intro W;go_simp;(try simp only[J5q,IntKind.wrap_u8]);(try omega));refine MV ?_;refine MF (v:=.int .i64 (id.length:Int)) (fun W hS=>Y9 (J0c hid hS.ext) rfl rfl) ?_;refine MW ?_ (v:=.int .u8 ((u8 id.length).toNat:Int)) (hv:=by intro W;go_simp;(try simp only[J5q,IntKind.wrap_u8]);(try omega));refine MO (m:=[3,u8 (id.length / 256),u8 id.length]) (n:=3) (z:= #[.int .u8 3,.int .u8 ((u8 (id.length / 256)).toNat:Int),.int .u8 ((u8 id.length).toNat:Int)]) ?_;intro T;refine MV ?_;refine MA 0 (xs:=[3,u8 (id.length / 256),u8 id.length]) (ys:=id) (fun W hS=>(J0c hid hS.ext)) (by first|omega|(simp only[lA,lM,lT,lD,lC,lN,Q0,J1o,J5y,V5,Z7,Z8,J44];omega)) ?_;intro U;refine MV ?_;refine MZ fun W hS=> ?_
 go_wp2_with fail
 go_loopw [9,10] (fun uv kk wr=> ∃(j:Nat)(sv:Value),(j≤8)∧(sv=uv)∧(kk=.int .i64 ((7:Int)-(j:Int)))∧SH [] w wr [.o sv ([3]++([u8 (id.length / 256),u8 id.length]++id)++List.take j (be8 X)),.b J (J0 .u8 32 (J5 a)) 23,.b G (J0 .u8 32 (J5 r)) 23])
  (fun uv kk _=>(intOf kk+1).toNat)
 case atStart=>exact⟨0,_,Nat.zero_le _,rfl,rfl,(by rw[List.take_zero,List.append_nil];exact hS)⟩
 clear hS
 case round=>
  obtain⟨j,sv,hj,rfl,rfl,hS⟩:=hrel
  by_cases D:j<8
  ·
   go_upto_region 3 with fail;refine RL hS ?_;clear hS;refine MV ?_;refine Wto ?_;refine MZ fun W hS=> ?_;go_upto_region 5 with fail;refine RL hS ?_;clear hS;refine MV ?_;refine MV ?_;refine MW ?_ (v:=.int .u64 (X:Int)) (hv:=by intro W;go_simp;(try simp only[N]));refine MV ?_;refine MW ?_ (v:=.int .i64 ((8*(7-j):Nat):Int)) (hv:=by intro W;go_simp;(try simp only[IntKind.wrap_i64]);omega);refine MW ?_ (v:=.int .u64 ((X / 2^(8*(7-j)):Nat):Int)) (hv:=by intro W;exact Z0g (by omega) rfl rfl rfl);refine MW ?_ (v:=.int .u8 ((by8 X j).toNat:Int)) (hv:=by intro W;exact Z4y rfl rfl Tryz.underlying99 Tryz.underlying5);refine MO (m:=[by8 X j]) (n:=1) (z:= #[.int .u8 ((by8 X j).toNat:Int)]) ?_;intro Y;refine MA 1 (xs:=([3]++([u8 (id.length / 256),u8 id.length]++id)++List.take j (be8 X))) (ys:=[by8 X j]) (fun W hS=>(hS.osl (i:=0) rfl)) (by first|omega|(simp only[lA,lM,lT,lD,lC,lN,Q0,J1o,J5y,V5,Z7,Z8,J44];omega)) ?_;intro M;refine MV ?_;refine MZ fun W hS=> ?_;go_wp2;go_roundw
   case rel=>exact⟨j+1,M,by omega,rfl,by rw[show(7:Int)-((j+1:Nat):Int)=7-(j:Int)-1 by omega],(by rw[Z0c X D,←List.append_assoc];exact(hS.pick [1,2,3]))⟩
   case measure=>simp[intOf];omega
  obtain rfl:j=8:=by omega
  rw[V8a] at hS;go_upto_region 3 with fail;refine RL hS ?_;clear hS;refine MV ?_;refine Wfo ?_;refine MZ fun W hS=> ?_;go_upto_region 6 with fail;refine RTp [1,2] (.q 0 (.q 1 (.q 3 (.e 2 (.e 4 (.q 5 .z)))))) hS ?_;clear hS;refine TV ?_;refine TW ?_ (v:=.slice (some ⟨G,0,none⟩) 32 32);refine TW ?_ (v:=.slice (some ⟨J,0,none⟩) 32 32);refine TE (fun _ h=>h.pick [1,2]) ?_;refine MA 0 (xs:=([3]++([u8 (id.length / 256),u8 id.length]++id)++be8 X)) (ys:=(lb 32 r)) (fun W hS=>(Z6 (V:=r) (n:=32) (off:=0) (c:=32) (hS.blk (i:=2) rfl) ap0 (by decide) (by decide))) (by first|omega|(simp only[lA,lM,lT,lD,lC,lN,Q0,J1o,J5y,V5,Z7,Z8,J44];omega)) ?_;intro S;refine K5 [1,2] [0,1] ?_;refine TE (fun _ h=>h.pick [1,2]) ?_;refine MA 0 (xs:=(([3]++([u8 (id.length / 256),u8 id.length]++id)++be8 X)++(lb 32 r))) (ys:=(lb 32 a)) (fun W hS=>(Z6 (V:=a) (n:=32) (off:=0) (c:=32) (hS.blk (i:=1) rfl) ap0 (by decide) (by decide))) (by first|omega|(simp only[lA,lM,lT,lD,lC,lN,Q0,J1o,J5y,V5,Z7,Z8,J44];omega)) ?_;intro R;refine K5 [0,1,2] [1,2] ?_;refine TV ?_;refine TZ (fun _ h=>h) fun W hS=> ?_;go_wp2;exact bodyPost_ret (v:=R) (by simp only[results,Tryz.results88];go_simp) rfl ⟨_,rfl,hS.pick [0]⟩
theorem Y6q {v:Value}{id:List UInt8}{r a:Nat}(n:Int)(w:World)(hid:Sl w v id)(hl:id.length≤100000000):Calls Tryz.prog 88 #[v,.int .i64 n,.agg (J0 .u8 32 (J5 r)),.agg (J0 .u8 32 (J5 a))] w fun e w' => ∃u,e=.returned u∧SH [] w w' [.o u (lkT id n r a)]:=by
 have h:=Y6p (r:=r) (a:=a) n (n % 18446744073709551616).toNat (by omega) w hid hl;unfold lkT eI;exact h
theorem Y6r {q:Prop}{R r a:Nat}{n:Int}{v:Value}{id:List UInt8}(hR:R=lkn id n r a)(w:World)(hG:GT q w)(hid:Sl w v id)(hl:id.length≤100000000):
  Calls Tryz.prog 52 #[v,.int .i64 n,.agg (J0 .u8 32 (J5 r)),.agg (J0 .u8 32 (J5 a))] w fun e w' =>X5 (.agg (J0 .u8 32 (J5 R))) w w' e:=by
 have hS:=SH.nil [] w
 go_enter Tryz.func52,Tryz.ntmps52
 go_upto_region 0 with fail;refine RL hS ?_;clear hS;refine MN (z:=J0 .u8 32 (J5 r)) (t:=23) ?_;intro M;refine MN (z:=J0 .u8 32 (J5 a)) (t:=23) ?_;intro S;refine MN (z:=J0 .u8 32 (J5 0)) (t:=23) ?_;intro N;refine MZ fun W hS=> ?_;go_upto_region 1 with fail;refine RL hS ?_;clear hS;refine MV ?_;refine MV ?_;refine ML 2 ?_;refine ML 1 ?_;refine ME (V:=fun v=>v) (fun W hS=>J3i hS (Y6q (r:=r) (a:=a) n W (J0c hid hS.ext) hl) (fun _=>⟨rfl,rfl⟩)) ?_;intro G;refine MB (z:= #[G]) (t:=22) (n:=1) (c:=1) ?_ (hr:=fun W hS=>K6 [G] rfl rfl (vsc (J8 (hS.osl (i:=0) rfl)).1 vs0) Tryz.underlying168 (by kernel_rfl) (by kernel_rfl) rfl (by decide) (by decide));intro J;obtain⟨U1,D⟩:=exh (hs4 ((lkT id n r a)));refine MC (v:=.agg (J0 .u8 32 (J5 U1))) (fun W hS=>Q01 D.out [lkT id n r a] (some ⟨J,0,none⟩) 1 (by simp only[List.flatten_cons,List.flatten_nil,List.append_nil,List.nil_append,List.append_assoc,List.cons_append]) (by first|omega|(simp only[lA,lM,lT,lD,lC,lN,Q0,J1o,J5y,V5,Z7,Z8,J44];omega)) (by simp) W (J1v (hS.blk (i:=0) rfl) (pvc (hS.osl (i:=1) rfl) pv0)) (J21 hG.1 hS.ext)) ?_;refine MR 2 ?_;refine MZ fun W hS=> ?_;rw[show U1=R by rw[hR];try rw[D.out];first|done|rfl] at hS;go_wp2;exact bodyPost_ret (Y0 rfl rfl (hS.blk (i:=2) rfl) (by kernel_rfl) (by rw[J1];kernel_rfl)) rfl ⟨rfl,hS.ext⟩
theorem Z0i {q:Prop}(hr:q){R:Nat}{id:List UInt8}(hR:R=lk0 id)(hl:id.length≤100000000)(w:World)(hG:GT q w):
  Calls Tryz.prog 80 #[Q9 id] w fun e w' =>X5 (Q9 (lb 32 R)) w w' e:=by
 have hS:=SH.nil [] w
 go_enter Tryz.func80,Tryz.ntmps80
 go_upto_region 1 with fail;refine RL hS ?_;clear hS;refine MV ?_;refine MW ?_ (v:=Q9 ([4]++id)) (hv:=fun _=>Y6s (l:=[4]) (m:=id) rfl rfl rfl (by first|omega|(simp only[lA,lM,lT,lD,lC,lN,Q0,V5,Z7,Z8];omega)));obtain⟨U1,D⟩:=exh (hs4 ([4]++id));refine MC (v:=Q9 (lb 32 U1)) (fun W hS=>Z0j D.out (by first|omega|(simp only[lA,lM,lT,lD,lC,lN,Q0,J1o,J5y,V5,Z7,Z8,J44];omega)) W (Q1e (hG.2 hr) hS.ext)) ?_;refine MV ?_;refine MZ fun W hS=> ?_;go_wp2;exact bodyPost_ret (v:=Q9 (lb 32 U1)) (by simp only[results,Tryz.results80];first|(go_simp;done)|(go_simp;rfl)) rfl ⟨by rw[hR,D.out];unfold lk0;rfl,hS.ext⟩
end

section
set_option maxHeartbeats 3000000
attribute [local irreducible] wpList V2 wpX
theorem DOk.pos {D:DD}(h:DOk D):1≤D.puts.length:=by
 have:=(List.getElem?_eq_some_iff.1 h.zero).1;omega
theorem DOk.len {D:DD}(h:DOk D):D.puts.length≤33:=by have:=h.ep;have:=h.e2;omega
def win (n m:Int):Bool:=decide (1≤n∧n≤m)
attribute [local irreducible] eI be8 hs4 lb J43 J2v J01 xt hm
theorem Y0h {w:World}{v:Value}{l:List UInt8}(h:Sl w v l):(v=.slice none 0 0∧l=[])∨∃ad n c,v=.slice (some ad) n c:=by
 obtain⟨A,c,rfl,h1,h2,h0,h3⟩:=h;cases A with
 |none=>
  cases l with
  |nil=>exact .inl ⟨by rw[h0 rfl];rfl,rfl⟩
  |cons a l=>obtain⟨ad,e,_⟩:=h3 0 a rfl;cases e
 |some ad=>exact .inr ⟨ad,_,c,rfl⟩
theorem J5z {h:Nat}{m:List (List UInt8×Nat)}{w W:World}(hm:Q52 h m w)(q:Ext w W):Q52 h m W:=by
 have D:=Z4z hm;obtain⟨es,c,h1,h2⟩:=hm;exact⟨es,c,by rw[q.block h D];exact h1,h2⟩

theorem Q2o:zer Tryz.prog 101=some (some (Q5 [.c (.int .i64 0),.c (.int .i64 0),.c (.slice none 0 0)])):=by kernel_rfl
theorem Q2p:plc Tryz.prog 101=some [(0,1),(1,1),(2,1)]:=by kernel_rfl
theorem J5d:zer Tryz.prog 88=some (some (Q5 [.c (.slice none 0 0),.c (.slice none 0 0)])):=by kernel_rfl
theorem J5e:plc Tryz.prog 88=some [(0,1),(1,1)]:=by kernel_rfl
theorem Q0y:zer Tryz.prog 119=some (some (Q5 [.a 32 0,.a 80 0,.c (.slice none 0 0)])):=by kernel_rfl
theorem Q0z:plc Tryz.prog 119=some [(0,32),(32,80),(112,1)]:=by kernel_rfl
theorem J11 (n m:Int)(w:World):
  Calls Tryz.prog 61 #[.int .i64 n,.int .i64 m] w fun e w' =>X5 (.bool (win n m)) w w' e:=by
 have hS:=SH.nil [] w
 go_enter Tryz.func61,Tryz.ntmps61
 by_cases D:1≤n
 ·
  go_upto_region 1 with fail;refine RL hS ?_;clear hS;refine MV ?_;refine Wto ?_;refine Wt ?_;refine MV ?_;refine MV ?_;refine MW ?_ (v:=.bool (decide (n≤m))) (hv:=by intro W;go_simp;first|done|rfl);refine MW ?_ (v:=.bool (decide (n≤m)));refine MW ?_ (v:=.bool (decide (n≤m)));refine MZ fun W hS=> ?_;go_wp2;exact bodyPost_ret (v:=.bool (decide (n≤m))) (by simp only[results,Tryz.results61];go_simp) rfl ⟨congrArg (fun b=>Ending.returned (Value.bool b)) (by unfold win;exact(decide_eq_decide.2 ⟨fun h=>⟨D,h⟩,And.right⟩)),hS.ext⟩
 go_upto_region 1 with fail;refine RL hS ?_;clear hS;refine MV ?_;refine Wfo ?_;refine Wf ?_;(iterate 3 refine MS ?_);refine Wf ?_;refine Wf ?_;refine MZ fun W hS=> ?_;go_wp2;exact bodyPost_ret (v:=.bool false) (by simp only[results,Tryz.results61];go_simp) rfl ⟨congrArg (fun b=>Ending.returned (Value.bool b)) (by unfold win;exact(decide_eq_false (fun h=>absurd h.1 (by omega))).symm),hS.ext⟩
theorem J4q {v:Value}{l:List UInt8}(w:World)(hs:Sl w v l):
  Calls Tryz.prog 42 #[v] w fun e w' =>X5 (.bool (win (l.length:Int) 32)) w w' e:=by
 have hS:=SH.nil [] w
 go_enter Tryz.func42,Tryz.ntmps42
 go_upto_region 1 with fail;refine RL hS ?_;clear hS;refine MV ?_;refine MF (v:=.int .i64 (l.length:Int)) (fun W hS=>Y9 (J0c hs hS.ext) rfl rfl) ?_;refine MC (v:=.bool (win (l.length:Int) 32)) (fun W hS=>J11 (l.length:Int) 32 W) ?_;refine MW ?_ (v:=.bool (win (l.length:Int) 32));refine MZ fun W hS=> ?_;go_wp2;exact bodyPost_ret (v:=.bool (win (l.length:Int) 32)) (by simp only[results,Tryz.results42];go_simp) rfl ⟨rfl,hS.ext⟩

theorem Q03 {v:Value}{l:List UInt8}(w:World)(hs:Sl w v l)(hl:l.length≤100000000):
  Calls Tryz.prog 48 #[v] w fun e w' => ∃u,e=.returned u∧SH [] w w' [.o u l]:=by
 have hS:=SH.nil [] w
 go_enter Tryz.func48,Tryz.ntmps48
 rcases Y0h hs with⟨rfl,rfl⟩|⟨J,n0,c0,rfl⟩
 ·
  go_upto_region 1 with fail;refine RL hS ?_;clear hS;refine MV ?_;refine MW ?_ (v:=.bool true) (hv:=by intro W;go_simp;first|done|rfl);refine MZ fun W hS=> ?_;have hS:=hS.onil rfl;go_wp2;exact bodyPost_ret (v:=.slice none 0 0) (by simp only[results,Tryz.results48];go_simp) rfl ⟨_,rfl,hS⟩
 go_upto_region 1 with fail;refine RL hS ?_;clear hS;refine MV ?_;refine MW ?_ (v:=.bool false) (hv:=by intro W;go_simp;first|done|rfl);refine MZ fun W hS=> ?_;go_upto_region 3 with fail;refine RL hS ?_;clear hS;refine MO (m:=[]) (n:=0) (z:= #[]) ?_;intro G;refine MV ?_;refine MA 0 (xs:=[]) (ys:=l) (fun W hS=>(J0c hs hS.ext)) (by first|omega|(simp only[lA,lM,lT,lD,lC,lN,Q0,V5,Z7,Z8];omega)) ?_;intro D;refine MV ?_;refine MZ fun W hS=> ?_;go_wp2;exact bodyPost_ret (v:=D) (by simp only[results,Tryz.results48];go_simp) rfl ⟨_,rfl,hS.pick [0]⟩
theorem J6k {D:DD}{y:LD}(w:World)(hD:DK D y w)(hL:LOk D y)(hK:DOk D):
  Calls Tryz.prog 11 #[.pointer (some ⟨y.p,0,none⟩)] w fun e w' =>X5 (.int .i64 ((D.puts.length-1:Nat):Int)) w w' e:=by
 have G:=hK.pos;have J:=hK.len;have hS:=SH.nil [] w
 go_enter Tryz.func11,Tryz.ntmps11
 go_upto_region 3 with fail;refine RL hS ?_;clear hS;(iterate 3 refine MV ?_);refine MF (v:=y.lv) (fun W hS=>Z5 rfl rfl (by rw[J3 (J2 hD.d hS.ext)];exact(J4 (off:=72) 10)) (by kernel_rfl)) ?_;refine MF (v:=.int .i64 (D.puts.length:Int)) (fun W hS=>(by rw[show(D.puts.length:Int)=((List.map J0d D.links).length:Int) by rw[List.length_map,DD.links_len]];exact J1j (Row.off hD.lk hS.off0 f0) rfl rfl Tryz.underlying41)) ?_;refine MW ?_ (v:=.int .i64 ((D.puts.length-1:Nat):Int)) (hv:=by intro W;go_simp;(try simp only[IntKind.wrap_i64]);omega);refine MV ?_;refine MZ fun W hS=> ?_;go_wp2;exact bodyPost_ret (v:=.int .i64 ((D.puts.length-1:Nat):Int)) (by simp only[results,Tryz.results11];go_simp) rfl ⟨rfl,hS.ext⟩
end

section
set_option maxHeartbeats 3000000
attribute [local irreducible] wpList V2 wpX
open S8 (Kn GA kP vprv vsm lo)
abbrev enZ:En:=⟨0,0,.slice none 0 0,[]⟩
def J0x (es:List En)(e:Int):En:=(es.filter fun x=>decide ((x.ep:Int)≤e)).getLastD enZ
theorem Y6u (e:Int):J0x [] e=enZ:=rfl
theorem Q53 {es:List En}{k:Nat}{x:En}{e:Int}(h:es[k]?=some x):J0x (es.take (k+1)) e=if(x.ep:Int)≤e then x else J0x (es.take k) e:=by
 unfold J0x;rw[List.take_add_one,h,List.filter_append]
 by_cases hx:(x.ep:Int)≤e
 ·
  rw[if_pos hx,show List.filter (fun x=>decide ((x.ep:Int)≤e)) (some x).toList=[x] by simp[hx]];rw[List.getLastD_eq_getLast?,List.getLast?_append];rfl
 rw[if_neg hx,show List.filter (fun x=>decide ((x.ep:Int)≤e)) (some x).toList=[] by simp[hx],List.append_nil]
theorem Q2q {es:List En}{e:Int}:J0x es e=enZ∨J0x es e∈es:=by
 unfold J0x;cases h:(es.filter fun x=>decide ((x.ep:Int)≤e)).getLast? with
 |none=>left;rw[List.getLastD_eq_getLast?,h];rfl
 |some x=>
  right;rw[List.getLastD_eq_getLast?,h];exact(List.mem_filter.1 (List.mem_of_getLast? h)).1
theorem V8r {W:World}{A:Option Addr}{n c i g o:Nat}{es:List En}{y:En}(h:RR 3 W (.slice A n c) (es.map enC))(yh:es[i]?=some y)(hA:A=some ⟨g,o,none⟩):∀(j:Nat) (v:Value),(enF y)[j]?=some v→W.cell? ⟨g,o+i*3+j,none⟩=some v:=fun j v hv=>
 RR.cellat h (by rw[List.getElem?_map,yh];rfl) hA j v (V8s j v hv)
theorem Y0i {acs:List Ac}{l:List UInt8}(h:l∉acs.map (·.l)):mlk (J0s acs) l=none:=by
 induction acs with
 |nil=>rfl
 |cons a acs ih=>
  show(if a.l=l then some a.b else mlk (J0s acs) l)=none;rw[if_neg (fun e=>h (by rw[List.map_cons,e];simp))];exact ih fun hm=>h (List.mem_cons_of_mem _ hm)
theorem Z0k {acs:List Ac}{a:Ac}(h:a∈acs)(hn:(acs.map (·.l)).Nodup):mlk (J0s acs) a.l=some a.b:=by
 induction acs with
 |nil=>cases h
 |cons b acs ih=>
  show(if b.l=a.l then some b.b else mlk (J0s acs) a.l)=some a.b;rw[List.map_cons,List.nodup_cons] at hn;rcases List.mem_cons.1 h with rfl|h
  ·
   rw[if_pos rfl]
  ·
   rw[if_neg (fun e=>hn.1 (by rw[e];exact List.mem_map.2 ⟨a,h,rfl⟩))];exact ih h hn.2
theorem LOk.mlk_n {D:DD}{y:LD}(h:LOk D y){l:List UInt8}(hl:l∉D.labs):mlk (J0s y.acs) l=none:=Y0i (by rw[h.a];exact hl)
theorem LOk.mlk_s {D:DD}{y:LD}(h:LOk D y){a:Ac}(ha:a∈y.acs):mlk (J0s y.acs) a.l=some a.b:=Z0k ha (by rw[h.a];exact D.labs_nodup)
theorem LOk.acc {D:DD}{y:LD}(h:LOk D y){l:List UInt8}(hl:l∈D.labs):∃a∈y.acs,a.l=l:=by
 rw[←h.a] at hl;exact List.mem_map.1 hl
theorem V39 {vk:Nat}{l:List UInt8}(h:erN vk l=0):(vsm (pfN vk l)).2=0:=by
 unfold erN at h;unfold pfN vsm;cases hv:S8.vpt (kP vk) l with
 |none=>rw[S8.vprv_none hv] at h;cases h
 |some c=>
  have D:=S8.candP_on (S8.vpt_some hv).2.1;rw[S8.vprv_some hv,(S8.vPr_parts D).1,(S8.dec_enc (S8.pm_on D _)).1,if_pos rfl]
attribute [local irreducible] eI be8 hs4 lb J43 J2v J01 xt hm S8.vprv S8.vsm ixN pfN erN J0x

theorem V8t {b ix pf:Nat}{mv:Value}{es:List En}{n:Int}(hn:es.length≤1000)(w:World)(hb:Blk w b (Q5 [.a 32 ix,.a 80 pf,.c mv]) 119)(hr:RR 3 w mv (es.map enC))(hs:∀x∈es,Sl w x.u x.x):
  Calls Tryz.prog 47 #[.pointer (some ⟨b,0,none⟩),.int .i64 n] w fun e w' =>X5 (.tuple #[.agg (enF (J0x es n)),.bool (decide (0<((J0x es n).ver:Int)))]) w w' e:=by
 obtain⟨Am,cm,rfl,Y,X⟩:=RR.opf hr;have hS:=SH.nil [] w
 go_enter Tryz.func47,Tryz.ntmps47
 go_upto_region 0 with fail;refine RL hS ?_;clear hS;refine MN (z:=Q5 [.c (.int .i64 0),.c (.int .i64 0),.c (.slice none 0 0)]) (t:=101) ?_;intro V;refine Wf ?_;refine MZ fun W hS=> ?_;go_upto_region 1 with fail;refine RL hS ?_;clear hS;refine MN (z:=Q5 [.c (.int .i64 0),.c (.int .i64 0),.c (.slice none 0 0)]) (t:=101) ?_;intro U;refine MZ fun W hS=> ?_;go_upto_region 2 with fail;refine RL hS ?_;clear hS;(iterate 3 refine MV ?_);refine MF (v:=.slice Am es.length cm) (fun W hS=>Z5 rfl rfl (by rw[J3 (J2 hb hS.ext)];exact(J4 (off:=112) 2)) (by kernel_rfl)) ?_;refine MV ?_;refine W0 ?_;refine MZ fun W hS=> ?_
 go_wp2_with fail
 go_loopw [14] (fun jj wr=> ∃(k:Nat)(z:En),(k≤es.length)∧(RowKit.Hid (z=J0x (es.take k) n))∧(Sl w z.u z.x)∧(jj=.int .i64 (k:Int))∧SH [] w wr [.b V (Q5 [.c (.int .i64 0),.c (.int .i64 0),.c (.slice none 0 0)]) 101,.b U (Q5 [.c (.int .i64 (z.ep:Int)),.c (.int .i64 (z.ver:Int)),.c z.u]) 101])
  (fun jj _=>es.length-(intOf jj).toNat)
 case atStart=>exact⟨0,enZ,Nat.zero_le _,Lib.hid (by rw[List.take_zero,Y6u]),Q8h w,rfl,(hS.pick [1,0])⟩
 clear hS
 case round=>
  obtain⟨k,z,hk,hz,T,rfl,hS⟩:=hrel;have M:=J8 T
  by_cases J:k<es.length
  ·
   obtain⟨x,xh⟩:∃x,es[k]?=some x:=⟨_,List.getElem?_eq_getElem J⟩
   obtain⟨gm,om,S,_⟩:=X.out k x xh;have N:=Lib.hid S;clear S;have R:=hs x (List.mem_of_getElem? xh);have G:=J8 R;go_upto_region 3 with fail;refine RL hS ?_;clear hS;refine Wto ?_;refine MZ fun W hS=> ?_;go_upto_region 4 with fail;refine RL hS ?_;clear hS;refine MW ?_ (v:=.pointer (some ⟨gm,om+k*3,none⟩)) (hv:=fun _=>J0k N.out J rfl rfl rfl Tryz.underlying69 (by kernel_rfl));refine MF (v:=.agg (Q5 [.c (.int .i64 (x.ep:Int)),.c (.int .i64 (x.ver:Int)),.c x.u])) (fun W hS=>V3 rfl rfl (fun i_ v hv=>(V8r (hr.ext hS.ext) xh N.out) i_ v (by simpa using hv)) (by kernel_rfl) (by rw[J7];kernel_rfl)) ?_;refine MN (z:=Q5 [.c (.int .i64 0),.c (.int .i64 0),.c (.slice none 0 0)]) (t:=101) ?_;intro Z;refine MRa 0 ?_ (h1:=by exact(K3 ⟨rfl,rfl,G.2,trivial⟩));refine MZ fun W hS=> ?_
   by_cases D:(x.ep:Int)≤n
   ·
    go_upto_region 5 with fail;refine RL hS ?_;clear hS;refine MV ?_;refine MG 0 ?_ (v:=.int .i64 (x.ep:Int)) (hj:=(J4 (off:=0) 0));refine MV ?_;refine Wto ?_;refine MZ fun W hS=> ?_;go_upto_region 6 with fail;refine RL hS ?_;clear hS;refine ML 0 ?_ (hs:=by rw[J7];kernel_rfl);refine MRa 2 ?_ (h1:=by exact(K3 ⟨rfl,rfl,G.2,trivial⟩));refine MZ fun W hS=> ?_;go_wp2;go_roundw
    case rel=>exact⟨(k+1),x,by omega,Lib.hid (by rw[Q53 xh,if_pos D]),R,by go_num,(hS.pick [1,2])⟩
    case measure=>simp[intOf];omega
   go_upto_region 5 with fail;refine RL hS ?_;clear hS;refine MV ?_;refine MG 0 ?_ (v:=.int .i64 (x.ep:Int)) (hj:=(J4 (off:=0) 0));refine MV ?_;refine Wfo ?_;refine MZ fun W hS=> ?_;go_wp2;go_roundw
   case rel=>exact⟨(k+1),z,by omega,Lib.hid (by rw[Q53 xh,if_neg D];exact hz.out),T,by go_num,(hS.pick [1,2])⟩
   case measure=>simp[intOf];omega
  obtain rfl:k=es.length:=by omega
  rw[List.take_length] at hz;go_upto_region 3 with fail;refine RL hS ?_;clear hS;refine Wfo ?_;refine MZ fun W hS=> ?_;go_upto_region 8 with fail;refine RTp [1] (.q 0 (.q 1 (.q 2 (.q 3 (.e 4 (.q 5 .z)))))) hS ?_;clear hS;refine TL 0 ?_ (hs:=by rw[J7];kernel_rfl);refine TV ?_;refine TG 0 ?_ (v:=.int .i64 (z.ver:Int)) (hj:=(J4 (off:=1) 1));refine TW ?_ (v:=.bool (decide (0<(z.ver:Int)))) (hv:=by intro W;go_simp;first|done|rfl);refine TE (fun _ h=>h.pick [1]) ?_;refine MRa 0 ?_ (h1:=by exact(K3 ⟨rfl,rfl,M.2,trivial⟩));refine K5 [1] [0] ?_;refine TW ?_ (v:=.bool (decide (0<(z.ver:Int))));refine TZ (fun _ h=>h.pick [1]) fun W hS=> ?_;go_wp2;exact bodyPost_ret (J03 rfl rfl rfl (hS.blk (i:=0) rfl) (by kernel_rfl) (by rw[J7];kernel_rfl)) rfl ⟨by rw[←hz.out];rfl,hS.ext⟩
theorem Z50 {D:DD}{y:LD}{a:Ac}{v:Value}(ha:a∈y.acs)(w:World)(hD:DK D y w)(hL:LOk D y)(hs:Sl w v a.l):
  Calls Tryz.prog 43 #[.pointer (some ⟨y.p,0,none⟩),v] w fun e w' =>X5 (.tuple #[.pointer (some ⟨a.b,0,none⟩),.int .i64 0]) w w' e:=by
 have hS:=SH.nil [] w
 go_enter Tryz.func43,Tryz.ntmps43
 go_upto_region 1 with fail;refine RTh (.q 0 (.q 1 (.q 2 (.q 3 (.q 4 (.q 5 (.q 6 (.q 7 .z)))))))) hS ?_;clear hS;(iterate 3 refine TV ?_);refine TF (v:=.map (some y.h)) rfl (fun W hS=>Z5 rfl rfl (by rw[J3 (J2 hD.d hS.ext)];exact(J4 (off:=68) 6)) (by kernel_rfl)) ?_;refine TV ?_;refine TF (v:=Q9 a.l) rfl (fun W hS=>J0l (J0c hs hS.ext) rfl rfl) ?_;refine TF (v:=.pointer (some ⟨a.b,0,none⟩)) rfl (fun W hS=>(by rw[show(.pointer (some ⟨a.b,0,none⟩):Value)=mpt (mlk (J0s y.acs) a.l) by rw[hL.mlk_s ha];rfl];exact J6l (J5z hD.m hS.ext) Tryz.underlying106 Tryz.underlying9 (by kernel_rfl) rfl rfl rfl)) ?_;refine TV ?_;refine TZ (fun _ h=>h) fun W hS=> ?_;go_upto_region 2 with fail;refine RL hS ?_;clear hS;refine MV ?_;refine MW ?_ (v:=.bool true) (hv:=by intro W;go_simp;first|done|rfl);refine MZ fun W hS=> ?_;go_wp2;exact bodyPost_ret (v:=.tuple #[.pointer (some ⟨a.b,0,none⟩),.int .i64 0]) (by simp only[results,Tryz.results43];go_simp) rfl ⟨rfl,hS.ext⟩
theorem Z51 {D:DD}{y:LD}{l:List UInt8}{v:Value}(hn:l∉D.labs)(he:erN D.vk l=0)(w:World)(hX:GX w)(hD:DK D y w)(hL:LOk D y)(hs:Sl w v l)(hl:l.length≤32):
  Calls Tryz.prog 43 #[.pointer (some ⟨y.p,0,none⟩),v] w fun e w' => ∃b,e=.returned (.tuple #[.pointer (some ⟨b,0,none⟩),.int .i64 0])∧SH [] w w' [.b b (Q5 [.a 32 (ixN D.vk l),.a 80 (pfN D.vk l),.c (.slice none 0 0)]) 119]:=by
 have hS:=SH.nil [] w
 go_enter Tryz.func43,Tryz.ntmps43
 go_upto_region 1 with fail;refine RTh (.q 0 (.q 1 (.q 2 (.q 3 (.q 4 (.q 5 (.q 6 (.q 7 .z)))))))) hS ?_;clear hS;(iterate 3 refine TV ?_);refine TF (v:=.map (some y.h)) rfl (fun W hS=>Z5 rfl rfl (by rw[J3 (J2 hD.d hS.ext)];exact(J4 (off:=68) 6)) (by kernel_rfl)) ?_;refine TV ?_;refine TF (v:=Q9 l) rfl (fun W hS=>J0l (J0c hs hS.ext) rfl rfl) ?_;refine TF (v:=.pointer none) rfl (fun W hS=>(by rw[show(.pointer none:Value)=mpt (mlk (J0s y.acs) l) by rw[hL.mlk_n hn];rfl];exact J6l (J5z hD.m hS.ext) Tryz.underlying106 Tryz.underlying9 (by kernel_rfl) rfl rfl rfl)) ?_;refine TV ?_;refine TZ (fun _ h=>h) fun W hS=> ?_;go_upto_region 2 with fail;refine RL hS ?_;clear hS;refine MV ?_;refine MW ?_ (v:=.bool false) (hv:=by intro W;go_simp;first|done|rfl);refine MZ fun W hS=> ?_;go_upto_region 4 with fail;refine RL hS ?_;clear hS;(iterate 4 refine MV ?_);refine MF (v:=.agg (J0 .u8 32 (J5 D.vk))) (fun W hS=>V3 rfl rfl (fun i v hv=>by rw[J3 (J2 hD.d hS.ext)];exact(X9 (off:=1) 1) i v hv) (by kernel_rfl) (by first|kernel_rfl|(rw[J1];kernel_rfl))) ?_;refine MV ?_;obtain⟨P,HP⟩:=exh (pfN D.vk l);refine MC (v:=.tuple #[.agg (J0 .u8 80 (J5 P)),.int .i64 0]) (fun W hS=>S8.proveN_c (kn:=kn0) trivial trivial trivial (X:=P) (by rw[HP.out];unfold pfN;rfl) (E:=0) (by unfold erN at he;exact he.symm) v (Nat.le_trans hl (by decide)) W (hX.ext hS.ext).2 (J0c hs hS.ext)) ?_;refine MV ?_;refine MV ?_;refine W0 ?_;refine MN (z:=J0 .u8 80 (J5 0)) (t:=40) ?_;intro M;refine MR 0 ?_;refine W0 ?_;refine MZ fun W hS=> ?_;go_upto_region 5 with fail;refine RL hS ?_;clear hS;refine W0 ?_;refine Wfo ?_;refine MZ fun W hS=> ?_;go_upto_region 7 with fail;refine RL hS ?_;clear hS;refine ML 0 ?_;obtain⟨S_,G⟩:=exh (vsm P).1;refine MC (v:=.tuple #[.agg (J0 .u8 64 (J5 S_)),.int .i64 0]) (fun W hS=>S8.vsumN_c (kn:=kn0) trivial (X:=S_) (E:=0) G.out (by rw[HP.out];exact(V39 he).symm) W (hX.ext hS.ext).2) ?_;refine MV ?_;refine MV ?_;refine W0 ?_;refine MN (z:=J0 .u8 64 (J5 0)) (t:=89) ?_;intro N;refine MR 0 ?_;refine W0 ?_;refine MZ fun W hS=> ?_;go_upto_region 8 with fail;refine RL hS ?_;clear hS;refine W0 ?_;refine Wfo ?_;refine MZ fun W hS=> ?_;go_upto_region 10 with fail;refine RTh (.q 0 (.q 2 (.e 1 (.q 3 (.e 4 (.q 5 (.q 6 .z))))))) hS ?_;clear hS;refine TL 0 ?_;refine TL 1 ?_;refine TE (fun _ h=>h) ?_;refine MC (v:=.agg (J0 .u8 32 (J5 (lo S_)))) (fun W hS=>S8.index_c (X:=S_) W) ?_;refine TNh (fun W hS=>hS) ?_;refine TF (v:=.agg (Q5 [.a 32 (lo S_),.a 80 P,.c (.slice none 0 0)])) rfl (fun W hS=>J1m [(0,[.a 32 (lo S_)]),(1,[.a 80 P])] rfl rfl Q0y Q0z (.c ((J1e _ _).symm) (.c ((J1e _ _).symm) .n))) ?_;refine TE (fun _ h=>h) ?_;refine MN (z:=Q5 [.a 32 (lo S_),.a 80 P,.c (.slice none 0 0)]) (t:=119) ?_;intro J;refine TNh (fun W hS=>hS.pick [1,2]) ?_;refine TV ?_;refine T0 ?_;refine TZ (fun _ h=>h) fun W hS=> ?_;go_wp2;exact bodyPost_ret (v:=.tuple #[.pointer (some ⟨J,0,none⟩),.int .i64 0]) (by simp only[results,Tryz.results43];go_simp) rfl ⟨J,rfl,by rw[show ixN D.vk l=lo S_ by unfold ixN;rw[G.out,HP.out],←HP.out];exact hS.pick [0]⟩
theorem Z52 {D:DD}{y:LD}{l:List UInt8}{v:Value}{E:Nat}(hE:E=erN D.vk l)(hn:l∉D.labs)(he:E≠0)(w:World)(hX:GX w)(hD:DK D y w)(hL:LOk D y)(hs:Sl w v l)(hl:l.length≤32):
  Calls Tryz.prog 43 #[.pointer (some ⟨y.p,0,none⟩),v] w fun e w' =>X5 (.tuple #[.pointer none,.int .i64 (E:Int)]) w w' e:=by
 obtain⟨P0,G⟩:=exh (S8.vprv D.vk l).1;have hS:=SH.nil [] w
 go_enter Tryz.func43,Tryz.ntmps43
 go_upto_region 1 with fail;refine RTh (.q 0 (.q 1 (.q 2 (.q 3 (.q 4 (.q 5 (.q 6 (.q 7 .z)))))))) hS ?_;clear hS;(iterate 3 refine TV ?_);refine TF (v:=.map (some y.h)) rfl (fun W hS=>Z5 rfl rfl (by rw[J3 (J2 hD.d hS.ext)];exact(J4 (off:=68) 6)) (by kernel_rfl)) ?_;refine TV ?_;refine TF (v:=Q9 l) rfl (fun W hS=>J0l (J0c hs hS.ext) rfl rfl) ?_;refine TF (v:=.pointer none) rfl (fun W hS=>(by rw[show(.pointer none:Value)=mpt (mlk (J0s y.acs) l) by rw[hL.mlk_n hn];rfl];exact J6l (J5z hD.m hS.ext) Tryz.underlying106 Tryz.underlying9 (by kernel_rfl) rfl rfl rfl)) ?_;refine TV ?_;refine TZ (fun _ h=>h) fun W hS=> ?_;go_upto_region 2 with fail;refine RL hS ?_;clear hS;refine MV ?_;refine MW ?_ (v:=.bool false) (hv:=by intro W;go_simp;first|done|rfl);refine MZ fun W hS=> ?_;go_upto_region 4 with fail;refine RL hS ?_;clear hS;(iterate 4 refine MV ?_);refine MF (v:=.agg (J0 .u8 32 (J5 D.vk))) (fun W hS=>V3 rfl rfl (fun i v hv=>by rw[J3 (J2 hD.d hS.ext)];exact(X9 (off:=1) 1) i v hv) (by kernel_rfl) (by first|kernel_rfl|(rw[J1];kernel_rfl))) ?_;refine MV ?_;refine MC (v:=.tuple #[.agg (J0 .u8 80 (J5 P0)),.int .i64 (E:Int)]) (fun W hS=>S8.proveN_c (kn:=kn0) trivial trivial trivial (X:=P0) G.out (E:=E) (by rw[hE];unfold erN;rfl) v (Nat.le_trans hl (by decide)) W (hX.ext hS.ext).2 (J0c hs hS.ext)) ?_;(iterate 3 refine MV ?_);refine MN (z:=J0 .u8 80 (J5 0)) (t:=40) ?_;intro J;refine MR 0 ?_;refine MV ?_;refine MZ fun W hS=> ?_;go_upto_region 5 with fail;refine RL hS ?_;clear hS;refine MV ?_;refine Wto ?_;refine MZ fun W hS=> ?_;go_wp2;exact bodyPost_ret (v:=.tuple #[.pointer none,.int .i64 (E:Int)]) (by simp only[results,Tryz.results43];go_simp) rfl ⟨rfl,hS.ext⟩
end

section
set_option maxHeartbeats 3000000
attribute [local irreducible] wpList V2 wpX
theorem J83 {P:Program}{α:Type}{f:FuncId}{args:Array Value}{F:List Nat}{w W:World}{H:List As}{V:α→Value}{X:α→List As}(hS:SH F w W H)(hc:Calls P f args W fun e W' => ∃x,e=.returned (V x)∧SH [] W W' (X x))(ht:∀x,(X x).all (fun y=>y.mv &&(match y with| .t _ _=>false|_=>true) && H.all (SH.tyOk y))=true):
  Calls P f args W fun e W' => ∃x,e=.returned (V x)∧SH F w W' (X x++H):=by
 refine V3a hS (hc.mono fun e W' ⟨x,h1,h2⟩=>⟨x,h1,h2,fun y hy hm=> ?_⟩) fun x=> ?_
 ·
  have:=List.all_eq_true.1 (ht x) y hy;rw[hm] at this;simp at this
 refine List.all_eq_true.2 fun y hy=> ?_;have:=List.all_eq_true.1 (ht x) y hy;simp only[Bool.and_eq_true] at this⊢;exact⟨this.1.2,this.2⟩
theorem V8u {W:World}{A:Option Addr}{n c i g o:Nat}{ps:List Pv}{y:Pv}(h:RR 2 W (.slice A n c) (ps.map pvC))(yh:ps[i]?=some y)(hA:A=some ⟨g,o,none⟩):∀(j:Nat) (v:Value),(pvF y)[j]?=some v→W.cell? ⟨g,o+i*2+j,none⟩=some v:=fun j v hv=>
 RR.cellat h (by rw[List.getElem?_map,yh];rfl) hA j v (V8v j v hv)
def pbs (ps:List Pv):List (Value×List UInt8):=ps.flatMap fun p=>[(p.lu,p.l),(p.xu,p.x)]
attribute [local irreducible] eI be8 hs4 lb J43 J2v J01 xt hm pbs

theorem Q1i {p:Pv}(w:World)(h1:Sl w p.lu p.l)(h2:Sl w p.xu p.x)(hl1:p.l.length≤100)(hl2:p.x.length≤100):
  Calls Tryz.prog 53 #[.agg (pvF p)] w fun e w' => ∃x:Value×Value,e=.returned (.agg (Q5 [.c x.1,.c x.2]))∧SH [] w w' [.o x.1 p.l,.o x.2 p.x]:=by
 have R:=J8 h1;have N:=J8 h2;have hS:=SH.nil [] w
 go_enter Tryz.func53,Tryz.ntmps53
 go_upto_region 0 with fail;refine RL hS ?_;clear hS;refine MN (z:=Q5 [.c p.lu,.c p.xu]) (t:=88) ?_;intro T;refine MN (z:=Q5 [.c (.slice none 0 0),.c (.slice none 0 0)]) (t:=88) ?_;intro S;refine MZ fun W hS=> ?_;go_upto_region 1 with fail;refine RTp [1] (.q 0 (.q 1 (.q 3 (.q 4 (.e 2 (.e 5 (.q 6 (.e 7 .z)))))))) hS ?_;clear hS;refine TV ?_;refine TG 0 ?_ (v:=p.lu) (hj:=(J4 (off:=0) 0));refine TV ?_;refine TG 0 ?_ (v:=p.xu) (hj:=(J4 (off:=1) 1));refine TE (fun _ h=>h.pick [1]) ?_;refine ME (V:=fun v=>v) (fun W hS=>J3i hS (Q03 W (J0c h1 hS.ext) (by first|omega|(simp only[lA,lM,lT,lD,lC,lN,Q0,V5,Z7,Z8];omega))) (fun _=>⟨rfl,rfl⟩)) ?_;intro J;refine K5 [0,2] [1] ?_;refine TE (fun _ h=>h.pick [0,2]) ?_;refine ME (V:=fun v=>v) (fun W hS=>J3i hS (Q03 W (J0c h2 hS.ext) (by first|omega|(simp only[lA,lM,lT,lD,lC,lN,Q0,V5,Z7,Z8];omega))) (fun _=>⟨rfl,rfl⟩)) ?_;intro M;refine K5 [0,1,3] [1,2] ?_;refine Q0p (fun W hS=>(J8 (hS.osl (i:=1) rfl)).2) ?_;intro D;refine Q0p (fun W hS=>(J8 (hS.osl (i:=0) rfl)).2) ?_;intro G;refine TF (v:=.agg (Q5 [.c J,.c M])) rfl (fun W hS=>J1m [(0,[.c J]),(1,[.c M])] rfl rfl J5d J5e (.c ((J8 (hS.osl (i:=1) rfl)).1) (.c ((J8 (hS.osl (i:=0) rfl)).1) .n))) ?_;refine TE (fun _ h=>h.pick [0,1,3]) ?_;refine MRa 2 ?_ (h1:=by exact(K3 ⟨D,G,trivial⟩));refine K5 [0,1,3] [0,1,2] ?_;refine TZ (fun _ h=>h.pick [0,1,3]) fun W hS=> ?_;go_wp2;exact bodyPost_ret (Y0 rfl rfl (hS.blk (i:=2) rfl) (by kernel_rfl) (by rw[J7];kernel_rfl)) rfl ⟨(J,M),rfl,hS.pick [1,0]⟩
end
end Go.Proofs.YteehbddkcnkhfaaGreatDoor

/- Contracts and plain laws for directPuts_holds. Conditions: the tables hold their numbers. -/
import Derived.Test.YteehbddkcnkhfaaGreatDoorJ29
open Go.RowKit
set_option maxRecDepth 100000
set_option linter.unusedSimpArgs false
set_option linter.unusedVariables false
namespace Go.Proofs.YteehbddkcnkhfaaGreatDoor
section
set_option maxHeartbeats 3000000
attribute [local irreducible] wpList Y8 wpX
open S8 (Kn GA kP)
theorem Z3o {D' :DD}{z:LD}{W:World}{R:List As}(hR:tyD R=true)(h1:OldF [] W (Q23 z.bs))(h2:OldF [] W (Q33 z.pvs)):SH.okQ [] R W (ldL D' z):=by
 refine⟨.inr (.inl ⟨rfl,J3c hR fun T e=> ?_⟩),.inr (.inl ⟨rfl,J3c hR fun T e=> ?_⟩),.inr (.inl ⟨rfl,J3c hR fun T e=> ?_⟩),.inr (.inl ⟨rfl,J3c hR fun T e=> ?_⟩),.inr (.inl ⟨rfl,J3c hR fun T e=> ?_⟩),.inr (.inl ⟨rfl,J3c hR fun T e=> ?_⟩),.inr (.inl ⟨rfl,J3c hR fun T e=> ?_⟩),.inr (.inl ⟨rfl,J3c hR fun T e=> ?_⟩),.inr (.inr (.inr ⟨_,_,rfl,h1⟩)),.inr (.inr (.inr ⟨_,_,rfl,h2⟩)),.inr (.inr (.inl ⟨_,_,rfl,Y9m hR⟩)),trivial⟩
 ·
  injection e with e;exact .inl e.symm
 ·
  cases e
 ·
  injection e with e;exact .inr (.inl e.symm)
 ·
  injection e with e;exact .inr (.inr (.inl e.symm))
 ·
  injection e with e;exact .inr (.inr (.inr (.inl e.symm)))
 ·
  injection e with e;exact .inr (.inr (.inr (.inr (.inl e.symm))))
 ·
  injection e with e;exact .inr (.inr (.inr (.inr (.inr (.inl e.symm)))))
 injection e with e;exact .inr (.inr (.inr (.inr (.inr (.inr e.symm)))))
def NOk (D:DD)(w:World)(y:LD):Prop:=LOk D y∧OldF [] w (Q23 y.bs)∧OldF [] w (Q33 y.pvs)
theorem Z1i {P:Program}{f:FuncId}{args:Array Value}{F:List Nat}{w W:World}{H:List As}{D:DD}(hS:SH F w W H)
  (hc:Calls P f args W fun e W' => ∃y:{y:LD // LOk D y∧OldF [] W (Q23 y.bs)∧OldF [] W (Q33 y.pvs)},e=.returned (.tuple #[.pointer (some ⟨y.1.p,0,none⟩),.int .i64 0])∧SH [] W W' (ldL D y.1)) (hR:tyD H=true):
  Calls P f args W fun e W' => ∃y:{y:LD // NOk D w y},e=.returned (.tuple #[.pointer (some ⟨y.1.p,0,none⟩),.int .i64 0])∧SH F w W' (ldL D y.1++H):=
 hc.mono fun e W' ⟨y,h1,h2⟩=>⟨⟨y.1,y.2.1,y.2.2.1.back hS.off.size,y.2.2.2.back hS.off.size⟩,h1,SH.frameQ (L:=[]) hS h2 (Z3o hR y.2.2.1 y.2.2.2)⟩
attribute [local irreducible] eI be8 hs4 lb J3k J2i X5 xt hm pbs DD.tree DD.link rs S8.kP S8.kN S8.kD ofT ebs lk0 sE sL sN opn bnd ahd bsd ixN pfN erN J1a DD.links DD.trees DD.play DD.putD DD.sealD

theorem V1u {idl J:List UInt8}{vk bk:Nat}{iu:Value}{L P E:Nat}(hJ:idl.take 30=J)(hN:NewOk J L P E){q:Prop}(hr:q)(w:World)(hG:GT q w)(hX:GX w)(hi:Sl w iu idl):
  Calls Tryz.prog 8 #[.agg (Q5 [.c iu,.a 32 vk,.a 32 bk,.c (.int .i64 (L:Int)),.c (.int .i64 (P:Int)),.c (.int .i64 (E:Int))])] w fun e w' => ∃z:{y:LD // NOk (J55 J vk bk L P E) w y}×Nat×Nat×Nat,e=.returned (.tuple #[.pointer (some ⟨z.1.1.p,0,none⟩),.pointer (some ⟨z.2.1,0,none⟩),.bool true])∧SH [] w w' (ldL (J55 J vk bk L P E) z.1.1++[gx]++[.b z.2.1 (Q5 [.c (K6 J),.c (K6 (lb 32 vk)),.c (K6 (lb 32 bk)),.c (.int .i64 (L:Int)),.c (.int .i64 (P:Int)),.c (.int .i64 (E:Int)),.c (.slice none 0 0),.c (.slice none 0 0),.c (.slice (some ⟨z.2.2.1,0,none⟩) 1 1),.c (.slice (some ⟨z.2.2.2,0,none⟩) 1 1),.c (.slice none 0 0)]) 140,.b z.2.2.1 #[K6 (lb 32 sE)] 9,.b z.2.2.2 #[K6 (lb 32 (lk0 J))] 9]):=by
 have Y:=J9 hi;have β:=hN.i2;have hS:=SH.nil [] w;have hS:=hS.entp (J8m hX)
 go_enter Tryz.func8,Tryz.ntmps8
 go_upto_region 0 with fail;refine RL hS ?_;clear hS;refine MN (z:=Q5 [.c iu,.a 32 vk,.a 32 bk,.c (.int .i64 (L:Int)),.c (.int .i64 (P:Int)),.c (.int .i64 (E:Int))]) (t:=29) ?_;intro G;refine MV ?_;refine MV ?_;refine Wf ?_;refine MZ fun W hS=> ?_;go_upto_region 1 with fail;refine RL hS ?_;clear hS;refine MO (m:=[]) (n:=0) (z:= #[]) ?_;intro α;refine MV ?_;refine MG 1 ?_ (v:=iu) (hj:=(J4 (off:=0) 0));refine MV ?_;refine MG 1 ?_ (v:=iu) (hj:=(J4 (off:=0) 0));refine MF (v:=.int .i64 (idl.length:Int)) (fun W hS=>Z9 (J0a hi hS.ext) rfl rfl) ?_;refine MW ?_ (v:=.int .i64 ((min idl.length 30:Nat):Int));refine MT (fun W hS=>hS.ent hi) ?_;refine MH 0 (min idl.length 30) (m:=idl) (m' :=J) (by exact Nat.min_le_left _ _) ?_ (hm:=((J9n 30 idl).trans hJ));intro R;refine MA 2 (xs:=[]) (ys:=J) (fun W hS=>(hS.sl (i:=0) rfl)) (by first|omega|(simp only[lA,lM,lT,lD,lC,lN,Q0,V1,Z5,Z6];omega)) ?_;intro X;refine MV ?_;refine MZ fun W hS=> ?_;go_upto_region 2 with fail;refine RL hS ?_;clear hS;refine MV ?_;refine Mk 3 ?_ (sub:=Q5 [.c (.int .i64 (L:Int)),.c (.int .i64 (P:Int)),.c (.int .i64 (E:Int))]) (hs:=(J4t (off:=65) 3 3));refine MN (z:=Q5 [.c (.int .i64 0),.c (.int .i64 0),.c (.int .i64 0)]) (t:=27) ?_;intro T;refine MRa 0 ?_ (h1:=by exact(X7 ⟨rfl,rfl,rfl,trivial⟩));refine MZ fun W hS=> ?_;go_upto_region 3 with fail;refine RL hS ?_;clear hS;refine MV ?_;refine MV ?_;refine Mk 4 ?_ (sub:=Q5 [.a 32 vk,.a 32 bk]) (hs:=(J4t (off:=1) 1 2));refine MV ?_;refine MG 0 ?_ (v:=.int .i64 (L:Int)) (hj:=(J4 (off:=0) 0));refine MV ?_;refine MG 0 ?_ (v:=.int .i64 (P:Int)) (hj:=(J4 (off:=1) 1));refine MV ?_;refine MG 0 ?_ (v:=.int .i64 (E:Int)) (hj:=(J4 (off:=2) 2));refine MF (v:=.agg (Q5 [.c (.int .i64 (L:Int)),.c (.int .i64 (P:Int)),.c (.int .i64 (E:Int))])) (fun W hS=>J2m [(0,[.c (.int .i64 (L:Int))]),(1,[.c (.int .i64 (P:Int))]),(2,[.c (.int .i64 (E:Int))])] rfl rfl J1x J1y (.c rfl (.c rfl (.c rfl .n)))) ?_;refine MT (fun W hS=>by rw[List.nil_append] at hS;exact hS) ?_;refine ME (V:=fun y:{y:LD // NOk (J55 J vk bk L P E) w y}=> .tuple #[.pointer (some ⟨y.1.p,0,none⟩),.int .i64 0]) (fun W hS=>Z1i hS (Z1j hN W (hS.pp (i:=5) rfl) (hS.own (i:=3) rfl).sl) rfl) ?_;rintro⟨y,M⟩;have hL:=M.1;dsimp only[ldL,List.cons_append,List.nil_append];refine MV ?_;refine MV ?_;refine W0 ?_;refine MV ?_;refine W0 ?_;refine MZ fun W hS=> ?_;go_upto_region 4 with fail;refine RL hS ?_;clear hS;refine MV ?_;refine MF (v:=K6 J) (fun W hS=>J1z (hS.osl (i:=14) rfl) rfl rfl) ?_;refine ML 11 ?_ (hs:=by rw[J6];kernel_rfl);refine MC (v:=.bool true) (fun W hS=>V33 (id:=J) (L:=(L:Int)) (P:=(P:Int)) (E:=(E:Int)) ⟨⟨hN.i1,hN.i2⟩,⟨by have h_:=hN.l1;omega,by have h_:=hN.l2;omega⟩,⟨by have h_:=hN.p1;omega,by have h_:=hN.p2;omega⟩,by have h_:=hN.e1;omega,by have h_:=hN.e2;omega⟩ W) ?_;refine Wf ?_;refine MZ fun W hS=> ?_;go_upto_region 6 with fail;refine RTh (.q 0 (.q 1 (.q 2 (.q 3 (.q 4 (.q 5 (.q 6 (.q 7 (.q 8 (.q 9 (.q 10 (.e 11 (.q 12 .z))))))))))))) hS ?_;clear hS;refine TV ?_;refine TF (v:=K6 J) rfl (fun W hS=>J1z (hS.osl (i:=14) rfl) rfl rfl) ?_;refine TV ?_;refine TV ?_;refine TW ?_ (v:=.slice (some ⟨G,1,none⟩) 32 32);refine TF (v:=K6 (lb 32 vk)) rfl (fun W hS=>J1z (Y6 (V:=vk) (n:=32) (off:=1) (c:=32) (hS.blk (i:=15) rfl) (J1w (off:=1) 1) (by decide) (by decide)) rfl rfl) ?_;refine TV ?_;refine TV ?_;refine TW ?_ (v:=.slice (some ⟨G,33,none⟩) 32 32);refine TF (v:=K6 (lb 32 bk)) rfl (fun W hS=>J1z (Y6 (V:=bk) (n:=32) (off:=33) (c:=32) (hS.blk (i:=15) rfl) (J1w (off:=33) 2) (by decide) (by decide)) rfl rfl) ?_;refine TL 11 ?_ (hs:=by rw[J6];kernel_rfl);refine TE (fun _ h=>h) ?_;refine ME (V:=fun x:Nat×Nat×Nat=> .pointer (some ⟨x.1,0,none⟩)) (fun W hS=>J58 hS (V35 (id:=J) (vs:=lb 32 vk) (bs:=lb 32 bk) (L:=(L:Int)) (P:=(P:Int)) (E:=(E:Int)) hr (by omega) W (J05 hG hS.ext)) (fun _=>rfl)) ?_;rintro⟨r1,r2,r3⟩;dsimp only[List.cons_append,List.nil_append];refine TNh (fun W hS=>hS.pick [3,4,5,6,7,8,9,10,11,12,13,14,15,16,17,18,19]) ?_;refine TV ?_;refine TZ (fun _ h=>h) fun W hS=> ?_
 go_wp2_with fail
 go_loopw [10] (fun jj wr=> ∃(j:Nat),(j≤J.length)∧(jj=.int .i64 (j:Int))∧SH [] w wr [.b r1 (Q5 [.c (K6 J),.c (K6 (lb 32 vk)),.c (K6 (lb 32 bk)),.c (.int .i64 (L:Int)),.c (.int .i64 (P:Int)),.c (.int .i64 (E:Int)),.c (.slice none 0 0),.c (.slice none 0 0),.c (.slice (some ⟨r2,0,none⟩) 1 1),.c (.slice (some ⟨r3,0,none⟩) 1 1),.c (.slice none 0 0)]) 140,.b r2 #[K6 (lb 32 sE)] 9,.b r3 #[K6 (lb 32 (lk0 J))] 9,.b y.p (Q5 [.c y.uid,.a 32 ((J55 J vk bk L P E).vk),.a 32 ((J55 J vk bk L P E).bk),.c (.int .i64 ((J55 J vk bk L P E).L:Int)),.c (.int .i64 ((J55 J vk bk L P E).P:Int)),.c (.int .i64 ((J55 J vk bk L P E).E:Int)),.c (.map (some y.h)),.c y.wv,.c y.pv,.c y.tv,.c y.lv]) 110,J1p y.h (J07 y.acs),acT y.acs,enT y.acs,.r 88 2 y.wv (List.map pvC y.wps),.r 83 1 y.pv (List.map J3x y.pvs),.r 115 1 y.tv (List.map J1h y.tus),.r 23 32 y.lv (List.map J0l (J55 J vk bk L P E).links),byT y.bs,rwT y.pvs,taT (J55 J vk bk L P E).trees y.tus,.b T (Q5 [.c (.int .i64 (L:Int)),.c (.int .i64 (P:Int)),.c (.int .i64 (E:Int))]) 27,.s R J,.s iu idl,.o X (xt 17 j J),.b G (Q5 [.c iu,.a 32 vk,.a 32 bk,.c (.int .i64 (L:Int)),.c (.int .i64 (P:Int)),.c (.int .i64 (E:Int))]) 29,gx])
  (fun jj _=>J.length-(intOf jj).toNat)
 case atStart=>exact⟨0,Nat.zero_le _,rfl,(by rw[V75];exact hS)⟩
 clear hS
 case round=>
  obtain⟨j,hj,rfl,hS⟩:=hrel
  by_cases D:j<J.length
  ·
   obtain⟨c0,N⟩:∃c,J[j]?=some c:=⟨_,List.getElem?_eq_getElem D⟩
   go_upto_region 8 with fail;refine RL hS ?_;clear hS;refine MV ?_;refine MV ?_;refine MF (v:=.int .i64 (J.length:Int)) (fun W hS=>(by rw[show(J.length:Int)=((xt 17 j J).length:Int) by rw[J8g]];exact Z9 (hS.osl (i:=17) rfl) rfl rfl)) ?_;refine Wto ?_;refine MZ fun W hS=> ?_;go_upto_region 10 with fail;refine RL hS ?_;clear hS;refine MV ?_;refine MV ?_;refine MIo 17 j (l:=(xt 17 j J)) (by rw[J8g];omega) ?_;intro γ _ S;refine MF (v:=.int .u8 (c0.toNat:Int)) (fun W hS=>Q9 rfl rfl (Q96 (hS.own (i:=17) rfl) S.out (Y9a N)) (by kernel_rfl)) ?_;refine MW ?_ (v:=.int .u8 ((c0^^^17).toNat:Int)) (hv:=by intro W;go_simp;exact(Z90 c0 17).trans (by rw[UInt8.toNat_xor];rfl));refine MIo 17 j (l:=(xt 17 j J)) (by rw[J8g];omega) ?_;intro Z _ U;refine MPo 17 (j:=j) (b:=(c0^^^17)) (l:=(xt 17 j J)) (by rw[J8g];omega) U.out ?_;refine MT (fun W hS=>by rw[show(xt 17 j J).set j (c0^^^17)=xt 17 (j+1) J from Z3m N] at hS;exact hS) ?_;refine MZ fun W hS=> ?_;go_wp2;go_roundw
   case rel=>exact⟨j+1,by omega,by go_num,hS⟩
   case measure=>simp[intOf];omega
  go_upto_region 8 with fail;refine RL hS ?_;clear hS;refine MV ?_;refine MV ?_;refine MF (v:=.int .i64 (J.length:Int)) (fun W hS=>(by rw[show(J.length:Int)=((xt 17 j J).length:Int) by rw[J8g]];exact Z9 (hS.osl (i:=17) rfl) rfl rfl)) ?_;refine Wfo ?_;refine MZ fun W hS=> ?_;go_wp2;exact bodyPost_ret (v:=.tuple #[.pointer (some ⟨y.p,0,none⟩),.pointer (some ⟨r1,0,none⟩),.bool true]) (by simp only[results,Tryz.results8];go_simp) rfl ⟨y,M,r1,rfl,r2,r3,hS.pick [3,4,5,6,7,8,9,10,11,12,13,19,0,1,2]⟩
theorem V1w {idl J:List UInt8}{vk bk:Nat}{iu:Value}{L P E:Int}(hJ:idl.take 30=J)(hN:¬((1≤J.length∧J.length≤16)∧(1≤L∧L≤64)∧(1≤P∧P≤16)∧(1≤E∧E≤32)))(w:World)(hX:GX w)(hi:Sl w iu idl):
  Calls Tryz.prog 8 #[.agg (Q5 [.c iu,.a 32 vk,.a 32 bk,.c (.int .i64 L),.c (.int .i64 P),.c (.int .i64 E)])] w fun e w' =>K7 (.tuple #[.pointer none,.pointer none,.bool true]) w w' e:=by
 have D:=J9 hi;have M:J.length≤30:=by rw[←hJ];exact List.length_take_le _ _
 have hS:=SH.nil [] w;have hS:=hS.entp (J8m hX)
 go_enter Tryz.func8,Tryz.ntmps8
 go_upto_region 0 with fail;refine RL hS ?_;clear hS;refine MN (z:=Q5 [.c iu,.a 32 vk,.a 32 bk,.c (.int .i64 L),.c (.int .i64 P),.c (.int .i64 E)]) (t:=29) ?_;intro T;refine MV ?_;refine MV ?_;refine Wf ?_;refine MZ fun W hS=> ?_;go_upto_region 1 with fail;refine RL hS ?_;clear hS;refine MO (m:=[]) (n:=0) (z:= #[]) ?_;intro R;refine MV ?_;refine MG 1 ?_ (v:=iu) (hj:=(J4 (off:=0) 0));refine MV ?_;refine MG 1 ?_ (v:=iu) (hj:=(J4 (off:=0) 0));refine MF (v:=.int .i64 (idl.length:Int)) (fun W hS=>Z9 (J0a hi hS.ext) rfl rfl) ?_;refine MW ?_ (v:=.int .i64 ((min idl.length 30:Nat):Int));refine MT (fun W hS=>hS.ent hi) ?_;refine MH 0 (min idl.length 30) (m:=idl) (m' :=J) (by exact Nat.min_le_left _ _) ?_ (hm:=((J9n 30 idl).trans hJ));intro N;refine MA 2 (xs:=[]) (ys:=J) (fun W hS=>(hS.sl (i:=0) rfl)) (by first|omega|(simp only[lA,lM,lT,lD,lC,lN,Q0,V1,Z5,Z6];omega)) ?_;intro S;refine MV ?_;refine MZ fun W hS=> ?_;go_upto_region 2 with fail;refine RL hS ?_;clear hS;refine MV ?_;refine Mk 3 ?_ (sub:=Q5 [.c (.int .i64 L),.c (.int .i64 P),.c (.int .i64 E)]) (hs:=(J4t (off:=65) 3 3));refine MN (z:=Q5 [.c (.int .i64 0),.c (.int .i64 0),.c (.int .i64 0)]) (t:=27) ?_;intro G;refine MRa 0 ?_ (h1:=by exact(X7 ⟨rfl,rfl,rfl,trivial⟩));refine MZ fun W hS=> ?_;go_upto_region 3 with fail;refine RL hS ?_;clear hS;refine MV ?_;refine MV ?_;refine Mk 4 ?_ (sub:=Q5 [.a 32 vk,.a 32 bk]) (hs:=(J4t (off:=1) 1 2));refine MV ?_;refine MG 0 ?_ (v:=.int .i64 L) (hj:=(J4 (off:=0) 0));refine MV ?_;refine MG 0 ?_ (v:=.int .i64 P) (hj:=(J4 (off:=1) 1));refine MV ?_;refine MG 0 ?_ (v:=.int .i64 E) (hj:=(J4 (off:=2) 2));refine MF (v:=.agg (Q5 [.c (.int .i64 L),.c (.int .i64 P),.c (.int .i64 E)])) (fun W hS=>J2m [(0,[.c (.int .i64 L)]),(1,[.c (.int .i64 P)]),(2,[.c (.int .i64 E)])] rfl rfl J1x J1y (.c rfl (.c rfl (.c rfl .n)))) ?_;refine MT (fun W hS=>by rw[List.nil_append] at hS;exact hS) ?_;refine MC (v:=.tuple #[.pointer none,.int .i64 1]) (fun W hS=>V2y (id:=J) (L:=L) (P:=P) (E:=E) hN W (hS.own (i:=3) rfl).sl) ?_;refine MV ?_;refine MV ?_;refine MW ?_ (v:=.int .i64 1);refine MV ?_;refine MW ?_ (v:=.int .i64 1);refine MZ fun W hS=> ?_;go_upto_region 4 with fail;refine RL hS ?_;clear hS;refine MV ?_;refine MF (v:=K6 J) (fun W hS=>J1z (hS.osl (i:=3) rfl) rfl rfl) ?_;refine ML 0 ?_ (hs:=by rw[J6];kernel_rfl);refine MC (v:=.bool false) (fun W hS=>V34 (id:=J) (L:=L) (P:=P) (E:=E) hN W) ?_;refine Wt ?_;refine MZ fun W hS=> ?_;go_wp2;exact bodyPost_ret (v:=.tuple #[.pointer none,.pointer none,.bool true]) (by simp only[results,Tryz.results8];go_simp) rfl ⟨rfl,hS.ext⟩
end

section
abbrev S0:DD:=J55 [116] 1 2 2 2 2
abbrev S1:DD:=S0.put [97] [120]
abbrev S2:DD:=S1.nxt
theorem Z4d:S0.labs=[]:=rfl
theorem Y65:S1.labs=[[97]]:=by decide+kernel
theorem Y66:S2.labs=[[97]]:=by decide+kernel
theorem Y0a:NewOk [116] 2 2 2:=⟨by decide,by decide,by decide,by decide,by decide,by decide,by decide,by decide⟩
theorem s0_ok:DOk S0:=Z3t Y0a
theorem Q9s:S0.pcode [97] [120]=0:=by
  unfold DD.pcode;rw[if_neg (by decide),if_neg (by decide),if_neg (by rw[Z4d];decide),if_pos (by rw[Z4d];decide)];exact V85
theorem Z4e:S0.putD [97] [120]=S1:=by unfold DD.putD;rw[if_pos Q9s]
theorem s1_ok:DOk S1:=by rw[←Z4e];exact s0_ok.putD _ _
theorem Y0b:S1.scode=(1,0):=by unfold DD.scode;rw[if_pos (by decide)];rfl
theorem Q9t:S1.sealD=S2:=by unfold DD.sealD;rw[if_pos (by decide)]
theorem V86:DOk S2:=by rw[←Q9t];exact s1_ok.sealD
theorem Y67:S1.made=[]:=by decide+kernel
theorem Y68:S2.made=[⟨[97],[120],1,1⟩]:=by unfold S2 S1;rw[DD.made_nxt];rfl
theorem V87 {y:LD}{a:Ac}(h:LOk S1 y)(ha:a∈y.acs)(hl:a.l=[97]):J1a a.es ((0:Nat):Int)=enZ:=by
  have h1:=h.e a ha;rw[Y67] at h1;have h2:a.es=[]:=List.map_eq_nil_iff.1 h1;rw[h2];rfl
theorem V88 {y:LD}{a:Ac}(h:LOk S2 y)(ha:a∈y.acs)(hl:a.l=[97]):(J1a a.es ((1:Nat):Int)).ver=1∧(J1a a.es ((1:Nat):Int)).x=[120]:=by
  have h1:=h.e a ha;rw[Y68,hl] at h1;cases hes:a.es with
  |nil=>rw[hes] at h1;cases h1
  |cons x t=>
    rw[hes] at h1
    have h2:(x.ep,x.ver,x.x)=(1,1,[120])∧t.map (fun e=>(e.ep,e.ver,e.x))=[]:=by
      have h3:(x.ep,x.ver,x.x)::t.map (fun e=>(e.ep,e.ver,e.x))=[(1,1,[120])]:=h1;injection h3 with h4 h5
      exact⟨h4,h5⟩
    have h3:t=[]:=List.map_eq_nil_iff.1 h2.2;injection h2.1 with e1 e2
    injection e2 with e2 e3
    subst h3
    have h6:J1a [x] ((1:Nat):Int)=x:=by
      unfold J1a;rw[List.filter_cons,if_pos (by rw[e1];decide)];rfl
    rw[h6];exact⟨e2,e3⟩
end

section
set_option maxHeartbeats 3000000
attribute [local irreducible] wpList Y8 wpX
open S8 (Kn GA kP)
theorem V8m {D:DD}{ix pf e ver:Nat}{x:List UInt8}:(fnd D ix pf e ver x).x=x:=rfl
theorem V8n {D:DD}{ix pf e ver:Nat}{x:List UInt8}:(fnd D ix pf e ver x).ver=ver:=rfl
theorem Y9p {D:DD}{ix pf e ver:Nat}{x:List UInt8}:(fnd D ix pf e ver x).pres=decide (0<ver):=rfl
theorem V37 {u v:Value}{l x:List UInt8}:InF [.s u l,.s v x] ((sb u l).toList++(sb v x).toList):=fun k hk=>by
 rcases List.mem_append.1 hk with hk|hk
 ·
  exact⟨.s u l,by simp,fun T K e=>(by cases e),hk⟩
 ·
  exact⟨.s v x,by simp,fun T K e=>(by cases e),hk⟩
attribute [local irreducible] eI be8 hs4 lb J3k J2i X5 xt hm pbs DD.tree DD.link rs S8.kP S8.kN S8.kD ofT ebs lk0 sE sL sN opn bnd ahd bsd ixN pfN erN J1a DD.links DD.trees DD.play DD.putD DD.sealD fnd

theorem Q49 (w:World)(hX:GX w):
  Calls Tryz.prog 9 #[] w fun e w' =>K7 (.bool true) w w' e:=by
 have hS:=SH.nil [] w;have hS:=hS.entp (J8m hX)
 go_enter Tryz.func9,Tryz.ntmps9
 go_upto_region 1 with fail;refine RL hS ?_;clear hS;refine MO (m:=[116]) (n:=1) (z:= #[.int .u8 116]) ?_;intro δ;refine MSm 0 (l:=[116]) (by first|decide|(simp only[List.length_append,List.length_cons,List.length_nil];omega)) ?_;refine MW ?_ (v:=.agg (J0 .u8 32 (J7 1))) (hv:=by intro W;kernel_rfl);refine MW ?_ (v:=.agg (J0 .u8 32 (J7 2))) (hv:=by intro W;kernel_rfl);refine MF (v:=.agg (Q5 [.a 32 1,.a 32 2])) (fun W hS=>J2m [(0,[.a 32 1]),(1,[.a 32 2])] rfl rfl J56 J57 (.c ((J3t _ _).symm) (.c ((J3t _ _).symm) .n))) ?_;refine MF (v:=.agg (Q5 [.c (.int .i64 2),.c (.int .i64 2),.c (.int .i64 2)])) (fun W hS=>J2m [(0,[.c (.int .i64 2)]),(1,[.c (.int .i64 2)]),(2,[.c (.int .i64 2)])] rfl rfl J1x J1y (.c rfl (.c rfl (.c rfl .n)))) ?_;refine ME (V:=fun y:{y:LD // NOk S0 w y}=> .tuple #[.pointer (some ⟨y.1.p,0,none⟩),.int .i64 0]) (fun W hS=>Z1i hS (Z1j (id:=[116]) (vk:=1) (bk:=2) (L:=2) (P:=2) (E:=2) Y0a W (hS.pp (i:=1) rfl) (hS.sl (i:=0) rfl)) rfl) ?_;rintro⟨y,Δ⟩;have hL:=Δ.1;dsimp only[ldL,List.cons_append,List.nil_append];refine MV ?_;refine MV ?_;refine W0 ?_;refine MV ?_;refine W0 ?_;refine MZ fun W hS=> ?_;go_upto_region 2 with fail;refine RL hS ?_;clear hS;refine MV ?_;refine MO (m:=[97]) (n:=1) (z:= #[.int .u8 97]) ?_;intro Z;refine MSm 0 (l:=[97]) (by first|decide|(simp only[List.length_append,List.length_cons,List.length_nil];omega)) ?_;refine MO (m:=[120]) (n:=1) (z:= #[.int .u8 120]) ?_;intro β;refine MSm 0 (l:=[120]) (by first|decide|(simp only[List.length_append,List.length_cons,List.length_nil];omega)) ?_;refine MT (fun W hS=>hS.pick [2,3,4,5,6,7,8,9,10,11,12,14,1,0,13]) ?_;refine ME (V:=fun _:ZD S0 y S1 w=> .int .i64 0) (fun W hS=>by have h_:=Q7b (D:=S0) (y:=y) (l:=[97]) (x:=[120]) (N:=[.s Z [97],.s β [120]]) (R:=[.s δ [116]]) hS (hS.sl (i:=12) rfl) (hS.sl (i:=13) rfl) V37 hL s0_ok rfl;rw[Q9s,Z4e] at h_;exact h_) ?_;rintro⟨z1,J⟩;dsimp only[ldL,List.cons_append,List.nil_append];refine W0 ?_;refine MZ fun W hS=> ?_;go_upto_region 3 with fail;refine RL hS ?_;clear hS;refine MV ?_;refine MO (m:=[97]) (n:=1) (z:= #[.int .u8 97]) ?_;intro ν;refine MSm 0 (l:=[97]) (by first|decide|(simp only[List.length_append,List.length_cons,List.length_nil];omega)) ?_;obtain⟨a1,χ,η⟩:=(J.1).accU (l:=[97]) (by rw[Y65];exact List.mem_singleton.2 rfl);have ψ:=V87 (J.1) χ η;obtain⟨x1,κ⟩:=exn (J1a a1.es ((0:Nat):Int));obtain⟨f1,μ⟩:=exn (fnd S1 (ixN (S1).vk [97]) (pfN (S1).vk [97]) 0 x1.ver x1.x);have ξ:f1.pres=false:=by rw[μ,Y9p,κ,ψ];rfl
 have G:=Lib.hid ξ;clear ξ;have Γ:=Lib.hid μ;have Ψ:=Lib.hid κ;clear μ κ;refine MT (fun W hS=>hS.pick [1,2,3,4,5,6,7,8,9,10,11,12,0,13,14,15]) ?_;refine ME (V:=fun z:Value×Value=> .tuple #[.agg (fdF f1 z.1 z.2),.int .i64 0]) (fun W hS=>J58 hS (by have h_:=Y0f (D:=S1) (y:=z1) (l:=[97]) (n:= -1) (ep:=0) (.inr ⟨rfl,by decide⟩) (by decide) rfl rfl Ψ.out χ η W (hS.pp (i:=11) rfl) (DK.of (D:=S1) (y:=z1) (R:=[gx,.s ν [97],.s Z [97],.s β [120],.s δ [116]]) hS) (J.1) s1_ok (hS.sl (i:=12) rfl) (by decide);unfold V2w at h_;rw[←Γ.out,show z1.p=y.p from J.2.1] at h_;exact h_) (fun _=>rfl)) ?_;rintro⟨α,Y⟩;dsimp only[List.cons_append,List.nil_append];refine MV ?_;refine MV ?_;refine W0 ?_;refine MN (z:=fdZ) (t:=48) ?_;intro φ;refine J06 (fun W hS=>(J9 (hS.osl (i:=1) rfl)).2) ?_;intro ζ;refine J06 (fun W hS=>(Row.cells (hS.row (i:=2) rfl)).2) ?_;intro ε;refine MRa 0 ?_ (h1:=by exact(X7 ⟨rfl,rfl,rfl,ζ,ε,rfl,rfl,trivial⟩));refine W0 ?_;refine MZ fun W hS=> ?_;go_upto_region 4 with fail;refine RL hS ?_;clear hS;refine MV ?_;refine MT (fun W hS=>hS.pick [3,4,5,6,7,8,9,10,11,12,13,14,0,1,2,15,16,17,18]) ?_;refine ME (V:=fun _:ZD S1 z1 S2 w=> .tuple #[.int .i64 1,.int .i64 0]) (fun W hS=>by have h_:=Q7c (D:=S1) (y:=z1) (R:=[.b φ (Q5 [.c (.int .i64 (f1.ep:Int)),.a 32 f1.ix,.a 80 f1.pf,.c (.bool f1.pres),.c (.int .i64 (f1.ver:Int)),.c α,.a 32 f1.bd,.a 32 f1.op,.c Y,.c (.bool f1.th),.a 32 f1.ek,.a 32 f1.ev,.a 32 f1.ro,.a 32 f1.li,.a 32 f1.ah,.c (.int .i64 (f1.rd:Int))]) 48,.o α f1.x,.r 23 32 Y (List.map J0l f1.ss),.s ν [97],.s Z [97],.s β [120],.s δ [116]]) hS J.1 s1_ok rfl;rw[Y0b,Q9t,show z1.p=y.p from J.2.1] at h_;exact h_) ?_;rintro⟨z2,γ⟩;dsimp only[ldL,List.cons_append,List.nil_append];refine MV ?_;refine MW ?_ (v:=.int .i64 1);refine W0 ?_;refine MW ?_ (v:=.int .i64 1);refine W0 ?_;refine MZ fun W hS=> ?_;go_upto_region 5 with fail;refine RL hS ?_;clear hS;refine MV ?_;refine MO (m:=[97]) (n:=1) (z:= #[.int .u8 97]) ?_;intro Ξ;refine MSm 0 (l:=[97]) (by first|decide|(simp only[List.length_append,List.length_cons,List.length_nil];omega)) ?_;obtain⟨a2,σ,θ⟩:=(γ.1).accU (l:=[97]) (by rw[Y66];exact List.mem_singleton.2 rfl);have X:=V88 (γ.1) σ θ;obtain⟨x2,S⟩:=exn (J1a a2.es ((1:Nat):Int));obtain⟨f2,M⟩:=exn (fnd S2 (ixN (S2).vk [97]) (pfN (S2).vk [97]) 1 x2.ver x2.x);have ρ:RowKit.Hid (f2.pres=true):=Lib.hid (by rw[M,Y9p,S,X.1];rfl);have τ:RowKit.Hid (f2.ver=1):=Lib.hid (by rw[M,V8n,S,X.1]);have Ω:RowKit.Hid (f2.x=[120]):=Lib.hid (by rw[M,V8m,S,X.2]);have D0:=Lib.hid M;have Θ:=Lib.hid S;clear M S;refine MT (fun W hS=>hS.pick [1,2,3,4,5,6,7,8,9,10,11,12,0,13,14,15,16,17,18,19]) ?_;refine ME (V:=fun z:Value×Value=> .tuple #[.agg (fdF f2 z.1 z.2),.int .i64 0]) (fun W hS=>J58 hS (by have h_:=Y0f (D:=S2) (y:=z2) (l:=[97]) (n:= -1) (ep:=1) (.inr ⟨rfl,by decide⟩) (by decide) rfl rfl Θ.out σ θ W (hS.pp (i:=11) rfl) (DK.of (D:=S2) (y:=z2) (R:=[gx,.s Ξ [97],.b φ (Q5 [.c (.int .i64 (f1.ep:Int)),.a 32 f1.ix,.a 80 f1.pf,.c (.bool f1.pres),.c (.int .i64 (f1.ver:Int)),.c α,.a 32 f1.bd,.a 32 f1.op,.c Y,.c (.bool f1.th),.a 32 f1.ek,.a 32 f1.ev,.a 32 f1.ro,.a 32 f1.li,.a 32 f1.ah,.c (.int .i64 (f1.rd:Int))]) 48,.o α f1.x,.r 23 32 Y (List.map J0l f1.ss),.s ν [97],.s Z [97],.s β [120],.s δ [116]]) hS) (γ.1) V86 (hS.sl (i:=12) rfl) (by decide);unfold V2w at h_;rw[←D0.out,show z2.p=z1.p from γ.2.1,show z1.p=y.p from J.2.1] at h_;exact h_) (fun _=>rfl)) ?_;rintro⟨ω,D1⟩;dsimp only[List.cons_append,List.nil_append];refine MT (fun W hS=>by rw[Ω.out] at hS;exact hS) ?_;refine MV ?_;refine MV ?_;refine W0 ?_;refine MN (z:=fdZ) (t:=48) ?_;intro D3;refine J06 (fun W hS=>(J9 (hS.osl (i:=1) rfl)).2) ?_;intro T;refine J06 (fun W hS=>(Row.cells (hS.row (i:=2) rfl)).2) ?_;intro U;refine MRa 0 ?_ (h1:=by exact(X7 ⟨rfl,rfl,rfl,T,U,rfl,rfl,trivial⟩));refine W0 ?_;refine MZ fun W hS=> ?_;go_upto_region 6 with fail;refine RL hS ?_;clear hS;refine W0 ?_;refine MW ?_ (v:=.bool true) (hv:=by intro W;go_simp;first|done|rfl|(rw[G.out];rfl)|simp[G.out]);refine Wt ?_;refine W0 ?_;refine MW ?_ (v:=.bool true) (hv:=by intro W;go_simp;first|done|rfl|(rw[G.out];rfl)|simp[G.out]);refine Wt ?_;refine Wt ?_;refine W0 ?_;refine MW ?_ (v:=.bool true) (hv:=by intro W;go_simp;first|done|rfl|(rw[G.out];rfl)|simp[G.out]);refine Wt ?_;refine Wt ?_;refine W0 ?_;refine MW ?_ (v:=.bool true) (hv:=by intro W;go_simp;first|done|rfl|(rw[G.out];rfl)|simp[G.out]);refine Wt ?_;refine Wt ?_;refine W0 ?_;refine MW ?_ (v:=.bool true) (hv:=by intro W;go_simp;first|done|rfl|(rw[G.out];rfl)|simp[G.out]);refine Wt ?_;refine Wt ?_;refine MW ?_ (v:=.int .i64 1);refine MW ?_ (v:=.bool true) (hv:=by intro W;go_simp;first|done|rfl|(rw[G.out];rfl)|simp[G.out]);refine Wt ?_;refine Wt ?_;refine MV ?_;refine MG 16 ?_ (v:=.bool f1.pres) (hj:=(J4 (off:=113) 3));refine MW ?_ (v:=.bool true) (hv:=by intro W;go_simp;first|done|rfl|(rw[G.out];rfl)|simp[G.out]);refine Wt ?_;refine Wt ?_;refine MV ?_;refine MG 0 ?_ (v:=.bool f2.pres) (hj:=(J4 (off:=113) 3));refine MW ?_ (v:=.bool true) (hv:=by intro W;go_simp;first|done|rfl|(rw[ρ.out];rfl)|simp[ρ.out]);refine Wt ?_;refine MV ?_;refine MG 0 ?_ (v:=.int .i64 (f2.ver:Int)) (hj:=(J4 (off:=114) 4));refine MW ?_ (v:=.bool true) (hv:=by intro W;go_simp;first|done|rfl|(rw[τ.out];rfl)|simp[τ.out]);refine Wt ?_;refine Wt ?_;refine MV ?_;refine MG 0 ?_ (v:=ω) (hj:=(J4 (off:=115) 5));refine MF (v:=K6 [120]) (fun W hS=>J1z (hS.osl (i:=1) rfl) rfl rfl) ?_;refine MW ?_ (v:=.bool true) (hv:=fun _=>Z22 (l:=[120]) (m:=[120]) (b:=true) (decide_eq_true rfl) rfl rfl rfl);refine Wt ?_;refine Wt ?_;refine MZ fun W hS=> ?_;go_wp2;exact bodyPost_ret (v:=.bool true) (by simp only[results,Tryz.results9];go_simp) rfl ⟨rfl,hS.ext⟩
end

section
set_option maxHeartbeats 3000000
attribute [local irreducible] wpList Y8 wpX
open S8 (Kn GA kP)
attribute [local irreducible] eI be8 hs4 lb J3k J2i X5 xt hm pbs

end

section
def mdZ:Md:=⟨[],[],0,0⟩
def DD.lastM (D:DD)(l:List UInt8)(e:Nat):Md:=((D.made.filter fun m=>decide (m.l=l)).filter fun m=>decide (m.ep≤e)).getLastD mdZ
def g3 (e:En):Nat×Nat×List UInt8:=(e.ep,e.ver,e.x)
def h3 (m:Md):Nat×Nat×List UInt8:=(m.ep,m.ver,m.x)
def DD.lk (D:DD)(l:List UInt8)(e:Nat):Fnd:=fnd D (ixN D.vk l) (pfN D.vk l) e (D.lastM l e).ver (D.lastM l e).x
theorem Z6j (D:DD)(a x l:List UInt8)(e:Nat):(D.put a x).lastM l e=D.lastM l e:=rfl
theorem Z6k {D:DD}{l:List UInt8}{e:Nat}(h:e<D.puts.length):D.nxt.lastM l e=D.lastM l e:=by
  have h1:=DD.upto_nxt_lt (D:=D) h
  have h2:∀X:DD,X.lastM l e=((X.upto e).filter fun m=>decide (m.l=l)).getLastD mdZ:=fun X=>by
    unfold DD.lastM DD.upto;rw[List.filter_filter,List.filter_filter]
    congr 2
    funext m
    exact Bool.and_comm ..
  rw[h2,h2,h1]
theorem Y53 {D:DD}{e:Nat}(h:e<D.puts.length):ahd D.nxt e=ahd D e:=by
  unfold ahd;rw[DD.link_nxt (by omega)]
theorem Y54 {D:DD}{ix pf e ver:Nat}{x:List UInt8}(h:e<D.puts.length):fnd D.nxt ix pf e ver x=fnd D ix pf e ver x:=by
  unfold fnd;rw[DD.tree_nxt h,DD.link_nxt h,Y53 h];rfl
theorem Y55 {D:DD}{a b x:List UInt8}{ix pf e ver:Nat}:fnd (D.put a b) ix pf e ver x=fnd D ix pf e ver x:=by
  have h1:(D.put a b).tree e=D.tree e:=rfl;have h2:ahd (D.put a b) e=ahd D e:=by unfold ahd;rw[DD.link_put]
  unfold fnd;rw[h1,DD.link_put,h2];rfl
theorem V1m {D:DD}{l:List UInt8}{e:Nat}(h:e<D.puts.length):D.nxt.lk l e=D.lk l e:=by
  unfold DD.lk;rw[Z6k h,Y54 h];rfl
theorem V1n {D:DD}{a b l:List UInt8}{e:Nat}:(D.put a b).lk l e=D.lk l e:=by
  unfold DD.lk;rw[Z6j,Y55];rfl
structure After (D D' :DD):Prop where
  n:D.puts.length≤D'.puts.length
  vk:D'.vk=D.vk
  lk:∀l e,e<D.puts.length→D'.lk l e=D.lk l e
  tr:∀e,e<D.puts.length→D'.tree e=D.tree e
  li:∀e,e<D.puts.length→D'.link e=D.link e
theorem After.rfl {D:DD}:After D D:=⟨Nat.le_refl _,Eq.refl _,fun _ _ _=>Eq.refl _,fun _ _=>Eq.refl _,fun _ _=>Eq.refl _⟩
theorem After.trans {A B C:DD}(h:After A B)(k:After B C):After A C where
  n:=Nat.le_trans h.n k.n
  vk:=k.vk.trans h.vk
  lk:=fun l e he=>(k.lk l e (Nat.lt_of_lt_of_le he h.n)).trans (h.lk l e he)
  tr:=fun e he=>(k.tr e (Nat.lt_of_lt_of_le he h.n)).trans (h.tr e he)
  li:=fun e he=>(k.li e (Nat.lt_of_lt_of_le he h.n)).trans (h.li e he)
theorem After.put {D:DD}{a b:List UInt8}:After D (D.put a b):=⟨Nat.le_refl _,Eq.refl _,fun _ _ _=>V1n,fun _ _=>Eq.refl _,fun e _=>DD.link_put D a b e⟩
theorem After.nxt {D:DD}:After D D.nxt:=⟨by rw[DD.nxt_len];exact Nat.le_succ _,Eq.refl _,fun _ _ h=>V1m h,fun _ h=>DD.tree_nxt h,fun _ h=>DD.link_nxt h⟩
theorem After.play (D:DD)(wt n:Int)(raw val:List UInt8):After D (D.play wt n raw val):=by
  unfold DD.play DD.sealD DD.putD
  split
  · split
    · exact .nxt
    exact .rfl
  split
  · exact .put
  exact .rfl
end

section
set_option maxHeartbeats 3000000
attribute [local irreducible] wpList Y8 wpX
attribute [local irreducible] lb
end

section
set_option maxHeartbeats 3000000
attribute [local irreducible] wpList Y8 wpX
open S8 (Kn GA kP)
attribute [local irreducible] eI be8 hs4 lb J3k J2i X5 xt hm pbs

end

section
structure AE where
  wt:Int
  n:Int
  f:Int
  t:Int
  ru:Value
  vu:Value
  raw:List UInt8
  val:List UInt8
abbrev aeF (a:AE):Array Value:=Y56 a.wt a.n a.f a.t a.ru a.vu
def aeC (a:AE):List Value:=fcs [.c (.int .i64 a.wt),.c (.int .i64 a.n),.c a.ru,.c a.vu,.c (.int .i64 a.f),.c (.int .i64 a.t)]
theorem Y57 {qs:List AE}:∀e∈qs.map aeC,e.length=6:=fun e he=>by obtain⟨y,_,rfl⟩:=List.mem_map.1 he;rfl
theorem V7d {a:AE}:∀(i:Nat) (v:Value),(aeF a)[i]?=some v→(aeC a)[i]?=some v:=fun i v h=>by unfold aeC;rw[←J8k,Array.getElem?_toList];exact h
def K2n (qs:List AE):List Nat:=qs.flatMap fun a=>(sb a.ru a.raw).toList++(sb a.vu a.val).toList
def aeK (qs:List AE)(W:World):Prop:=∀a∈qs,Sl W a.ru a.raw∧Sl W a.vu a.val
abbrev aeT (qs:List AE):As:=.p (K2n qs) (aeK qs)
theorem Z6l {qs:List AE}{w:World}(h:aeK qs w):(aeT qs).holds w:=by
  refine⟨h,fun k hk=> ?_,fun W' _ e a ha=>⟨J7m (h a ha).1 fun k hk=>e k (List.mem_flatMap.2 ⟨a,ha,List.mem_append.2 (.inl (by rw[hk];simp))⟩),J7m (h a ha).2 fun k hk=>e k (List.mem_flatMap.2 ⟨a,ha,List.mem_append.2 (.inr (by rw[hk];simp))⟩)⟩⟩;obtain⟨a,ha,h1⟩:=List.mem_flatMap.1 hk;rcases List.mem_append.1 h1 with h1|h1
  · exact Sl.lt (h a ha).1 k (As.mem_toList h1)
  exact Sl.lt (h a ha).2 k (As.mem_toList h1)
theorem V1o {F:List Nat}{w W:World}{R:List As}{D:DD}{y:LD}{qs:List AE}{a:AE}(ha:a∈qs)(hS:SH F w W (ldL D y++[gx]++([aeT qs]++R)))(hL:LOk D y)(hK:DOk D)(hR:tyD ([aeT qs]++R)=true):
    Calls Tryz.prog 10 #[.pointer (some ⟨y.p,0,none⟩),.agg (aeF a)] W fun e W' => ∃z:ZD D y (D.play a.wt a.n a.raw a.val) w,e=.returned (.tuple #[])∧SH F w W' (ldL (D.play a.wt a.n a.raw a.val) z.1++[gx]++([aeT qs]++R)):=by
  have hk:aeK qs W:=(hS.at_ (i:=12) (x:=aeT qs) rfl).1;refine Z1h hS (Q1u (hk a ha).1 (hk a ha).2) (fun k G=>⟨aeT qs,by simp,fun T K e=>(by cases e),List.mem_flatMap.2 ⟨a,ha,G⟩⟩) (fun h_=>V1p W hL hK h_) hR
theorem V7e {W:World}{A:Option Addr}{n c i g o:Nat}{qs:List AE}{y:AE}(h:RR 6 W (.slice A n c) (qs.map aeC))(yh:qs[i]?=some y)(hA:A=some ⟨g,o,none⟩):∀(j:Nat) (v:Value),(aeF y)[j]?=some v→W.cell? ⟨g,o+i*6+j,none⟩=some v:=fun j v hv=>
  RR.cellat h (by rw[List.getElem?_map,yh];rfl) hA j v (V7d j v hv)
end

section
open Go.ChangeShapes Go.WideShapes Go.ChangeAt Go.RowKit Go.Deep
section
variable {H : Type} {enc : TypeId × Value → H} {W : World} {base : Nat} {sp : Nat → Bool} {held : Bool}
theorem Z7a {W:World}{a:Addr}{v:Value}(h:W.cell? a=some v):a.spot=none:=by
  unfold World.cell? at h
  split at h
  · split at h
    · cases h
    rename_i hs;cases hsp:a.spot with
    |none=>rfl
    |some _=>rw[hsp] at hs;exact absurd rfl hs
  cases h
theorem Y1w {t e:TypeId}{k:Nat}{α:Type}[Inhabited α]{f:α→List Value}{Q:α→Prop}(hu:Tryz.prog.underlying t=some (.slice e))(hk:Tryz.prog.cellsOf e=k)(hk0:0<k)(hf:∀x,(f x).length=k)
    (htr:∀{fuel:Nat} {cs:List Value} {x:DataW H×List MemPlace},DataW.trod enc Tryz.prog W base sp held fuel e cs=some x→∃y,Q y∧cs=f y)
    {r:Reach} {b0:Nat} {v:Value} {d:DataW H} {ps:List MemPlace} (hval:Value.okWide Tryz.prog W r b0 t v) (hd:DataW.Trod enc Tryz.prog W base sp held t v d ps):
    ∃ls:List α,(∀y∈ls,Q y)∧RR k W v (ls.map f):=by
  obtain⟨ao,J,V,rfl⟩:=okWide_slice hu hval;obtain⟨fuel,U⟩:=hd;rcases open_slice hu U with⟨N,_⟩|⟨a,δ,γ,m,n,D,Pl,N,β,hl,hm,T,ζ,hi⟩
  · simp[Value.cells] at N
    obtain⟨rfl,rfl,rfl⟩:=N;exact⟨[],fun y hy=>(by cases hy),Z9n k W⟩
  simp[Value.cells] at N;obtain⟨rfl,rfl,rfl⟩:=N;have ε:J≤m:=by rw[T];split<;>omega
  have Z:0<J→a.spot=none:=fun h=>by
    obtain⟨X,h1,h2⟩:=hi 0 (by omega);rw[hk] at h1;obtain⟨_,R,G⟩:=World.cells?_some h1;have h0:=G 0 hk0;rw[List.getElem?_eq_getElem (by rw[R];exact hk0)] at h0;have h4:=Z7a h0
    simpa[Addr.add] using h4
  have S:∀i,i<J→∃x:α,Q x∧a.spot=none∧∀(j:Nat)(u:Value),(f x)[j]?=some u→W.cell? ⟨a.block,a.off+i*k+j,none⟩=some u:=by
    intro i η;obtain⟨X,h1,h2⟩:=hi i (by omega);rw[hk] at h1;obtain⟨_,R,G⟩:=World.cells?_some h1;obtain⟨x,hx,e⟩:=htr h2;rw[e] at R G;have hs:=Z (by omega);refine⟨x,hx,hs,fun j u hj=> ?_⟩
    have hj' :j<k:=by
      have:=(List.getElem?_eq_some_iff.1 hj).1;rw[hf] at this;exact this
    have h3:=G j hj';rw[hj] at h3
    have e2:(a.add (i*k)).add j=⟨a.block,a.off+i*k+j,none⟩:=by
      clear R G h1 h3 hi T U hval;obtain⟨ab,θ,Y⟩:=a;have hs' :Y=none:=hs;subst hs';rw[Addr.add_mid,Addr.add_mid]
    rw[e2] at h3;exact h3
  refine⟨(List.range J).map fun i=>if h:i<J then Classical.choose (S i h) else default,fun y hy=> ?_,some a,V,by simp,by simpa using hl,fun e=>(by cases e),fun j e hj=> ?_⟩
  · obtain⟨i,hi,rfl⟩:=List.mem_map.1 hy
    have M:=List.mem_range.1 hi;rw[dif_pos M];exact(Classical.choose_spec (S i M)).1
  rw[List.map_map] at hj;have M:j<J:=by have:=(List.getElem?_eq_some_iff.1 hj).1;simpa using this
  rw[List.getElem?_map,List.getElem?_range M] at hj;have hj:=Option.some.inj hj;simp only[Function.comp_apply,dif_pos M] at hj;subst hj;obtain⟨_,h2,h3⟩:=Classical.choose_spec (S j M);refine⟨a.block,a.off,?_,h3⟩;rw[←h2]
instance:Inhabited AE:=⟨⟨0,0,0,0,.slice none 0 0,.slice none 0 0,[],[]⟩⟩
theorem Z79 {r:Reach}{b0:Nat}{v:Value}{d:DataW H}{ps:List MemPlace}(hval:Value.okWide Tryz.prog W r b0 30 v)(hd:DataW.Trod enc Tryz.prog W base sp held 30 v d ps):
    ∃ms:List AE,aeK ms W∧RR 6 W v (ms.map aeC):=
  Y1w (Q:=fun y:AE=>Sl W y.ru y.raw∧Sl W y.vu y.val) Tryz.underlying30 (by kernel_rfl) (by decide) (fun x=>Y57 (qs:=[x]) (aeC x) (by simp)) (fun h=>by
    obtain⟨n1,n2,v3,l4,v5,l6,n7,n8,_,_,h0,h1,_,_,e⟩:=J7v h
    exact⟨⟨n1,n2,n7,n8,v3,v5,l4,l6⟩,⟨h0.1,h1.1⟩,e⟩) hval hd
end
end

section
set_option maxHeartbeats 3000000
attribute [local irreducible] wpList Y8 wpX
open S8 (Kn GA kP)
theorem Y58 {f:FuncId}{args:Array Value}{F:List Nat}{w W:World}{H:List As}{J:List UInt8}{vk bk L P E:Nat}(hS:SH F w W H)
  (hc:Calls Tryz.prog f args W fun e w' => ∃z:{y:LD // NOk (J55 J vk bk L P E) W y}×Nat×Nat×Nat,e=.returned (.tuple #[.pointer (some ⟨z.1.1.p,0,none⟩),.pointer (some ⟨z.2.1,0,none⟩),.bool true])∧SH [] W w' (ldL (J55 J vk bk L P E) z.1.1++[gx]++[.b z.2.1 (Q5 [.c (K6 J),.c (K6 (lb 32 vk)),.c (K6 (lb 32 bk)),.c (.int .i64 (L:Int)),.c (.int .i64 (P:Int)),.c (.int .i64 (E:Int)),.c (.slice none 0 0),.c (.slice none 0 0),.c (.slice (some ⟨z.2.2.1,0,none⟩) 1 1),.c (.slice (some ⟨z.2.2.2,0,none⟩) 1 1),.c (.slice none 0 0)]) 140,.b z.2.2.1 #[K6 (lb 32 sE)] 9,.b z.2.2.2 #[K6 (lb 32 (lk0 J))] 9])) (hR:tyD H=true):
  Calls Tryz.prog f args W fun e W' => ∃z:{y:LD // NOk (J55 J vk bk L P E) w y}×Nat×Nat×Nat,e=.returned (.tuple #[.pointer (some ⟨z.1.1.p,0,none⟩),.pointer (some ⟨z.2.1,0,none⟩),.bool true])∧SH F w W' (ldL (J55 J vk bk L P E) z.1.1++H):=by
 refine hc.mono fun e W' ⟨z,h1,h2⟩=>⟨(⟨z.1.1,z.1.2.1,z.1.2.2.1.back hS.off.size,z.1.2.2.2.back hS.off.size⟩,z.2),h1,?_⟩
 have h3:SH [] W W' (ldL (J55 J vk bk L P E) z.1.1):=h2.less (by rw[List.append_assoc];exact List.sublist_append_left _ _);exact SH.frameQ (L:=[]) hS h3 (Z3o hR z.1.2.2.1 z.1.2.2.2)
attribute [local irreducible] eI be8 hs4 lb J3k J2i X5 xt hm pbs DD.tree DD.link rs S8.kP S8.kN S8.kD ofT ebs lk0 sE sL sN opn bnd ahd bsd ixN pfN erN J1a DD.links DD.trees DD.play DD.putD DD.sealD fnd DD.lk

end

section
attribute [local irreducible] wpList Y8 wpX
attribute [local irreducible] hs4 sE sL sN lb
end

section
attribute [local irreducible] wpList Y8 wpX
attribute [local irreducible] hs4 sE sL sN lb

end

section
def J5t (D:DD)(e:Nat):List (List Value):=(List.range' 0 (e+1-0)).map (mkC D)
theorem Q62 (D:DD)(e:Nat):(J5t D e).length=e+1:=by unfold J5t;rw[List.length_map,List.length_range'];omega
theorem Z97 {D:DD}{e j:Nat}(h:j<e+1):(J5t D e)[j]?=some (mkC D j):=by
  unfold J5t;rw[List.getElem?_map,List.getElem?_range' (by omega)];simp
abbrev mkF (j R K:Nat):Array Value:=Q5 [.c (.int .i64 (j:Int)),.a 32 R,.a 32 K]
theorem V7f {j R K:Nat}(i:Nat)(hi:i<32):((mkF j R K).extract 1 (1+32))[i]?=some (.int .u8 (J7 R i)):=by
  rw[Array.getElem?_extract,if_pos (by rw[J6];show i<min (1+32) 65-1;omega)];exact(J1w (off:=1) 1:∀(j_:Nat)(v_:Value),(J0 .u8 32 (J7 R))[j_]?=some v_→(mkF j R K)[1+j_]?=some v_) i _ (V3 _ _ _ _ hi)
theorem V7g {j R K:Nat}(i:Nat)(hi:i<32):((mkF j R K).extract 33 (33+32))[i]?=some (.int .u8 (J7 K i)):=by
  rw[Array.getElem?_extract,if_pos (by rw[J6];show i<min (33+32) 65-33;omega)];exact(J1w (off:=33) 2:∀(j_:Nat)(v_:Value),(J0 .u8 32 (J7 K))[j_]?=some v_→(mkF j R K)[33+j_]?=some v_) i _ (V3 _ _ _ _ hi)
theorem K2o (j R K:Nat)(w:World):(Op.equalIn 10000 64 (.agg (mkF j R K)) (.agg (mkF j R K))).run Tryz.prog w=.ok true w:=by
 have hu:=Tryz.underlying64;have hf:Tryz.prog.fieldsOf 64=(match Tryz.prog.underlying 64 with|some (.struct fs)=>fs|_=> #[]):=rfl;rw[hu] at hf;rw[run_equalIn_struct w 9999 64 _ _ (by rw[hf];exact hu) (by kernel_rfl),hf]
 have p0:(part 3 (mkF j R K) 0).run Tryz.prog w=.ok (.int .i64 (j:Int)) w:=by
  have h1:(isAgg 3).run Tryz.prog w=.ok false w:=by
   unfold isAgg;rw[Sem.run_bind,run_underlying Tryz.underlying3 w];rfl
  have h2:(mkF j R K)[0]?=some (.int .i64 (j:Int)):=J4 (off:=0) 0;simp[part,Sem.run_bind,h1,h2]
 have p1:=Q0v (P:=Tryz.prog) w 23 32 5 (mkF j R K) 1 Tryz.underlying23 (by kernel_rfl) (by rw[J6];show _≤65;decide);have p2:=Q0v (P:=Tryz.prog) w 23 32 5 (mkF j R K) 33 Tryz.underlying23 (by kernel_rfl) (by rw[J6];show _≤65;decide);refine(J2d (by decide) p0 p0 (run_equalIn_int w 9998 3 .i64 .i64 (j:Int) (j:Int) Tryz.underlying3)).trans ?_;rw[if_pos (by simp)];have e1:=J19 (P:=Tryz.prog) w 9997 23 5 32 .u8 _ _ (J7 R) (J7 R) Tryz.underlying23 Tryz.underlying5 (by kernel_rfl) (V7f (j:=j) (K:=K)) (V7f (j:=j) (K:=K));rw[(J3m _ _ _).2 fun _ _=>rfl] at e1;refine(J2d (by decide) p1 p1 e1).trans ?_;rw[if_pos rfl];have e2:=J19 (P:=Tryz.prog) w 9997 23 5 32 .u8 _ _ (J7 K) (J7 K) Tryz.underlying23 Tryz.underlying5 (by kernel_rfl) (V7g (j:=j) (R:=R)) (V7g (j:=j) (R:=R));rw[(J3m _ _ _).2 fun _ _=>rfl] at e2;refine(J2d (by decide) p2 p2 e2).trans ?_;rw[if_pos rfl];simp[Op.eqFields]
end

section
namespace DD
def prow (D:DD)(e:Nat):List J5u:=(D.puts++[D.waits])[e]?.getD []
def pre (D:DD)(e i:Nat):DD:={D with puts:=D.puts.take e,waits:=(D.prow e).take i}
theorem Q3g {D:DD}{e:Nat}(h:e<D.puts.length):D.puts[e]?=some (D.prow e):=by
  unfold prow;rw[List.getElem?_append_left h,List.getElem?_eq_getElem h];rfl
theorem Q79 (D:DD):D.prow D.puts.length=D.waits:=by
  unfold prow;rw[List.getElem?_append_right (Nat.le_refl _),Nat.sub_self];rfl
theorem pre_one {D:DD}(h:D.puts[0]?=some []):J55 D.id D.vk D.bk D.L D.P D.E=D.pre 1 0:=by
  unfold pre
  have e:D.puts.take 1=[[]]:=by
    cases hp:D.puts with
    |nil=>rw[hp] at h;cases h
    |cons a r=>rw[hp] at h;obtain rfl:=Option.some.inj h;rfl
  rw[e,List.take_zero]
theorem Y5a (D:DD):D.pre D.puts.length D.waits.length=D:=by
  unfold pre;rw[Q79,List.take_length,List.take_length]
theorem Q98 {D:DD}{e i:Nat}(he:e≤D.puts.length):∃t,D.puts.flatten++D.waits=((D.pre e i).puts.flatten++(D.pre e i).waits)++t:=by
  unfold pre;show ∃t,_=(D.puts.take e).flatten++(D.prow e).take i++t;rcases Nat.lt_or_ge e D.puts.length with h|h
  · have h1:=Q3g h
    have h2:D.puts=D.puts.take e++(D.prow e::D.puts.drop (e+1)):=by
      have h3:D.puts.drop e=D.prow e::D.puts.drop (e+1):=by
        rw[List.drop_eq_getElem_cons h];rw[List.getElem?_eq_getElem h] at h1;rw[Option.some.inj h1]
      rw[←h3,List.take_append_drop]
    refine⟨(D.prow e).drop i++((D.puts.drop (e+1)).flatten++D.waits),?_⟩
    conv=>lhs;rw[h2]
    rw[List.flatten_append,List.flatten_cons,List.append_assoc,List.append_assoc,List.append_assoc,←List.append_assoc ((D.prow e).take i),List.take_append_drop]
  obtain rfl:e=D.puts.length:=Nat.le_antisymm he h;rw[Q79,List.take_length];exact⟨D.waits.drop i,by rw[List.append_assoc,List.take_append_drop]⟩
theorem Q47 {D:DD}{e i:Nat}(he:e≤D.puts.length):(D.pre e i).labs<+:D.labs:=by
  obtain⟨t,ht⟩:=Q98 (i:=i) he;have h2:D.labs=nub [] ((((D.pre e i).puts.flatten++(D.pre e i).waits)++t).map (·.1)):=by unfold labs;rw[ht]
  rw[h2,List.map_append,Z3p];exact Z3q
theorem V1q {D:DD}{e i:Nat}{q:J5u}(h:(D.prow e)[i]?=some q):(D.pre e i).waits.length=i:=by
  show((D.prow e).take i).length=i;rw[List.length_take];have:=(List.getElem?_eq_some_iff.1 h).1;omega
theorem Q99 {D:DD}{e i:Nat}{l x:List UInt8}(h:(D.prow e)[i]?=some (l,x)):(D.pre e i).put l x=D.pre e (i+1):=by
  show({D.pre e i with waits:=(D.prow e).take i++[(l,x)]}:DD)={D with puts:=D.puts.take e,waits:=(D.prow e).take (i+1)}
  rw[List.take_add_one,h];rfl
theorem Z99 {D:DD}{e i:Nat}{q:J5u}(h:(D.prow e)[i]?=some q):q∈D.puts.flatten++D.waits:=by
  have hq:=List.mem_of_getElem? h;unfold prow at hq;cases hr:(D.puts++[D.waits])[e]? with
  |none=>rw[hr] at hq;cases hq
  |some ps=>
    rw[hr] at hq;have hq:q∈ps:=hq;rcases List.mem_append.1 (List.mem_of_getElem? hr) with h1|h1
    · exact List.mem_append.2 (.inl (List.mem_flatten.2 ⟨ps,h1,hq⟩))
    · rw[List.mem_singleton.1 h1] at hq;exact List.mem_append.2 (.inr hq)
theorem Q9a {D:DD}{e:Nat}(hK:DOk D):(D.prow e).length≤D.P:=by
  unfold prow;cases hr:(D.puts++[D.waits])[e]? with
  |none=>exact Nat.zero_le _
  |some ps=>
    rcases List.mem_append.1 (List.mem_of_getElem? hr) with h1|h1
    · exact hK.pl ps h1
    · rw[List.mem_singleton.1 h1];exact hK.wl
theorem pre_put {D:DD}(hK:DOk D){e i:Nat}{l x:List UInt8}(he:e≤D.puts.length)(h:(D.prow e)[i]?=some (l,x)):(D.pre e i).pcode l x=0:=by
  have hm:=Z99 h;have hl:=hK.lab l (DD.mem_labs.2 ⟨_,hm,rfl⟩);have hx:x.length≤64:=hK.val _ hm;have hi:=(List.getElem?_eq_some_iff.1 h).1;have hP:=Q9a (e:=e) hK;unfold pcode;rw[if_neg (fun h=>h.elim (fun h=>h ⟨hl.1,hl.2.1⟩) (by omega)),if_neg (by rw[V1q h];show ¬D.P≤i;omega)];rw[if_neg]
  · split
    · exact hl.2.2
    rfl
  rintro⟨h1,h2⟩;have h3:((D.pre e i).put l x).labs=(D.pre e i).labs++[l]:=by rw[labs_put,if_neg h1]
  rw[Q99 h] at h3;have h4:=(Q47 (i:=i+1) he).length_le;rw[h3,List.length_append] at h4;have h5:=hK.ll;have h6:D.L≤(D.pre e i).labs.length:=h2;simp at h4;omega
theorem pre_putD {D:DD}(hK:DOk D){e i:Nat}{l x:List UInt8}(he:e≤D.puts.length)(h:(D.prow e)[i]?=some (l,x)):(D.pre e i).putD l x=D.pre e (i+1):=by
  unfold putD;rw[if_pos (pre_put hK he h)];exact Q99 h
theorem Z9a {D:DD}(hK:DOk D){e:Nat}(he:e<D.puts.length):(D.pre e (D.prow e).length).scode=(e,0)∧(D.pre e (D.prow e).length).sealD=D.pre (e+1) 0:=by
  have hl:(D.pre e (D.prow e).length).puts.length=e:=by show(D.puts.take e).length=e;rw[List.length_take];omega
  have hE:(D.pre e (D.prow e).length).puts.length≤(D.pre e (D.prow e).length).E:=by rw[hl];show e≤D.E;have:=hK.ep;omega
  refine⟨by unfold scode;rw[if_pos hE,hl],?_⟩;unfold sealD;rw[if_pos hE];show({D.pre e (D.prow e).length with puts:=D.puts.take e++[(D.prow e).take (D.prow e).length],waits:=[]}:DD)={D with puts:=D.puts.take (e+1),waits:=(D.prow (e+1)).take 0}
  rw[List.take_length,List.take_add_one,Q3g he];rfl
theorem pre_ok {D:DD}(hK:DOk D){e:Nat}(h1:1≤e)(he:e≤D.puts.length)(i:Nat):DOk (D.pre e i) where
  id1:=hK.id1
  id2:=hK.id2
  l1:=hK.l1
  l2:=hK.l2
  p1:=hK.p1
  p2:=hK.p2
  e1:=hK.e1
  e2:=hK.e2
  ep:=by show(D.puts.take e).length≤D.E+1;rw[List.length_take];have:=hK.ep;omega
  zero:=by show(D.puts.take e)[0]?=_;rw[List.getElem?_take_of_lt (by omega)];exact hK.zero
  pl:=fun ps G=>hK.pl ps (List.mem_of_mem_take G)
  wl:=by show((D.prow e).take i).length≤D.P;rw[List.length_take];have:=Q9a (e:=e) hK;omega
  ll:=Nat.le_trans (Q47 he).length_le hK.ll
  lab:=fun l hl=>hK.lab l ((Q47 (i:=i) he).subset hl)
  val:=fun q hq=>by
    obtain⟨t,ht⟩:=Q98 (i:=i) he;exact hK.val q (by rw[ht];exact List.mem_append.2 (.inl hq))
theorem rnd {D:DD}(hK:DOk D){k m i:Nat}{qs:List Pv}{y:Pv}(hm:m=max k 1)(hk:k<D.puts.length)(hq:qs.map pvP=(D.puts[k]?).getD [])(hy:qs[i]?=some y):(D.prow m)[i]?=some (y.l,y.x):=by
  have h1:((D.puts[k]?).getD [])[i]?=some (y.l,y.x):=by rw[←hq,List.getElem?_map,hy];rfl
  rcases Nat.eq_zero_or_pos k with h0|h0
  · rw[h0,hK.zero] at h1;cases h1
  have e:m=k:=by omega
  rw[e];rw[Q3g hk] at h1;exact h1
theorem rnd_zero {D:DD}(hK:DOk D){k:Nat}{qs:List Pv}(h0:k=0)(hq:qs.map pvP=(D.puts[k]?).getD []):qs.length=0:=by
  rw[h0,hK.zero] at hq;have h1:=congrArg List.length hq;rw[List.length_map] at h1;exact h1
theorem rnd_seal {D:DD}(hK:DOk D){k m i:Nat}{qs:List Pv}(hm:m=max k 1)(hk:k<D.puts.length)(hq:qs.map pvP=(D.puts[k]?).getD [])(h0:0<k)(hi:i≤qs.length)(hn:¬i<qs.length):(D.pre m i).scode=(k,0)∧(D.pre m i).sealD=D.pre (k+1) 0:=by
  have e:m=k:=by omega
  subst e;rw[Q3g hk] at hq;have h1:=congrArg List.length hq;rw[List.length_map] at h1
  have h2:i=(D.prow m).length:=by
    have h3:((some (D.prow m)).getD []).length=(D.prow m).length:=rfl;omega
  rw[h2];exact Z9a hK hk
theorem rnd_len {D:DD}(hK:DOk D){k:Nat}{qs:List Pv}(hq:qs.map pvP=(D.puts[k]?).getD []):qs.length≤16:=by
  have h1:=congrArg List.length hq;rw[List.length_map] at h1;have h3:=hK.p2;cases hp:D.puts[k]? with
  |none=>rw[hp] at h1;have h2:((none:Option (List J5u)).getD []).length=0:=rfl;omega
  |some ps=>rw[hp] at h1;have h2:=hK.pl ps (List.mem_of_getElem? hp);have h4:((some ps).getD []).length=ps.length:=rfl;omega
theorem wait_len {D:DD}(hK:DOk D){qs:List Pv}(hq:qs.map pvP=D.waits):qs.length≤16:=by
  have h1:=congrArg List.length hq;rw[List.length_map] at h1;have h2:=hK.wl;have h3:=hK.p2;omega
theorem wait_at {D:DD}{i:Nat}{qs:List Pv}{y:Pv}(hq:qs.map pvP=D.waits)(hy:qs[i]?=some y):(D.prow D.puts.length)[i]?=some (y.l,y.x):=by
  rw[Q79,←hq,List.getElem?_map,hy];rfl
theorem wait_end {D:DD}{i:Nat}{qs:List Pv}(hq:qs.map pvP=D.waits)(hi:i≤qs.length)(hn:¬i<qs.length):D.pre D.puts.length i=D:=by
  have h1:=congrArg List.length hq;rw[List.length_map] at h1;have h2:i=D.waits.length:=by omega
  rw[h2];exact Y5a D
end DD
theorem Y5b {D:DD}(h:DOk D):NewOk D.id D.L D.P D.E:=⟨h.id1,h.id2,h.l1,h.l2,h.p1,h.p2,h.e1,h.e2⟩
end
end Go.Proofs.YteehbddkcnkhfaaGreatDoor

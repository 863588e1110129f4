/- Contracts and plain laws for directStays_holds. Conditions: the tables hold their numbers. -/
import Derived.Test.YteehbddkcnkhfaaGreatDoorJ31
open Go.RowKit
set_option maxRecDepth 100000
set_option linter.unusedSimpArgs false
set_option linter.unusedVariables false
namespace Go.Proofs.YteehbddkcnkhfaaGreatDoor
section
set_option maxHeartbeats 3000000
attribute [local irreducible] wpList V2 wpX
open S8 (Kn GA kP)
theorem Z4v {D' :DD}{z:LD}{W:World}{R:List As}(hR:tyD R=true)(h1:OldF [] W (Q2r z.bs))(h2:OldF [] W (Q3v z.pvs)):SH.okQ [] R W (ldL D' z):=by
 refine⟨.inr (.inl ⟨rfl,J3g hR fun T e=> ?_⟩),.inr (.inl ⟨rfl,J3g hR fun T e=> ?_⟩),.inr (.inl ⟨rfl,J3g hR fun T e=> ?_⟩),.inr (.inl ⟨rfl,J3g hR fun T e=> ?_⟩),.inr (.inl ⟨rfl,J3g hR fun T e=> ?_⟩),.inr (.inl ⟨rfl,J3g hR fun T e=> ?_⟩),.inr (.inl ⟨rfl,J3g hR fun T e=> ?_⟩),.inr (.inl ⟨rfl,J3g hR fun T e=> ?_⟩),.inr (.inr (.inr ⟨_,_,rfl,h1⟩)),.inr (.inr (.inr ⟨_,_,rfl,h2⟩)),.inr (.inr (.inl ⟨_,_,rfl,V0m hR⟩)),trivial⟩
 ·
  injection e with e;exact .inl e.symm
 ·
  cases e
 ·
  injection e with e;exact .inr (.inl e.symm)
 ·
  injection e with e;exact .inr (.inr (.inl e.symm))
 ·
  injection e with e;exact .inr (.inr (.inr (.inl e.symm)))
 ·
  injection e with e;exact .inr (.inr (.inr (.inr (.inl e.symm))))
 ·
  injection e with e;exact .inr (.inr (.inr (.inr (.inr (.inl e.symm)))))
 injection e with e;exact .inr (.inr (.inr (.inr (.inr (.inr e.symm)))))
def NOk (D:DD)(w:World)(y:LD):Prop:=LOk D y∧OldF [] w (Q2r y.bs)∧OldF [] w (Q3v y.pvs)
theorem Y1h {P:Program}{f:FuncId}{args:Array Value}{F:List Nat}{w W:World}{H:List As}{D:DD}(hS:SH F w W H)
  (hc:Calls P f args W fun e W' => ∃y:{y:LD // LOk D y∧OldF [] W (Q2r y.bs)∧OldF [] W (Q3v y.pvs)},e=.returned (.tuple #[.pointer (some ⟨y.1.p,0,none⟩),.int .i64 0])∧SH [] W W' (ldL D y.1)) (hR:tyD H=true):
  Calls P f args W fun e W' => ∃y:{y:LD // NOk D w y},e=.returned (.tuple #[.pointer (some ⟨y.1.p,0,none⟩),.int .i64 0])∧SH F w W' (ldL D y.1++H):=
 hc.mono fun e W' ⟨y,h1,h2⟩=>⟨⟨y.1,y.2.1,y.2.2.1.back hS.off.size,y.2.2.2.back hS.off.size⟩,h1,SH.frameQ (L:=[]) hS h2 (Z4v hR y.2.2.1 y.2.2.2)⟩
attribute [local irreducible] eI be8 hs4 lb J43 J2v J01 xt hm pbs DD.tree DD.link rs S8.kP S8.kN S8.kD ofT ebs lk0 sE sL sN opn bnd ahd bsd ixN pfN erN J0x DD.links DD.trees DD.play DD.putD DD.sealD

theorem V30 {idl J:List UInt8}{vk bk:Nat}{iu:Value}{L P E:Nat}(hJ:idl.take 30=J)(hN:NewOk J L P E){q:Prop}(hr:q)(w:World)(hG:GT q w)(hX:GX w)(hi:Sl w iu idl):
  Calls Tryz.prog 8 #[.agg (Q5 [.c iu,.a 32 vk,.a 32 bk,.c (.int .i64 (L:Int)),.c (.int .i64 (P:Int)),.c (.int .i64 (E:Int))])] w fun e w' => ∃z:{y:LD // NOk (J5r J vk bk L P E) w y}×Nat×Nat×Nat,e=.returned (.tuple #[.pointer (some ⟨z.1.1.p,0,none⟩),.pointer (some ⟨z.2.1,0,none⟩),.bool true])∧SH [] w w' (ldL (J5r J vk bk L P E) z.1.1++[gx]++[.b z.2.1 (Q5 [.c (Q9 J),.c (Q9 (lb 32 vk)),.c (Q9 (lb 32 bk)),.c (.int .i64 (L:Int)),.c (.int .i64 (P:Int)),.c (.int .i64 (E:Int)),.c (.slice none 0 0),.c (.slice none 0 0),.c (.slice (some ⟨z.2.2.1,0,none⟩) 1 1),.c (.slice (some ⟨z.2.2.2,0,none⟩) 1 1),.c (.slice none 0 0)]) 140,.b z.2.2.1 #[Q9 (lb 32 sE)] 9,.b z.2.2.2 #[Q9 (lb 32 (lk0 J))] 9]):=by
 have Y:=J8 hi;have γ:=hN.i2;have hS:=SH.nil [] w;have hS:=hS.entp (J96 hX)
 go_enter Tryz.func8,Tryz.ntmps8
 go_upto_region 0 with fail;refine RL hS ?_;clear hS;refine MN (z:=Q5 [.c iu,.a 32 vk,.a 32 bk,.c (.int .i64 (L:Int)),.c (.int .i64 (P:Int)),.c (.int .i64 (E:Int))]) (t:=29) ?_;intro G;refine MV ?_;refine MV ?_;refine Wf ?_;refine MZ fun W hS=> ?_;go_upto_region 1 with fail;refine RL hS ?_;clear hS;refine MO (m:=[]) (n:=0) (z:= #[]) ?_;intro α;refine MV ?_;refine MG 1 ?_ (v:=iu) (hj:=(J4 (off:=0) 0));refine MV ?_;refine MG 1 ?_ (v:=iu) (hj:=(J4 (off:=0) 0));refine MF (v:=.int .i64 (idl.length:Int)) (fun W hS=>Y9 (J0c hi hS.ext) rfl rfl) ?_;refine MW ?_ (v:=.int .i64 ((min idl.length 30:Nat):Int));refine MT (fun W hS=>hS.ent hi) ?_;refine MH 0 (min idl.length 30) (m:=idl) (m' :=J) (by exact Nat.min_le_left _ _) ?_ (hm:=((Q07 30 idl).trans hJ));intro X;refine MA 2 (xs:=[]) (ys:=J) (fun W hS=>(hS.sl (i:=0) rfl)) (by first|omega|(simp only[lA,lM,lT,lD,lC,lN,Q0,V5,Z7,Z8];omega)) ?_;intro T;refine MV ?_;refine MZ fun W hS=> ?_;go_upto_region 2 with fail;refine RL hS ?_;clear hS;refine MV ?_;refine Mk 3 ?_ (sub:=Q5 [.c (.int .i64 (L:Int)),.c (.int .i64 (P:Int)),.c (.int .i64 (E:Int))]) (hs:=(J4w (off:=65) 3 3));refine MN (z:=Q5 [.c (.int .i64 0),.c (.int .i64 0),.c (.int .i64 0)]) (t:=27) ?_;intro R;refine MRa 0 ?_ (h1:=by exact(K3 ⟨rfl,rfl,rfl,trivial⟩));refine MZ fun W hS=> ?_;go_upto_region 3 with fail;refine RL hS ?_;clear hS;refine MV ?_;refine MV ?_;refine Mk 4 ?_ (sub:=Q5 [.a 32 vk,.a 32 bk]) (hs:=(J4w (off:=1) 1 2));refine MV ?_;refine MG 0 ?_ (v:=.int .i64 (L:Int)) (hj:=(J4 (off:=0) 0));refine MV ?_;refine MG 0 ?_ (v:=.int .i64 (P:Int)) (hj:=(J4 (off:=1) 1));refine MV ?_;refine MG 0 ?_ (v:=.int .i64 (E:Int)) (hj:=(J4 (off:=2) 2));refine MF (v:=.agg (Q5 [.c (.int .i64 (L:Int)),.c (.int .i64 (P:Int)),.c (.int .i64 (E:Int))])) (fun W hS=>J1m [(0,[.c (.int .i64 (L:Int))]),(1,[.c (.int .i64 (P:Int))]),(2,[.c (.int .i64 (E:Int))])] rfl rfl J45 J46 (.c rfl (.c rfl (.c rfl .n)))) ?_;refine MT (fun W hS=>by rw[List.nil_append] at hS;exact hS) ?_;refine ME (V:=fun y:{y:LD // NOk (J5r J vk bk L P E) w y}=> .tuple #[.pointer (some ⟨y.1.p,0,none⟩),.int .i64 0]) (fun W hS=>Y1h hS (Y0l hN W (hS.pp (i:=5) rfl) (hS.own (i:=3) rfl).sl) rfl) ?_;rintro⟨y,N⟩;have hL:=N.1;dsimp only[ldL,List.cons_append,List.nil_append];refine MV ?_;refine MV ?_;refine W0 ?_;refine MV ?_;refine W0 ?_;refine MZ fun W hS=> ?_;go_upto_region 4 with fail;refine RL hS ?_;clear hS;refine MV ?_;refine MF (v:=Q9 J) (fun W hS=>J0l (hS.osl (i:=14) rfl) rfl rfl) ?_;refine ML 11 ?_ (hs:=by rw[J7];kernel_rfl);refine MC (v:=.bool true) (fun W hS=>V4a (id:=J) (L:=(L:Int)) (P:=(P:Int)) (E:=(E:Int)) ⟨⟨hN.i1,hN.i2⟩,⟨by have h_:=hN.l1;omega,by have h_:=hN.l2;omega⟩,⟨by have h_:=hN.p1;omega,by have h_:=hN.p2;omega⟩,by have h_:=hN.e1;omega,by have h_:=hN.e2;omega⟩ W) ?_;refine Wf ?_;refine MZ fun W hS=> ?_;go_upto_region 6 with fail;refine RTh (.q 0 (.q 1 (.q 2 (.q 3 (.q 4 (.q 5 (.q 6 (.q 7 (.q 8 (.q 9 (.q 10 (.e 11 (.q 12 .z))))))))))))) hS ?_;clear hS;refine TV ?_;refine TF (v:=Q9 J) rfl (fun W hS=>J0l (hS.osl (i:=14) rfl) rfl rfl) ?_;refine TV ?_;refine TV ?_;refine TW ?_ (v:=.slice (some ⟨G,1,none⟩) 32 32);refine TF (v:=Q9 (lb 32 vk)) rfl (fun W hS=>J0l (Z6 (V:=vk) (n:=32) (off:=1) (c:=32) (hS.blk (i:=15) rfl) (X9 (off:=1) 1) (by decide) (by decide)) rfl rfl) ?_;refine TV ?_;refine TV ?_;refine TW ?_ (v:=.slice (some ⟨G,33,none⟩) 32 32);refine TF (v:=Q9 (lb 32 bk)) rfl (fun W hS=>J0l (Z6 (V:=bk) (n:=32) (off:=33) (c:=32) (hS.blk (i:=15) rfl) (X9 (off:=33) 2) (by decide) (by decide)) rfl rfl) ?_;refine TL 11 ?_ (hs:=by rw[J7];kernel_rfl);refine TE (fun _ h=>h) ?_;refine ME (V:=fun x:Nat×Nat×Nat=> .pointer (some ⟨x.1,0,none⟩)) (fun W hS=>J83 hS (V4c (id:=J) (vs:=lb 32 vk) (bs:=lb 32 bk) (L:=(L:Int)) (P:=(P:Int)) (E:=(E:Int)) hr (by omega) W (J0b hG hS.ext)) (fun _=>rfl)) ?_;rintro⟨r1,r2,r3⟩;dsimp only[List.cons_append,List.nil_append];refine TNh (fun W hS=>hS.pick [3,4,5,6,7,8,9,10,11,12,13,14,15,16,17,18,19]) ?_;refine TV ?_;refine TZ (fun _ h=>h) fun W hS=> ?_
 go_wp2_with fail
 go_loopw [10] (fun jj wr=> ∃(j:Nat),(j≤J.length)∧(jj=.int .i64 (j:Int))∧SH [] w wr [.b r1 (Q5 [.c (Q9 J),.c (Q9 (lb 32 vk)),.c (Q9 (lb 32 bk)),.c (.int .i64 (L:Int)),.c (.int .i64 (P:Int)),.c (.int .i64 (E:Int)),.c (.slice none 0 0),.c (.slice none 0 0),.c (.slice (some ⟨r2,0,none⟩) 1 1),.c (.slice (some ⟨r3,0,none⟩) 1 1),.c (.slice none 0 0)]) 140,.b r2 #[Q9 (lb 32 sE)] 9,.b r3 #[Q9 (lb 32 (lk0 J))] 9,.b y.p (Q5 [.c y.uid,.a 32 ((J5r J vk bk L P E).vk),.a 32 ((J5r J vk bk L P E).bk),.c (.int .i64 ((J5r J vk bk L P E).L:Int)),.c (.int .i64 ((J5r J vk bk L P E).P:Int)),.c (.int .i64 ((J5r J vk bk L P E).E:Int)),.c (.map (some y.h)),.c y.wv,.c y.pv,.c y.tv,.c y.lv]) 110,J2p y.h (J0s y.acs),acT y.acs,enT y.acs,.r 88 2 y.wv (List.map pvC y.wps),.r 83 1 y.pv (List.map J82 y.pvs),.r 115 1 y.tv (List.map J3d y.tus),.r 23 32 y.lv (List.map J0d (J5r J vk bk L P E).links),byT y.bs,rwT y.pvs,taT (J5r J vk bk L P E).trees y.tus,.b R (Q5 [.c (.int .i64 (L:Int)),.c (.int .i64 (P:Int)),.c (.int .i64 (E:Int))]) 27,.s X J,.s iu idl,.o T (xt 17 j J),.b G (Q5 [.c iu,.a 32 vk,.a 32 bk,.c (.int .i64 (L:Int)),.c (.int .i64 (P:Int)),.c (.int .i64 (E:Int))]) 29,gx])
  (fun jj _=>J.length-(intOf jj).toNat)
 case atStart=>exact⟨0,Nat.zero_le _,rfl,(by rw[V89];exact hS)⟩
 clear hS
 case round=>
  obtain⟨j,hj,rfl,hS⟩:=hrel
  by_cases D:j<J.length
  ·
   obtain⟨c0,M⟩:∃c,J[j]?=some c:=⟨_,List.getElem?_eq_getElem D⟩
   go_upto_region 8 with fail;refine RL hS ?_;clear hS;refine MV ?_;refine MV ?_;refine MF (v:=.int .i64 (J.length:Int)) (fun W hS=>(by rw[show(J.length:Int)=((xt 17 j J).length:Int) by rw[J91]];exact Y9 (hS.osl (i:=17) rfl) rfl rfl)) ?_;refine Wto ?_;refine MZ fun W hS=> ?_;go_upto_region 10 with fail;refine RL hS ?_;clear hS;refine MV ?_;refine MV ?_;refine MIo 17 j (l:=(xt 17 j J)) (by rw[J91];omega) ?_;intro β _ S;refine MF (v:=.int .u8 (c0.toNat:Int)) (fun W hS=>Z5 rfl rfl (Z0d (hS.own (i:=17) rfl) S.out (V0a M)) (by kernel_rfl)) ?_;refine MW ?_ (v:=.int .u8 ((c0^^^17).toNat:Int)) (hv:=by intro W;go_simp;exact(V0b c0 17).trans (by rw[UInt8.toNat_xor];rfl));refine MIo 17 j (l:=(xt 17 j J)) (by rw[J91];omega) ?_;intro Z _ U;refine MPo 17 (j:=j) (b:=(c0^^^17)) (l:=(xt 17 j J)) (by rw[J91];omega) U.out ?_;refine MT (fun W hS=>by rw[show(xt 17 j J).set j (c0^^^17)=xt 17 (j+1) J from Z4t M] at hS;exact hS) ?_;refine MZ fun W hS=> ?_;go_wp2;go_roundw
   case rel=>exact⟨j+1,by omega,by go_num,hS⟩
   case measure=>simp[intOf];omega
  go_upto_region 8 with fail;refine RL hS ?_;clear hS;refine MV ?_;refine MV ?_;refine MF (v:=.int .i64 (J.length:Int)) (fun W hS=>(by rw[show(J.length:Int)=((xt 17 j J).length:Int) by rw[J91]];exact Y9 (hS.osl (i:=17) rfl) rfl rfl)) ?_;refine Wfo ?_;refine MZ fun W hS=> ?_;go_wp2;exact bodyPost_ret (v:=.tuple #[.pointer (some ⟨y.p,0,none⟩),.pointer (some ⟨r1,0,none⟩),.bool true]) (by simp only[results,Tryz.results8];go_simp) rfl ⟨y,N,r1,rfl,r2,r3,hS.pick [3,4,5,6,7,8,9,10,11,12,13,19,0,1,2]⟩
theorem V2z {idl J:List UInt8}{vk bk:Nat}{iu:Value}{L P E:Int}(hJ:idl.take 30=J)(hN:¬((1≤J.length∧J.length≤16)∧(1≤L∧L≤64)∧(1≤P∧P≤16)∧(1≤E∧E≤32)))(w:World)(hX:GX w)(hi:Sl w iu idl):
  Calls Tryz.prog 8 #[.agg (Q5 [.c iu,.a 32 vk,.a 32 bk,.c (.int .i64 L),.c (.int .i64 P),.c (.int .i64 E)])] w fun e w' =>X5 (.tuple #[.pointer none,.pointer none,.bool true]) w w' e:=by
 have D:=J8 hi;have R:J.length≤30:=by rw[←hJ];exact List.length_take_le _ _
 have hS:=SH.nil [] w;have hS:=hS.entp (J96 hX)
 go_enter Tryz.func8,Tryz.ntmps8
 go_upto_region 0 with fail;refine RL hS ?_;clear hS;refine MN (z:=Q5 [.c iu,.a 32 vk,.a 32 bk,.c (.int .i64 L),.c (.int .i64 P),.c (.int .i64 E)]) (t:=29) ?_;intro S;refine MV ?_;refine MV ?_;refine Wf ?_;refine MZ fun W hS=> ?_;go_upto_region 1 with fail;refine RL hS ?_;clear hS;refine MO (m:=[]) (n:=0) (z:= #[]) ?_;intro M;refine MV ?_;refine MG 1 ?_ (v:=iu) (hj:=(J4 (off:=0) 0));refine MV ?_;refine MG 1 ?_ (v:=iu) (hj:=(J4 (off:=0) 0));refine MF (v:=.int .i64 (idl.length:Int)) (fun W hS=>Y9 (J0c hi hS.ext) rfl rfl) ?_;refine MW ?_ (v:=.int .i64 ((min idl.length 30:Nat):Int));refine MT (fun W hS=>hS.ent hi) ?_;refine MH 0 (min idl.length 30) (m:=idl) (m' :=J) (by exact Nat.min_le_left _ _) ?_ (hm:=((Q07 30 idl).trans hJ));intro G;refine MA 2 (xs:=[]) (ys:=J) (fun W hS=>(hS.sl (i:=0) rfl)) (by first|omega|(simp only[lA,lM,lT,lD,lC,lN,Q0,V5,Z7,Z8];omega)) ?_;intro N;refine MV ?_;refine MZ fun W hS=> ?_;go_upto_region 2 with fail;refine RL hS ?_;clear hS;refine MV ?_;refine Mk 3 ?_ (sub:=Q5 [.c (.int .i64 L),.c (.int .i64 P),.c (.int .i64 E)]) (hs:=(J4w (off:=65) 3 3));refine MN (z:=Q5 [.c (.int .i64 0),.c (.int .i64 0),.c (.int .i64 0)]) (t:=27) ?_;intro T;refine MRa 0 ?_ (h1:=by exact(K3 ⟨rfl,rfl,rfl,trivial⟩));refine MZ fun W hS=> ?_;go_upto_region 3 with fail;refine RL hS ?_;clear hS;refine MV ?_;refine MV ?_;refine Mk 4 ?_ (sub:=Q5 [.a 32 vk,.a 32 bk]) (hs:=(J4w (off:=1) 1 2));refine MV ?_;refine MG 0 ?_ (v:=.int .i64 L) (hj:=(J4 (off:=0) 0));refine MV ?_;refine MG 0 ?_ (v:=.int .i64 P) (hj:=(J4 (off:=1) 1));refine MV ?_;refine MG 0 ?_ (v:=.int .i64 E) (hj:=(J4 (off:=2) 2));refine MF (v:=.agg (Q5 [.c (.int .i64 L),.c (.int .i64 P),.c (.int .i64 E)])) (fun W hS=>J1m [(0,[.c (.int .i64 L)]),(1,[.c (.int .i64 P)]),(2,[.c (.int .i64 E)])] rfl rfl J45 J46 (.c rfl (.c rfl (.c rfl .n)))) ?_;refine MT (fun W hS=>by rw[List.nil_append] at hS;exact hS) ?_;refine MC (v:=.tuple #[.pointer none,.int .i64 1]) (fun W hS=>V44 (id:=J) (L:=L) (P:=P) (E:=E) hN W (hS.own (i:=3) rfl).sl) ?_;refine MV ?_;refine MV ?_;refine MW ?_ (v:=.int .i64 1);refine MV ?_;refine MW ?_ (v:=.int .i64 1);refine MZ fun W hS=> ?_;go_upto_region 4 with fail;refine RL hS ?_;clear hS;refine MV ?_;refine MF (v:=Q9 J) (fun W hS=>J0l (hS.osl (i:=3) rfl) rfl rfl) ?_;refine ML 0 ?_ (hs:=by rw[J7];kernel_rfl);refine MC (v:=.bool false) (fun W hS=>V4b (id:=J) (L:=L) (P:=P) (E:=E) hN W) ?_;refine Wt ?_;refine MZ fun W hS=> ?_;go_wp2;exact bodyPost_ret (v:=.tuple #[.pointer none,.pointer none,.bool true]) (by simp only[results,Tryz.results8];go_simp) rfl ⟨rfl,hS.ext⟩
end

section
abbrev S0:DD:=J5r [116] 1 2 2 2 2
abbrev S1:DD:=S0.put [97] [120]
abbrev S2:DD:=S1.nxt
theorem Z5i:S0.labs=[]:=rfl
theorem Y78:S1.labs=[[97]]:=by decide+kernel
theorem Y79:S2.labs=[[97]]:=by decide+kernel
theorem Y17:NewOk [116] 2 2 2:=⟨by decide,by decide,by decide,by decide,by decide,by decide,by decide,by decide⟩
theorem s0_ok:DOk S0:=Z4w Y17
theorem Z0q:S0.pcode [97] [120]=0:=by
  unfold DD.pcode;rw[if_neg (by decide),if_neg (by decide),if_neg (by rw[Z5i];decide),if_pos (by rw[Z5i];decide)];exact V99
theorem Z5j:S0.putD [97] [120]=S1:=by unfold DD.putD;rw[if_pos Z0q]
theorem s1_ok:DOk S1:=by rw[←Z5j];exact s0_ok.putD _ _
theorem Y18:S1.scode=(1,0):=by unfold DD.scode;rw[if_pos (by decide)];rfl
theorem Z0r:S1.sealD=S2:=by unfold DD.sealD;rw[if_pos (by decide)]
theorem V9a:DOk S2:=by rw[←Z0r];exact s1_ok.sealD
theorem Y7a:S1.made=[]:=by decide+kernel
theorem Y7b:S2.made=[⟨[97],[120],1,1⟩]:=by unfold S2 S1;rw[DD.made_nxt];rfl
theorem V9b {y:LD}{a:Ac}(h:LOk S1 y)(ha:a∈y.acs)(hl:a.l=[97]):J0x a.es ((0:Nat):Int)=enZ:=by
  have h1:=h.e a ha;rw[Y7a] at h1;have h2:a.es=[]:=List.map_eq_nil_iff.1 h1;rw[h2];rfl
theorem V9c {y:LD}{a:Ac}(h:LOk S2 y)(ha:a∈y.acs)(hl:a.l=[97]):(J0x a.es ((1:Nat):Int)).ver=1∧(J0x a.es ((1:Nat):Int)).x=[120]:=by
  have h1:=h.e a ha;rw[Y7b,hl] at h1;cases hes:a.es with
  |nil=>rw[hes] at h1;cases h1
  |cons x t=>
    rw[hes] at h1
    have h2:(x.ep,x.ver,x.x)=(1,1,[120])∧t.map (fun e=>(e.ep,e.ver,e.x))=[]:=by
      have h3:(x.ep,x.ver,x.x)::t.map (fun e=>(e.ep,e.ver,e.x))=[(1,1,[120])]:=h1;injection h3 with h4 h5
      exact⟨h4,h5⟩
    have h3:t=[]:=List.map_eq_nil_iff.1 h2.2;injection h2.1 with e1 e2
    injection e2 with e2 e3
    subst h3
    have h6:J0x [x] ((1:Nat):Int)=x:=by
      unfold J0x;rw[List.filter_cons,if_pos (by rw[e1];decide)];rfl
    rw[h6];exact⟨e2,e3⟩
end

section
set_option maxHeartbeats 3000000
attribute [local irreducible] wpList V2 wpX
open S8 (Kn GA kP)
theorem V9m {D:DD}{ix pf e ver:Nat}{x:List UInt8}:(fnd D ix pf e ver x).x=x:=rfl
theorem V9n {D:DD}{ix pf e ver:Nat}{x:List UInt8}:(fnd D ix pf e ver x).ver=ver:=rfl
theorem V0q {D:DD}{ix pf e ver:Nat}{x:List UInt8}:(fnd D ix pf e ver x).pres=decide (0<ver):=rfl
theorem V4e {u v:Value}{l x:List UInt8}:InF [.s u l,.s v x] ((sb u l).toList++(sb v x).toList):=fun k hk=>by
 rcases List.mem_append.1 hk with hk|hk
 ·
  exact⟨.s u l,by simp,fun T K e=>(by cases e),hk⟩
 ·
  exact⟨.s v x,by simp,fun T K e=>(by cases e),hk⟩
attribute [local irreducible] eI be8 hs4 lb J43 J2v J01 xt hm pbs DD.tree DD.link rs S8.kP S8.kN S8.kD ofT ebs lk0 sE sL sN opn bnd ahd bsd ixN pfN erN J0x DD.links DD.trees DD.play DD.putD DD.sealD fnd

theorem Q51 (w:World)(hX:GX w):
  Calls Tryz.prog 9 #[] w fun e w' =>X5 (.bool true) w w' e:=by
 have hS:=SH.nil [] w;have hS:=hS.entp (J96 hX)
 go_enter Tryz.func9,Tryz.ntmps9
 go_upto_region 1 with fail;refine RL hS ?_;clear hS;refine MO (m:=[116]) (n:=1) (z:= #[.int .u8 116]) ?_;intro β;refine MSm 0 (l:=[116]) (by first|decide|(simp only[List.length_append,List.length_cons,List.length_nil];omega)) ?_;refine MW ?_ (v:=.agg (J0 .u8 32 (J5 1))) (hv:=by intro W;kernel_rfl);refine MW ?_ (v:=.agg (J0 .u8 32 (J5 2))) (hv:=by intro W;kernel_rfl);refine MF (v:=.agg (Q5 [.a 32 1,.a 32 2])) (fun W hS=>J1m [(0,[.a 32 1]),(1,[.a 32 2])] rfl rfl Q3t Q3u (.c ((J1e _ _).symm) (.c ((J1e _ _).symm) .n))) ?_;refine MF (v:=.agg (Q5 [.c (.int .i64 2),.c (.int .i64 2),.c (.int .i64 2)])) (fun W hS=>J1m [(0,[.c (.int .i64 2)]),(1,[.c (.int .i64 2)]),(2,[.c (.int .i64 2)])] rfl rfl J45 J46 (.c rfl (.c rfl (.c rfl .n)))) ?_;refine ME (V:=fun y:{y:LD // NOk S0 w y}=> .tuple #[.pointer (some ⟨y.1.p,0,none⟩),.int .i64 0]) (fun W hS=>Y1h hS (Y0l (id:=[116]) (vk:=1) (bk:=2) (L:=2) (P:=2) (E:=2) Y17 W (hS.pp (i:=1) rfl) (hS.sl (i:=0) rfl)) rfl) ?_;rintro⟨y,Ξ⟩;have hL:=Ξ.1;dsimp only[ldL,List.cons_append,List.nil_append];refine MV ?_;refine MV ?_;refine W0 ?_;refine MV ?_;refine W0 ?_;refine MZ fun W hS=> ?_;go_upto_region 2 with fail;refine RL hS ?_;clear hS;refine MV ?_;refine MO (m:=[97]) (n:=1) (z:= #[.int .u8 97]) ?_;intro γ;refine MSm 0 (l:=[97]) (by first|decide|(simp only[List.length_append,List.length_cons,List.length_nil];omega)) ?_;refine MO (m:=[120]) (n:=1) (z:= #[.int .u8 120]) ?_;intro Y;refine MSm 0 (l:=[120]) (by first|decide|(simp only[List.length_append,List.length_cons,List.length_nil];omega)) ?_;refine MT (fun W hS=>hS.pick [2,3,4,5,6,7,8,9,10,11,12,14,1,0,13]) ?_;refine ME (V:=fun _:ZD S0 y S1 w=> .int .i64 0) (fun W hS=>by have h_:=Y1d (D:=S0) (y:=y) (l:=[97]) (x:=[120]) (N:=[.s γ [97],.s Y [120]]) (R:=[.s β [116]]) hS (hS.sl (i:=12) rfl) (hS.sl (i:=13) rfl) V4e hL s0_ok rfl;rw[Z0q,Z5j] at h_;exact h_) ?_;rintro⟨z1,J⟩;dsimp only[ldL,List.cons_append,List.nil_append];refine W0 ?_;refine MZ fun W hS=> ?_;go_upto_region 3 with fail;refine RL hS ?_;clear hS;refine MV ?_;refine MO (m:=[97]) (n:=1) (z:= #[.int .u8 97]) ?_;intro μ;refine MSm 0 (l:=[97]) (by first|decide|(simp only[List.length_append,List.length_cons,List.length_nil];omega)) ?_;obtain⟨a1,χ,ν⟩:=(J.1).accU (l:=[97]) (by rw[Y78];exact List.mem_singleton.2 rfl);have ψ:=V9b (J.1) χ ν;obtain⟨x1,κ⟩:=exn (J0x a1.es ((0:Nat):Int));obtain⟨f1,η⟩:=exn (fnd S1 (ixN (S1).vk [97]) (pfN (S1).vk [97]) 0 x1.ver x1.x);have φ:f1.pres=false:=by rw[η,V0q,κ,ψ];rfl
 have G:=Lib.hid φ;clear φ;have Ψ:=Lib.hid η;have Γ:=Lib.hid κ;clear η κ;refine MT (fun W hS=>hS.pick [1,2,3,4,5,6,7,8,9,10,11,12,0,13,14,15]) ?_;refine ME (V:=fun z:Value×Value=> .tuple #[.agg (fdF f1 z.1 z.2),.int .i64 0]) (fun W hS=>J83 hS (by have h_:=Z2l (D:=S1) (y:=z1) (l:=[97]) (n:= -1) (ep:=0) (.inr ⟨rfl,by decide⟩) (by decide) rfl rfl Γ.out χ ν W (hS.pp (i:=11) rfl) (DK.of (D:=S1) (y:=z1) (R:=[gx,.s μ [97],.s γ [97],.s Y [120],.s β [116]]) hS) (J.1) s1_ok (hS.sl (i:=12) rfl) (by decide);unfold Y04 at h_;rw[←Ψ.out,show z1.p=y.p from J.2.1] at h_;exact h_) (fun _=>rfl)) ?_;rintro⟨α,δ⟩;dsimp only[List.cons_append,List.nil_append];refine MV ?_;refine MV ?_;refine W0 ?_;refine MN (z:=fdZ) (t:=48) ?_;intro ξ;refine J00 (fun W hS=>(J8 (hS.osl (i:=1) rfl)).2) ?_;intro ζ;refine J00 (fun W hS=>(Row.cells (hS.row (i:=2) rfl)).2) ?_;intro ε;refine MRa 0 ?_ (h1:=by exact(K3 ⟨rfl,rfl,rfl,ζ,ε,rfl,rfl,trivial⟩));refine W0 ?_;refine MZ fun W hS=> ?_;go_upto_region 4 with fail;refine RL hS ?_;clear hS;refine MV ?_;refine MT (fun W hS=>hS.pick [3,4,5,6,7,8,9,10,11,12,13,14,0,1,2,15,16,17,18]) ?_;refine ME (V:=fun _:ZD S1 z1 S2 w=> .tuple #[.int .i64 1,.int .i64 0]) (fun W hS=>by have h_:=Z5p (D:=S1) (y:=z1) (R:=[.b ξ (Q5 [.c (.int .i64 (f1.ep:Int)),.a 32 f1.ix,.a 80 f1.pf,.c (.bool f1.pres),.c (.int .i64 (f1.ver:Int)),.c α,.a 32 f1.bd,.a 32 f1.op,.c δ,.c (.bool f1.th),.a 32 f1.ek,.a 32 f1.ev,.a 32 f1.ro,.a 32 f1.li,.a 32 f1.ah,.c (.int .i64 (f1.rd:Int))]) 48,.o α f1.x,.r 23 32 δ (List.map J0d f1.ss),.s μ [97],.s γ [97],.s Y [120],.s β [116]]) hS J.1 s1_ok rfl;rw[Y18,Z0r,show z1.p=y.p from J.2.1] at h_;exact h_) ?_;rintro⟨z2,Z⟩;dsimp only[ldL,List.cons_append,List.nil_append];refine MV ?_;refine MW ?_ (v:=.int .i64 1);refine W0 ?_;refine MW ?_ (v:=.int .i64 1);refine W0 ?_;refine MZ fun W hS=> ?_;go_upto_region 5 with fail;refine RL hS ?_;clear hS;refine MV ?_;refine MO (m:=[97]) (n:=1) (z:= #[.int .u8 97]) ?_;intro Ω;refine MSm 0 (l:=[97]) (by first|decide|(simp only[List.length_append,List.length_cons,List.length_nil];omega)) ?_;obtain⟨a2,ρ,θ⟩:=(Z.1).accU (l:=[97]) (by rw[Y79];exact List.mem_singleton.2 rfl);have X:=V9c (Z.1) ρ θ;obtain⟨x2,M⟩:=exn (J0x a2.es ((1:Nat):Int));obtain⟨f2,S⟩:=exn (fnd S2 (ixN (S2).vk [97]) (pfN (S2).vk [97]) 1 x2.ver x2.x);have σ:RowKit.Hid (f2.pres=true):=Lib.hid (by rw[S,V0q,M,X.1];rfl);have τ:RowKit.Hid (f2.ver=1):=Lib.hid (by rw[S,V9n,M,X.1]);have ω:RowKit.Hid (f2.x=[120]):=Lib.hid (by rw[S,V9m,M,X.2]);have Δ:=Lib.hid S;have Θ:=Lib.hid M;clear S M;refine MT (fun W hS=>hS.pick [1,2,3,4,5,6,7,8,9,10,11,12,0,13,14,15,16,17,18,19]) ?_;refine ME (V:=fun z:Value×Value=> .tuple #[.agg (fdF f2 z.1 z.2),.int .i64 0]) (fun W hS=>J83 hS (by have h_:=Z2l (D:=S2) (y:=z2) (l:=[97]) (n:= -1) (ep:=1) (.inr ⟨rfl,by decide⟩) (by decide) rfl rfl Θ.out ρ θ W (hS.pp (i:=11) rfl) (DK.of (D:=S2) (y:=z2) (R:=[gx,.s Ω [97],.b ξ (Q5 [.c (.int .i64 (f1.ep:Int)),.a 32 f1.ix,.a 80 f1.pf,.c (.bool f1.pres),.c (.int .i64 (f1.ver:Int)),.c α,.a 32 f1.bd,.a 32 f1.op,.c δ,.c (.bool f1.th),.a 32 f1.ek,.a 32 f1.ev,.a 32 f1.ro,.a 32 f1.li,.a 32 f1.ah,.c (.int .i64 (f1.rd:Int))]) 48,.o α f1.x,.r 23 32 δ (List.map J0d f1.ss),.s μ [97],.s γ [97],.s Y [120],.s β [116]]) hS) (Z.1) V9a (hS.sl (i:=12) rfl) (by decide);unfold Y04 at h_;rw[←Δ.out,show z2.p=z1.p from Z.2.1,show z1.p=y.p from J.2.1] at h_;exact h_) (fun _=>rfl)) ?_;rintro⟨D0,D1⟩;dsimp only[List.cons_append,List.nil_append];refine MT (fun W hS=>by rw[ω.out] at hS;exact hS) ?_;refine MV ?_;refine MV ?_;refine W0 ?_;refine MN (z:=fdZ) (t:=48) ?_;intro D3;refine J00 (fun W hS=>(J8 (hS.osl (i:=1) rfl)).2) ?_;intro U;refine J00 (fun W hS=>(Row.cells (hS.row (i:=2) rfl)).2) ?_;intro T;refine MRa 0 ?_ (h1:=by exact(K3 ⟨rfl,rfl,rfl,U,T,rfl,rfl,trivial⟩));refine W0 ?_;refine MZ fun W hS=> ?_;go_upto_region 6 with fail;refine RL hS ?_;clear hS;refine W0 ?_;refine MW ?_ (v:=.bool true) (hv:=by intro W;go_simp;first|done|rfl|(rw[G.out];rfl)|simp[G.out]);refine Wt ?_;refine W0 ?_;refine MW ?_ (v:=.bool true) (hv:=by intro W;go_simp;first|done|rfl|(rw[G.out];rfl)|simp[G.out]);refine Wt ?_;refine Wt ?_;refine W0 ?_;refine MW ?_ (v:=.bool true) (hv:=by intro W;go_simp;first|done|rfl|(rw[G.out];rfl)|simp[G.out]);refine Wt ?_;refine Wt ?_;refine W0 ?_;refine MW ?_ (v:=.bool true) (hv:=by intro W;go_simp;first|done|rfl|(rw[G.out];rfl)|simp[G.out]);refine Wt ?_;refine Wt ?_;refine W0 ?_;refine MW ?_ (v:=.bool true) (hv:=by intro W;go_simp;first|done|rfl|(rw[G.out];rfl)|simp[G.out]);refine Wt ?_;refine Wt ?_;refine MW ?_ (v:=.int .i64 1);refine MW ?_ (v:=.bool true) (hv:=by intro W;go_simp;first|done|rfl|(rw[G.out];rfl)|simp[G.out]);refine Wt ?_;refine Wt ?_;refine MV ?_;refine MG 16 ?_ (v:=.bool f1.pres) (hj:=(J4 (off:=113) 3));refine MW ?_ (v:=.bool true) (hv:=by intro W;go_simp;first|done|rfl|(rw[G.out];rfl)|simp[G.out]);refine Wt ?_;refine Wt ?_;refine MV ?_;refine MG 0 ?_ (v:=.bool f2.pres) (hj:=(J4 (off:=113) 3));refine MW ?_ (v:=.bool true) (hv:=by intro W;go_simp;first|done|rfl|(rw[σ.out];rfl)|simp[σ.out]);refine Wt ?_;refine MV ?_;refine MG 0 ?_ (v:=.int .i64 (f2.ver:Int)) (hj:=(J4 (off:=114) 4));refine MW ?_ (v:=.bool true) (hv:=by intro W;go_simp;first|done|rfl|(rw[τ.out];rfl)|simp[τ.out]);refine Wt ?_;refine Wt ?_;refine MV ?_;refine MG 0 ?_ (v:=D0) (hj:=(J4 (off:=115) 5));refine MF (v:=Q9 [120]) (fun W hS=>J0l (hS.osl (i:=1) rfl) rfl rfl) ?_;refine MW ?_ (v:=.bool true) (hv:=fun _=>J2f (l:=[120]) (m:=[120]) (b:=true) (decide_eq_true rfl) rfl rfl rfl);refine Wt ?_;refine Wt ?_;refine MZ fun W hS=> ?_;go_wp2;exact bodyPost_ret (v:=.bool true) (by simp only[results,Tryz.results9];go_simp) rfl ⟨rfl,hS.ext⟩
end

section
set_option maxHeartbeats 3000000
attribute [local irreducible] wpList V2 wpX
open S8 (Kn GA kP)
abbrev rfF (f:Fnd)(sv:Value):Array Value:=Q5 [.c (.int .i64 (f.ep:Int)),.c (Q9 (lb 32 f.ix)),.c (Q9 (lb 80 f.pf)),.c (.bool f.pres),.c (.int .i64 (f.ver:Int)),.c (Q9 f.x),.c (Q9 (lb 32 f.bd)),.c (Q9 (lb 32 f.op)),.c sv,.c (.bool f.th),.a 32 f.ek,.a 32 f.ev,.c (Q9 (lb 32 f.ro)),.c (Q9 (lb 32 f.li)),.c (Q9 (lb 32 f.ah)),.c (.int .i64 (f.rd:Int))]
attribute [local irreducible] eI be8 hs4 lb J43 J2v J01 xt hm pbs

theorem J78:zer Tryz.prog 61=some (some (Q5 [.c (.int .i64 0),.c (Q9 []),.c (Q9 []),.c (.bool false),.c (.int .i64 0),.c (Q9 []),.c (Q9 []),.c (Q9 []),.c (.slice none 0 0),.c (.bool false),.a 32 0,.a 32 0,.c (Q9 []),.c (Q9 []),.c (Q9 []),.c (.int .i64 0)])):=by kernel_rfl
theorem J79:plc Tryz.prog 61=some [(0,1),(1,1),(2,1),(3,1),(4,1),(5,1),(6,1),(7,1),(8,66),(74,1),(75,1),(76,1),(77,1)]:=by kernel_rfl
theorem J7a:zer Tryz.prog 59=some (some (Q5 [.c (.slice none 0 0),.c (.bool false),.a 32 0,.a 32 0])):=by kernel_rfl
theorem J7b:plc Tryz.prog 59=some [(0,1),(1,1),(2,64)]:=by kernel_rfl
theorem J7z:zer Tryz.prog 57=some (some (Q5 [.a 32 0,.a 32 0])):=by kernel_rfl
theorem J80:plc Tryz.prog 57=some [(0,32),(32,32)]:=by kernel_rfl
theorem Y02 {f:Fnd}{vu sv:Value}(hl:f.x.length≤100000000)(w:World)(hv:Sl w vu f.x)(huc_s:sv.cells= #[sv]∧sv.oneCell' =true):
  Calls Tryz.prog 15 #[.agg (fdF f vu sv)] w fun e w' =>X5 (.agg (rfF f sv)) w w' e:=by
 have G:=J8 hv;have hS:=SH.nil [] w
 go_enter Tryz.func15,Tryz.ntmps15
 go_upto_region 0 with fail;refine RL hS ?_;clear hS;refine MN (z:=Q5 [.c (.int .i64 (f.ep:Int)),.a 32 f.ix,.a 80 f.pf,.c (.bool f.pres),.c (.int .i64 (f.ver:Int)),.c vu,.a 32 f.bd,.a 32 f.op,.c sv,.c (.bool f.th),.a 32 f.ek,.a 32 f.ev,.a 32 f.ro,.a 32 f.li,.a 32 f.ah,.c (.int .i64 (f.rd:Int))]) (t:=48) ?_;intro D;refine MN (z:=Q5 [.c (.int .i64 0),.c (Q9 []),.c (Q9 []),.c (.bool false),.c (.int .i64 0),.c (Q9 []),.c (Q9 []),.c (Q9 []),.c (.slice none 0 0),.c (.bool false),.a 32 0,.a 32 0,.c (Q9 []),.c (Q9 []),.c (Q9 []),.c (.int .i64 0)]) (t:=61) ?_;intro J;refine MZ fun W hS=> ?_;go_upto_region 1 with fail;refine RL hS ?_;clear hS;refine MV ?_;refine MV ?_;refine MG 1 ?_ (v:=sv) (hj:=(J4 (off:=180) 8));refine MV ?_;refine MV ?_;refine MG 1 ?_ (v:=.bool f.th) (hj:=(J4 (off:=181) 9));(iterate 3 refine MV ?_);refine Mk 1 ?_ (sub:=J0 .u8 32 (J5 f.ek)) (hs:=(X9 (off:=182) 10));(iterate 3 refine MV ?_);refine Mk 1 ?_ (sub:=J0 .u8 32 (J5 f.ev)) (hs:=(X9 (off:=214) 11));refine MF (v:=.agg (Q5 [.a 32 f.ek,.a 32 f.ev])) (fun W hS=>J1m [(0,[.a 32 f.ek]),(1,[.a 32 f.ev])] rfl rfl J7z J80 (.c ((J1e _ _).symm) (.c ((J1e _ _).symm) .n))) ?_;refine MF (v:=.agg (Q5 [.c sv,.c (.bool f.th),.a 32 f.ek,.a 32 f.ev])) (fun W hS=>J1m [(0,[.c sv]),(1,[.c (.bool f.th)]),(2,[.a 32 f.ek,.a 32 f.ev])] rfl rfl J7a J7b (.c ((huc_s).1) (.c rfl (.c rfl .n)))) ?_;refine MN (z:=Q5 [.c (.slice none 0 0),.c (.bool false),.a 32 0,.a 32 0]) (t:=59) ?_;intro N;refine MRa 0 ?_ (h1:=by exact(K3 ⟨huc_s.2,rfl,trivial⟩));refine MZ fun W hS=> ?_;go_upto_region 2 with fail;refine RL hS ?_;clear hS;refine MV ?_;refine MG 2 ?_ (v:=.int .i64 (f.ep:Int)) (hj:=(J4 (off:=0) 0));refine MV ?_;refine MG 2 ?_ (v:=.bool f.pres) (hj:=(J4 (off:=113) 3));refine MV ?_;refine MG 2 ?_ (v:=.int .i64 (f.ver:Int)) (hj:=(J4 (off:=114) 4));refine MV ?_;refine MG 2 ?_ (v:=vu) (hj:=(J4 (off:=115) 5));refine MF (v:=Q9 f.x) (fun W hS=>J0l (J0c hv hS.ext) rfl rfl) ?_;refine ML 0 ?_ (hs:=by rw[J7];kernel_rfl);refine MV ?_;refine MG 2 ?_ (v:=.int .i64 (f.rd:Int)) (hj:=(J4 (off:=342) 15));refine MF (v:=.agg (Q5 [.c (.int .i64 (f.ep:Int)),.c (Q9 []),.c (Q9 []),.c (.bool f.pres),.c (.int .i64 (f.ver:Int)),.c (Q9 f.x),.c (Q9 []),.c (Q9 []),.c sv,.c (.bool f.th),.a 32 f.ek,.a 32 f.ev,.c (Q9 []),.c (Q9 []),.c (Q9 []),.c (.int .i64 (f.rd:Int))])) (fun W hS=>J1m [(0,[.c (.int .i64 (f.ep:Int))]),(3,[.c (.bool f.pres)]),(4,[.c (.int .i64 (f.ver:Int))]),(5,[.c (Q9 f.x)]),(8,[.c sv,.c (.bool f.th),.a 32 f.ek,.a 32 f.ev]),(15,[.c (.int .i64 (f.rd:Int))])] rfl rfl J78 J79 (.c rfl (.c rfl (.c rfl (.c rfl (.c rfl (.c rfl .n))))))) ?_;refine MN (z:=Q5 [.c (.int .i64 0),.c (Q9 []),.c (Q9 []),.c (.bool false),.c (.int .i64 0),.c (Q9 []),.c (Q9 []),.c (Q9 []),.c (.slice none 0 0),.c (.bool false),.a 32 0,.a 32 0,.c (Q9 []),.c (Q9 []),.c (Q9 []),.c (.int .i64 0)]) (t:=61) ?_;intro M;refine MRa 0 ?_ (h1:=by exact(K3 ⟨rfl,rfl,rfl,rfl,rfl,rfl,rfl,rfl,huc_s.2,rfl,rfl,rfl,rfl,rfl,trivial⟩));refine MZ fun W hS=> ?_;go_upto_region 3 with fail;refine RTp [1,2,3] (.q 0 (.q 1 (.q 2 (.q 3 (.q 4 (.q 5 (.q 6 (.q 7 (.q 8 (.q 9 (.q 10 (.q 11 (.q 12 (.e 13 (.q 14 (.e 15 (.q 16 (.e 17 (.q 18 (.e 19 .z)))))))))))))))))))) hS ?_;clear hS;refine TV ?_;refine TW ?_ (v:=.slice (some ⟨D,1,none⟩) 32 32);refine TF (v:=Q9 (lb 32 f.ix)) rfl (fun W hS=>J0l (Z6 (V:=f.ix) (n:=32) (off:=1) (c:=32) (hS.blk (i:=2) rfl) (X9 (off:=1) 1) (by decide) (by decide)) rfl rfl) ?_;refine TV ?_;refine TW ?_ (v:=.slice (some ⟨D,33,none⟩) 80 80);refine TF (v:=Q9 (lb 80 f.pf)) rfl (fun W hS=>J0l (Z6 (V:=f.pf) (n:=80) (off:=33) (c:=80) (hS.blk (i:=2) rfl) (X9 (off:=33) 2) (by decide) (by decide)) rfl rfl) ?_;refine TV ?_;refine TW ?_ (v:=.slice (some ⟨D,116,none⟩) 32 32);refine TF (v:=Q9 (lb 32 f.bd)) rfl (fun W hS=>J0l (Z6 (V:=f.bd) (n:=32) (off:=116) (c:=32) (hS.blk (i:=2) rfl) (X9 (off:=116) 6) (by decide) (by decide)) rfl rfl) ?_;refine TV ?_;refine TW ?_ (v:=.slice (some ⟨D,148,none⟩) 32 32);refine TF (v:=Q9 (lb 32 f.op)) rfl (fun W hS=>J0l (Z6 (V:=f.op) (n:=32) (off:=148) (c:=32) (hS.blk (i:=2) rfl) (X9 (off:=148) 7) (by decide) (by decide)) rfl rfl) ?_;refine TV ?_;refine TE (fun _ h=>h.pick [1,2,3]) ?_;refine MP 0 (v:=Q9 (lb 32 f.ix)) (cs' :=Q5 [.c (.int .i64 (f.ep:Int)),.c (Q9 (lb 32 f.ix)),.c (Q9 []),.c (.bool f.pres),.c (.int .i64 (f.ver:Int)),.c (Q9 f.x),.c (Q9 []),.c (Q9 []),.c sv,.c (.bool f.th),.a 32 f.ek,.a 32 f.ev,.c (Q9 []),.c (Q9 []),.c (Q9 []),.c (.int .i64 (f.rd:Int))]) ?_ (hs:=agl) (hc:=V6 (off:=1) 1);refine K5 [1,2,3] [0,1,2] ?_;refine TV ?_;refine TE (fun _ h=>h.pick [1,2,3]) ?_;refine MP 0 (v:=Q9 (lb 80 f.pf)) (cs' :=Q5 [.c (.int .i64 (f.ep:Int)),.c (Q9 (lb 32 f.ix)),.c (Q9 (lb 80 f.pf)),.c (.bool f.pres),.c (.int .i64 (f.ver:Int)),.c (Q9 f.x),.c (Q9 []),.c (Q9 []),.c sv,.c (.bool f.th),.a 32 f.ek,.a 32 f.ev,.c (Q9 []),.c (Q9 []),.c (Q9 []),.c (.int .i64 (f.rd:Int))]) ?_ (hs:=agl) (hc:=V6 (off:=2) 2);refine K5 [1,2,3] [0,1,2] ?_;refine TV ?_;refine TE (fun _ h=>h.pick [1,2,3]) ?_;refine MP 0 (v:=Q9 (lb 32 f.bd)) (cs' :=Q5 [.c (.int .i64 (f.ep:Int)),.c (Q9 (lb 32 f.ix)),.c (Q9 (lb 80 f.pf)),.c (.bool f.pres),.c (.int .i64 (f.ver:Int)),.c (Q9 f.x),.c (Q9 (lb 32 f.bd)),.c (Q9 []),.c sv,.c (.bool f.th),.a 32 f.ek,.a 32 f.ev,.c (Q9 []),.c (Q9 []),.c (Q9 []),.c (.int .i64 (f.rd:Int))]) ?_ (hs:=agl) (hc:=V6 (off:=6) 6);refine K5 [1,2,3] [0,1,2] ?_;refine TV ?_;refine TE (fun _ h=>h.pick [1,2,3]) ?_;refine MP 0 (v:=Q9 (lb 32 f.op)) (cs' :=Q5 [.c (.int .i64 (f.ep:Int)),.c (Q9 (lb 32 f.ix)),.c (Q9 (lb 80 f.pf)),.c (.bool f.pres),.c (.int .i64 (f.ver:Int)),.c (Q9 f.x),.c (Q9 (lb 32 f.bd)),.c (Q9 (lb 32 f.op)),.c sv,.c (.bool f.th),.a 32 f.ek,.a 32 f.ev,.c (Q9 []),.c (Q9 []),.c (Q9 []),.c (.int .i64 (f.rd:Int))]) ?_ (hs:=agl) (hc:=V6 (off:=7) 7);refine K5 [1,2,3] [0,1,2] ?_;refine TZ (fun _ h=>h.pick [1,2,3]) fun W hS=> ?_;go_upto_region 4 with fail;refine RTp [1,2,3] (.q 0 (.q 1 (.q 2 (.q 3 (.q 4 (.q 5 (.q 6 (.q 7 (.q 8 (.q 9 (.e 10 (.q 11 (.e 12 (.q 13 (.e 14 .z))))))))))))))) hS ?_;clear hS;refine TV ?_;refine TW ?_ (v:=.slice (some ⟨D,246,none⟩) 32 32);refine TF (v:=Q9 (lb 32 f.ro)) rfl (fun W hS=>J0l (Z6 (V:=f.ro) (n:=32) (off:=246) (c:=32) (hS.blk (i:=2) rfl) (X9 (off:=246) 12) (by decide) (by decide)) rfl rfl) ?_;refine TV ?_;refine TW ?_ (v:=.slice (some ⟨D,278,none⟩) 32 32);refine TF (v:=Q9 (lb 32 f.li)) rfl (fun W hS=>J0l (Z6 (V:=f.li) (n:=32) (off:=278) (c:=32) (hS.blk (i:=2) rfl) (X9 (off:=278) 13) (by decide) (by decide)) rfl rfl) ?_;refine TV ?_;refine TW ?_ (v:=.slice (some ⟨D,310,none⟩) 32 32);refine TF (v:=Q9 (lb 32 f.ah)) rfl (fun W hS=>J0l (Z6 (V:=f.ah) (n:=32) (off:=310) (c:=32) (hS.blk (i:=2) rfl) (X9 (off:=310) 14) (by decide) (by decide)) rfl rfl) ?_;refine TV ?_;refine TE (fun _ h=>h.pick [1,2,3]) ?_;refine MP 0 (v:=Q9 (lb 32 f.ro)) (cs' :=Q5 [.c (.int .i64 (f.ep:Int)),.c (Q9 (lb 32 f.ix)),.c (Q9 (lb 80 f.pf)),.c (.bool f.pres),.c (.int .i64 (f.ver:Int)),.c (Q9 f.x),.c (Q9 (lb 32 f.bd)),.c (Q9 (lb 32 f.op)),.c sv,.c (.bool f.th),.a 32 f.ek,.a 32 f.ev,.c (Q9 (lb 32 f.ro)),.c (Q9 []),.c (Q9 []),.c (.int .i64 (f.rd:Int))]) ?_ (hs:=agl) (hc:=V6 (off:=74) 12);refine K5 [1,2,3] [0,1,2] ?_;refine TV ?_;refine TE (fun _ h=>h.pick [1,2,3]) ?_;refine MP 0 (v:=Q9 (lb 32 f.li)) (cs' :=Q5 [.c (.int .i64 (f.ep:Int)),.c (Q9 (lb 32 f.ix)),.c (Q9 (lb 80 f.pf)),.c (.bool f.pres),.c (.int .i64 (f.ver:Int)),.c (Q9 f.x),.c (Q9 (lb 32 f.bd)),.c (Q9 (lb 32 f.op)),.c sv,.c (.bool f.th),.a 32 f.ek,.a 32 f.ev,.c (Q9 (lb 32 f.ro)),.c (Q9 (lb 32 f.li)),.c (Q9 []),.c (.int .i64 (f.rd:Int))]) ?_ (hs:=agl) (hc:=V6 (off:=75) 13);refine K5 [1,2,3] [0,1,2] ?_;refine TV ?_;refine TE (fun _ h=>h.pick [1,2,3]) ?_;refine MP 0 (v:=Q9 (lb 32 f.ah)) (cs' :=Q5 [.c (.int .i64 (f.ep:Int)),.c (Q9 (lb 32 f.ix)),.c (Q9 (lb 80 f.pf)),.c (.bool f.pres),.c (.int .i64 (f.ver:Int)),.c (Q9 f.x),.c (Q9 (lb 32 f.bd)),.c (Q9 (lb 32 f.op)),.c sv,.c (.bool f.th),.a 32 f.ek,.a 32 f.ev,.c (Q9 (lb 32 f.ro)),.c (Q9 (lb 32 f.li)),.c (Q9 (lb 32 f.ah)),.c (.int .i64 (f.rd:Int))]) ?_ (hs:=agl) (hc:=V6 (off:=76) 14);refine K5 [1,2,3] [0,1,2] ?_;refine TZ (fun _ h=>h.pick [1,2,3]) fun W hS=> ?_;go_upto_region 5 with fail;refine RL hS ?_;clear hS;refine ML 0 ?_ (hs:=by rw[J7];kernel_rfl);refine MRa 2 ?_ (h1:=by exact(K3 ⟨rfl,rfl,rfl,rfl,rfl,rfl,rfl,rfl,huc_s.2,rfl,rfl,rfl,rfl,rfl,trivial⟩));refine MZ fun W hS=> ?_;go_wp2;exact bodyPost_ret (Y0 rfl rfl (hS.blk (i:=2) rfl) (by kernel_rfl) (by rw[J7];kernel_rfl)) rfl ⟨rfl,hS.ext⟩
end

section
theorem Q1g {α β:Type}(g:α→β)(l:List α)(d:α):g (l.getLastD d)=(l.map g).getLastD (g d):=by
  rw[List.getLastD_eq_getLast?,List.getLastD_eq_getLast?,List.getLast?_map];cases l.getLast?<;>rfl
def mdZ:Md:=⟨[],[],0,0⟩
def DD.lastM (D:DD)(l:List UInt8)(e:Nat):Md:=((D.made.filter fun m=>decide (m.l=l)).filter fun m=>decide (m.ep≤e)).getLastD mdZ
def g3 (e:En):Nat×Nat×List UInt8:=(e.ep,e.ver,e.x)
def h3 (m:Md):Nat×Nat×List UInt8:=(m.ep,m.ver,m.x)
theorem Y69 {D:DD}{y:LD}(hL:LOk D y){a:Ac}(ha:a∈y.acs)(e:Nat):g3 (J0x a.es (e:Int))=h3 (D.lastM a.l e):=by
  have h1:a.es.map g3=(D.made.filter fun m=>decide (m.l=a.l)).map h3:=hL.e a ha;unfold J0x DD.lastM;rw[Q1g g3,Q1g h3]
  have e1:(a.es.filter fun x=>decide ((x.ep:Int)≤(e:Int))).map g3=(a.es.map g3).filter fun z=>decide (z.1≤e):=by
    rw[List.filter_map]
    congr 1
    refine List.filter_congr fun x _=> ?_;show decide ((x.ep:Int)≤(e:Int))=decide (x.ep≤e)
    by_cases hx:x.ep≤e
    · rw[decide_eq_true hx,decide_eq_true (by omega)]
    rw[decide_eq_false hx,decide_eq_false (by omega)]
  have e2:((D.made.filter fun m=>decide (m.l=a.l)).filter fun m=>decide (m.ep≤e)).map h3=((D.made.filter fun m=>decide (m.l=a.l)).map h3).filter fun z=>decide (z.1≤e):=by
    rw[List.filter_map];rfl
  rw[e1,e2,h1];rfl
theorem Y6a {D:DD}{l:List UInt8}(h:l∉D.labs)(e:Nat):D.lastM l e=mdZ:=by
  unfold DD.lastM
  have h1:(D.made.filter fun m=>decide (m.l=l))=[]:=by
    refine List.filter_eq_nil_iff.2 fun m hm hc=> ?_;have hl:m.l=l:=by simpa using hc
    exact h (DD.mem_labs.2 ⟨(m.l,m.x),List.mem_append.2 (.inl (DD.made_mem hm).2),hl⟩)
  rw[h1];rfl
def DD.lk (D:DD)(l:List UInt8)(e:Nat):Fnd:=fnd D (ixN D.vk l) (pfN D.vk l) e (D.lastM l e).ver (D.lastM l e).x
theorem V2r {D:DD}{y:LD}{l:List UInt8}{v:Value}{n:Int}{e:Nat}(hn:n=(e:Int)∨n= -1∧(e:Int)=((D.puts.length-1:Nat):Int))(he:e<D.puts.length)(h0:erN D.vk l=0)(w:World)(hX:GX w)(hD:DK D y w)(hL:LOk D y)(hK:DOk D)(hs:Sl w v l)(hl:1≤l.length∧l.length≤32):
    Calls Tryz.prog 12 #[.pointer (some ⟨y.p,0,none⟩),v,.int .i64 n] w fun en w' =>Y04 (D.lk l e) w w' en:=by
  unfold DD.lk
  by_cases h1:l∈D.labs
  · obtain⟨a,ha,G⟩:=hL.accU h1
    have h2:=Y69 hL ha e;rw[G] at h2;injection h2 with e1 e2
    injection e2 with e2 e3
    have h:=Z2l (x0:=J0x a.es (e:Int)) (ix:=ixN D.vk l) (pf:=pfN D.vk l) hn he rfl rfl rfl ha G w hX hD hL hK hs hl;rw[e2,e3] at h;exact h
  rw[Y6a h1 e];exact V2s (x0:=J0x [] (e:Int)) (ix:=ixN D.vk l) (pf:=pfN D.vk l) hn he rfl rfl rfl h1 h0 w hX hD hL hK hs hl
theorem V2t {D:DD}{y:LD}{l:List UInt8}{v:Value}{n:Int}{e:Nat}(hn:n=(e:Int)∨n= -1∧(e:Int)=((D.puts.length-1:Nat):Int))(he:e<D.puts.length)(h0:erN D.vk l≠0)(w:World)(hX:GX w)(hD:DK D y w)(hL:LOk D y)(hK:DOk D)(hs:Sl w v l)(hl:1≤l.length∧l.length≤32):
    Calls Tryz.prog 12 #[.pointer (some ⟨y.p,0,none⟩),v,.int .i64 n] w fun en w' =>X5 (.tuple #[.agg fdZ,.int .i64 (erN D.vk l:Int)]) w w' en:=
  V2u hn he rfl h0 (fun h1=>h0 (hK.lab l h1).2.2) w hX hD hL hK hs hl
theorem Z7p (D:DD)(a x l:List UInt8)(e:Nat):(D.put a x).lastM l e=D.lastM l e:=rfl
theorem Z7q {D:DD}{l:List UInt8}{e:Nat}(h:e<D.puts.length):D.nxt.lastM l e=D.lastM l e:=by
  have h1:=DD.upto_nxt_lt (D:=D) h
  have h2:∀X:DD,X.lastM l e=((X.upto e).filter fun m=>decide (m.l=l)).getLastD mdZ:=fun X=>by
    unfold DD.lastM DD.upto;rw[List.filter_filter,List.filter_filter]
    congr 2
    funext m
    exact Bool.and_comm ..
  rw[h2,h2,h1]
theorem Y6c {D:DD}{e:Nat}(h:e<D.puts.length):ahd D.nxt e=ahd D e:=by
  unfold ahd;rw[DD.link_nxt (by omega)]
theorem Y6d {D:DD}{ix pf e ver:Nat}{x:List UInt8}(h:e<D.puts.length):fnd D.nxt ix pf e ver x=fnd D ix pf e ver x:=by
  unfold fnd;rw[DD.tree_nxt h,DD.link_nxt h,Y6c h];rfl
theorem Y6e {D:DD}{a b x:List UInt8}{ix pf e ver:Nat}:fnd (D.put a b) ix pf e ver x=fnd D ix pf e ver x:=by
  have h1:(D.put a b).tree e=D.tree e:=rfl;have h2:ahd (D.put a b) e=ahd D e:=by unfold ahd;rw[DD.link_put]
  unfold fnd;rw[h1,DD.link_put,h2];rfl
theorem V2v {D:DD}{l:List UInt8}{e:Nat}(h:e<D.puts.length):D.nxt.lk l e=D.lk l e:=by
  unfold DD.lk;rw[Z7q h,Y6d h];rfl
theorem V2w {D:DD}{a b l:List UInt8}{e:Nat}:(D.put a b).lk l e=D.lk l e:=by
  unfold DD.lk;rw[Z7p,Y6e];rfl
structure After (D D' :DD):Prop where
  n:D.puts.length≤D'.puts.length
  vk:D'.vk=D.vk
  lk:∀l e,e<D.puts.length→D'.lk l e=D.lk l e
  tr:∀e,e<D.puts.length→D'.tree e=D.tree e
  li:∀e,e<D.puts.length→D'.link e=D.link e
theorem After.rfl {D:DD}:After D D:=⟨Nat.le_refl _,Eq.refl _,fun _ _ _=>Eq.refl _,fun _ _=>Eq.refl _,fun _ _=>Eq.refl _⟩
theorem After.trans {A B C:DD}(h:After A B)(k:After B C):After A C where
  n:=Nat.le_trans h.n k.n
  vk:=k.vk.trans h.vk
  lk:=fun l e he=>(k.lk l e (Nat.lt_of_lt_of_le he h.n)).trans (h.lk l e he)
  tr:=fun e he=>(k.tr e (Nat.lt_of_lt_of_le he h.n)).trans (h.tr e he)
  li:=fun e he=>(k.li e (Nat.lt_of_lt_of_le he h.n)).trans (h.li e he)
theorem After.put {D:DD}{a b:List UInt8}:After D (D.put a b):=⟨Nat.le_refl _,Eq.refl _,fun _ _ _=>V2w,fun _ _=>Eq.refl _,fun e _=>DD.link_put D a b e⟩
theorem After.nxt {D:DD}:After D D.nxt:=⟨by rw[DD.nxt_len];exact Nat.le_succ _,Eq.refl _,fun _ _ h=>V2v h,fun _ h=>DD.tree_nxt h,fun _ h=>DD.link_nxt h⟩
theorem After.play (D:DD)(wt n:Int)(raw val:List UInt8):After D (D.play wt n raw val):=by
  unfold DD.play DD.sealD DD.putD
  split
  · split
    · exact .nxt
    exact .rfl
  split
  · exact .put
  exact .rfl
end

section
set_option maxHeartbeats 3000000
attribute [local irreducible] wpList V2 wpX
attribute [local irreducible] lb
theorem Y6g {ss:List Nat}{sv tv:Value}{th:Bool}{a x b z:Nat}(hn:ss.length≤1000000)(hend:th=true→a=b∧x=z)(ha:a<2^256)(hx:x<2^256)(w:World)(hp:RR 32 w sv (ss.map J0d))(hr:RR 32 w tv (ss.map J0d)):
  Calls Tryz.prog 50 #[.agg (pfc sv th a x),.agg (pfc tv th b z)] w fun e w' =>X5 (.bool true) w w' e:=by
 obtain⟨Ap,cp,rfl,Y,T⟩:=RR.opf hp;obtain⟨Ar,cr,rfl,X,U⟩:=RR.opf hr;have hS:=SH.nil [] w
 go_enter Tryz.func50,Tryz.ntmps50
 go_upto_region 0 with fail;refine RL hS ?_;clear hS;refine MN (z:=pfc (.slice Ap ss.length cp) th a x) (t:=59) ?_;intro K9;refine MN (z:=pfc (.slice Ar ss.length cr) th b z) (t:=59) ?_;intro V;refine Wf ?_;refine MZ fun W hS=> ?_;rcases th with _|_
 ·
  go_upto_region 1 with fail;refine RL hS ?_;clear hS;refine MV ?_;refine MG 1 ?_ (v:=.slice Ap ss.length cp) (hj:=Q44);refine MV ?_;refine MV ?_;refine MG 0 ?_ (v:=.slice Ar ss.length cr) (hj:=Q44);refine MV ?_;refine Wf ?_;refine Wf ?_;refine MV ?_;refine MG 1 ?_ (v:=.bool false) (hj:=Z87);refine MV ?_;refine MG 0 ?_ (v:=.bool false) (hj:=Z87);(iterate 3 refine Wf ?_);refine MV ?_;refine MG 1 ?_ (v:=.bool false) (hj:=Z87);refine Wf ?_;(iterate 5 refine MS ?_);refine Wf ?_;refine Wf ?_;refine MZ fun W hS=> ?_
  go_wp2_with fail
  go_loopw [5] (fun ii wr=> ∃(i:Nat),(i≤ss.length)∧(ii=.int .i64 (i:Int))∧SH [] w wr [.b K9 (pfc (.slice Ap ss.length cp) false a x) 59,.b V (pfc (.slice Ar ss.length cr) false b z) 59])
   (fun ii _=>ss.length-(intOf ii).toNat)
  case atStart=>exact⟨0,Nat.zero_le _,rfl,(hS.pick [1,0])⟩
  clear hS
  case round=>
   obtain⟨i,hi,rfl,hS⟩:=hrel
   by_cases D:i<ss.length
   ·
    obtain⟨y,yh⟩:∃x,ss[i]?=some x:=⟨_,List.getElem?_eq_getElem D⟩
    obtain⟨gp,op,G,S⟩:=T.out i y yh;have M:=Lib.hid G;clear G;obtain⟨gr,or,J,R⟩:=U.out i y yh;have N:=Lib.hid J;clear J;go_upto_region 4 with fail;refine RL hS ?_;clear hS;refine MV ?_;refine MV ?_;refine MG 0 ?_ (v:=.slice Ap ss.length cp) (hj:=Q44);refine MV ?_;refine Wt ?_;refine MZ fun W hS=> ?_;go_upto_region 6 with fail;refine RTh (.q 0 (.q 1 (.q 2 (.q 3 (.q 4 (.q 5 (.q 6 (.q 7 (.q 8 (.q 9 (.q 10 .z))))))))))) hS ?_;clear hS;refine TV ?_;refine TG 0 ?_ (v:=.slice Ap ss.length cp) (hj:=Q44);refine TV ?_;refine TW ?_ (v:=.pointer (some ⟨gp,op+i*32,none⟩)) (hv:=fun _=>J0k M.out D rfl rfl rfl Tryz.underlying41 (by kernel_rfl));refine TF (v:=.agg (J0 .u8 32 (J5 y))) rfl (fun W hS=>V3 rfl rfl (fun i_ v hv=>J0a (S i_ v (by simpa using hv)) hS.ext) (by kernel_rfl) (by rw[J1];kernel_rfl)) ?_;refine TV ?_;refine TG 1 ?_ (v:=.slice Ar ss.length cr) (hj:=Q44);refine TV ?_;refine TW ?_ (v:=.pointer (some ⟨gr,or+i*32,none⟩)) (hv:=fun _=>J0k N.out D rfl rfl rfl Tryz.underlying41 (by kernel_rfl));refine TF (v:=.agg (J0 .u8 32 (J5 y))) rfl (fun W hS=>V3 rfl rfl (fun i_ v hv=>J0a (R i_ v (by simpa using hv)) hS.ext) (by kernel_rfl) (by rw[J1];kernel_rfl)) ?_;refine TW ?_ (v:=.bool false) (hv:=fun _=>J2l ((fun w=>V0w rfl w) _) (by kernel_rfl) rfl rfl rfl);refine TZ (fun _ h=>h) fun W hS=> ?_;go_wp2;go_roundw
    case rel=>exact⟨i+1,by omega,by go_num,hS⟩
    case measure=>simp[intOf];omega
   go_upto_region 4 with fail;refine RL hS ?_;clear hS;refine MV ?_;refine MV ?_;refine MG 0 ?_ (v:=.slice Ap ss.length cp) (hj:=Q44);refine MV ?_;refine Wf ?_;refine MZ fun W hS=> ?_;go_wp2;exact bodyPost_ret (v:=.bool true) (by simp only[results,Tryz.results50];go_simp) rfl ⟨rfl,hS.ext⟩
 obtain⟨rfl,rfl⟩:=hend rfl;go_upto_region 1 with fail;refine RL hS ?_;clear hS;refine MV ?_;refine MG 1 ?_ (v:=.slice Ap ss.length cp) (hj:=Q44);refine MV ?_;refine MV ?_;refine MG 0 ?_ (v:=.slice Ar ss.length cr) (hj:=Q44);refine MV ?_;refine Wf ?_;refine Wf ?_;refine MV ?_;refine MG 1 ?_ (v:=.bool true) (hj:=Z87);refine MV ?_;refine MG 0 ?_ (v:=.bool true) (hj:=Z87);(iterate 3 refine Wf ?_);refine MV ?_;refine MG 1 ?_ (v:=.bool true) (hj:=Z87);refine Wt ?_;refine MV ?_;refine Ml 1 K00 ?_ (hz:=by first|kernel_rfl|(rw[X6];kernel_rfl));refine MV ?_;refine Ml 0 K00 ?_ (hz:=by first|kernel_rfl|(rw[X6];kernel_rfl));refine MW ?_ (v:=.bool false) (hv:=fun _=>J2l ((fun w=>(K48 (a,x) (a,x) ⟨ha,hx⟩ ⟨ha,hx⟩ w).trans (by rw[decide_eq_true rfl])) _) (by kernel_rfl) rfl rfl rfl);refine Wf ?_;refine Wf ?_;refine MZ fun W hS=> ?_
 go_wp2_with fail
 go_loopw [5] (fun ii wr=> ∃(i:Nat),(i≤ss.length)∧(ii=.int .i64 (i:Int))∧SH [] w wr [.b K9 (pfc (.slice Ap ss.length cp) true a x) 59,.b V (pfc (.slice Ar ss.length cr) true a x) 59])
  (fun ii _=>ss.length-(intOf ii).toNat)
 case atStart=>exact⟨0,Nat.zero_le _,rfl,(hS.pick [1,0])⟩
 clear hS
 case round=>
  obtain⟨i,hi,rfl,hS⟩:=hrel
  by_cases D:i<ss.length
  ·
   obtain⟨y,yh⟩:∃x,ss[i]?=some x:=⟨_,List.getElem?_eq_getElem D⟩
   obtain⟨gp,op,G,S⟩:=T.out i y yh;have M:=Lib.hid G;clear G;obtain⟨gr,or,J,R⟩:=U.out i y yh;have N:=Lib.hid J;clear J;go_upto_region 4 with fail;refine RL hS ?_;clear hS;refine MV ?_;refine MV ?_;refine MG 0 ?_ (v:=.slice Ap ss.length cp) (hj:=Q44);refine MV ?_;refine Wt ?_;refine MZ fun W hS=> ?_;go_upto_region 6 with fail;refine RTh (.q 0 (.q 1 (.q 2 (.q 3 (.q 4 (.q 5 (.q 6 (.q 7 (.q 8 (.q 9 (.q 10 .z))))))))))) hS ?_;clear hS;refine TV ?_;refine TG 0 ?_ (v:=.slice Ap ss.length cp) (hj:=Q44);refine TV ?_;refine TW ?_ (v:=.pointer (some ⟨gp,op+i*32,none⟩)) (hv:=fun _=>J0k M.out D rfl rfl rfl Tryz.underlying41 (by kernel_rfl));refine TF (v:=.agg (J0 .u8 32 (J5 y))) rfl (fun W hS=>V3 rfl rfl (fun i_ v hv=>J0a (S i_ v (by simpa using hv)) hS.ext) (by kernel_rfl) (by rw[J1];kernel_rfl)) ?_;refine TV ?_;refine TG 1 ?_ (v:=.slice Ar ss.length cr) (hj:=Q44);refine TV ?_;refine TW ?_ (v:=.pointer (some ⟨gr,or+i*32,none⟩)) (hv:=fun _=>J0k N.out D rfl rfl rfl Tryz.underlying41 (by kernel_rfl));refine TF (v:=.agg (J0 .u8 32 (J5 y))) rfl (fun W hS=>V3 rfl rfl (fun i_ v hv=>J0a (R i_ v (by simpa using hv)) hS.ext) (by kernel_rfl) (by rw[J1];kernel_rfl)) ?_;refine TW ?_ (v:=.bool false) (hv:=fun _=>J2l ((fun w=>V0w rfl w) _) (by kernel_rfl) rfl rfl rfl);refine TZ (fun _ h=>h) fun W hS=> ?_;go_wp2;go_roundw
   case rel=>exact⟨i+1,by omega,by go_num,hS⟩
   case measure=>simp[intOf];omega
  go_upto_region 4 with fail;refine RL hS ?_;clear hS;refine MV ?_;refine MV ?_;refine MG 0 ?_ (v:=.slice Ap ss.length cp) (hj:=Q44);refine MV ?_;refine Wf ?_;refine MZ fun W hS=> ?_;go_wp2;exact bodyPost_ret (v:=.bool true) (by simp only[results,Tryz.results50];go_simp) rfl ⟨rfl,hS.ext⟩
end
end Go.Proofs.YteehbddkcnkhfaaGreatDoor

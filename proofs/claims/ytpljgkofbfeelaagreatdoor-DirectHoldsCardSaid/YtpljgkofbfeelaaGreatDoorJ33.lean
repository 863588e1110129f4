/- Contracts and plain laws for directHolds_holds. Conditions: the tables hold their numbers. -/
import Derived.Test.YtpljgkofbfeelaaGreatDoorJ32
open Go renaming World->AA,Value->AB,bodyPost_ret->BC,Calls->Az,IntKind->AG
open Go.Lib renaming hid->BF
open _root_.List renaming length_append->Ai,length_cons->AV,mem_singleton->Ae,nil_append->BM,length_nil->Al,getElem?_eq_getElem->Af,cons_append->BK,mem_append->Ar
open _root_.Nat renaming mod_eq_of_lt->AI,le_refl->AJ,zero_le->Ah,lt_of_lt_of_le->Au,mod_lt->BH
open Go.RowKit
set_option maxRecDepth 100000
set_option linter.unusedSimpArgs false
set_option linter.unusedVariables false
namespace Go.Proofs.YtpljgkofbfeelaaGreatDoor
section
set_option maxHeartbeats 3000000
attribute [local irreducible] wpList Z9 wpX
open S8 (Kn GA kP)
theorem Z3t {D' :DD}{z:LD}{W:AA}{R:List As}(hR:tyD R=true)(h1:OldF [] W (Q1t z.bs))(h2:OldF [] W (Q2y z.pvs)):SH.okQ [] R W (ldL D' z):=by
 refine⟨.inr (.inl ⟨rfl,J31 hR fun T e=> ?_⟩),.inr (.inl ⟨rfl,J31 hR fun T e=> ?_⟩),.inr (.inl ⟨rfl,J31 hR fun T e=> ?_⟩),.inr (.inl ⟨rfl,J31 hR fun T e=> ?_⟩),.inr (.inl ⟨rfl,J31 hR fun T e=> ?_⟩),.inr (.inl ⟨rfl,J31 hR fun T e=> ?_⟩),.inr (.inl ⟨rfl,J31 hR fun T e=> ?_⟩),.inr (.inl ⟨rfl,J31 hR fun T e=> ?_⟩),.inr (.inr (.inr ⟨_,_,rfl,h1⟩)),.inr (.inr (.inr ⟨_,_,rfl,h2⟩)),.inr (.inr (.inl ⟨_,_,rfl,Y96 hR⟩)),trivial⟩
 ·
  injection e with e;exact .inl e.symm
 ·
  cases e
 ·
  injection e with e;exact .inr (.inl e.symm)
 ·
  injection e with e;exact .inr (.inr (.inl e.symm))
 ·
  injection e with e;exact .inr (.inr (.inr (.inl e.symm)))
 ·
  injection e with e;exact .inr (.inr (.inr (.inr (.inl e.symm))))
 ·
  injection e with e;exact .inr (.inr (.inr (.inr (.inr (.inl e.symm)))))
 injection e with e;exact .inr (.inr (.inr (.inr (.inr (.inr e.symm)))))
def NOk (D:DD)(w:AA)(y:LD):Prop:=LOk D y∧OldF [] w (Q1t y.bs)∧OldF [] w (Q2y y.pvs)
theorem Y0m {P:Program}{f:FuncId}{args:Array AB}{F:List Nat}{w W:AA}{H:List As}{D:DD}(hS:SH F w W H)
  (hc:Az P f args W fun e W' => ∃y:{y:LD // LOk D y∧OldF [] W (Q1t y.bs)∧OldF [] W (Q2y y.pvs)},e=.returned (.tuple #[.pointer (some ⟨y.1.p,0,none⟩),.int .i64 0])∧SH [] W W' (ldL D y.1)) (hR:tyD H=true):
  Az P f args W fun e W' => ∃y:{y:LD // NOk D w y},e=.returned (.tuple #[.pointer (some ⟨y.1.p,0,none⟩),.int .i64 0])∧SH F w W' (ldL D y.1++H):=
 hc.mono fun e W' ⟨y,h1,h2⟩=>⟨⟨y.1,y.2.1,y.2.2.1.back hS.off.size,y.2.2.2.back hS.off.size⟩,h1,SH.frameQ (L:=[]) hS h2 (Z3t hR y.2.2.1 y.2.2.2)⟩
attribute [local irreducible] eI be8 hs4 lb J33 J25 K3 xt hm pbs DD.tree DD.link rs S8.kP S8.kN S8.kD ofT ebs lk0 sE sL sN opn bnd ahd bsd ixN pfN erN J0l DD.links DD.trees DD.play DD.putD DD.sealD

theorem V1t {idl J:List UInt8}{vk bk:Nat}{iu:AB}{L P E:Nat}(hJ:idl.take 30=J)(hN:NewOk J L P E){q:Prop}(hr:q)(w:AA)(hG:GT q w)(hX:GX w)(hi:Sl w iu idl):
  Az Tryz.prog 16 #[.agg (Q2 [.c iu,.a 32 vk,.a 32 bk,.c (.int .i64 (L:Int)),.c (.int .i64 (P:Int)),.c (.int .i64 (E:Int))])] w fun e w' => ∃z:{y:LD // NOk (J56 J vk bk L P E) w y}×Nat×Nat×Nat,e=.returned (.tuple #[.pointer (some ⟨z.1.1.p,0,none⟩),.pointer (some ⟨z.2.1,0,none⟩),.bool true])∧SH [] w w' (ldL (J56 J vk bk L P E) z.1.1++[gx]++[.b z.2.1 (Q2 [.c (V3 J),.c (V3 (lb 32 vk)),.c (V3 (lb 32 bk)),.c (.int .i64 (L:Int)),.c (.int .i64 (P:Int)),.c (.int .i64 (E:Int)),.c (.slice none 0 0),.c (.slice none 0 0),.c (.slice (some ⟨z.2.2.1,0,none⟩) 1 1),.c (.slice (some ⟨z.2.2.2,0,none⟩) 1 1),.c (.slice none 0 0)]) 120,.b z.2.2.1 #[V3 (lb 32 sE)] 9,.b z.2.2.2 #[V3 (lb 32 (lk0 J))] 9]):=by
 have X:=J6 hi;have β:=hN.i2;have hS:=SH.nil [] w;have hS:=hS.entp (J82 hX)
 go_enter Tryz.func16,Tryz.ntmps16
 go_upto_region 0 with fail;refine RL hS ?_;clear hS;refine MN (z:=Q2 [.c iu,.a 32 vk,.a 32 bk,.c (.int .i64 (L:Int)),.c (.int .i64 (P:Int)),.c (.int .i64 (E:Int))]) (t:=29) ?_;intro U0;refine MV ?_;refine MV ?_;refine Wf ?_;refine MZ fun W hS=> ?_;go_upto_region 1 with fail;refine RL hS ?_;clear hS;refine MO (m:=[]) (n:=0) (z:= #[]) ?_;intro Z;refine MV ?_;refine MG 1 ?_ (v:=iu) (hj:=(J5 (off:=0) 0));refine MV ?_;refine MG 1 ?_ (v:=iu) (hj:=(J5 (off:=0) 0));refine MF (v:=.int .i64 (idl.length:Int)) (fun W hS=>Q8 (K4 hi hS.ext) rfl rfl) ?_;refine MW ?_ (v:=.int .i64 ((min idl.length 30:Nat):Int));refine MT (fun W hS=>hS.ent hi) ?_;refine MH 0 (min idl.length 30) (m:=idl) (m' :=J) (by exact Nat.min_le_left _ _) ?_ (hm:=((J90 30 idl).trans hJ));intro R;refine MA 2 (xs:=[]) (ys:=J) (fun W hS=>(hS.sl (i:=0) rfl)) (by first|omega|(simp only[lA,lM,lT,lD,lC,lN,J7,Y8,Z0,Z5];omega)) ?_;intro N;refine MV ?_;refine MZ fun W hS=> ?_;go_upto_region 2 with fail;refine RL hS ?_;clear hS;refine MV ?_;refine Mk 3 ?_ (sub:=Q2 [.c (.int .i64 (L:Int)),.c (.int .i64 (P:Int)),.c (.int .i64 (E:Int))]) (hs:=(J5h (off:=65) 3 3));refine MN (z:=Q2 [.c (.int .i64 0),.c (.int .i64 0),.c (.int .i64 0)]) (t:=27) ?_;intro T;refine MRa 0 ?_ (h1:=by exact(V6 ⟨rfl,rfl,rfl,trivial⟩));refine MZ fun W hS=> ?_;go_upto_region 3 with fail;refine RL hS ?_;clear hS;refine MV ?_;refine MV ?_;refine Mk 4 ?_ (sub:=Q2 [.a 32 vk,.a 32 bk]) (hs:=(J5h (off:=1) 1 2));refine MV ?_;refine MG 0 ?_ (v:=.int .i64 (L:Int)) (hj:=(J5 (off:=0) 0));refine MV ?_;refine MG 0 ?_ (v:=.int .i64 (P:Int)) (hj:=(J5 (off:=1) 1));refine MV ?_;refine MG 0 ?_ (v:=.int .i64 (E:Int)) (hj:=(J5 (off:=2) 2));refine MF (v:=.agg (Q2 [.c (.int .i64 (L:Int)),.c (.int .i64 (P:Int)),.c (.int .i64 (E:Int))])) (fun W hS=>J21 [(0,[.c (.int .i64 (L:Int))]),(1,[.c (.int .i64 (P:Int))]),(2,[.c (.int .i64 (E:Int))])] rfl rfl J3o J3p (.c rfl (.c rfl (.c rfl .n)))) ?_;refine MT (fun W hS=>by rw[BM] at hS;exact hS) ?_;refine ME (V:=fun y:{y:LD // NOk (J56 J vk bk L P E) w y}=> .tuple #[.pointer (some ⟨y.1.p,0,none⟩),.int .i64 0]) (fun W hS=>Y0m hS (Z9r hN W (hS.pp (i:=5) rfl) (hS.own (i:=3) rfl).sl) rfl) ?_;rintro⟨y,G⟩;have hL:=G.1;dsimp only[ldL,BK,BM];refine MV ?_;refine MV ?_;refine W0 ?_;refine MV ?_;refine W0 ?_;refine MZ fun W hS=> ?_;go_upto_region 4 with fail;refine RL hS ?_;clear hS;refine MV ?_;refine MF (v:=V3 J) (fun W hS=>J01 (hS.osl (i:=14) rfl) rfl rfl) ?_;refine ML 11 ?_ (hs:=by rw[J9];kernel_rfl);refine MC (v:=.bool true) (fun W hS=>V2x (id:=J) (L:=(L:Int)) (P:=(P:Int)) (E:=(E:Int)) ⟨⟨hN.i1,hN.i2⟩,⟨by have h_:=hN.l1;omega,by have h_:=hN.l2;omega⟩,⟨by have h_:=hN.p1;omega,by have h_:=hN.p2;omega⟩,by have h_:=hN.e1;omega,by have h_:=hN.e2;omega⟩ W) ?_;refine Wf ?_;refine MZ fun W hS=> ?_;go_upto_region 6 with fail;refine RTh (.q 0 (.q 1 (.q 2 (.q 3 (.q 4 (.q 5 (.q 6 (.q 7 (.q 8 (.q 9 (.q 10 (.e 11 (.q 12 .z))))))))))))) hS ?_;clear hS;refine TV ?_;refine TF (v:=V3 J) rfl (fun W hS=>J01 (hS.osl (i:=14) rfl) rfl rfl) ?_;refine TV ?_;refine TV ?_;refine TW ?_ (v:=.slice (some ⟨U0,1,none⟩) 32 32);refine TF (v:=V3 (lb 32 vk)) rfl (fun W hS=>J01 (Q7 (V:=vk) (n:=32) (off:=1) (c:=32) (hS.blk (i:=15) rfl) (K0 (off:=1) 1) (by decide) (by decide)) rfl rfl) ?_;refine TV ?_;refine TV ?_;refine TW ?_ (v:=.slice (some ⟨U0,33,none⟩) 32 32);refine TF (v:=V3 (lb 32 bk)) rfl (fun W hS=>J01 (Q7 (V:=bk) (n:=32) (off:=33) (c:=32) (hS.blk (i:=15) rfl) (K0 (off:=33) 2) (by decide) (by decide)) rfl rfl) ?_;refine TL 11 ?_ (hs:=by rw[J9];kernel_rfl);refine TE (fun _ h=>h) ?_;refine ME (V:=fun x:Nat×Nat×Nat=> .pointer (some ⟨x.1,0,none⟩)) (fun W hS=>J79 hS (V2z (id:=J) (vs:=lb 32 vk) (bs:=lb 32 bk) (L:=(L:Int)) (P:=(P:Int)) (E:=(E:Int)) hr (by omega) W (X5 hG hS.ext)) (fun _=>rfl)) ?_;rintro⟨r1,r2,r3⟩;dsimp only[BK,BM];refine TNh (fun W hS=>hS.pick [3,4,5,6,7,8,9,10,11,12,13,14,15,16,17,18,19]) ?_;refine TV ?_;refine TZ (fun _ h=>h) fun W hS=> ?_
 go_wp2_with fail
 go_loopw [10] (fun jj wr=> ∃(j:Nat),(j≤J.length)∧(jj=.int .i64 (j:Int))∧SH [] w wr [.b r1 (Q2 [.c (V3 J),.c (V3 (lb 32 vk)),.c (V3 (lb 32 bk)),.c (.int .i64 (L:Int)),.c (.int .i64 (P:Int)),.c (.int .i64 (E:Int)),.c (.slice none 0 0),.c (.slice none 0 0),.c (.slice (some ⟨r2,0,none⟩) 1 1),.c (.slice (some ⟨r3,0,none⟩) 1 1),.c (.slice none 0 0)]) 120,.b r2 #[V3 (lb 32 sE)] 9,.b r3 #[V3 (lb 32 (lk0 J))] 9,.b y.p (Q2 [.c y.uid,.a 32 ((J56 J vk bk L P E).vk),.a 32 ((J56 J vk bk L P E).bk),.c (.int .i64 ((J56 J vk bk L P E).L:Int)),.c (.int .i64 ((J56 J vk bk L P E).P:Int)),.c (.int .i64 ((J56 J vk bk L P E).E:Int)),.c (.map (some y.h)),.c y.wv,.c y.pv,.c y.tv,.c y.lv]) 81,J24 y.h (J0j y.acs),acT y.acs,enT y.acs,.r 84 2 y.wv (List.map pvC y.wps),.r 77 1 y.pv (List.map J5y y.pvs),.r 82 1 y.tv (List.map J28 y.tus),.r 23 32 y.lv (List.map J0d (J56 J vk bk L P E).links),byT y.bs,rwT y.pvs,taT (J56 J vk bk L P E).trees y.tus,.b T (Q2 [.c (.int .i64 (L:Int)),.c (.int .i64 (P:Int)),.c (.int .i64 (E:Int))]) 27,.s R J,.s iu idl,.o N (xt 17 j J),.b U0 (Q2 [.c iu,.a 32 vk,.a 32 bk,.c (.int .i64 (L:Int)),.c (.int .i64 (P:Int)),.c (.int .i64 (E:Int))]) 29,gx])
  (fun jj _=>J.length-(intOf jj).toNat)
 case atStart=>exact⟨0,Ah _,rfl,(by rw[V6k];exact hS)⟩
 clear hS
 case round=>
  obtain⟨j,hj,rfl,hS⟩:=hrel
  by_cases D:j<J.length
  ·
   obtain⟨c0,M⟩:∃c,J[j]?=some c:=⟨_,Af D⟩
   go_upto_region 8 with fail;refine RL hS ?_;clear hS;refine MV ?_;refine MV ?_;refine MF (v:=.int .i64 (J.length:Int)) (fun W hS=>(by rw[show(J.length:Int)=((xt 17 j J).length:Int) by rw[J7z]];exact Q8 (hS.osl (i:=17) rfl) rfl rfl)) ?_;refine Wto ?_;refine MZ fun W hS=> ?_;go_upto_region 10 with fail;refine RL hS ?_;clear hS;refine MV ?_;refine MV ?_;refine MIo 17 j (l:=(xt 17 j J)) (by rw[J7z];omega) ?_;intro α _ U;refine MF (v:=.int .u8 (c0.toNat:Int)) (fun W hS=>Q6 rfl rfl (Q97 (hS.own (i:=17) rfl) U.out (Y8r M)) (by kernel_rfl)) ?_;refine MW ?_ (v:=.int .u8 ((c0^^^17).toNat:Int)) (hv:=by intro W;go_simp;exact(Y8s c0 17).trans (by rw[UInt8.toNat_xor];rfl));refine MIo 17 j (l:=(xt 17 j J)) (by rw[J7z];omega) ?_;intro Y _ S;refine MPo 17 (j:=j) (b:=(c0^^^17)) (l:=(xt 17 j J)) (by rw[J7z];omega) S.out ?_;refine MT (fun W hS=>by rw[show(xt 17 j J).set j (c0^^^17)=xt 17 (j+1) J from Z3r M] at hS;exact hS) ?_;refine MZ fun W hS=> ?_;go_wp2;go_roundw
   case rel=>exact⟨j+1,by omega,by go_num,hS⟩
   case measure=>simp[intOf];omega
  go_upto_region 8 with fail;refine RL hS ?_;clear hS;refine MV ?_;refine MV ?_;refine MF (v:=.int .i64 (J.length:Int)) (fun W hS=>(by rw[show(J.length:Int)=((xt 17 j J).length:Int) by rw[J7z]];exact Q8 (hS.osl (i:=17) rfl) rfl rfl)) ?_;refine Wfo ?_;refine MZ fun W hS=> ?_;go_wp2;exact BC (v:=.tuple #[.pointer (some ⟨y.p,0,none⟩),.pointer (some ⟨r1,0,none⟩),.bool true]) (by simp only[results,Tryz.results16];go_simp) rfl ⟨y,G,r1,rfl,r2,r3,hS.pick [3,4,5,6,7,8,9,10,11,12,13,19,0,1,2]⟩
theorem V1y {idl J:List UInt8}{vk bk:Nat}{iu:AB}{L P E:Int}(hJ:idl.take 30=J)(hN:¬((1≤J.length∧J.length≤16)∧(1≤L∧L≤64)∧(1≤P∧P≤16)∧(1≤E∧E≤32)))(w:AA)(hX:GX w)(hi:Sl w iu idl):
  Az Tryz.prog 16 #[.agg (Q2 [.c iu,.a 32 vk,.a 32 bk,.c (.int .i64 L),.c (.int .i64 P),.c (.int .i64 E)])] w fun e w' =>V5 (.tuple #[.pointer none,.pointer none,.bool true]) w w' e:=by
 have D:=J6 hi;have S:J.length≤30:=by rw[←hJ];exact List.length_take_le _ _
 have hS:=SH.nil [] w;have hS:=hS.entp (J82 hX)
 go_enter Tryz.func16,Tryz.ntmps16
 go_upto_region 0 with fail;refine RL hS ?_;clear hS;refine MN (z:=Q2 [.c iu,.a 32 vk,.a 32 bk,.c (.int .i64 L),.c (.int .i64 P),.c (.int .i64 E)]) (t:=29) ?_;intro U0;refine MV ?_;refine MV ?_;refine Wf ?_;refine MZ fun W hS=> ?_;go_upto_region 1 with fail;refine RL hS ?_;clear hS;refine MO (m:=[]) (n:=0) (z:= #[]) ?_;intro M;refine MV ?_;refine MG 1 ?_ (v:=iu) (hj:=(J5 (off:=0) 0));refine MV ?_;refine MG 1 ?_ (v:=iu) (hj:=(J5 (off:=0) 0));refine MF (v:=.int .i64 (idl.length:Int)) (fun W hS=>Q8 (K4 hi hS.ext) rfl rfl) ?_;refine MW ?_ (v:=.int .i64 ((min idl.length 30:Nat):Int));refine MT (fun W hS=>hS.ent hi) ?_;refine MH 0 (min idl.length 30) (m:=idl) (m' :=J) (by exact Nat.min_le_left _ _) ?_ (hm:=((J90 30 idl).trans hJ));intro N;refine MA 2 (xs:=[]) (ys:=J) (fun W hS=>(hS.sl (i:=0) rfl)) (by first|omega|(simp only[lA,lM,lT,lD,lC,lN,J7,Y8,Z0,Z5];omega)) ?_;intro G;refine MV ?_;refine MZ fun W hS=> ?_;go_upto_region 2 with fail;refine RL hS ?_;clear hS;refine MV ?_;refine Mk 3 ?_ (sub:=Q2 [.c (.int .i64 L),.c (.int .i64 P),.c (.int .i64 E)]) (hs:=(J5h (off:=65) 3 3));refine MN (z:=Q2 [.c (.int .i64 0),.c (.int .i64 0),.c (.int .i64 0)]) (t:=27) ?_;intro R;refine MRa 0 ?_ (h1:=by exact(V6 ⟨rfl,rfl,rfl,trivial⟩));refine MZ fun W hS=> ?_;go_upto_region 3 with fail;refine RL hS ?_;clear hS;refine MV ?_;refine MV ?_;refine Mk 4 ?_ (sub:=Q2 [.a 32 vk,.a 32 bk]) (hs:=(J5h (off:=1) 1 2));refine MV ?_;refine MG 0 ?_ (v:=.int .i64 L) (hj:=(J5 (off:=0) 0));refine MV ?_;refine MG 0 ?_ (v:=.int .i64 P) (hj:=(J5 (off:=1) 1));refine MV ?_;refine MG 0 ?_ (v:=.int .i64 E) (hj:=(J5 (off:=2) 2));refine MF (v:=.agg (Q2 [.c (.int .i64 L),.c (.int .i64 P),.c (.int .i64 E)])) (fun W hS=>J21 [(0,[.c (.int .i64 L)]),(1,[.c (.int .i64 P)]),(2,[.c (.int .i64 E)])] rfl rfl J3o J3p (.c rfl (.c rfl (.c rfl .n)))) ?_;refine MT (fun W hS=>by rw[BM] at hS;exact hS) ?_;refine MC (v:=.tuple #[.pointer none,.int .i64 1]) (fun W hS=>V2t (id:=J) (L:=L) (P:=P) (E:=E) hN W (hS.own (i:=3) rfl).sl) ?_;refine MV ?_;refine MV ?_;refine MW ?_ (v:=.int .i64 1);refine MV ?_;refine MW ?_ (v:=.int .i64 1);refine MZ fun W hS=> ?_;go_upto_region 4 with fail;refine RL hS ?_;clear hS;refine MV ?_;refine MF (v:=V3 J) (fun W hS=>J01 (hS.osl (i:=3) rfl) rfl rfl) ?_;refine ML 0 ?_ (hs:=by rw[J9];kernel_rfl);refine MC (v:=.bool false) (fun W hS=>V2y (id:=J) (L:=L) (P:=P) (E:=E) hN W) ?_;refine Wt ?_;refine MZ fun W hS=> ?_;go_wp2;exact BC (v:=.tuple #[.pointer none,.pointer none,.bool true]) (by simp only[results,Tryz.results16];go_simp) rfl ⟨rfl,hS.ext⟩
end

section
abbrev S0:DD:=J56 [116] 1 2 2 2 2
abbrev S1:DD:=S0.put [97] [120]
abbrev S2:DD:=S1.nxt
theorem Z4m:S0.labs=[]:=rfl
theorem Y5m:S1.labs=[[97]]:=by decide+kernel
theorem Y5n:S2.labs=[[97]]:=by decide+kernel
theorem Y0c:NewOk [116] 2 2 2:=⟨by decide,by decide,by decide,by decide,by decide,by decide,by decide,by decide⟩
theorem s0_ok:DOk S0:=Z3w Y0c
theorem Q9o:S0.pcode [97] [120]=0:=by
  unfold DD.pcode;rw[if_neg (by decide),if_neg (by decide),if_neg (by rw[Z4m];decide),if_pos (by rw[Z4m];decide)];exact V7n
theorem Z4n:S0.putD [97] [120]=S1:=by unfold DD.putD;rw[if_pos Q9o]
theorem s1_ok:DOk S1:=by rw[←Z4n];exact s0_ok.putD _ _
theorem Y0d:S1.scode=(1,0):=by unfold DD.scode;rw[if_pos (by decide)];rfl
theorem Q9p:S1.sealD=S2:=by unfold DD.sealD;rw[if_pos (by decide)]
theorem V7o:DOk S2:=by rw[←Q9p];exact s1_ok.sealD
theorem Y5o:S1.made=[]:=by decide+kernel
theorem Y5p:S2.made=[⟨[97],[120],1,1⟩]:=by unfold S2 S1;rw[DD.made_nxt];rfl
theorem V7p {y:LD}{a:Ac}(h:LOk S1 y)(ha:a∈y.acs)(hl:a.l=[97]):J0l a.es ((0:Nat):Int)=enZ:=by
  have h1:=h.e a ha;rw[Y5o] at h1;have h2:a.es=[]:=List.map_eq_nil_iff.1 h1;rw[h2];rfl
theorem V7q {y:LD}{a:Ac}(h:LOk S2 y)(ha:a∈y.acs)(hl:a.l=[97]):(J0l a.es ((1:Nat):Int)).ver=1∧(J0l a.es ((1:Nat):Int)).x=[120]:=by
  have h1:=h.e a ha;rw[Y5p,hl] at h1;cases hes:a.es with
  |nil=>rw[hes] at h1;cases h1
  |cons x t=>
    rw[hes] at h1
    have h2:(x.ep,x.ver,x.x)=(1,1,[120])∧t.map (fun e=>(e.ep,e.ver,e.x))=[]:=by
      have h3:(x.ep,x.ver,x.x)::t.map (fun e=>(e.ep,e.ver,e.x))=[(1,1,[120])]:=h1;injection h3 with h4 h5
      exact⟨h4,h5⟩
    have h3:t=[]:=List.map_eq_nil_iff.1 h2.2;injection h2.1 with e1 e2
    injection e2 with e2 e3
    subst h3
    have h6:J0l [x] ((1:Nat):Int)=x:=by
      unfold J0l;rw[List.filter_cons,if_pos (by rw[e1];decide)];rfl
    rw[h6];exact⟨e2,e3⟩
end

section
set_option maxHeartbeats 3000000
attribute [local irreducible] wpList Z9 wpX
open S8 (Kn GA kP)
theorem V7z {D:DD}{ix pf e ver:Nat}{x:List UInt8}:(fnd D ix pf e ver x).x=x:=rfl
theorem V80 {D:DD}{ix pf e ver:Nat}{x:List UInt8}:(fnd D ix pf e ver x).ver=ver:=rfl
theorem Y9b {D:DD}{ix pf e ver:Nat}{x:List UInt8}:(fnd D ix pf e ver x).pres=decide (0<ver):=rfl
theorem V31 {u v:AB}{l x:List UInt8}:InF [.s u l,.s v x] ((sb u l).toList++(sb v x).toList):=fun k hk=>by
 rcases Ar.1 hk with hk|hk
 ·
  exact⟨.s u l,by simp,fun T K e=>(by cases e),hk⟩
 ·
  exact⟨.s v x,by simp,fun T K e=>(by cases e),hk⟩
attribute [local irreducible] eI be8 hs4 lb J33 J25 K3 xt hm pbs DD.tree DD.link rs S8.kP S8.kN S8.kD ofT ebs lk0 sE sL sN opn bnd ahd bsd ixN pfN erN J0l DD.links DD.trees DD.play DD.putD DD.sealD fnd

theorem Q43 (w:AA)(hX:GX w):
  Az Tryz.prog 10 #[] w fun e w' =>V5 (.bool true) w w' e:=by
 have hS:=SH.nil [] w;have hS:=hS.entp (J82 hX)
 go_enter Tryz.func10,Tryz.ntmps10
 go_upto_region 1 with fail;refine RL hS ?_;clear hS;refine MO (m:=[116]) (n:=1) (z:= #[.int .u8 116]) ?_;intro β;refine MSm 0 (l:=[116]) (by first|decide|(simp only[Ai,AV,Al];omega)) ?_;refine MW ?_ (v:=.agg (J0 .u8 32 (J2 1))) (hv:=by intro W;kernel_rfl);refine MW ?_ (v:=.agg (J0 .u8 32 (J2 2))) (hv:=by intro W;kernel_rfl);refine MF (v:=.agg (Q2 [.a 32 1,.a 32 2])) (fun W hS=>J21 [(0,[.a 32 1]),(1,[.a 32 2])] rfl rfl Q2w Q2x (.c ((J1m _ _).symm) (.c ((J1m _ _).symm) .n))) ?_;refine MF (v:=.agg (Q2 [.c (.int .i64 2),.c (.int .i64 2),.c (.int .i64 2)])) (fun W hS=>J21 [(0,[.c (.int .i64 2)]),(1,[.c (.int .i64 2)]),(2,[.c (.int .i64 2)])] rfl rfl J3o J3p (.c rfl (.c rfl (.c rfl .n)))) ?_;refine ME (V:=fun y:{y:LD // NOk S0 w y}=> .tuple #[.pointer (some ⟨y.1.p,0,none⟩),.int .i64 0]) (fun W hS=>Y0m hS (Z9r (id:=[116]) (vk:=1) (bk:=2) (L:=2) (P:=2) (E:=2) Y0c W (hS.pp (i:=1) rfl) (hS.sl (i:=0) rfl)) rfl) ?_;rintro⟨y,Δ⟩;have hL:=Δ.1;dsimp only[ldL,BK,BM];refine MV ?_;refine MV ?_;refine W0 ?_;refine MV ?_;refine W0 ?_;refine MZ fun W hS=> ?_;go_upto_region 2 with fail;refine RL hS ?_;clear hS;refine MV ?_;refine MO (m:=[97]) (n:=1) (z:= #[.int .u8 97]) ?_;intro δ;refine MSm 0 (l:=[97]) (by first|decide|(simp only[Ai,AV,Al];omega)) ?_;refine MO (m:=[120]) (n:=1) (z:= #[.int .u8 120]) ?_;intro Y;refine MSm 0 (l:=[120]) (by first|decide|(simp only[Ai,AV,Al];omega)) ?_;refine MT (fun W hS=>hS.pick [2,3,4,5,6,7,8,9,10,11,12,14,1,0,13]) ?_;refine ME (V:=fun _:ZD S0 y S1 w=> .int .i64 0) (fun W hS=>by have h_:=Y0j (D:=S0) (y:=y) (l:=[97]) (x:=[120]) (N:=[.s δ [97],.s Y [120]]) (R:=[.s β [116]]) hS (hS.sl (i:=12) rfl) (hS.sl (i:=13) rfl) V31 hL s0_ok rfl;rw[Q9o,Z4n] at h_;exact h_) ?_;rintro⟨z1,J⟩;dsimp only[ldL,BK,BM];refine W0 ?_;refine MZ fun W hS=> ?_;go_upto_region 3 with fail;refine RL hS ?_;clear hS;refine MV ?_;refine MO (m:=[97]) (n:=1) (z:= #[.int .u8 97]) ?_;intro η;refine MSm 0 (l:=[97]) (by first|decide|(simp only[Ai,AV,Al];omega)) ?_;obtain⟨a1,χ,κ⟩:=(J.1).accU (l:=[97]) (by rw[Y5m];exact Ae.2 rfl);have ψ:=V7p (J.1) χ κ;obtain⟨x1,μ⟩:=exn (J0l a1.es ((0:Nat):Int));obtain⟨f1,ν⟩:=exn (fnd S1 (ixN (S1).vk [97]) (pfN (S1).vk [97]) 0 x1.ver x1.x);have ξ:f1.pres=false:=by rw[ν,Y9b,μ,ψ];rfl
 have G:=BF ξ;clear ξ;have D0:=BF ν;have Ξ:=BF μ;clear ν μ;refine MT (fun W hS=>hS.pick [1,2,3,4,5,6,7,8,9,10,11,12,0,13,14,15]) ?_;refine ME (V:=fun z:AB×AB=> .tuple #[.agg (fdF f1 z.1 z.2),.int .i64 0]) (fun W hS=>J79 hS (by have h_:=Z1o (D:=S1) (y:=z1) (l:=[97]) (n:= -1) (ep:=0) (.inr ⟨rfl,by decide⟩) (by decide) rfl rfl Ξ.out χ κ W (hS.pp (i:=11) rfl) (DK.of (D:=S1) (y:=z1) (R:=[gx,.s η [97],.s δ [97],.s Y [120],.s β [116]]) hS) (J.1) s1_ok (hS.sl (i:=12) rfl) (by decide);unfold Z98 at h_;rw[←D0.out,show z1.p=y.p from J.2.1] at h_;exact h_) (fun _=>rfl)) ?_;rintro⟨γ,Z⟩;dsimp only[BK,BM];refine MV ?_;refine MV ?_;refine W0 ?_;refine MN (z:=fdZ) (t:=44) ?_;intro σ;refine K8 (fun W hS=>(J6 (hS.osl (i:=1) rfl)).2) ?_;intro ζ;refine K8 (fun W hS=>(Row.cells (hS.row (i:=2) rfl)).2) ?_;intro ε;refine MRa 0 ?_ (h1:=by exact(V6 ⟨rfl,rfl,rfl,ζ,ε,rfl,rfl,trivial⟩));refine W0 ?_;refine MZ fun W hS=> ?_;go_upto_region 4 with fail;refine RL hS ?_;clear hS;refine MV ?_;refine MT (fun W hS=>hS.pick [3,4,5,6,7,8,9,10,11,12,13,14,0,1,2,15,16,17,18]) ?_;refine ME (V:=fun _:ZD S1 z1 S2 w=> .tuple #[.int .i64 1,.int .i64 0]) (fun W hS=>by have h_:=Z4s (D:=S1) (y:=z1) (R:=[.b σ (Q2 [.c (.int .i64 (f1.ep:Int)),.a 32 f1.ix,.a 80 f1.pf,.c (.bool f1.pres),.c (.int .i64 (f1.ver:Int)),.c γ,.a 32 f1.bd,.a 32 f1.op,.c Z,.c (.bool f1.th),.a 32 f1.ek,.a 32 f1.ev,.a 32 f1.ro,.a 32 f1.li,.a 32 f1.ah,.c (.int .i64 (f1.rd:Int))]) 44,.o γ f1.x,.r 23 32 Z (List.map J0d f1.ss),.s η [97],.s δ [97],.s Y [120],.s β [116]]) hS J.1 s1_ok rfl;rw[Y0d,Q9p,show z1.p=y.p from J.2.1] at h_;exact h_) ?_;rintro⟨z2,α⟩;dsimp only[ldL,BK,BM];refine MV ?_;refine MW ?_ (v:=.int .i64 1);refine W0 ?_;refine MW ?_ (v:=.int .i64 1);refine W0 ?_;refine MZ fun W hS=> ?_;go_upto_region 5 with fail;refine RL hS ?_;clear hS;refine MV ?_;refine MO (m:=[97]) (n:=1) (z:= #[.int .u8 97]) ?_;intro Γ;refine MSm 0 (l:=[97]) (by first|decide|(simp only[Ai,AV,Al];omega)) ?_;obtain⟨a2,ρ,θ⟩:=(α.1).accU (l:=[97]) (by rw[Y5n];exact Ae.2 rfl);have T:=V7q (α.1) ρ θ;obtain⟨x2,S⟩:=exn (J0l a2.es ((1:Nat):Int));obtain⟨f2,M⟩:=exn (fnd S2 (ixN (S2).vk [97]) (pfN (S2).vk [97]) 1 x2.ver x2.x);have τ:RowKit.Hid (f2.pres=true):=BF (by rw[M,Y9b,S,T.1];rfl);have φ:RowKit.Hid (f2.ver=1):=BF (by rw[M,V80,S,T.1]);have Ω:RowKit.Hid (f2.x=[120]):=BF (by rw[M,V7z,S,T.2]);have ω:=BF M;have Θ:=BF S;clear M S;refine MT (fun W hS=>hS.pick [1,2,3,4,5,6,7,8,9,10,11,12,0,13,14,15,16,17,18,19]) ?_;refine ME (V:=fun z:AB×AB=> .tuple #[.agg (fdF f2 z.1 z.2),.int .i64 0]) (fun W hS=>J79 hS (by have h_:=Z1o (D:=S2) (y:=z2) (l:=[97]) (n:= -1) (ep:=1) (.inr ⟨rfl,by decide⟩) (by decide) rfl rfl Θ.out ρ θ W (hS.pp (i:=11) rfl) (DK.of (D:=S2) (y:=z2) (R:=[gx,.s Γ [97],.b σ (Q2 [.c (.int .i64 (f1.ep:Int)),.a 32 f1.ix,.a 80 f1.pf,.c (.bool f1.pres),.c (.int .i64 (f1.ver:Int)),.c γ,.a 32 f1.bd,.a 32 f1.op,.c Z,.c (.bool f1.th),.a 32 f1.ek,.a 32 f1.ev,.a 32 f1.ro,.a 32 f1.li,.a 32 f1.ah,.c (.int .i64 (f1.rd:Int))]) 44,.o γ f1.x,.r 23 32 Z (List.map J0d f1.ss),.s η [97],.s δ [97],.s Y [120],.s β [116]]) hS) (α.1) V7o (hS.sl (i:=12) rfl) (by decide);unfold Z98 at h_;rw[←ω.out,show z2.p=z1.p from α.2.1,show z1.p=y.p from J.2.1] at h_;exact h_) (fun _=>rfl)) ?_;rintro⟨Ψ,D3⟩;dsimp only[BK,BM];refine MT (fun W hS=>by rw[Ω.out] at hS;exact hS) ?_;refine MV ?_;refine MV ?_;refine W0 ?_;refine MN (z:=fdZ) (t:=44) ?_;intro D1;refine K8 (fun W hS=>(J6 (hS.osl (i:=1) rfl)).2) ?_;intro U;refine K8 (fun W hS=>(Row.cells (hS.row (i:=2) rfl)).2) ?_;intro X;refine MRa 0 ?_ (h1:=by exact(V6 ⟨rfl,rfl,rfl,U,X,rfl,rfl,trivial⟩));refine W0 ?_;refine MZ fun W hS=> ?_;go_upto_region 6 with fail;refine RL hS ?_;clear hS;refine W0 ?_;refine MW ?_ (v:=.bool true) (hv:=by intro W;go_simp;first|done|rfl|(rw[G.out];rfl)|simp[G.out]);refine Wt ?_;refine W0 ?_;refine MW ?_ (v:=.bool true) (hv:=by intro W;go_simp;first|done|rfl|(rw[G.out];rfl)|simp[G.out]);refine Wt ?_;refine Wt ?_;refine W0 ?_;refine MW ?_ (v:=.bool true) (hv:=by intro W;go_simp;first|done|rfl|(rw[G.out];rfl)|simp[G.out]);refine Wt ?_;refine Wt ?_;refine W0 ?_;refine MW ?_ (v:=.bool true) (hv:=by intro W;go_simp;first|done|rfl|(rw[G.out];rfl)|simp[G.out]);refine Wt ?_;refine Wt ?_;refine W0 ?_;refine MW ?_ (v:=.bool true) (hv:=by intro W;go_simp;first|done|rfl|(rw[G.out];rfl)|simp[G.out]);refine Wt ?_;refine Wt ?_;refine MW ?_ (v:=.int .i64 1);refine MW ?_ (v:=.bool true) (hv:=by intro W;go_simp;first|done|rfl|(rw[G.out];rfl)|simp[G.out]);refine Wt ?_;refine Wt ?_;refine MV ?_;refine MG 16 ?_ (v:=.bool f1.pres) (hj:=(J5 (off:=113) 3));refine MW ?_ (v:=.bool true) (hv:=by intro W;go_simp;first|done|rfl|(rw[G.out];rfl)|simp[G.out]);refine Wt ?_;refine Wt ?_;refine MV ?_;refine MG 0 ?_ (v:=.bool f2.pres) (hj:=(J5 (off:=113) 3));refine MW ?_ (v:=.bool true) (hv:=by intro W;go_simp;first|done|rfl|(rw[τ.out];rfl)|simp[τ.out]);refine Wt ?_;refine MV ?_;refine MG 0 ?_ (v:=.int .i64 (f2.ver:Int)) (hj:=(J5 (off:=114) 4));refine MW ?_ (v:=.bool true) (hv:=by intro W;go_simp;first|done|rfl|(rw[φ.out];rfl)|simp[φ.out]);refine Wt ?_;refine Wt ?_;refine MV ?_;refine MG 0 ?_ (v:=Ψ) (hj:=(J5 (off:=115) 5));refine MF (v:=V3 [120]) (fun W hS=>J01 (hS.osl (i:=1) rfl) rfl rfl) ?_;refine MW ?_ (v:=.bool true) (hv:=fun _=>Z2c (l:=[120]) (m:=[120]) (b:=true) (decide_eq_true rfl) rfl rfl rfl);refine Wt ?_;refine Wt ?_;refine MZ fun W hS=> ?_;go_wp2;exact BC (v:=.bool true) (by simp only[results,Tryz.results10];go_simp) rfl ⟨rfl,hS.ext⟩
end

section
set_option maxHeartbeats 3000000
attribute [local irreducible] wpList Z9 wpX
open S8 (Kn GA kP)
attribute [local irreducible] eI be8 hs4 lb J33 J25 K3 xt hm pbs

end

section
theorem Q0k {α β:Type}(g:α→β)(l:List α)(d:α):g (l.getLastD d)=(l.map g).getLastD (g d):=by
  rw[List.getLastD_eq_getLast?,List.getLastD_eq_getLast?,List.getLast?_map];cases l.getLast?<;>rfl
def mdZ:Md:=⟨[],[],0,0⟩
def DD.lastM (D:DD)(l:List UInt8)(e:Nat):Md:=((D.made.filter fun m=>decide (m.l=l)).filter fun m=>decide (m.ep≤e)).getLastD mdZ
def g3 (e:En):Nat×Nat×List UInt8:=(e.ep,e.ver,e.x)
def h3 (m:Md):Nat×Nat×List UInt8:=(m.ep,m.ver,m.x)
theorem Y4q {D:DD}{y:LD}(hL:LOk D y){a:Ac}(ha:a∈y.acs)(e:Nat):g3 (J0l a.es (e:Int))=h3 (D.lastM a.l e):=by
  have h1:a.es.map g3=(D.made.filter fun m=>decide (m.l=a.l)).map h3:=hL.e a ha;unfold J0l DD.lastM;rw[Q0k g3,Q0k h3]
  have e1:(a.es.filter fun x=>decide ((x.ep:Int)≤(e:Int))).map g3=(a.es.map g3).filter fun z=>decide (z.1≤e):=by
    rw[List.filter_map]
    congr 1
    refine List.filter_congr fun x _=> ?_;show decide ((x.ep:Int)≤(e:Int))=decide (x.ep≤e)
    by_cases hx:x.ep≤e
    · rw[decide_eq_true hx,decide_eq_true (by omega)]
    rw[decide_eq_false hx,decide_eq_false (by omega)]
  have e2:((D.made.filter fun m=>decide (m.l=a.l)).filter fun m=>decide (m.ep≤e)).map h3=((D.made.filter fun m=>decide (m.l=a.l)).map h3).filter fun z=>decide (z.1≤e):=by
    rw[List.filter_map];rfl
  rw[e1,e2,h1];rfl
theorem Y4r {D:DD}{l:List UInt8}(h:l∉D.labs)(e:Nat):D.lastM l e=mdZ:=by
  unfold DD.lastM
  have h1:(D.made.filter fun m=>decide (m.l=l))=[]:=by
    refine List.filter_eq_nil_iff.2 fun m hm hc=> ?_;have hl:m.l=l:=by simpa using hc
    exact h (DD.mem_labs.2 ⟨(m.l,m.x),Ar.2 (.inl (DD.made_mem hm).2),hl⟩)
  rw[h1];rfl
def DD.lk (D:DD)(l:List UInt8)(e:Nat):Fnd:=fnd D (ixN D.vk l) (pfN D.vk l) e (D.lastM l e).ver (D.lastM l e).x
theorem V19 {D:DD}{y:LD}{l:List UInt8}{v:AB}{n:Int}{e:Nat}(hn:n=(e:Int)∨n= -1∧(e:Int)=((D.puts.length-1:Nat):Int))(he:e<D.puts.length)(h0:erN D.vk l=0)(w:AA)(hX:GX w)(hD:DK D y w)(hL:LOk D y)(hK:DOk D)(hs:Sl w v l)(hl:1≤l.length∧l.length≤32):
    Az Tryz.prog 7 #[.pointer (some ⟨y.p,0,none⟩),v,.int .i64 n] w fun en w' =>Z98 (D.lk l e) w w' en:=by
  unfold DD.lk
  by_cases h1:l∈D.labs
  · obtain⟨a,ha,G⟩:=hL.accU h1
    have h2:=Y4q hL ha e;rw[G] at h2;injection h2 with e1 e2
    injection e2 with e2 e3
    have h:=Z1o (x0:=J0l a.es (e:Int)) (ix:=ixN D.vk l) (pf:=pfN D.vk l) hn he rfl rfl rfl ha G w hX hD hL hK hs hl;rw[e2,e3] at h;exact h
  rw[Y4r h1 e];exact V1a (x0:=J0l [] (e:Int)) (ix:=ixN D.vk l) (pf:=pfN D.vk l) hn he rfl rfl rfl h1 h0 w hX hD hL hK hs hl
theorem V1b {D:DD}{y:LD}{l:List UInt8}{v:AB}{n:Int}{e:Nat}(hn:n=(e:Int)∨n= -1∧(e:Int)=((D.puts.length-1:Nat):Int))(he:e<D.puts.length)(h0:erN D.vk l≠0)(w:AA)(hX:GX w)(hD:DK D y w)(hL:LOk D y)(hK:DOk D)(hs:Sl w v l)(hl:1≤l.length∧l.length≤32):
    Az Tryz.prog 7 #[.pointer (some ⟨y.p,0,none⟩),v,.int .i64 n] w fun en w' =>V5 (.tuple #[.agg fdZ,.int .i64 (erN D.vk l:Int)]) w w' en:=
  V1c hn he rfl h0 (fun h1=>h0 (hK.lab l h1).2.2) w hX hD hL hK hs hl
theorem Z71 (D:DD)(a x l:List UInt8)(e:Nat):(D.put a x).lastM l e=D.lastM l e:=rfl
theorem Z72 {D:DD}{l:List UInt8}{e:Nat}(h:e<D.puts.length):D.nxt.lastM l e=D.lastM l e:=by
  have h1:=DD.upto_nxt_lt (D:=D) h
  have h2:∀X:DD,X.lastM l e=((X.upto e).filter fun m=>decide (m.l=l)).getLastD mdZ:=fun X=>by
    unfold DD.lastM DD.upto;rw[List.filter_filter,List.filter_filter]
    congr 2
    funext m
    exact Bool.and_comm ..
  rw[h2,h2,h1]
theorem Y4s {D:DD}{e:Nat}(h:e<D.puts.length):ahd D.nxt e=ahd D e:=by
  unfold ahd;rw[DD.link_nxt (by omega)]
theorem Y4t {D:DD}{ix pf e ver:Nat}{x:List UInt8}(h:e<D.puts.length):fnd D.nxt ix pf e ver x=fnd D ix pf e ver x:=by
  unfold fnd;rw[DD.tree_nxt h,DD.link_nxt h,Y4s h];rfl
theorem Y4u {D:DD}{a b x:List UInt8}{ix pf e ver:Nat}:fnd (D.put a b) ix pf e ver x=fnd D ix pf e ver x:=by
  have h1:(D.put a b).tree e=D.tree e:=rfl;have h2:ahd (D.put a b) e=ahd D e:=by unfold ahd;rw[DD.link_put]
  unfold fnd;rw[h1,DD.link_put,h2];rfl
theorem V1d {D:DD}{l:List UInt8}{e:Nat}(h:e<D.puts.length):D.nxt.lk l e=D.lk l e:=by
  unfold DD.lk;rw[Z72 h,Y4t h];rfl
theorem V1e {D:DD}{a b l:List UInt8}{e:Nat}:(D.put a b).lk l e=D.lk l e:=by
  unfold DD.lk;rw[Z71,Y4u];rfl
structure After (D D' :DD):Prop where
  n:D.puts.length≤D'.puts.length
  vk:D'.vk=D.vk
  lk:∀l e,e<D.puts.length→D'.lk l e=D.lk l e
  tr:∀e,e<D.puts.length→D'.tree e=D.tree e
  li:∀e,e<D.puts.length→D'.link e=D.link e
theorem After.rfl {D:DD}:After D D:=⟨AJ _,Eq.refl _,fun _ _ _=>Eq.refl _,fun _ _=>Eq.refl _,fun _ _=>Eq.refl _⟩
theorem After.trans {A B C:DD}(h:After A B)(k:After B C):After A C where
  n:=Nat.le_trans h.n k.n
  vk:=k.vk.trans h.vk
  lk:=fun l e he=>(k.lk l e (Au he h.n)).trans (h.lk l e he)
  tr:=fun e he=>(k.tr e (Au he h.n)).trans (h.tr e he)
  li:=fun e he=>(k.li e (Au he h.n)).trans (h.li e he)
theorem After.put {D:DD}{a b:List UInt8}:After D (D.put a b):=⟨AJ _,Eq.refl _,fun _ _ _=>V1e,fun _ _=>Eq.refl _,fun e _=>DD.link_put D a b e⟩
theorem After.nxt {D:DD}:After D D.nxt:=⟨by rw[DD.nxt_len];exact Nat.le_succ _,Eq.refl _,fun _ _ h=>V1d h,fun _ h=>DD.tree_nxt h,fun _ h=>DD.link_nxt h⟩
theorem After.play (D:DD)(wt n:Int)(raw val:List UInt8):After D (D.play wt n raw val):=by
  unfold DD.play DD.sealD DD.putD
  split
  · split
    · exact .nxt
    exact .rfl
  split
  · exact .put
  exact .rfl
end

section
set_option maxHeartbeats 3000000
attribute [local irreducible] wpList Z9 wpX
attribute [local irreducible] lb
end

section
set_option maxHeartbeats 3000000
attribute [local irreducible] wpList Z9 wpX
open S8 (Kn GA kP)
attribute [local irreducible] eI be8 hs4 lb J33 J25 K3 xt hm pbs

end

section
structure AE where
  wt:Int
  n:Int
  f:Int
  t:Int
  ru:AB
  vu:AB
  raw:List UInt8
  val:List UInt8
abbrev aeF (a:AE):Array AB:=Y4v a.wt a.n a.f a.t a.ru a.vu
def aeC (a:AE):List AB:=fcs [.c (.int .i64 a.wt),.c (.int .i64 a.n),.c a.ru,.c a.vu,.c (.int .i64 a.f),.c (.int .i64 a.t)]
theorem Y4w {qs:List AE}:∀e∈qs.map aeC,e.length=6:=fun e he=>by obtain⟨y,_,rfl⟩:=List.mem_map.1 he;rfl
theorem V6q {a:AE}:∀(i:Nat) (v:AB),(aeF a)[i]?=some v→(aeC a)[i]?=some v:=fun i v h=>by unfold aeC;rw[←Q41,Array.getElem?_toList];exact h
def K2f (qs:List AE):List Nat:=qs.flatMap fun a=>(sb a.ru a.raw).toList++(sb a.vu a.val).toList
def aeK (qs:List AE)(W:AA):Prop:=∀a∈qs,Sl W a.ru a.raw∧Sl W a.vu a.val
abbrev aeT (qs:List AE):As:=.p (K2f qs) (aeK qs)
theorem Z73 {qs:List AE}{w:AA}(h:aeK qs w):(aeT qs).holds w:=by
  refine⟨h,fun k hk=> ?_,fun W' _ e a ha=>⟨J77 (h a ha).1 fun k hk=>e k (List.mem_flatMap.2 ⟨a,ha,Ar.2 (.inl (by rw[hk];simp))⟩),J77 (h a ha).2 fun k hk=>e k (List.mem_flatMap.2 ⟨a,ha,Ar.2 (.inr (by rw[hk];simp))⟩)⟩⟩;obtain⟨a,ha,h1⟩:=List.mem_flatMap.1 hk;rcases Ar.1 h1 with h1|h1
  · exact Sl.lt (h a ha).1 k (As.mem_toList h1)
  exact Sl.lt (h a ha).2 k (As.mem_toList h1)
theorem V1f {F:List Nat}{w W:AA}{R:List As}{D:DD}{y:LD}{qs:List AE}{a:AE}(ha:a∈qs)(hS:SH F w W (ldL D y++[gx]++([aeT qs]++R)))(hL:LOk D y)(hK:DOk D)(hR:tyD ([aeT qs]++R)=true):
    Az Tryz.prog 19 #[.pointer (some ⟨y.p,0,none⟩),.agg (aeF a)] W fun e W' => ∃z:ZD D y (D.play a.wt a.n a.raw a.val) w,e=.returned (.tuple #[])∧SH F w W' (ldL (D.play a.wt a.n a.raw a.val) z.1++[gx]++([aeT qs]++R)):=by
  have hk:aeK qs W:=(hS.at_ (i:=12) (x:=aeT qs) rfl).1;refine Z1p hS (Q1o (hk a ha).1 (hk a ha).2) (fun k G=>⟨aeT qs,by simp,fun T K e=>(by cases e),List.mem_flatMap.2 ⟨a,ha,G⟩⟩) (fun h_=>V1g W hL hK h_) hR
theorem Y8x {W:AA}{A:Option Addr}{n c i g o:Nat}{qs:List AE}{y:AE}(h:RR 6 W (.slice A n c) (qs.map aeC))(yh:qs[i]?=some y)(hA:A=some ⟨g,o,none⟩):∀(j:Nat) (v:AB),(aeF y)[j]?=some v→W.cell? ⟨g,o+i*6+j,none⟩=some v:=fun j v hv=>
  RR.cellat h (by rw[List.getElem?_map,yh];rfl) hA j v (V6q j v hv)
end

section
open Go.ChangeShapes Go.WideShapes Go.ChangeAt Go.RowKit Go.Deep
section
variable {H : Type} {enc : TypeId × AB → H} {W : AA} {base : Nat} {sp : Nat → Bool} {held : Bool}
instance:Inhabited AE:=⟨⟨0,0,0,0,.slice none 0 0,.slice none 0 0,[],[]⟩⟩
theorem Z7m {r:Reach}{b0:Nat}{v:AB}{d:DataW H}{ps:List MemPlace}(hval:AB.okWide Tryz.prog W r b0 30 v)(hd:DataW.Trod enc Tryz.prog W base sp held 30 v d ps):
    ∃ms:List AE,aeK ms W∧RR 6 W v (ms.map aeC):=
  Y1x (Q:=fun y:AE=>Sl W y.ru y.raw∧Sl W y.vu y.val) Tryz.underlying30 (by kernel_rfl) (by decide) (fun x=>Y4w (qs:=[x]) (aeC x) (by simp)) (fun h=>by
    obtain⟨n1,n2,v3,l4,v5,l6,n7,n8,_,_,h0,h1,_,_,e⟩:=J7j h
    exact⟨⟨n1,n2,n7,n8,v3,v5,l4,l6⟩,⟨h0.1,h1.1⟩,e⟩) hval hd
end
end

section
attribute [local irreducible] wpList Z9 wpX
open S8 (Kn GA kP)
def ahl (a:Nat)(ls:List Nat):Nat→Nat
 |0=>a
 |i+1=>ls.getD i 0
attribute [local irreducible] eI be8 hs4 lb lkn lk0 hm ahl

end

section
def n32:Nat:=4294967296
theorem Z6p (n:Int)(h0:0≤n)(h1:n<2^32):AG.u32.wrap n=n:=by rw[AG.wrap_u32];omega
theorem Z1c (k:AG)(j:Nat)(hj:j≤k.bits)(hk:∀n:Int,0≤n→n<2^j→k.wrap n=n)(a b:Nat)(ha:a<2^j)(hb:b<2^j):bits .xor k a b=((a^^^b:Nat):Int):=by
  have hp:2^j≤2^k.bits:=Nat.pow_le_pow_right (by decide) hj;have ha' :a % 2^k.bits=a:=AI (Au ha hp);have hb' :b % 2^k.bits=b:=AI (Au hb hp);simp only[bits,BitVec.ofInt_natCast,BitVec.toNat_xor,BitVec.toNat_ofNat,ha',hb'];exact hk _ (Int.natCast_nonneg _) (by exact_mod_cast Nat.xor_lt_two_pow ha hb)
def Wn4 (x:Int)(a:Nat):Prop:=x=(a:Int)∧a<2^32
section
variable {x y : Int} {a b : Nat}
theorem Wn4.xo (h:Wn4 x a)(k:Wn4 y b):Wn4 (xo4 x y) (a^^^b):=⟨by rw[h.1,k.1];exact Z1c .u32 32 (by decide) Z6p a b h.2 k.2,Nat.xor_lt_two_pow h.2 k.2⟩
theorem Wn4.an (h:Wn4 x a)(k:Wn4 y b):Wn4 (an4 x y) (a &&& b):=⟨by rw[h.1,k.1];exact(bits_nat .u32 32 (by decide) Z6p a b h.2 k.2).1,Nat.and_lt_two_pow _ k.2⟩
theorem Wn4.oo (h:Wn4 x a)(k:Wn4 y b):Wn4 (oo4 x y) (a |||b):=⟨by rw[h.1,k.1];exact(bits_nat .u32 32 (by decide) Z6p a b h.2 k.2).2,Nat.or_lt_two_pow h.2 k.2⟩
theorem Wn4.nt (h:Wn4 x a):Wn4 (nt4 x) (4294967295^^^a):=⟨by rw[h.1];exact Z1c .u32 32 (by decide) Z6p _ a (by decide) h.2,Nat.xor_lt_two_pow (by decide) h.2⟩
theorem Wn4.ad (h:Wn4 x a)(k:Wn4 y b):Wn4 (ad4 x y) ((a+b) % n32):=⟨by rw[h.1,k.1];show AG.wrap .u32 ((a:Int)+b)=_;unfold n32;rw[AG.wrap_u32];omega,BH _ (by decide)⟩
theorem Wn4.sl (h:Wn4 x a)(n:Nat):Wn4 (sl4 x n) (a*2^n % n32):=⟨by
  rw[h.1];show AG.wrap .u32 ((a:Int)*2^n)=_;unfold n32
  rw[AG.wrap_u32,Int.natCast_emod,Int.natCast_mul,Int.natCast_pow];rfl,BH _ (by decide)⟩
theorem Wn4.sr (h:Wn4 x a)(n:Nat):Wn4 (sr4 x n) (a / 2^n):=⟨by
  rw[h.1];show(a:Int) / 2^n=_
  rw[Int.natCast_ediv,Int.natCast_pow];rfl,Nat.lt_of_le_of_lt (Nat.div_le_self _ _) h.2⟩
end
def K42 (a n:Nat):Nat:=a / 2^n |||a*2^(32-n) % n32
theorem Wn4.rt {x:Int}{a:Nat}(h:Wn4 x a)(n:Nat):Wn4 (rt4 x n) (K42 a n):=(h.sr n).oo (h.sl (32-n))
/-! ### The words of a block -/
def bN4 (l:List UInt8)(j:Nat):Nat:=(l.getD j 0).toNat
/-! ### The rounds -/
end

section
attribute [local irreducible] wpList Z9 wpX
end

section
attribute [local irreducible] wpList Z9 wpX
open S8 (Kn GA kP)
theorem Y4x {f:FuncId}{args:Array AB}{F:List Nat}{w W:AA}{H:List As}{J:List UInt8}{vk bk L P E:Nat}(hS:SH F w W H)
  (hc:Az Tryz.prog f args W fun e w' => ∃z:{y:LD // NOk (J56 J vk bk L P E) W y}×Nat×Nat×Nat,e=.returned (.tuple #[.pointer (some ⟨z.1.1.p,0,none⟩),.pointer (some ⟨z.2.1,0,none⟩),.bool true])∧SH [] W w' (ldL (J56 J vk bk L P E) z.1.1++[gx]++[.b z.2.1 (Q2 [.c (V3 J),.c (V3 (lb 32 vk)),.c (V3 (lb 32 bk)),.c (.int .i64 (L:Int)),.c (.int .i64 (P:Int)),.c (.int .i64 (E:Int)),.c (.slice none 0 0),.c (.slice none 0 0),.c (.slice (some ⟨z.2.2.1,0,none⟩) 1 1),.c (.slice (some ⟨z.2.2.2,0,none⟩) 1 1),.c (.slice none 0 0)]) 120,.b z.2.2.1 #[V3 (lb 32 sE)] 9,.b z.2.2.2 #[V3 (lb 32 (lk0 J))] 9])) (hR:tyD H=true):
  Az Tryz.prog f args W fun e W' => ∃z:{y:LD // NOk (J56 J vk bk L P E) w y}×Nat×Nat×Nat,e=.returned (.tuple #[.pointer (some ⟨z.1.1.p,0,none⟩),.pointer (some ⟨z.2.1,0,none⟩),.bool true])∧SH F w W' (ldL (J56 J vk bk L P E) z.1.1++H):=by
 refine hc.mono fun e W' ⟨z,h1,h2⟩=>⟨(⟨z.1.1,z.1.2.1,z.1.2.2.1.back hS.off.size,z.1.2.2.2.back hS.off.size⟩,z.2),h1,?_⟩
 have h3:SH [] W W' (ldL (J56 J vk bk L P E) z.1.1):=h2.less (by rw[List.append_assoc];exact List.sublist_append_left _ _);exact SH.frameQ (L:=[]) hS h3 (Z3t hR z.1.2.2.1 z.1.2.2.2)
attribute [local irreducible] eI be8 hs4 lb J33 J25 K3 xt hm pbs DD.tree DD.link rs S8.kP S8.kN S8.kD ofT ebs lk0 sE sL sN opn bnd ahd bsd ixN pfN erN J0l DD.links DD.trees DD.play DD.putD DD.sealD fnd DD.lk

end

section
attribute [local irreducible] wpList Z9 wpX
attribute [local irreducible] hs4 sE sL sN lb
end

section
attribute [local irreducible] wpList Z9 wpX
theorem V1i {L:List Lf}{k:Nat}(h:J34 L):(J2e (J00 (ofT L) k 0)).1<2^256∧(J2e (J00 (ofT L) k 0)).2.1<2^256:=by
 rcases J65 (ofT L) k 0 with e|⟨a,x,e⟩
 ·
  rw[e];exact⟨by decide,by decide⟩
 have e2:=e;rw[Q0m h] at e2;obtain⟨h1,h2⟩:=J78 h;rw[e];exact h1 _ (J6r 256 0 rfl h2 (Q2h _) e2).1
theorem V6z (T:TR):rs T<2^256:=by
 cases T with
 |nil=>exact J7y _
 |leaf a x=>exact J7y _
 |node e l r=>exact J7y _
attribute [local irreducible] hs4 sE sL sN lb

end

section
theorem Y4y (D:DD)(e:Nat):J34 (D.lvs e):=fun x hx=>by
  unfold DD.lvs at hx;obtain⟨m,_,rfl⟩:=List.mem_map.1 hx;exact Z3u D m
theorem V6r (D:DD)(l:List UInt8)(e:Nat):(D.lk l e).ek<2^256:=by
  show(J2e (J00 (D.tree e) (ixN D.vk l) 0)).1<_;unfold DD.tree;exact(V1i (Y4y D e)).1
theorem K2g {D:DD}(hK:DOk D)(l:List UInt8)(e:Nat):(D.lk l e).x.length≤64:=by
  show(D.lastM l e).x.length≤64;unfold DD.lastM;generalize hq:(D.made.filter fun m=>decide (m.l=l)).filter (fun m=>decide (m.ep≤e))=q;cases q with
  |nil=>exact Ah _
  |cons a t=>
    have h1:(a::t).getLastD mdZ∈a::t:=by
      rw[List.getLastD_eq_getLast?,List.getLast?_eq_some_getLast (by simp)];exact List.getLast_mem _
    rw[←hq] at h1;have h2:=(List.mem_filter.1 (List.mem_filter.1 h1).1).1;have h3:=hK.val _ (Ar.2 (.inl (DD.made_mem h2).2));rw[←hq];exact h3
def Q61 (D:DD)(e:Nat):List (List AB):=(List.range' 0 (e+1-0)).map (mkC D)
end

section
theorem RJf {P:Program}{ops:Array Oper}{id:Nat}{a:Act}{w:AA}{Q:Exit→Act→AA→Prop}{R:Act→AA→Prop}(h:(Code.region id ops false).wp P (Nml R) a w)(hk:∀a' w',R a' w' →Q .normal a' w'):(Code.region id ops false).wp P Q a w:=
  Code.wp_mono (fun e a' w' h' =>by cases e<;>first|exact hk _ _ h' |exact(h' :False).elim) h
def V6s:Fnd:=⟨0,0,0,false,0,[],0,0,[],false,0,0,0,0,0,0⟩
def DD.lkE (D:DD)(l:List UInt8)(e:Nat):Fnd:=if erN D.vk l=0 then D.lk l e else V6s
def Q9a (f:Fnd)(er:Nat)(w w' :AA)(e:Ending):Prop:=∃z:AB×AB,e=.returned (.tuple #[.agg (fdF f z.1 z.2),.int .i64 (er:Int)])∧SH [] w w' [.o z.1 f.x,.r 23 32 z.2 (f.ss.map J0d)]
theorem Z9c {D:DD}{y:LD}{l:List UInt8}{v:AB}{n:Int}{e:Nat}(hn:n=(e:Int)∨n= -1∧(e:Int)=((D.puts.length-1:Nat):Int))(he:e<D.puts.length)(w:AA)(hX:GX w)(hD:DK D y w)(hL:LOk D y)(hK:DOk D)(hs:Sl w v l)(hl:1≤l.length∧l.length≤32):
    Az Tryz.prog 7 #[.pointer (some ⟨y.p,0,none⟩),v,.int .i64 n] w fun en w' =>Q9a (D.lkE l e) (erN D.vk l) w w' en:=by
  unfold DD.lkE
  by_cases h0:erN D.vk l=0
  · rw[if_pos h0,h0]
    exact V19 hn he h0 w hX hD hL hK hs hl
  rw[if_neg h0];refine(V1b hn he h0 w hX hD hL hK hs hl).mono fun en w' ⟨h1,h2⟩=>⟨(.slice none 0 0,.slice none 0 0),h1,?_⟩
  have hS:=(SH.nil [] w).next (J1t h2);have hS:=hS.rnil 23 32 rfl;exact hS.onil rfl
theorem V1j (D:DD)(l:List UInt8)(e:Nat):(D.lkE l e).ek<2^256:=by
  unfold DD.lkE;split
  · exact V6r _ _ _
  exact Nat.two_pow_pos _
theorem V6t {D:DD}(hK:DOk D)(l:List UInt8)(e:Nat):(D.lkE l e).x.length≤64:=by
  unfold DD.lkE;split
  · exact K2g hK _ _
  exact Ah _
theorem After.lkE {D D' :DD}(h:After D D'){l:List UInt8}{e:Nat}(he:e<D.puts.length):D'.lkE l e=D.lkE l e:=by
  unfold DD.lkE;rw[h.vk,h.lk l e he]
end

section
attribute [local irreducible] wpList Z9 wpX
open S8 (Kn GA kP)
theorem Y57 (n:Int):AG.wrap .u8 (n % 18446744073709551616 % 4)=((UInt8.ofNat (n % 18446744073709551616 % 4).toNat).toNat:Int):=by rw[AG.wrap_u8,UInt8.toNat_ofNat'];omega
def lb4 (n:Int):List UInt8:=[108,UInt8.ofNat (n % 18446744073709551616 % 4).toNat]
attribute [local irreducible] eI be8 hs4 lb J33 J25 K3 xt hm pbs DD.tree DD.link rs S8.kP S8.kN S8.kD ofT ebs lk0 sE sL sN opn bnd ahd bsd ixN pfN erN J0l DD.links DD.trees DD.play DD.putD DD.sealD fnd DD.lk lb4

end

section
def Num (ms:List Md):Prop:=∀(l:List UInt8) (i:Nat) (m:Md),(ms.filter fun m=>decide (m.l=l))[i]?=some m→m.ver=i+1
theorem Z9n {ms:List Md}(h:Num ms)(l x:List UInt8)(e:Nat):Num (ms++[⟨l,x,e,vct ms l+1⟩]):=by
  intro l' i m hm;rw[List.filter_append] at hm
  by_cases hl:l=l'
  · subst hl
    rw[show List.filter (fun m:Md=>decide (m.l=l)) [⟨l,x,e,vct ms l+1⟩]=[⟨l,x,e,vct ms l+1⟩] by simp] at hm;rcases Nat.lt_or_ge i (ms.filter fun m:Md=>decide (m.l=l)).length with hi|hi
    · rw[List.getElem?_append_left hi] at hm;exact h l i m hm
    rw[List.getElem?_append_right hi] at hm
    have h0:i-(ms.filter fun m:Md=>decide (m.l=l)).length=0:=by
      rcases Nat.eq_zero_or_pos (i-(ms.filter fun m:Md=>decide (m.l=l)).length) with h0|h0
      · exact h0
      rw[List.getElem?_eq_none (by simp;omega)] at hm;cases hm
    rw[h0] at hm;obtain rfl:=Option.some.inj hm;show vct ms l+1=i+1;unfold vct;omega
  rw[show List.filter (fun m:Md=>decide (m.l=l')) [⟨l,x,e,vct ms l+1⟩]=[] by simp[hl],List.append_nil] at hm;exact h l' i m hm
theorem Z3z {e:Nat}:∀(ps:List J5i) {ms:List Md},Num ms→Num (mdp ms e ps)
  |[],_,h=>h
  |p::ps,ms,h=>Z3z ps (Z9n h p.1 p.2 e)
theorem Z40:∀(r:List (List J5i)) {ms:List Md} {e:Nat},Num ms→Num (mdS ms e r)
  |[],_,_,h=>h
  |q::r,_,_,h=>Z40 r (Z3z q h)
def Ord (ms:List Md)(e:Nat):Prop:=ms.Pairwise (fun a b=>a.ep≤b.ep)∧∀m∈ms,m.ep≤e
theorem Z41 {e:Nat}(ps:List J5i){ms:List Md}(h:Ord ms e):Ord (mdp ms e ps) e:=by
  obtain⟨t,h1,h2,_⟩:=Q7e (e:=e) (ps:=ps) (ms:=ms);rw[h1];refine⟨List.pairwise_append.2 ⟨h.1,?_,fun a ha b hb=>by rw[h2 b hb];exact h.2 a ha⟩,fun m hm=>(Ar.1 hm).elim (h.2 m) fun hm=>Nat.le_of_eq (h2 m hm)⟩;exact List.pairwise_iff_getElem.2 fun i j hi hj _=>by rw[h2 _ (List.getElem_mem hi),h2 _ (List.getElem_mem hj)];exact AJ _
theorem Z42:∀(r:List (List J5i)) {ms:List Md} {e:Nat},Ord ms e→(mdS ms e r).Pairwise (fun a b=>a.ep≤b.ep)
  |[],_,_,h=>h.1
  |q::r,ms,e,h=>Z42 r (e:=e+1) ⟨(Z41 q h).1,fun m hm=>Nat.le_succ_of_le ((Z41 q h).2 m hm)⟩
theorem J81:∀{q:List Md},q.Pairwise (fun a b=>a.ep≤b.ep)→∀e,q.filter (fun m=>decide (m.ep≤e))=q.take (q.filter fun m=>decide (m.ep≤e)).length
  |[],_,_=>rfl
  |a::r,h,e=>by
    have hr:=List.pairwise_cons.1 h
    by_cases ha:a.ep≤e
    · rw[List.filter_cons_of_pos (by simpa using ha),AV,List.take_succ_cons,←J81 hr.2 e]
    · have h0:(a::r).filter (fun m=>decide (m.ep≤e))=[]:=List.filter_eq_nil_iff.2 fun m hm=>by
        rcases List.mem_cons.1 hm with rfl|hm
        · simpa using ha
        · have:=hr.1 m hm;simp;omega
      rw[h0];rfl
namespace DD
def ofl (D:DD)(l:List UInt8):List Md:=D.made.filter fun m=>decide (m.l=l)
def cnt (D:DD)(l:List UInt8)(e:Nat):Nat:=((D.ofl l).filter fun m=>decide (m.ep≤e)).length
theorem ofl_num (D:DD)(l:List UInt8){i:Nat}{m:Md}(h:(D.ofl l)[i]?=some m):m.ver=i+1:=Z40 D.puts (ms:=[]) (fun _ _ _ h=>by cases h) l i m h
theorem ofl_ord (D:DD)(l:List UInt8):(D.ofl l).Pairwise (fun a b=>a.ep≤b.ep):=(Z42 D.puts (ms:=[]) (e:=0) ⟨.nil,fun m hm=>by cases hm⟩).filter _
theorem cnt_le (D:DD)(l:List UInt8)(e:Nat):D.cnt l e≤(D.ofl l).length:=List.length_filter_le _ _
theorem Q46 (D:DD)(l:List UInt8)(e:Nat):D.lastM l e=((D.ofl l).take (D.cnt l e)).getLastD mdZ:=by
  unfold lastM cnt;show((D.ofl l).filter _).getLastD mdZ=_
  conv=>lhs;rw[J81 (D.ofl_ord l) e]
theorem Z1w {D:DD}{l:List UInt8}{e:Nat}(h:D.cnt l e=0):D.lastM l e=mdZ:=by rw[Q46,h,List.take_zero];rfl
theorem Q9b {D:DD}{l:List UInt8}{e:Nat}(h:0<D.cnt l e):(D.ofl l)[D.cnt l e-1]?=some (D.lastM l e):=by
  have hl:=D.cnt_le l e;rw[Q46,List.getLastD_eq_getLast?,List.getLast?_eq_getElem?,List.length_take,Nat.min_eq_left hl,List.getElem?_take_of_lt (by omega),Af (by omega)];rfl
theorem lastM_ver (D:DD)(l:List UInt8)(e:Nat):(D.lastM l e).ver=D.cnt l e:=by
  rcases Nat.eq_zero_or_pos (D.cnt l e) with h|h
  · rw[Z1w h,h];rfl
  rw[D.ofl_num l (Q9b h)];omega
end DD
end
end Go.Proofs.YtpljgkofbfeelaaGreatDoor

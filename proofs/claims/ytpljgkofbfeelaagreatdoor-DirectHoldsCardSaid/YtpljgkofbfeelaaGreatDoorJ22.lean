/- Contracts and plain laws for directHolds_holds. Conditions: the tables hold their numbers. -/
import Derived.Test.YtpljgkofbfeelaaGreatDoorS8Va
open Go renaming undef->AP,World->AA,Value->AB,bodyPost_ret->BC,Calls->Az
open Go.Lib renaming hid->BF
open _root_.List renaming length_append->Ai,length_cons->AV,nil_append->BM,append_nil->Aj,append_assoc->Ak,length_nil->Al,forall_mem_cons->BJ,flatten_cons->An,cons_append->BK
open _root_.Nat renaming mod_eq_of_lt->AI,lt_trans->BG,not_le->BW,mod_lt->BH,zero_add->AL,two_pow_pos->AM,div_eq_of_lt->AN
open Go.RowKit
set_option maxRecDepth 100000
set_option linter.unusedSimpArgs false
set_option linter.unusedVariables false
namespace Go.Proofs.YtpljgkofbfeelaaGreatDoor.S8
section
set_option maxHeartbeats 2000000
attribute [local irreducible] wpList Z9 wpX
variable {kn : Kn}
open Sc (LL J0k)
attribute [local irreducible] hs
theorem h16 {X C:Nat}(hC:C=X % J2h):∀i v,(J0 .u8 16 (J2 C))[i]?=some v→(J0 .u8 64 (J2 X))[0+i]?=some v:=
 Q3o (fun j hj=>by rw[hC,show J2h=2^(8*16) from rfl,Z6b hj,AL]) (by decide)
theorem Z6e (hc:kn.c){V c0:Nat}{L:List UInt8}(hL:L.length≤1099511627776)(hv:vpt V L=some c0){h:Pr}(hh:h=candP V L c0):
  ∃X Y Z T,RN X Y Z T h∧∀v w,GA kn w→Sl w v L→Az Tryz.prog 51 #[.agg (J0 .u8 32 (J2 V)),v] w fun e w' =>V5 (.tuple #[.agg (p4 X Y Z T),.int .i64 0]) w w' e:=by
 obtain⟨h1,h2,h3⟩:=vpt_some hv;subst hh;exact Z38 hc hL c0 h1 h2 h3
theorem Z6f (hc:kn.c){V:Nat}{L:List UInt8}(hL:L.length≤1099511627776)(hv:vpt V L=none)(v:AB)(w:AA)(hG:GA kn w)(hs:Sl w v L):
  Az Tryz.prog 51 #[.agg (J0 .u8 32 (J2 V)),v] w fun e w' =>V5 (.tuple #[.agg (p4 0 0 0 0),.int .i64 15]) w w' e:=Z39 hc hL (vpt_none hv) v w hG hs
theorem Y39 {E C n:Nat}(hE:E<2^256)(hC:C<J2h):lb 32 E++lb 16 C++lb 32 n=lb 80 (E+2^256*(C+J2h*n)):=by
 have e1:lb 80 (E+2^256*(C+J2h*n))=lb 32 (E+2^256*(C+J2h*n))++lb 48 ((E+2^256*(C+J2h*n)) / 2^(8*32)):=Z35 32 48 _;have e2:lb 48 (C+J2h*n)=lb 16 (C+J2h*n)++lb 32 ((C+J2h*n) / 2^(8*16)):=Z35 16 32 _;rw[e1,show(2:Nat)^(8*32)=2^256 from rfl,Nat.add_mul_div_left _ _ (by decide),AN hE,AL,e2,show(2:Nat)^(8*16)=J2h from rfl,Nat.add_mul_div_left _ _ (by decide),AN hC,AL,Ak]
 congr 1
 ·
  rw[←Y1h 32 (E+2^256*(C+J2h*n)),show(2:Nat)^(8*32)=2^256 from rfl,Nat.add_mul_mod_self_left,AI hE]
 congr 1
 rw[←Y1h 16 (C+J2h*n),show(2:Nat)^(8*16)=J2h from rfl,Nat.add_mul_mod_self_left,AI hC]
theorem Z3a {V X:Nat}{X1 Y1 Z1 T1:Nat}{a1:Pr}(h1:RN X1 Y1 Z1 T1 a1){X2 Y2 Z2 T2:Nat}{a2:Pr}(h2:RN X2 Y2 Z2 T2 a2){X3 Y3 Z3 T3:Nat}{a3:Pr}(h3:RN X3 Y3 Z3 T3 a3){X4 Y4 Z4 T4:Nat}{a4:Pr}(h4:RN X4 Y4 Z4 T4 a4)(hX:X=chH V a1 a2 a3 a4)(gP:Nat)(w:AA)(hG:GA kn w)(hP:Blk w gP (q4 (p4 X1 Y1 Z1 T1) (p4 X2 Y2 Z2 T2) (p4 X3 Y3 Z3 T3) (p4 X4 Y4 Z4 T4)) 140):
  Az Tryz.prog 58 #[.agg (J0 .u8 32 (J2 V)),.slice (some ⟨gP,0,none⟩) 4 4] w fun e w' => ∃p,e=.returned (.slice (some ⟨p,0,none⟩) 16 64)∧SH [] w w' [.b p (J0 .u8 64 (J2 X)) 67]:=by
 obtain⟨qs,D⟩:∃qs:List PQ,qs=[⟨X1,Y1,Z1,T1,a1⟩,⟨X2,Y2,Z2,T2,a2⟩,⟨X3,Y3,Z3,T3,a3⟩,⟨X4,Y4,Z4,T4,a4⟩]:=⟨_,rfl⟩
 have hx:RowKit.Hid (X=hs ([3,2]++lb 32 V++(qs.map fun q=>lb 32 (enc q.a)).flatten++[0])):=BF (by
  rw[hX,D];unfold chH
  congr 1)
 have hr:RR 16 w (.slice (some ⟨gP,0,none⟩) 4 4) (qs.map pqC):=by rw[D];exact rr4 hP
 have hn:qs.length≤1000:=by rw[D];simp
 refine V58 (qs:=qs) (fun q hq=> ?_) hn hx w hG hr;rw[D] at hq;simp only[List.mem_cons,List.not_mem_nil,or_false] at hq;rcases hq with rfl|rfl|rfl|rfl
 ·
  exact h1
 ·
  exact h2
 ·
  exact h3
 exact h4
theorem V59 {w:AA}{v:AB}{l:List UInt8}(h:Own w v l)(hl:l.length=80):∃g c,v=.slice (some ⟨g,0,none⟩) 80 c:=by
 obtain⟨g,c,D,h1,_,_⟩:=Z0l h (by omega);exact⟨g,c,by rw[←hl];exact h1⟩

theorem Z0r:J2h<2^256:=by decide
theorem Y7i {C:Nat}(hC:C<J2h)(v:AB)(w:AA)(h:Sl w v (lb 16 C)):Az Tryz.prog 52 #[v] w fun e w' =>V5 (.agg (J0 .u8 32 (J2 C))) w w' e:=by
 have h2:=V52 v (lb 16 C) (J7 _ _) w h;rw[Z5d 16 C hC] at h2;exact h2
theorem Y3a {A B:Nat}(hA:A<J2h)(hB:B<J2h)(h:lb 16 A=lb 16 B):A=B:=by
 rw[←Z5d 16 A hA,←Z5d 16 B hB,h]
def chk (V P:Nat)(h:Pr):Nat:=ch V h (dPt (pG P)) (V9 (pm BP (pN P)) (pm (J40 (dPt V)) (pC P))) (V9 (pm h (pN P)) (pm (J40 (dPt (pG P))) (pC P)))

theorem Y7j (hd:kn.d)(hb:kn.b)(hc:kn.c)(S c0:Nat)(v:AB)(L:List UInt8)(hL:L.length≤1099511627776)(hv:vpt (kP S) L=some c0){h:Pr}(hh:h=candP (kP S) L c0):
  ∀w,GA kn w→Sl w v L→Az Tryz.prog 68 #[.agg (J0 .u8 32 (J2 S)),v] w fun e w' =>V5 (.tuple #[.agg (J0 .u8 80 (J2 (vPr S h))),.int .i64 0]) w w' e:=by
 obtain⟨U1,κ⟩:=exn (kN S);have G4:U1<2^256:=by rw[κ];exact V09 _
 have D6:=BF κ;clear κ;obtain⟨U2,ν⟩:=exn (kD S);have R5:U2<2^256:=by rw[ν];exact V0a _
 have Ξ:=BF ν;clear ν;obtain⟨U3,φ⟩:=exn (kP S);have S4:U3<2^256:=by rw[φ];exact kP_lt _
 have η:=BF φ;clear φ;have M2:vpt U3 L=some c0:=by rw[η.out];exact hv
 have M8:h=candP U3 L c0:=by rw[η.out];exact hh
 obtain⟨hx,hy,hz,ht,hr,N2⟩:=Z6e (kn:=kn) hc hL M2 M8;obtain⟨x1,y2,z3,t4,r5,c6⟩:=J4s hd hr.rw (N:=U1) G4;obtain⟨U4,τ⟩:=exn (enc h);have R3:U4<2^256:=by rw[τ];exact J8k _
 have G9:=BF τ;clear τ;obtain⟨U5,X⟩:=exh (hs ((lb 32 U2)++(lb 32 U4)));obtain⟨U6,Δ⟩:=exn (U5 % LL);have T:U6<LL:=by rw[Δ];exact mLL _
 have R9:U6<2^256:=BG T J32;have Ψ:=BF Δ;clear Δ;obtain⟨x7,y8,z9,N0,M6,M5⟩:=Q8d hb;obtain⟨G6,G1,D1,G7,M7,N6⟩:=J4s hd M6.rw (N:=U6) (BG T J32);obtain⟨G2,D3,G5,G3,M1,N5⟩:=J4s hd hr.rw (N:=U6) (BG T J32);obtain⟨U7,G0⟩:=exh (chH U3 h (pm h U1) (pm BP U6) (pm h U6));obtain⟨U8,θ⟩:=exn (U7 % J2h);have D8:U8<J2h:=by rw[θ];exact BH _ (by decide)
 have ω:=BF θ;clear θ;obtain⟨U9,σ⟩:=exn (U8 % LL);have D0:U9<LL:=by rw[σ];exact mLL _
 have R8:U9<2^256:=BG D0 J32;have D5:=BF σ;clear σ;obtain⟨δ,α⟩:=exn (U1 % LL);have ρ:δ<LL:=by rw[α];exact mLL _
 have N9:δ<2^256:=BG ρ J32;have Γ:=BF α;clear α;obtain⟨ζ,Z⟩:=exn (U9*δ % LL);have ξ:ζ<LL:=by rw[Z];exact mLL _
 have R1:ζ<2^256:=BG ξ J32;have ψ:=BF Z;clear Z;obtain⟨J,β⟩:=exn ((U6+ζ) % LL);have Θ:J<LL:=by rw[β];exact mLL _
 have R0:J<2^256:=BG Θ J32;have χ:=BF β;clear β;obtain⟨G,γ⟩:=exn (enc (pm h U1));have M0:G<2^256:=by rw[γ];exact J8k _
 have μ:=BF γ;clear γ;intro w hG N3;have hS:=SH.nil [] w
 go_enter Tryz.func68,Tryz.ntmps68
 go_upto_region 0 with fail;refine RL hS ?_;clear hS;refine MN (z:=J0 .u8 32 (J2 S)) (t:=23) ?_;intro K9;refine MN (z:=J0 .u8 80 (J2 0)) (t:=36) ?_;intro D9;refine W0 ?_;refine MZ fun W hS=> ?_;go_upto_region 1 with fail;refine RL hS ?_;clear hS;refine ML 1 ?_;refine MC (v:=.agg (s3 U1 U2 U3)) (fun W hS=>spreadN_c hd hb D6.out Ξ.out η.out W (GA_ext hG hS.ext)) ?_;refine MN (z:=s3 0 0 0) (t:=109) ?_;intro D;refine MR 0 ?_ (hz:=by rw[J1f];kernel_rfl) (hs:=by first|rw[J1f,J1f]|rw[J1f]|kernel_rfl) (h1:=Q8n);refine MZ fun W hS=> ?_;go_upto_region 2 with fail;refine RL hS ?_;clear hS;refine MV ?_;refine Ml 0 V4p ?_;refine MV ?_;refine MC (v:=.tuple #[.agg (p4 hx hy hz ht),.int .i64 0]) (fun W hS=>N2 v W (GA_ext hG hS.ext) (K4 N3 hS.ext)) ?_;refine MV ?_;refine MV ?_;refine W0 ?_;refine MN (z:=p4 0 0 0 0) (t:=140) ?_;intro G8;refine MR 0 ?_;refine W0 ?_;refine MZ fun W hS=> ?_;go_upto_region 5 with fail;refine RL hS ?_;clear hS;refine ML 0 ?_;refine MV ?_;refine Ml 1 V4o ?_;refine MC (v:=.agg (p4 x1 y2 z3 t4)) (fun W hS=>c6 W (GA_ext hG hS.ext).1) ?_;refine MN (z:=p4 0 0 0 0) (t:=140) ?_;intro D7;refine MR 0 ?_;refine MZ fun W hS=> ?_;go_upto_region 6 with fail;refine RL hS ?_;clear hS;refine ML 1 ?_;refine MC (v:=.agg (J0 .u8 32 (J2 U4))) (fun W hS=>Q59 hr.rw G9.out W (GA_ext hG hS.ext).1) ?_;refine MN (z:=J0 .u8 32 (J2 0)) (t:=23) ?_;intro M;refine MR 0 ?_;refine MZ fun W hS=> ?_;go_upto_region 7 with fail;refine RJ (R:=fun a_ w_=> ∃(U:Nat),∃(Y:Nat),a_={tmps:=List.toArray ((.agg (J0 .u8 32 (J2 S)))::v::(.pointer (some ⟨K9,0,none⟩))::AP::(.pointer (some ⟨D9,0,none⟩))::(.int .i64 0)::(.pointer (some ⟨D,0,none⟩))::(.pointer (some ⟨G8,0,none⟩))::(.int .i64 0)::(.pointer (some ⟨D7,0,none⟩))::(.pointer (some ⟨M,0,none⟩))::(.pointer (some ⟨U,0,none⟩))::AP::AP::AP::AP::(.agg (J0 .u8 32 (J2 S)))::(.agg (s3 U1 U2 U3))::(.tuple #[.agg (p4 hx hy hz ht),.int .i64 0])::(.pointer (some ⟨D,64,none⟩))::(.agg (J0 .u8 32 (J2 U3)))::v::(.tuple #[.agg (p4 hx hy hz ht),.int .i64 0])::(.agg (p4 hx hy hz ht))::(.int .i64 0)::(.int .i64 0)::(.bool false)::AP::AP::(.agg (p4 hx hy hz ht))::(.pointer (some ⟨D,0,none⟩))::(.agg (J0 .u8 32 (J2 U1)))::(.agg (p4 x1 y2 z3 t4))::(.agg (p4 hx hy hz ht))::(.agg (J0 .u8 32 (J2 U4)))::(.pointer (some ⟨D,32,none⟩))::(.slice (some ⟨D,32,none⟩) 32 32)::(.slice (some ⟨M,0,none⟩) 32 32)::(.slice (some ⟨Y,0,none⟩) 2 2)::(.agg (J0 .u8 64 (J2 U5)))::AP::AP::AP::AP::AP::AP::AP::AP::AP::AP::AP::AP::AP::AP::AP::AP::AP::AP::AP::AP::AP::AP::AP::AP::AP::AP::AP::AP::AP::AP::AP::AP::AP::AP::AP::AP::[]),defers:=[]}∧SH [] w w_ [.b Y #[.slice (some ⟨D,32,none⟩) 32 32,.slice (some ⟨M,0,none⟩) 32 32] 22,.b U (J0 .u8 64 (J2 U5)) 67,.b M (J0 .u8 32 (J2 U4)) 23,.b K9 (J0 .u8 32 (J2 S)) 23,.b D9 (J0 .u8 80 (J2 0)) 36,.b D (s3 U1 U2 U3) 109,.b G8 (p4 hx hy hz ht) 140,.b D7 (p4 x1 y2 z3 t4) 140]) ?_ ?_
 ·
  refine RTh (.q 0 (.q 1 (.q 2 (.b 3 (.b 4 (.e 5 (.e 6 .z)) 5 (.e 4 (.e 6 .z))) 5 (.e 3 (.e 4 (.e 6 .z))))))) hS ?_;clear hS;refine TV ?_;refine TW ?_ (v:=.slice (some ⟨D,32,none⟩) 32 32);refine TW ?_ (v:=.slice (some ⟨M,0,none⟩) 32 32);refine TB (fun _ h=>h) ?_ ?_
  ·
   refine MB (z:= #[.slice (some ⟨D,32,none⟩) 32 32,.slice (some ⟨M,0,none⟩) 32 32]) (t:=22) (n:=2) (c:=2) ?_ (hr:=fun W hS=>Y0 [.slice (some ⟨D,32,none⟩) 32 32,.slice (some ⟨M,0,none⟩) 32 32] rfl rfl (vsc (J6 (Q7 (V:=U2) (n:=32) (off:=32) (c:=32) (hS.blk (i:=3) rfl) Y2w (by decide) (by decide))).1 (vsc (J6 (Q7 (V:=U4) (n:=32) (off:=0) (c:=32) (hS.blk (i:=0) rfl) ap0 (by decide) (by decide))).1 vs0)) Tryz.underlying155 (by kernel_rfl) (by kernel_rfl) rfl (by decide) (by decide));intro ε;refine TNh (fun W hS=>hS.pick [1,2,3,4,5,6]) ?_;refine TB (fun _ h=>h) ?_ ?_
   ·
    refine MC (v:=.agg (J0 .u8 64 (J2 U5))) (fun W hS=>J7m X.out [lb 32 U2,lb 32 U4] (some ⟨ε,0,none⟩) 2 (by simp only[An,List.flatten_nil,Aj,BM,Ak,BK]) (by first|omega|(simp only[Ai,AV,Al,J7];omega)) (by simp) W (J0c (hS.blk (i:=0) rfl) (pvc (Q7 (V:=U2) (n:=32) (off:=32) (c:=32) (hS.blk (i:=4) rfl) Y2w (by decide) (by decide)) (pvc (Q7 (V:=U4) (n:=32) (off:=0) (c:=32) (hS.blk (i:=1) rfl) ap0 (by decide) (by decide)) pv0))) (GA_ext hG hS.ext).2.1) ?_;refine TNh (fun W hS=>hS) ?_;refine TE (fun _ h=>h) ?_;refine MN (z:=J0 .u8 64 (J2 0)) (t:=67) ?_;intro N4;refine Y6 [1,2,3,4,5,6,7] [0,1,2,3,4,5,6] ?_;refine TE (fun _ h=>h.pick [1,2,3,4,5,6,7]) ?_;refine MR 0 ?_;refine Y6 [1,2,3,4,5,6,7] [0,1,2,3,4,5,6] ?_;refine TZ (fun _ h=>h.pick [1,2,3,4,5,6,7]) fun W hS=> ?_;exact⟨N4,ε,rfl,hS.pick [1,0,2,7,6,5,4,3]⟩
   refine MN (z:=J0 .u8 64 (J2 0)) (t:=67) ?_;intro M9;refine Y6 [1,2,3,4,5,6,7] [0,1,2,3,4,5,6] ?_;refine TE (fun _ h=>h.pick [1,2,3,4,5,6,7]) ?_;refine MC (v:=.agg (J0 .u8 64 (J2 U5))) (fun W hS=>J7m X.out [lb 32 U2,lb 32 U4] (some ⟨ε,0,none⟩) 2 (by simp only[An,List.flatten_nil,Aj,BM,Ak,BK]) (by first|omega|(simp only[Ai,AV,Al,J7];omega)) (by simp) W (J0c (hS.blk (i:=1) rfl) (pvc (Q7 (V:=U2) (n:=32) (off:=32) (c:=32) (hS.blk (i:=5) rfl) Y2w (by decide) (by decide)) (pvc (Q7 (V:=U4) (n:=32) (off:=0) (c:=32) (hS.blk (i:=2) rfl) ap0 (by decide) (by decide)) pv0))) (GA_ext hG hS.ext).2.1) ?_;refine Y6 [1,2,3,4,5,6,7] [0,1,2,3,4,5,6] ?_;refine TE (fun _ h=>h.pick [1,2,3,4,5,6,7]) ?_;refine MR 0 ?_;refine Y6 [1,2,3,4,5,6,7] [0,1,2,3,4,5,6] ?_;refine TZ (fun _ h=>h.pick [1,2,3,4,5,6,7]) fun W hS=> ?_;exact⟨M9,ε,rfl,hS.pick [1,0,2,7,6,5,4,3]⟩
  refine MN (z:=J0 .u8 64 (J2 0)) (t:=67) ?_;intro M3;refine Y6 [1,2,3,4,5,6] [0,1,2,3,4,5] ?_;refine TE (fun _ h=>h.pick [1,2,3,4,5,6]) ?_;refine MB (z:= #[.slice (some ⟨D,32,none⟩) 32 32,.slice (some ⟨M,0,none⟩) 32 32]) (t:=22) (n:=2) (c:=2) ?_ (hr:=fun W hS=>Y0 [.slice (some ⟨D,32,none⟩) 32 32,.slice (some ⟨M,0,none⟩) 32 32] rfl rfl (vsc (J6 (Q7 (V:=U2) (n:=32) (off:=32) (c:=32) (hS.blk (i:=4) rfl) Y2w (by decide) (by decide))).1 (vsc (J6 (Q7 (V:=U4) (n:=32) (off:=0) (c:=32) (hS.blk (i:=1) rfl) ap0 (by decide) (by decide))).1 vs0)) Tryz.underlying155 (by kernel_rfl) (by kernel_rfl) rfl (by decide) (by decide));intro D4;refine Y6 [0,2,3,4,5,6,7] [1,2,3,4,5,6] ?_;refine TE (fun _ h=>h.pick [0,2,3,4,5,6,7]) ?_;refine MC (v:=.agg (J0 .u8 64 (J2 U5))) (fun W hS=>J7m X.out [lb 32 U2,lb 32 U4] (some ⟨D4,0,none⟩) 2 (by simp only[An,List.flatten_nil,Aj,BM,Ak,BK]) (by first|omega|(simp only[Ai,AV,Al,J7];omega)) (by simp) W (J0c (hS.blk (i:=0) rfl) (pvc (Q7 (V:=U2) (n:=32) (off:=32) (c:=32) (hS.blk (i:=5) rfl) Y2w (by decide) (by decide)) (pvc (Q7 (V:=U4) (n:=32) (off:=0) (c:=32) (hS.blk (i:=2) rfl) ap0 (by decide) (by decide)) pv0))) (GA_ext hG hS.ext).2.1) ?_;refine Y6 [0,2,3,4,5,6,7] [0,1,2,3,4,5,6] ?_;refine TE (fun _ h=>h.pick [0,2,3,4,5,6,7]) ?_;refine MR 1 ?_;refine Y6 [0,2,3,4,5,6,7] [0,1,2,3,4,5,6] ?_;refine TZ (fun _ h=>h.pick [0,2,3,4,5,6,7]) fun W hS=> ?_;exact⟨M3,D4,rfl,hS.pick [0,1,2,7,6,5,4,3]⟩
 rintro _ W ⟨U,Y,rfl,hS⟩;go_upto_region 8 with fail;refine RL hS ?_;clear hS;refine MW ?_ (v:=.slice (some ⟨U,0,none⟩) 64 64);refine MC (v:=.agg (c4 U6)) (fun W hS=>Y2y Ψ.out (n:=64) (off:=0) (hS.blk (i:=1) rfl) ap0 (by decide) (by rw[X.out];exact Y33 _) (GA_ext hG hS.ext).2.2.1) ?_;refine MN (z:=c4 0) (t:=143) ?_;intro R7;refine MR 0 ?_;refine MZ fun W hS=> ?_;go_upto_region 9 with fail;refine RTh (.q 0 (.q 1 (.q 2 (.q 3 (.q 5 (.q 8 (.q 9 (.e 4 (.e 6 (.e 7 (.e 10 (.e 11 (.e 12 (.e 13 (.q 14 .z))))))))))))))) hS ?_;clear hS;refine TV ?_;refine Tl 6 V4p ?_;refine TL 7 ?_;refine TL 8 ?_;refine TL 0 ?_;refine TL 7 ?_;refine TL 0 ?_;refine TE (fun _ h=>h) ?_;refine MC (v:=.agg (p4 x7 y8 z9 N0)) (fun W hS=>M5 W (GA_ext hG hS.ext).1) ?_;refine TNh (fun W hS=>hS) ?_;refine TE (fun _ h=>h) ?_;refine MC (v:=.agg (J0 .u8 32 (J2 U6))) (fun W hS=>Q18 T W (GA_ext hG hS.ext).2.2.1) ?_;refine TNh (fun W hS=>hS) ?_;refine TE (fun _ h=>h) ?_;refine MC (v:=.agg (p4 G6 G1 D1 G7)) (fun W hS=>N6 W (GA_ext hG hS.ext).1) ?_;refine TNh (fun W hS=>hS) ?_;refine TE (fun _ h=>h) ?_;refine MC (v:=.agg (J0 .u8 32 (J2 U6))) (fun W hS=>Q18 T W (GA_ext hG hS.ext).2.2.1) ?_;refine TNh (fun W hS=>hS) ?_;refine TE (fun _ h=>h) ?_;refine MC (v:=.agg (p4 G2 D3 G5 G3)) (fun W hS=>N5 W (GA_ext hG hS.ext).1) ?_;refine TNh (fun W hS=>hS) ?_;refine TE (fun _ h=>h) ?_;refine MB (z:=(p4 hx hy hz ht)++(p4 x1 y2 z3 t4)++(p4 G6 G1 D1 G7)++(p4 G2 D3 G5 G3)) (t:=140) (n:=4) (c:=4) ?_;intro N7;refine TNh (fun W hS=>hS.pick [1,2,3,4,5,6,7,8,9]) ?_;refine TE (fun _ h=>h) ?_;refine ME (V:=fun p:Nat=> .slice (some ⟨p,0,none⟩) 16 64) (fun W hS=>J1y hS (Z3a (kn:=kn) hr r5 M7 M1 G0.out N7 W (GA_ext hG hS.ext) (hS.blk (i:=0) rfl)) (fun _=>⟨rfl,rfl⟩)) ?_;intro N8;refine TNh (fun W hS=>hS.pick [1,2,3,4,5,6,7,8,9,10]) ?_;refine TV ?_;refine TZ (fun _ h=>h) fun W hS=> ?_;go_upto_region 10 with fail;refine RXn 9 [⟨9,14,J0 .u8 32 (J2 0),23⟩] hS ?_ (by simp only[BJ];exact⟨⟨_,rfl,rfl,rfl,fun _ _=>by kernel_rfl⟩,fun _ h=>by cases h⟩);clear hS;refine ML 2 ?_;refine MV ?_;refine MC (v:=.agg (c4 U9)) (fun W hS=>Y2y D5.out (n:=16) (off:=0) (hS.blk (i:=0) rfl) (h16 ω.out) (by decide) D8 (GA_ext hG hS.ext).2.2.1) ?_;refine MV ?_;refine MW ?_ (v:=.slice (some ⟨D,0,none⟩) 32 32);refine MC (v:=.agg (c4 δ)) (fun W hS=>Y2y Γ.out (n:=32) (off:=0) (hS.blk (i:=8) rfl) V4o (by decide) G4 (GA_ext hG hS.ext).2.2.1) ?_;refine MC (v:=.agg (c4 ζ)) (fun W hS=>V4r ψ.out (BG D0 J32) (BG ρ J32) W (GA_ext hG hS.ext).2.2.1) ?_;refine MC (v:=.agg (c4 J)) (fun W hS=>V4s χ.out (BG T J32) (BG ξ J32) W (GA_ext hG hS.ext).2.2.1) ?_;refine MC (v:=.agg (J0 .u8 32 (J2 J))) (fun W hS=>Q18 Θ W (GA_ext hG hS.ext).2.2.1) ?_;refine MZB fun M4=> ?_;refine MR 0 ?_;refine MZn fun W hS=> ?_;go_upto_region 11 with fail;refine RL hS ?_;clear hS;refine ML 11 ?_;refine MC (v:=.agg (J0 .u8 32 (J2 G))) (fun W hS=>Q59 r5.rw μ.out W (GA_ext hG hS.ext).1) ?_;refine MN (z:=J0 .u8 32 (J2 0)) (t:=23) ?_;intro N1;refine MR 0 ?_;refine MZ fun W hS=> ?_;go_upto_region 12 with fail;refine RTp [0,1,2,3,4,5,6,7,8,10,11,12] (.q 1 (.q 3 (.q 5 (.e 0 (.e 2 (.e 4 (.e 6 (.q 7 (.q 8 (.e 9 (.q 10 .z))))))))))) hS ?_;clear hS;refine TW ?_ (v:=.slice (some ⟨N1,0,none⟩) 32 32);refine TV ?_;refine TW ?_ (v:=.slice (some ⟨(M4 9),0,none⟩) 32 32);refine TE (fun _ h=>h.pick [0,1,2,3,4,5,6,7,8,10,11,12]) ?_;refine MO (m:=[]) (n:=0) (z:= #[]) ?_;intro R2;refine Y6 [1,2,3,4,5,6,7,8,9,11,12,13] [0,1,2,3,4,5,6,7,8,9,10,11] ?_;refine TE (fun _ h=>h.pick [1,2,3,4,5,6,7,8,9,11,12,13]) ?_;refine MA 0 (xs:=[]) (ys:=(lb 32 G)) (fun W hS=>(Q7 (V:=G) (n:=32) (off:=0) (c:=32) (hS.blk (i:=1) rfl) ap0 (by decide) (by decide))) (by first|omega|(simp only[Ai,AV,Al,J7];omega)) ?_;intro R4;refine Y6 [1,2,3,4,5,6,7,8,9,11,12,13] [0,1,2,3,4,5,6,7,8,9,10,11] ?_;refine TE (fun _ h=>h.pick [1,2,3,4,5,6,7,8,9,11,12,13]) ?_;refine MA 0 (xs:=([]++(lb 32 G))) (ys:=(lb 16 U8)) (fun W hS=>(Q7 (V:=U8) (n:=16) (off:=0) (c:=64) (hS.blk (i:=3) rfl) (h16 ω.out) (by decide) (by decide))) (by first|omega|(simp only[Ai,AV,Al,J7];omega)) ?_;intro R6;refine Y6 [1,2,3,4,5,6,7,8,9,11,12,13] [0,1,2,3,4,5,6,7,8,9,10,11] ?_;refine TE (fun _ h=>h.pick [1,2,3,4,5,6,7,8,9,11,12,13]) ?_;refine MA 0 (xs:=(([]++(lb 32 G))++(lb 16 U8))) (ys:=(lb 32 J)) (fun W hS=>(Q7 (V:=J) (n:=32) (off:=0) (c:=32) (hS.blk (i:=2) rfl) ap0 (by decide) (by decide))) (by first|omega|(simp only[Ai,AV,Al,J7];omega)) ?_;intro S3;have Ω:((([]++(lb 32 G))++(lb 16 U8))++(lb 32 J)).length=80:=by simp only[Ai,J7,Al]
 refine K8 (fun W hS=>V59 (hS.own (i:=0) rfl) Ω) ?_;rintro⟨gz,cz,ez⟩;refine Y6 [0,1,2,3,4,5,6,7,8,9,11,12,13] [1,2,3,4,5,6,7,8,9,10,11,12] ?_;refine TW ?_ (v:=.pointer (some ⟨gz,0,none⟩)) (hv:=fun _=>Y7a (n:=80) rfl (by exact ez) Tryz.underlying36);refine TF (v:=.agg (J0 .u8 80 (J2 (G+2^256*(U8+J2h*J))))) rfl (fun W hS=>J0s (vs:=(J0 .u8 80 (J2 (G+2^256*(U8+J2h*J)))).toList) rfl rfl (V4t (hS.own (i:=0) rfl) ez Ω (by decide) (by rw[BM];exact Y39 M0 D8)) (by kernel_rfl) (by rw[Array.length_toList,J1];kernel_rfl)) ?_;refine TE (fun _ h=>h.pick [0,1,2,3,4,5,6,7,8,9,11,12,13]) ?_;refine MR 10 ?_;refine Y6 [0,1,2,3,4,5,6,7,8,9,11,12,13] [0,1,2,3,4,5,6,7,8,9,10,11,12] ?_;refine T0 ?_;refine TZ (fun _ h=>h.pick [0,1,2,3,4,5,6,7,8,9,11,12,13]) fun W hS=> ?_;go_wp2;rw[show J0 .u8 80 (J2 (G+2^256*(U8+J2h*J)))=J0 .u8 80 (J2 (vPr S h)) by rw[μ.out,χ.out,ψ.out,Γ.out,D5.out,ω.out,G0.out,Ψ.out,X.out,G9.out,η.out,Ξ.out,D6.out];rfl] at hS;exact BC (Y7 rfl rfl rfl (hS.blk (i:=10) rfl) (by kernel_rfl) (by rw[J1];kernel_rfl)) rfl ⟨rfl,hS.ext⟩
theorem Y7l (hd:kn.d)(hb:kn.b)(hc:kn.c)(S:Nat)(v:AB)(L:List UInt8)(hL:L.length≤1099511627776)(hv:vpt (kP S) L=none):
  ∀w,GA kn w→Sl w v L→Az Tryz.prog 68 #[.agg (J0 .u8 32 (J2 S)),v] w fun e w' =>V5 (.tuple #[.agg (J0 .u8 80 (J2 0)),.int .i64 15]) w w' e:=by
 obtain⟨U1,D⟩:=exn (kN S);have Y:U1<2^256:=by rw[D];exact V09 _
 have U:=BF D;clear D;obtain⟨U2,G⟩:=exn (kD S);have V:U2<2^256:=by rw[G];exact V0a _
 have N:=BF G;clear G;obtain⟨U3,J⟩:=exn (kP S);have β:U3<2^256:=by rw[J];exact kP_lt _
 have M:=BF J;clear J;have T:vpt U3 L=none:=by rw[M.out];exact hv
 intro w hG R;have hS:=SH.nil [] w
 go_enter Tryz.func68,Tryz.ntmps68
 go_upto_region 0 with fail;refine RL hS ?_;clear hS;refine MN (z:=J0 .u8 32 (J2 S)) (t:=23) ?_;intro K9;refine MN (z:=J0 .u8 80 (J2 0)) (t:=36) ?_;intro X;refine W0 ?_;refine MZ fun W hS=> ?_;go_upto_region 1 with fail;refine RL hS ?_;clear hS;refine ML 1 ?_;refine MC (v:=.agg (s3 U1 U2 U3)) (fun W hS=>spreadN_c hd hb U.out N.out M.out W (GA_ext hG hS.ext)) ?_;refine MN (z:=s3 0 0 0) (t:=109) ?_;intro Z;refine MR 0 ?_ (hz:=by rw[J1f];kernel_rfl) (hs:=by first|rw[J1f,J1f]|rw[J1f]|kernel_rfl) (h1:=Q8n);refine MZ fun W hS=> ?_;go_upto_region 2 with fail;refine RL hS ?_;clear hS;refine MV ?_;refine Ml 0 V4p ?_;refine MV ?_;refine MC (v:=.tuple #[.agg (p4 0 0 0 0),.int .i64 15]) (fun W hS=>Z6f (kn:=kn) hc hL T v W (GA_ext hG hS.ext) (K4 R hS.ext)) ?_;refine MV ?_;refine MV ?_;refine MW ?_ (v:=.int .i64 15);refine MN (z:=p4 0 0 0 0) (t:=140) ?_;intro α;refine MR 0 ?_;refine MW ?_ (v:=.int .i64 15);refine MZ fun W hS=> ?_;go_upto_region 4 with fail;refine RL hS ?_;clear hS;refine MW ?_ (v:=.agg (J0 .u8 80 (J2 0))) (hv:=by intro W;kernel_rfl);refine MW ?_ (v:=.int .i64 15);refine MR 2 ?_;refine MW ?_ (v:=.int .i64 15);refine MZ fun W hS=> ?_;go_wp2;exact BC (Y7 rfl rfl rfl (hS.blk (i:=2) rfl) (by kernel_rfl) (by rw[J1];kernel_rfl)) rfl ⟨rfl,hS.ext⟩
theorem Y7m (hd:kn.d)(hb:kn.b)(hc:kn.c){V P:Nat}(hV:V<2^256)(hP:B80 P)(v:AB)(L:List UInt8)(hL:L.length≤1099511627776)(hk1:dOk V=false):
  ∀w,GA kn w→Sl w v L→Az Tryz.prog 21 #[.agg (J0 .u8 32 (J2 V)),v,.agg (J0 .u8 80 (J2 P))] w fun e w' =>V5 (.tuple #[.agg (J0 .u8 64 (J2 0)),.int .i64 15]) w w' e:=by
 have kc:=K0j (kn:=kn) hc hV hk1;intro w hG N;have hS:=SH.nil [] w
 go_enter Tryz.func21,Tryz.ntmps21
 go_upto_region 0 with fail;refine RL hS ?_;clear hS;refine MN (z:=J0 .u8 32 (J2 V)) (t:=23) ?_;intro M;refine MN (z:=J0 .u8 80 (J2 P)) (t:=36) ?_;intro G;refine MN (z:=J0 .u8 64 (J2 0)) (t:=67) ?_;intro J;refine W0 ?_;refine MZ fun W hS=> ?_;go_upto_region 1 with fail;refine RL hS ?_;clear hS;refine ML 2 ?_;refine MC (v:=.tuple #[.agg (p4 0 0 0 0),.int .i64 15]) (fun W hS=>kc W (GA_ext hG hS.ext)) ?_;refine MV ?_;refine MV ?_;refine MW ?_ (v:=.int .i64 15);refine MN (z:=p4 0 0 0 0) (t:=140) ?_;intro D;refine MR 0 ?_;refine MW ?_ (v:=.int .i64 15);refine MZ fun W hS=> ?_;go_upto_region 3 with fail;refine RL hS ?_;clear hS;refine MW ?_ (v:=.agg (J0 .u8 64 (J2 0))) (hv:=by intro W;kernel_rfl);refine MW ?_ (v:=.int .i64 15);refine MR 1 ?_;refine MW ?_ (v:=.int .i64 15);refine MZ fun W hS=> ?_;go_wp2;exact BC (Y7 rfl rfl rfl (hS.blk (i:=1) rfl) (by kernel_rfl) (by rw[J1];kernel_rfl)) rfl ⟨rfl,hS.ext⟩
theorem Y7n (hd:kn.d)(hb:kn.b)(hc:kn.c){V P:Nat}(hV:V<2^256)(hP:B80 P)(v:AB)(L:List UInt8)(hL:L.length≤1099511627776)(hk1:dOk V=true)(hk2:pm (dPt V) 8=p0):
  ∀w,GA kn w→Sl w v L→Az Tryz.prog 21 #[.agg (J0 .u8 32 (J2 V)),v,.agg (J0 .u8 80 (J2 P))] w fun e w' =>V5 (.tuple #[.agg (J0 .u8 64 (J2 0)),.int .i64 15]) w w' e:=by
 obtain⟨kx,ky,kt,kr,kc⟩:=K0k (kn:=kn) hc hV hk1 hk2;intro w hG N;have hS:=SH.nil [] w
 go_enter Tryz.func21,Tryz.ntmps21
 go_upto_region 0 with fail;refine RL hS ?_;clear hS;refine MN (z:=J0 .u8 32 (J2 V)) (t:=23) ?_;intro M;refine MN (z:=J0 .u8 80 (J2 P)) (t:=36) ?_;intro G;refine MN (z:=J0 .u8 64 (J2 0)) (t:=67) ?_;intro J;refine W0 ?_;refine MZ fun W hS=> ?_;go_upto_region 1 with fail;refine RL hS ?_;clear hS;refine ML 2 ?_;refine MC (v:=.tuple #[.agg (p4 kx ky 1 kt),.int .i64 15]) (fun W hS=>kc W (GA_ext hG hS.ext)) ?_;refine MV ?_;refine MV ?_;refine MW ?_ (v:=.int .i64 15);refine MN (z:=p4 0 0 0 0) (t:=140) ?_;intro D;refine MR 0 ?_;refine MW ?_ (v:=.int .i64 15);refine MZ fun W hS=> ?_;go_upto_region 3 with fail;refine RL hS ?_;clear hS;refine MW ?_ (v:=.agg (J0 .u8 64 (J2 0))) (hv:=by intro W;kernel_rfl);refine MW ?_ (v:=.int .i64 15);refine MR 1 ?_;refine MW ?_ (v:=.int .i64 15);refine MZ fun W hS=> ?_;go_wp2;exact BC (Y7 rfl rfl rfl (hS.blk (i:=1) rfl) (by kernel_rfl) (by rw[J1];kernel_rfl)) rfl ⟨rfl,hS.ext⟩
theorem Y3c (hd:kn.d)(hb:kn.b)(hc:kn.c){V P:Nat}(hV:V<2^256)(hP:B80 P)(v:AB)(L:List UInt8)(hL:L.length≤1099511627776)(hk1:dOk V=true)(hk2:¬pm (dPt V) 8=p0)(hok:dOk (pG P)=false)(h1:LL≤pN P):
  ∀w,GA kn w→Sl w v L→Az Tryz.prog 21 #[.agg (J0 .u8 32 (J2 V)),v,.agg (J0 .u8 80 (J2 P))] w fun e w' =>V5 (.tuple #[.agg (J0 .u8 64 (J2 0)),.int .i64 17]) w w' e:=by
 obtain⟨kx,ky,kt,kr,kc⟩:=Z0q (kn:=kn) hc hV hk1 hk2;have pc:=Y7f (kn:=kn) hc hP hok h1;intro w hG S;have hS:=SH.nil [] w
 go_enter Tryz.func21,Tryz.ntmps21
 go_upto_region 0 with fail;refine RL hS ?_;clear hS;refine MN (z:=J0 .u8 32 (J2 V)) (t:=23) ?_;intro R;refine MN (z:=J0 .u8 80 (J2 P)) (t:=36) ?_;intro M;refine MN (z:=J0 .u8 64 (J2 0)) (t:=67) ?_;intro N;refine W0 ?_;refine MZ fun W hS=> ?_;go_upto_region 1 with fail;refine RL hS ?_;clear hS;refine ML 2 ?_;refine MC (v:=.tuple #[.agg (p4 kx ky 1 kt),.int .i64 0]) (fun W hS=>kc W (GA_ext hG hS.ext)) ?_;refine MV ?_;refine MV ?_;refine W0 ?_;refine MN (z:=p4 0 0 0 0) (t:=140) ?_;intro D;refine MR 0 ?_;refine W0 ?_;refine MZ fun W hS=> ?_;go_upto_region 4 with fail;refine RL hS ?_;clear hS;refine ML 2 ?_;refine MC (v:=.tuple #[.agg (p4 0 0 0 0),.agg (c4 0),.int .i64 17]) (fun W hS=>pc W (GA_ext hG hS.ext)) ?_;(iterate 3 refine MV ?_);refine MW ?_ (v:=.int .i64 17);refine MN (z:=p4 0 0 0 0) (t:=140) ?_;intro G;refine MN (z:=c4 0) (t:=143) ?_;intro J;refine MR 1 ?_;refine MR 0 ?_;refine MW ?_ (v:=.int .i64 17);refine MZ fun W hS=> ?_;go_upto_region 6 with fail;refine RL hS ?_;clear hS;refine MW ?_ (v:=.agg (J0 .u8 64 (J2 0))) (hv:=by intro W;kernel_rfl);refine MW ?_ (v:=.int .i64 17);refine MR 3 ?_;refine MW ?_ (v:=.int .i64 17);refine MZ fun W hS=> ?_;go_wp2;exact BC (Y7 rfl rfl rfl (hS.blk (i:=3) rfl) (by kernel_rfl) (by rw[J1];kernel_rfl)) rfl ⟨rfl,hS.ext⟩
theorem Y3d (hd:kn.d)(hb:kn.b)(hc:kn.c){V P:Nat}(hV:V<2^256)(hP:B80 P)(v:AB)(L:List UInt8)(hL:L.length≤1099511627776)(hk1:dOk V=true)(hk2:¬pm (dPt V) 8=p0)(hok:dOk (pG P)=false)(h1:pN P<LL):
  ∀w,GA kn w→Sl w v L→Az Tryz.prog 21 #[.agg (J0 .u8 32 (J2 V)),v,.agg (J0 .u8 80 (J2 P))] w fun e w' =>V5 (.tuple #[.agg (J0 .u8 64 (J2 0)),.int .i64 17]) w w' e:=by
 obtain⟨kx,ky,kt,kr,kc⟩:=Z0q (kn:=kn) hc hV hk1 hk2;have pc:=Y7g (kn:=kn) hc hP hok h1;intro w hG S;have hS:=SH.nil [] w
 go_enter Tryz.func21,Tryz.ntmps21
 go_upto_region 0 with fail;refine RL hS ?_;clear hS;refine MN (z:=J0 .u8 32 (J2 V)) (t:=23) ?_;intro R;refine MN (z:=J0 .u8 80 (J2 P)) (t:=36) ?_;intro M;refine MN (z:=J0 .u8 64 (J2 0)) (t:=67) ?_;intro N;refine W0 ?_;refine MZ fun W hS=> ?_;go_upto_region 1 with fail;refine RL hS ?_;clear hS;refine ML 2 ?_;refine MC (v:=.tuple #[.agg (p4 kx ky 1 kt),.int .i64 0]) (fun W hS=>kc W (GA_ext hG hS.ext)) ?_;refine MV ?_;refine MV ?_;refine W0 ?_;refine MN (z:=p4 0 0 0 0) (t:=140) ?_;intro D;refine MR 0 ?_;refine W0 ?_;refine MZ fun W hS=> ?_;go_upto_region 4 with fail;refine RL hS ?_;clear hS;refine ML 2 ?_;refine MC (v:=.tuple #[.agg (p4 0 0 0 0),.agg (c4 0),.int .i64 17]) (fun W hS=>pc W (GA_ext hG hS.ext)) ?_;(iterate 3 refine MV ?_);refine MW ?_ (v:=.int .i64 17);refine MN (z:=p4 0 0 0 0) (t:=140) ?_;intro G;refine MN (z:=c4 0) (t:=143) ?_;intro J;refine MR 1 ?_;refine MR 0 ?_;refine MW ?_ (v:=.int .i64 17);refine MZ fun W hS=> ?_;go_upto_region 6 with fail;refine RL hS ?_;clear hS;refine MW ?_ (v:=.agg (J0 .u8 64 (J2 0))) (hv:=by intro W;kernel_rfl);refine MW ?_ (v:=.int .i64 17);refine MR 3 ?_;refine MW ?_ (v:=.int .i64 17);refine MZ fun W hS=> ?_;go_wp2;exact BC (Y7 rfl rfl rfl (hS.blk (i:=3) rfl) (by kernel_rfl) (by rw[J1];kernel_rfl)) rfl ⟨rfl,hS.ext⟩
theorem Y3e (hd:kn.d)(hb:kn.b)(hc:kn.c){V P:Nat}(hV:V<2^256)(hP:B80 P)(v:AB)(L:List UInt8)(hL:L.length≤1099511627776)(hk1:dOk V=true)(hk2:¬pm (dPt V) 8=p0)(hok:dOk (pG P)=true)(h1:LL≤pN P):
  ∀w,GA kn w→Sl w v L→Az Tryz.prog 21 #[.agg (J0 .u8 32 (J2 V)),v,.agg (J0 .u8 80 (J2 P))] w fun e w' =>V5 (.tuple #[.agg (J0 .u8 64 (J2 0)),.int .i64 17]) w w' e:=by
 obtain⟨kx,ky,kt,kr,kc⟩:=Z0q (kn:=kn) hc hV hk1 hk2;have pc:=Y7h (kn:=kn) hc hP hok h1;intro w hG S;have hS:=SH.nil [] w
 go_enter Tryz.func21,Tryz.ntmps21
 go_upto_region 0 with fail;refine RL hS ?_;clear hS;refine MN (z:=J0 .u8 32 (J2 V)) (t:=23) ?_;intro R;refine MN (z:=J0 .u8 80 (J2 P)) (t:=36) ?_;intro M;refine MN (z:=J0 .u8 64 (J2 0)) (t:=67) ?_;intro N;refine W0 ?_;refine MZ fun W hS=> ?_;go_upto_region 1 with fail;refine RL hS ?_;clear hS;refine ML 2 ?_;refine MC (v:=.tuple #[.agg (p4 kx ky 1 kt),.int .i64 0]) (fun W hS=>kc W (GA_ext hG hS.ext)) ?_;refine MV ?_;refine MV ?_;refine W0 ?_;refine MN (z:=p4 0 0 0 0) (t:=140) ?_;intro D;refine MR 0 ?_;refine W0 ?_;refine MZ fun W hS=> ?_;go_upto_region 4 with fail;refine RL hS ?_;clear hS;refine ML 2 ?_;refine MC (v:=.tuple #[.agg (p4 0 0 0 0),.agg (c4 0),.int .i64 17]) (fun W hS=>pc W (GA_ext hG hS.ext)) ?_;(iterate 3 refine MV ?_);refine MW ?_ (v:=.int .i64 17);refine MN (z:=p4 0 0 0 0) (t:=140) ?_;intro G;refine MN (z:=c4 0) (t:=143) ?_;intro J;refine MR 1 ?_;refine MR 0 ?_;refine MW ?_ (v:=.int .i64 17);refine MZ fun W hS=> ?_;go_upto_region 6 with fail;refine RL hS ?_;clear hS;refine MW ?_ (v:=.agg (J0 .u8 64 (J2 0))) (hv:=by intro W;kernel_rfl);refine MW ?_ (v:=.int .i64 17);refine MR 3 ?_;refine MW ?_ (v:=.int .i64 17);refine MZ fun W hS=> ?_;go_wp2;exact BC (Y7 rfl rfl rfl (hS.blk (i:=3) rfl) (by kernel_rfl) (by rw[J1];kernel_rfl)) rfl ⟨rfl,hS.ext⟩
theorem Y7o (hd:kn.d)(hb:kn.b)(hc:kn.c){V P:Nat}(hV:V<2^256)(hP:B80 P)(v:AB)(L:List UInt8)(hL:L.length≤1099511627776)(hk1:dOk V=true)(hk2:¬pm (dPt V) 8=p0)(hok:dOk (pG P)=true)(h1:pN P<LL)(hv:vpt V L=none):
  ∀w,GA kn w→Sl w v L→Az Tryz.prog 21 #[.agg (J0 .u8 32 (J2 V)),v,.agg (J0 .u8 80 (J2 P))] w fun e w' =>V5 (.tuple #[.agg (J0 .u8 64 (J2 0)),.int .i64 15]) w w' e:=by
 obtain⟨kx,ky,kt,kr,kc⟩:=Z0q (kn:=kn) hc hV hk1 hk2;obtain⟨gx,gy,gt,gr,pc⟩:=Z6d (kn:=kn) hc hP hok h1;intro w hG D;have hS:=SH.nil [] w
 go_enter Tryz.func21,Tryz.ntmps21
 go_upto_region 0 with fail;refine RL hS ?_;clear hS;refine MN (z:=J0 .u8 32 (J2 V)) (t:=23) ?_;intro N;refine MN (z:=J0 .u8 80 (J2 P)) (t:=36) ?_;intro T;refine MN (z:=J0 .u8 64 (J2 0)) (t:=67) ?_;intro M;refine W0 ?_;refine MZ fun W hS=> ?_;go_upto_region 1 with fail;refine RL hS ?_;clear hS;refine ML 2 ?_;refine MC (v:=.tuple #[.agg (p4 kx ky 1 kt),.int .i64 0]) (fun W hS=>kc W (GA_ext hG hS.ext)) ?_;refine MV ?_;refine MV ?_;refine W0 ?_;refine MN (z:=p4 0 0 0 0) (t:=140) ?_;intro G;refine MR 0 ?_;refine W0 ?_;refine MZ fun W hS=> ?_;go_upto_region 4 with fail;refine RL hS ?_;clear hS;refine ML 2 ?_;refine MC (v:=.tuple #[.agg (p4 gx gy 1 gt),.agg (c4 (pN P)),.int .i64 0]) (fun W hS=>pc W (GA_ext hG hS.ext)) ?_;(iterate 3 refine MV ?_);refine W0 ?_;refine MN (z:=p4 0 0 0 0) (t:=140) ?_;intro R;refine MN (z:=c4 0) (t:=143) ?_;intro S;refine MR 1 ?_;refine MR 0 ?_;refine W0 ?_;refine MZ fun W hS=> ?_;go_upto_region 7 with fail;refine RL hS ?_;clear hS;refine ML 5 ?_;refine MV ?_;refine MC (v:=.tuple #[.agg (p4 0 0 0 0),.int .i64 15]) (fun W hS=>Z6f (kn:=kn) hc hL hv v W (GA_ext hG hS.ext) (K4 D hS.ext)) ?_;refine MV ?_;refine MV ?_;refine MW ?_ (v:=.int .i64 15);refine MN (z:=p4 0 0 0 0) (t:=140) ?_;intro J;refine MR 0 ?_;refine MW ?_ (v:=.int .i64 15);refine MZ fun W hS=> ?_;go_upto_region 9 with fail;refine RL hS ?_;clear hS;refine MW ?_ (v:=.agg (J0 .u8 64 (J2 0))) (hv:=by intro W;kernel_rfl);refine MW ?_ (v:=.int .i64 15);refine MR 4 ?_;refine MW ?_ (v:=.int .i64 15);refine MZ fun W hS=> ?_;go_wp2;exact BC (Y7 rfl rfl rfl (hS.blk (i:=4) rfl) (by kernel_rfl) (by rw[J1];kernel_rfl)) rfl ⟨rfl,hS.ext⟩
theorem check_e (hd:kn.d)(hb:kn.b)(hc:kn.c){V P:Nat}(hV:V<2^256)(hP:B80 P)(v:AB)(L:List UInt8)(hL:L.length≤1099511627776)(hk1:dOk V=true)(hk2:¬pm (dPt V) 8=p0)(hok:dOk (pG P)=true)(h1:pN P<LL){c0:Nat}(hv:vpt V L=some c0){h:Pr}(hh:h=candP V L c0){r k:Nat}(hqq:((chk V P h=pC P→r=vSum P∧k=0)∧(¬chk V P h=pC P→r=0∧k=17))):
  ∀w,GA kn w→Sl w v L→Az Tryz.prog 21 #[.agg (J0 .u8 32 (J2 V)),v,.agg (J0 .u8 80 (J2 P))] w fun e w' =>V5 (.tuple #[.agg (J0 .u8 64 (J2 r)),.int .i64 (k:Int)]) w w' e:=by
 obtain⟨kx,ky,kt,kr,kc⟩:=Z0q (kn:=kn) hc hV hk1 hk2;obtain⟨gx,gy,gt,gr,pc⟩:=Z6d (kn:=kn) hc hP hok h1;obtain⟨hx,hy,hz,ht,hr,G9⟩:=Z6e (kn:=kn) hc hL hv hh;obtain⟨x1,y2,z3,t4,r5,c6⟩:=Q8d hb;obtain⟨x7,y8,z9,G7,Δ,ψ⟩:=J4s hd r5.rw (N:=(pN P)) (BG h1 J32);obtain⟨G2,D3,ν,G3,Ω,M3⟩:=Y2b (kn:=kn) kr.rw;obtain⟨D4,σ,D7,D6,ξ,M2⟩:=J4s hd Ω.rw (N:=(pC P)) (BG (Z6c P) Z0r);obtain⟨δ,β,R,U,ζ,ω⟩:=Z2r hd Δ.rw ξ.rw;obtain⟨G0,D8,Ξ,D9,M0,Θ⟩:=J4s hd hr.rw (N:=(pN P)) (BG h1 J32);obtain⟨G4,G8,Ψ,φ,χ,G5⟩:=Y2b (kn:=kn) gr.rw;obtain⟨D0,τ,D1,D5,G6,κ⟩:=J4s hd χ.rw (N:=(pC P)) (BG (Z6c P) Z0r);obtain⟨T,ε,Z,γ,η,μ⟩:=Z2r hd M0.rw G6.rw;obtain⟨U1,M⟩:=exh (chH V h (dPt (pG P)) (V9 (pm BP (pN P)) (pm (J40 (dPt V)) (pC P))) (V9 (pm h (pN P)) (pm (J40 (dPt (pG P))) (pC P))));obtain⟨U2,S⟩:=exn (U1 % J2h);have Γ:U2<J2h:=by rw[S];exact BH _ (by decide)
 have G:=BF S;clear S;obtain⟨U3,θ⟩:=exh (vSum P);have HQ:=BF hqq;clear hqq;intro w hG M1;have hS:=SH.nil [] w
 go_enter Tryz.func21,Tryz.ntmps21
 go_upto_region 0 with fail;refine RL hS ?_;clear hS;refine MN (z:=J0 .u8 32 (J2 V)) (t:=23) ?_;intro N0;refine MN (z:=J0 .u8 80 (J2 P)) (t:=36) ?_;intro J;refine MN (z:=J0 .u8 64 (J2 0)) (t:=67) ?_;intro N2;refine W0 ?_;refine MZ fun W hS=> ?_;go_upto_region 1 with fail;refine RL hS ?_;clear hS;refine ML 2 ?_;refine MC (v:=.tuple #[.agg (p4 kx ky 1 kt),.int .i64 0]) (fun W hS=>kc W (GA_ext hG hS.ext)) ?_;refine MV ?_;refine MV ?_;refine W0 ?_;refine MN (z:=p4 0 0 0 0) (t:=140) ?_;intro M7;refine MR 0 ?_;refine W0 ?_;refine MZ fun W hS=> ?_;go_upto_region 4 with fail;refine RL hS ?_;clear hS;refine ML 2 ?_;refine MC (v:=.tuple #[.agg (p4 gx gy 1 gt),.agg (c4 (pN P)),.int .i64 0]) (fun W hS=>pc W (GA_ext hG hS.ext)) ?_;(iterate 3 refine MV ?_);refine W0 ?_;refine MN (z:=p4 0 0 0 0) (t:=140) ?_;intro N1;refine MN (z:=c4 0) (t:=143) ?_;intro M6;refine MR 1 ?_;refine MR 0 ?_;refine W0 ?_;refine MZ fun W hS=> ?_;go_upto_region 7 with fail;refine RL hS ?_;clear hS;refine ML 5 ?_;refine MV ?_;refine MC (v:=.tuple #[.agg (p4 hx hy hz ht),.int .i64 0]) (fun W hS=>G9 v W (GA_ext hG hS.ext) (K4 M1 hS.ext)) ?_;refine MV ?_;refine MV ?_;refine W0 ?_;refine MN (z:=p4 0 0 0 0) (t:=140) ?_;intro M9;refine MR 0 ?_;refine W0 ?_;refine MZ fun W hS=> ?_;go_upto_region 10 with fail;refine RXn 4 [⟨4,13,J0 .u8 32 (J2 0),23⟩,⟨5,14,J0 .u8 32 (J2 0),23⟩] hS ?_ (by simp only[BJ];exact⟨⟨_,rfl,rfl,rfl,fun _ _=>by kernel_rfl⟩,⟨_,rfl,rfl,rfl,fun _ _=>by kernel_rfl⟩,fun _ h=>by cases h⟩);clear hS;refine MW ?_ (v:=.slice (some ⟨J,32,none⟩) 16 48);refine MC (v:=.agg (J0 .u8 32 (J2 (pC P)))) (fun W hS=>Y7i (Z6c P) (.slice (some ⟨J,32,none⟩) 16 48) W (Q7 (V:=(pC P)) (n:=16) (off:=32) (c:=48) (hS.blk (i:=5) rfl) V55 (by decide) (by decide))) ?_;refine ML 1 ?_;refine MC (v:=.agg (J0 .u8 32 (J2 (pN P)))) (fun W hS=>Q18 h1 W (GA_ext hG hS.ext).2.2.1) ?_;refine MZB fun N3=> ?_;refine MR 0 ?_;refine MR 1 ?_;refine MZn fun W hS=> ?_;go_upto_region 11 with fail;refine RXn 8 [⟨8,15,p4 0 0 0 0,140⟩] hS ?_ (by simp only[BJ];exact⟨⟨_,rfl,rfl,rfl,fun _ _=>by kernel_rfl⟩,fun _ h=>by cases h⟩);clear hS;refine MC (v:=.agg (p4 x1 y2 z3 t4)) (fun W hS=>c6 W (GA_ext hG hS.ext).1) ?_;refine ML 1 ?_;refine MC (v:=.agg (p4 x7 y8 z9 G7)) (fun W hS=>ψ W (GA_ext hG hS.ext).1) ?_;refine ML 5 ?_;refine MC (v:=.agg (p4 G2 D3 ν G3)) (fun W hS=>M3 W (GA_ext hG hS.ext).1) ?_;refine ML 0 ?_;refine MC (v:=.agg (p4 D4 σ D7 D6)) (fun W hS=>M2 W (GA_ext hG hS.ext).1) ?_;refine MC (v:=.agg (p4 δ β R U)) (fun W hS=>ω W (GA_ext hG hS.ext).1) ?_;refine MZB fun N4=> ?_;refine MR 0 ?_;refine MZn fun W hS=> ?_;go_upto_region 12 with fail;refine RXn 8 [⟨8,16,p4 0 0 0 0,140⟩] hS ?_ (by simp only[BJ];exact⟨⟨_,rfl,rfl,rfl,fun _ _=>by kernel_rfl⟩,fun _ h=>by cases h⟩);clear hS;refine ML 3 ?_;refine ML 2 ?_;refine MC (v:=.agg (p4 G0 D8 Ξ D9)) (fun W hS=>Θ W (GA_ext hG hS.ext).1) ?_;refine ML 5 ?_;refine MC (v:=.agg (p4 G4 G8 Ψ φ)) (fun W hS=>G5 W (GA_ext hG hS.ext).1) ?_;refine ML 1 ?_;refine MC (v:=.agg (p4 D0 τ D1 D5)) (fun W hS=>κ W (GA_ext hG hS.ext).1) ?_;refine MC (v:=.agg (p4 T ε Z γ)) (fun W hS=>μ W (GA_ext hG hS.ext).1) ?_;refine MZB fun M8=> ?_;refine MR 0 ?_;refine MZn fun W hS=> ?_
 by_cases D:chk V P h=pC P
 ·
  go_upto_region 13 with fail;refine RTh (.q 0 (.q 1 (.q 2 (.q 3 (.q 4 (.q 8 (.q 9 (.e 5 (.e 6 (.q 7 (.q 10 .z))))))))))) hS ?_;clear hS;refine TL 10 ?_;refine TL 4 ?_;refine TL 6 ?_;refine TL 1 ?_;refine TL 0 ?_;refine TW ?_ (v:=.slice (some ⟨J,32,none⟩) 16 48);refine TF (v:=V3 (lb 16 (pC P))) rfl (fun W hS=>J01 (Q7 (V:=(pC P)) (n:=16) (off:=32) (c:=48) (hS.blk (i:=9) rfl) V55 (by decide) (by decide)) rfl rfl) ?_;refine TE (fun _ h=>h) ?_;refine MB (z:=(p4 hx hy hz ht)++(p4 gx gy 1 gt)++(p4 δ β R U)++(p4 T ε Z γ)) (t:=140) (n:=4) (c:=4) ?_;intro G1;refine TNh (fun W hS=>hS.pick [1,2,3,4,5,6,7,8,9,10,11]) ?_;refine TE (fun _ h=>h) ?_;refine ME (V:=fun p:Nat=> .slice (some ⟨p,0,none⟩) 16 64) (fun W hS=>J1y hS (Z3a (kn:=kn) hr gr ζ η M.out G1 W (GA_ext hG hS.ext) (hS.blk (i:=0) rfl)) (fun _=>⟨rfl,rfl⟩)) ?_;intro M5;refine TNh (fun W hS=>hS.pick [1,2,3,4,5,6,7,8,9,10,11,12]) ?_;refine TF (v:=V3 (lb 16 U2)) rfl (fun W hS=>J01 (Q7 (V:=U2) (n:=16) (off:=0) (c:=64) (hS.blk (i:=0) rfl) (h16 G.out) (by decide) (by decide)) rfl rfl) ?_;have Y:U2=chk V P h:=by rw[G.out,M.out];rfl
  refine TW ?_ (v:=.bool false) (hv:=fun _=>J5g (l:=(lb 16 U2)) (m:=(lb 16 (pC P))) (b:=true) ((decide_eq_true (by rw[Y,D]))) rfl rfl rfl);refine TZ (fun _ h=>h) fun W hS=> ?_;go_upto_region 15 with fail;refine RL hS ?_;clear hS;refine ML 11 ?_;refine MC (v:=.tuple #[.agg (J0 .u8 64 (J2 U3)),.int .i64 0]) (fun W hS=>Y37 (kn:=kn) hc hok θ.out W (GA_ext hG hS.ext)) ?_;refine MV ?_;refine W0 ?_;refine MR 10 ?_;refine W0 ?_;refine MZ fun W hS=> ?_;go_wp2;rw[θ.out] at hS;obtain⟨α,X⟩:=HQ.out.1 D;rw[α,X];exact BC (Y7 rfl rfl rfl (hS.blk (i:=10) rfl) (by kernel_rfl) (by rw[J1];kernel_rfl)) rfl ⟨rfl,hS.ext⟩
 go_upto_region 13 with fail;refine RTh (.q 0 (.q 1 (.q 2 (.q 3 (.q 4 (.q 8 (.q 9 (.e 5 (.e 6 (.q 7 (.q 10 .z))))))))))) hS ?_;clear hS;refine TL 10 ?_;refine TL 4 ?_;refine TL 6 ?_;refine TL 1 ?_;refine TL 0 ?_;refine TW ?_ (v:=.slice (some ⟨J,32,none⟩) 16 48);refine TF (v:=V3 (lb 16 (pC P))) rfl (fun W hS=>J01 (Q7 (V:=(pC P)) (n:=16) (off:=32) (c:=48) (hS.blk (i:=9) rfl) V55 (by decide) (by decide)) rfl rfl) ?_;refine TE (fun _ h=>h) ?_;refine MB (z:=(p4 hx hy hz ht)++(p4 gx gy 1 gt)++(p4 δ β R U)++(p4 T ε Z γ)) (t:=140) (n:=4) (c:=4) ?_;intro ρ;refine TNh (fun W hS=>hS.pick [1,2,3,4,5,6,7,8,9,10,11]) ?_;refine TE (fun _ h=>h) ?_;refine ME (V:=fun p:Nat=> .slice (some ⟨p,0,none⟩) 16 64) (fun W hS=>J1y hS (Z3a (kn:=kn) hr gr ζ η M.out ρ W (GA_ext hG hS.ext) (hS.blk (i:=0) rfl)) (fun _=>⟨rfl,rfl⟩)) ?_;intro M4;refine TNh (fun W hS=>hS.pick [1,2,3,4,5,6,7,8,9,10,11,12]) ?_;refine TF (v:=V3 (lb 16 U2)) rfl (fun W hS=>J01 (Q7 (V:=U2) (n:=16) (off:=0) (c:=64) (hS.blk (i:=0) rfl) (h16 G.out) (by decide) (by decide)) rfl rfl) ?_;have Y:U2=chk V P h:=by rw[G.out,M.out];rfl
 refine TW ?_ (v:=.bool true) (hv:=fun _=>J5g (l:=(lb 16 U2)) (m:=(lb 16 (pC P))) (b:=false) ((decide_eq_false fun e=>D (Y▸Y3a Γ (Z6c P) e))) rfl rfl rfl);refine TZ (fun _ h=>h) fun W hS=> ?_;go_upto_region 14 with fail;refine RL hS ?_;clear hS;refine MW ?_ (v:=.agg (J0 .u8 64 (J2 0))) (hv:=by intro W;kernel_rfl);refine MR 10 ?_;refine MW ?_ (v:=.int .i64 17);refine MZ fun W hS=> ?_;go_wp2;obtain⟨α,X⟩:=HQ.out.2 D;rw[α,X];exact BC (Y7 rfl rfl rfl (hS.blk (i:=10) rfl) (by kernel_rfl) (by rw[J1];kernel_rfl)) rfl ⟨rfl,hS.ext⟩
def V5f (V:Nat)(L:List UInt8)(P:Nat):Nat×Nat:=
 if dOk V=false∨pm (dPt V) 8=p0 then(0,15) else if dOk (pG P)=false∨LL≤pN P then(0,17) else
 match vpt V L with
 |none=>(0,15)
 |some c=>if chk V P (candP V L c)=pC P then(vSum P,0) else(0,17)
theorem Z3x (hd:kn.d)(hb:kn.b)(hc:kn.c){V P:Nat}{X:Nat×Nat}{L:List UInt8}(hX:X=V5f V L P)(hV:V<2^256)(hP:B80 P)(v:AB)(hL:L.length≤1099511627776)(w:AA)(hG:GA kn w)(hsl:Sl w v L):
  Az Tryz.prog 21 #[.agg (J0 .u8 32 (J2 V)),v,.agg (J0 .u8 80 (J2 P))] w fun e w' =>V5 (.tuple #[.agg (J0 .u8 64 (J2 X.1)),.int .i64 (X.2:Int)]) w w' e:=by
 subst hX;unfold V5f;cases hk1:dOk V
 ·
  rw[if_pos (Or.inl rfl)];exact Y7m hd hb hc hV hP v L hL hk1 w hG hsl
 by_cases D:pm (dPt V) 8=p0
 ·
  rw[if_pos (Or.inr D)];exact Y7n hd hb hc hV hP v L hL hk1 D w hG hsl
 rw[if_neg (by rintro(h|h);cases h;exact D h)];cases hok:dOk (pG P)
 ·
  rw[if_pos (Or.inl rfl)]
  by_cases h1:LL≤pN P
  ·
   exact Y3c hd hb hc hV hP v L hL hk1 D hok h1 w hG hsl
  exact Y3d hd hb hc hV hP v L hL hk1 D hok (BW.1 h1) w hG hsl
 by_cases h1:LL≤pN P
 ·
  rw[if_pos (Or.inr h1)];exact Y3e hd hb hc hV hP v L hL hk1 D hok h1 w hG hsl
 rw[if_neg (by rintro(h|h);cases h;exact h1 h)];cases hv:vpt V L with
 |none=>exact Y7o hd hb hc hV hP v L hL hk1 D hok (BW.1 h1) hv w hG hsl
 |some c=>
  by_cases ht:chk V P (candP V L c)=pC P
  ·
   simp only[if_pos ht];exact check_e hd hb hc hV hP v L hL hk1 D hok (BW.1 h1) hv rfl ⟨fun _=>⟨rfl,rfl⟩,fun h=>absurd ht h⟩ w hG hsl
  ·
   simp only[if_neg ht];exact check_e hd hb hc hV hP v L hL hk1 D hok (BW.1 h1) hv rfl ⟨fun h=>absurd h ht,fun _=>⟨rfl,rfl⟩⟩ w hG hsl
end

section
set_option maxHeartbeats 2000000
attribute [local irreducible] wpList
open Sc (LL J0k)
variable {kn : Kn}
attribute [local irreducible] hs
section
variable {w : AA} {o : Oper} {a : Act} {x y z : Operand} {t : TypeId}
end
end

section
set_option maxHeartbeats 2000000
attribute [local irreducible] wpList
open Sc (LL J0k)
variable {kn : Kn}
attribute [local irreducible] hs
end

section
open Sc (LL J0k)
attribute [local irreducible] hs
theorem Q8r {b:Pr}(hb:OnC b)(h:pm b LL=p0)(n:Nat):pm b (n % LL)=pm b n:=by
  have h1:=Nat.div_add_mod n LL;have e:pm b n=V9 (pm b (LL*(n / LL))) (pm b (n % LL)):=by rw[←Q06 hb,h1]
  rw[e,Q07 hb,h,Z5z,Q15]
theorem Y7t {b:Pr}(hb:OnC b)(h:pm b LL=p0)(K C N:Nat):V9 (pm b ((K % LL+C % LL*(N % LL) % LL) % LL)) (pm (J40 (pm b N)) C)=pm b (K % LL):=by
  have e1:pm b ((K % LL+C % LL*(N % LL) % LL) % LL)=V9 (pm b (K % LL)) (pm (pm b N) C):=by
    rw[Q8r hb h,Q06 hb,Q8r hb h,←Nat.mul_mod,Q8r hb h,Nat.mul_comm C N,Q07 hb]
  rw[e1,Z60,J1j (pm_on hb _) (pm_on (pm_on hb _) _) (J7l (pm_on (pm_on hb _) _)),Q16 (pm_on (pm_on hb _) _),Q17]
theorem K11 (S:Nat)(h:Pr):vC S h<J2h:=BH _ (by decide)
theorem vN_lt (S:Nat)(h:Pr):vN S h<LL:=BH _ (by decide)
theorem Y3p {E C n:Nat}(hE:E<2^256)(hC:C<J2h):pG (E+2^256*(C+J2h*n))=E∧pC (E+2^256*(C+J2h*n))=C∧pN (E+2^256*(C+J2h*n))=n:=by
  refine⟨?_,?_,?_⟩
  · unfold pG;rw[Nat.add_mul_mod_self_left,AI hE]
  · unfold pC;rw[Nat.add_mul_div_left _ _ (AM 256),AN hE,AL,Nat.add_mul_mod_self_left,AI hC]
  unfold pN;rw[Nat.add_mul_div_left _ _ (AM 256),AN hE,AL,Nat.add_mul_div_left _ _ (by decide),AN hC,AL]
theorem vPr_parts {S:Nat}{h:Pr}(hon:OnC h):pG (vPr S h)=enc (pm h (kN S))∧pC (vPr S h)=vC S h∧pN (vPr S h)=vN S h:=Y3p (J8k _) (K11 S h)
theorem prove_back {S:Nat}{h:Pr}(hon:OnC h)(hLL:pm h LL=p0):V0e (kP S) (vPr S h) h:=by
  obtain⟨e1,e2,e3⟩:=vPr_parts (S:=S) hon;have d1:dPt (kP S)=pm BP (kN S):=(dec_enc (pm_on Q2n _)).2;have d2:dPt (enc (pm h (kN S)))=pm h (kN S):=(dec_enc (pm_on hon _)).2;unfold V0e;rw[e1,e2,e3,d1,d2];unfold vN;have g1:∀b:Pr,OnC b→pm b LL=p0→V9 (pm b ((vK' S h+vC S h % LL*(kN S % LL) % LL) % LL)) (pm (J40 (pm b (kN S))) (vC S h))=pm b (vK' S h):=fun b hb hl=>Y7t hb hl _ _ _;rw[g1 BP Q2n V08,g1 h hon hLL];rfl
theorem Q09 {a:Pr}{xa ya n x y:Nat}(ha:a=(fp xa,fp ya))(hx:xa<PP)(hy:ya<PP)(hon:OnC (fp xa,fp ya))(hn:n<2^256)
    (h:x*(tmN (xa,ya,1,xa*ya % PP) n 256).2.2.1 % PP=(tmN (xa,ya,1,xa*ya % PP) n 256).1∧y*(tmN (xa,ya,1,xa*ya % PP) n 256).2.2.1 % PP=(tmN (xa,ya,1,xa*ya % PP) n 256).2.1):pm a n=(fp x,fp y):=by
  subst ha;exact Z2a (Q7k (P:=(xa,ya,1,xa*ya % PP)) (Z4l hx hy hon rfl) hn) h.1 h.2
theorem V5l {a:Pr}{x y e:Nat}(ha:a=(fp x,fp y))(hx:x<PP)(hy:y<PP)(he:y+2^255*(x % 2)=e):enc a=e:=by rw[ha,Q3d hx hy,he]
theorem Z6k {a:Pr}{x y:Nat}(ha:a=(fp x,fp y))(h:(y % PP==1)=false):¬a=p0:=by
  intro e;rw[ha] at e;have e2:fp y=(1:Fp):=congrArg Prod.snd e;have e3:=congrArg Fin.val e2;rw[Q8f] at e3;have e4:y % PP=1:=e3;rw[e4] at h;cases h
theorem Y3q {V c h Vc xq yq:Nat}{L:List UInt8}{a:Pr}(eh:hs ([3,1]++lb 32 V++L++[u8 c,0])=h)(ec:lo h=Vc)(hx:xq<PP)(hy:yq<PP)(he:yq+2^255*(xq % 2)=Vc)(hon:OnC (fp xq,fp yq))(h8:pm (fp xq,fp yq) 8=a)(hne:¬a=p0):
    candOk V L c=true∧candP V L c=a:=by
  have e:J5m V L c=enc (fp xq,fp yq):=by unfold J5m;rw[eh,ec,Q3d hx hy,he]
  obtain⟨d1,d2⟩:=dec_enc hon;have e8:candP V L c=a:=by unfold candP;rw[e,d2,h8]
  exact⟨candOk_iff.2 ⟨by rw[e];exact d1,by rw[e8];exact hne⟩,e8⟩
theorem Z3d {S h1 N D P:Nat}(e:hs (lb 32 S)=h1)(eN:clN (lo h1)=N)(eD:hi h1=D)(eP:enc (pm BP N)=P):kN S=N∧kD S=D∧kP S=P:=by
  subst e eN eD eP;exact⟨rfl,rfl,rfl⟩
def qPx:Nat:=26822555233711949854380153315158647482531717314742952720223963642152101436051
def qPy:Nat:=56461774818723834839721450787889437474891852695816614318545467683432985644238
theorem K12:qPx<PP:=by decide
theorem K13:qPy<PP:=by decide
theorem K14:OnC (fp qPx,fp qPy):=by unfold OnC;decide+kernel
def qax:Nat:=47024039051628811779107516702321879712624584126105895814772064878575390995579
def qay:Nat:=36463181788650339775237385953296199005534778670103291544839962084555217917972
theorem K3v:qax<PP:=by decide
theorem K3w:qay<PP:=by decide
theorem K16:OnC (fp qax,fp qay):=by unfold OnC;decide+kernel
def qbx:Nat:=5347412701449414475638337812612804166351006483222583960086511109711120593916
def qby:Nat:=31454809416705925197151026446448411341732414034120726205309780028097122426136
theorem K17:qbx<PP:=by decide
theorem K18:qby<PP:=by decide
theorem V0i:OnC (fp qbx,fp qby):=by unfold OnC;decide+kernel
def qAx:Nat:=4469178358068918509625982920184479197551857748499590235157424197441462617855
def qAy:Nat:=16503622182197511828209738090181657542955776088139777616436718276135933772672
def qBx:Nat:=5974376345347396749938987862407457246551996092567368546225745622563519485233
def qBy:Nat:=25507955390308686559427229708500431997880189612436112124872904814129796593346
def qEx:Nat:=15442730981594750838971302459575842918760929366015934280027366898552379046717
def qEy:Nat:=42218610869048474510830178928357113993860933435220319996272949481851902639999
def q0x:Nat:=0
def q0y:Nat:=1
theorem K10:(fp q0x,fp q0y)=p0:=by decide+kernel
theorem tP:pm BP 41354757114163650016304086911142683682198188400503391378057401993857692208328=(fp qPx,fp qPy):=Q09 (xa:=BX) (ya:=BY) rfl (by decide) (by decide) Q2n (by decide) (by decide+kernel)
theorem tE {a:Pr}(ha:a=(fp qPx,fp qPy)):pm a 8=(fp qEx,fp qEy):=Q09 ha K12 K13 K14 (by decide) (by decide+kernel)
theorem ta {a:Pr}(ha:a=(fp qax,fp qay)):pm a 8=(fp qAx,fp qAy):=Q09 ha K3v K3w K16 (by decide) (by decide+kernel)
theorem tb {a:Pr}(ha:a=(fp qbx,fp qby)):pm a 8=(fp qBx,fp qBy):=Q09 ha K17 K18 V0i (by decide) (by decide+kernel)
theorem sp1:kN 1=41354757114163650016304086911142683682198188400503391378057401993857692208328∧kD 1=74947656346158344409503503793437276329892731540947283120607119044439939905177∧kP 1=114357819437381932551506943292233391401526845028636896338274259687389550464206:=Z3d (h1:=8678345711762074483941435942459349315791744468269612026220829880717679751032992162212105630643471702240689105779349018571374047650718608606628566249376974) (Q7j (by decide+kernel)) (by decide+kernel) (by decide+kernel) (V5l tP K12 K13 (by decide+kernel))
theorem cb:candOk 114357819437381932551506943292233391401526845028636896338274259687389550464206 [98] 0=true∧candP 114357819437381932551506943292233391401526845028636896338274259687389550464206 [98] 0=(fp qBx,fp qBy):=Y3q (h:=616082032838736440229054033691866983738947723987213580315641221012400015752405605581206817103919007263269839956216054564015079766058242509860130319916312) (Vc:=31454809416705925197151026446448411341732414034120726205309780028097122426136) (Q7j (by decide+kernel)) (by decide+kernel) K17 K18 (by decide+kernel) V0i (tb rfl) (Z6k rfl (by decide+kernel))
theorem hb_:candP (kP 1) [98] 0=(fp qBx,fp qBy):=by rw[sp1.2.2];exact cb.2
end

section
attribute [local irreducible] wpList
variable {kn : Kn}
open Sc (LL J0k)
attribute [local irreducible] hs
def vprv (S:Nat)(L:List UInt8):Nat×Nat:=match vpt (kP S) L with
  |none=>(0,15)
  |some c=>(vPr S (candP (kP S) L c),0)
def vsm (P:Nat):Nat×Nat:=if dOk (pG P)=true then(vSum P,0) else(0,17)
theorem vprv_some {S c:Nat}{L:List UInt8}(h:vpt (kP S) L=some c):vprv S L=(vPr S (candP (kP S) L c),0):=by unfold vprv;rw[h]
theorem vprv_none {S:Nat}{L:List UInt8}(h:vpt (kP S) L=none):vprv S L=(0,15):=by unfold vprv;rw[h]
theorem candP_on {V c:Nat}{L:List UInt8}(h:candOk V L c=true):OnC (candP V L c):=pm_on (Q54 (candOk_iff.1 h).1) 8
theorem vprv_80 (S:Nat)(L:List UInt8):B80 (vprv S L).1:=by
  unfold B80;cases h:vpt (kP S) L with
  |none=>rw[vprv_none h];decide+kernel
  |some c=>rw[vprv_some h];rw[(vPr_parts (candP_on (vpt_some h).2.1)).2.2];exact BG (vN_lt _ _) J32
theorem proveN_c (hd:kn.d)(hb:kn.b)(hc:kn.c){X E S:Nat}{L:List UInt8}(hX:X=(vprv S L).1)(hE:E=(vprv S L).2)(v:AB)(hL:L.length≤1099511627776)(w:AA)(hG:GA kn w)(hs:Sl w v L):
    Az Tryz.prog 68 #[.agg (J0 .u8 32 (J2 S)),v] w fun e w' =>V5 (.tuple #[.agg (J0 .u8 80 (J2 X)),.int .i64 (E:Int)]) w w' e:=by
  subst hX hE;cases h:vpt (kP S) L with
  |none=>rw[vprv_none h];exact Y7l hd hb hc S v L hL h w hG hs
  |some c=>rw[vprv_some h];exact Y7j hd hb hc S c v L hL h rfl w hG hs
theorem vsumN_c (hc:kn.c){X E P:Nat}(hX:X=(vsm P).1)(hE:E=(vsm P).2)(w:AA)(hG:GA kn w):
    Az Tryz.prog 59 #[.agg (J0 .u8 80 (J2 P))] w fun e w' =>V5 (.tuple #[.agg (J0 .u8 64 (J2 X)),.int .i64 (E:Int)]) w w' e:=by
  subst hX hE;unfold vsm;cases h:dOk (pG P)
  · rw[if_neg (by decide)];exact V57 hc h w hG
  rw[if_pos rfl];exact Y37 hc h rfl w hG
attribute [local irreducible] vprv V5f

end
end Go.Proofs.YtpljgkofbfeelaaGreatDoor.S8

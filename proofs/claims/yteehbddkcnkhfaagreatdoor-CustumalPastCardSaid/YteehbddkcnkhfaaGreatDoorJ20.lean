/- Contracts and plain laws for custumalPast_holds. Conditions: the tables hold their numbers. -/
import Derived.Test.YteehbddkcnkhfaaGreatDoorJ19
open Go.RowKit
set_option maxRecDepth 100000
set_option linter.unusedSimpArgs false
set_option linter.unusedVariables false
namespace Go.Proofs.YteehbddkcnkhfaaGreatDoor.S8
section
set_option maxHeartbeats 2000000
attribute [local irreducible] wpList Y5
variable {kn : Kn}
open Sc (LL J0p)
attribute [local irreducible] hs
theorem h16 {X C:Nat}(hC:C=X % J3e):∀i v,(J1 .u8 16 (J4 C))[i]?=some v→(J1 .u8 64 (J4 X))[0+i]?=some v:=
  Z3t (fun j hj=>by rw[hC,show J3e=2^(8*16) from rfl,Y5r hj,Nat.zero_add]) (by decide)
theorem Y5t (hc:kn.c){V c0:Nat}{L:List UInt8}(hL:L.length≤1099511627776)(hv:vpt V L=some c0){h:Pr}(hh:h=J4f V L c0):
    ∃X Y Z T,RN X Y Z T h∧∀v w,GA kn w→Sl w v L→Calls Tryz.prog 66 #[.agg (J1 .u8 32 (J4 V)),v] w fun e w' =>X5 (.tuple #[.agg (p4 X Y Z T),.int .i64 0]) w w' e:=by
  obtain⟨h1,h2,h3⟩:=vpt_some hv;subst hh;exact Z11 hc hL c0 h1 h2 h3
theorem Y5u (hc:kn.c){V:Nat}{L:List UInt8}(hL:L.length≤1099511627776)(hv:vpt V L=none)(v:Value)(w:World)(hG:GA kn w)(hs:Sl w v L):
    Calls Tryz.prog 66 #[.agg (J1 .u8 32 (J4 V)),v] w fun e w' =>X5 (.tuple #[.agg (p4 0 0 0 0),.int .i64 15]) w w' e:=Z12 hc hL (Y14 hv) v w hG hs
theorem Y15 {E C n:Nat}(hE:E<2^256)(hC:C<J3e):lb 32 E++lb 16 C++lb 32 n=lb 80 (E+2^256*(C+J3e*n)):=by
  have e1:lb 80 (E+2^256*(C+J3e*n))=lb 32 (E+2^256*(C+J3e*n))++lb 48 ((E+2^256*(C+J3e*n)) / 2^(8*32)):=Y0x 32 48 _;have e2:lb 48 (C+J3e*n)=lb 16 (C+J3e*n)++lb 32 ((C+J3e*n) / 2^(8*16)):=Y0x 16 32 _;rw[e1,show(2:Nat)^(8*32)=2^256 from rfl,Nat.add_mul_div_left _ _ (by decide),Nat.div_eq_of_lt hE,Nat.zero_add,e2,show(2:Nat)^(8*16)=J3e from rfl,Nat.add_mul_div_left _ _ (by decide),Nat.div_eq_of_lt hC,Nat.zero_add,List.append_assoc]
  congr 1
  · rw[←Z91 32 (E+2^256*(C+J3e*n)),show(2:Nat)^(8*32)=2^256 from rfl,Nat.add_mul_mod_self_left,Nat.mod_eq_of_lt hE]
  congr 1
  rw[←Z91 16 (C+J3e*n),show(2:Nat)^(8*16)=J3e from rfl,Nat.add_mul_mod_self_left,Nat.mod_eq_of_lt hC]

theorem Y5v (hd:kn.d)(hb:kn.b)(hc:kn.c)(S c0:Nat)(v:Value)(L:List UInt8)(hL:L.length≤1099511627776)(hv:vpt (kP S) L=some c0){h:Pr}(hh:h=J4f (kP S) L c0):
  ∀w,GA kn w→Sl w v L→Calls Tryz.prog 81 #[.agg (J1 .u8 32 (J4 S)),v] w fun e w' =>X5 (.tuple #[.agg (J1 .u8 80 (J4 (vPr S h))),.int .i64 0]) w w' e:=by
 obtain⟨U1,N8⟩:=exn (kN S);have S5:U1<2^256:=by rw[N8];exact Y83 _
 have T5:=Lib.hid N8;clear N8;obtain⟨U2,R2⟩:=exn (kD S);have bU2:U2<2^256:=by rw[R2];exact Y84 _
 have S9:=Lib.hid R2;clear R2;obtain⟨U3,N0⟩:=exn (kP S);have bU3:U3<2^256:=by rw[N0];exact Y85 _
 have M4:=Lib.hid N0;clear N0;have hv_:vpt U3 L=some c0:=by rw[M4.out];exact hv
 have hh_:h=J4f U3 L c0:=by rw[M4.out];exact hh
 obtain⟨hx,hy,hz,ht,hr,hcl⟩:=Y5t (kn:=kn) hc hL hv_ hh_;obtain⟨x1,y2,z3,t4,r5,c6⟩:=Q04 hd hr.rw (N:=U1) S5;obtain⟨U4,N4⟩:=exn (enc h);have bU4:U4<2^256:=by rw[N4];exact J9d _
 have T1:=Lib.hid N4;clear N4;obtain⟨U5,D7⟩:=exh (hs ((lb 32 U2)++(lb 32 U4)));obtain⟨U6,N1⟩:=exn (U5 % LL);have D0:U6<LL:=by rw[N1];exact mLL _
 have bU6:U6<2^256:=Nat.lt_trans D0 J4p;have T8:=Lib.hid N1;clear N1;obtain⟨x7,y8,z9,t10,r11,c12⟩:=Z36 hb;obtain⟨x13,y14,z15,t16,r17,c18⟩:=Q04 hd r11.rw (N:=U6) (Nat.lt_trans D0 J4p);obtain⟨x19,y20,z21,t22,r23,c24⟩:=Q04 hd hr.rw (N:=U6) (Nat.lt_trans D0 J4p);obtain⟨U7,Y2⟩:=exh (chH U3 h (pm h U1) (pm BP U6) (pm h U6));obtain⟨U8,R7⟩:=exn (U7 % J3e);have Y3:U8<J3e:=by rw[R7];exact Nat.mod_lt _ (by decide)
 have R8:=Lib.hid R7;clear R7;obtain⟨U9,S2⟩:=exn (U8 % LL);have Y7:U9<LL:=by rw[S2];exact mLL _
 have bU9:U9<2^256:=Nat.lt_trans Y7 J4p;have T6:=Lib.hid S2;clear S2;obtain⟨R1,G7⟩:=exn (U1 % LL);have R4:R1<LL:=by rw[G7];exact mLL _
 have bU10:R1<2^256:=Nat.lt_trans R4 J4p;have R0:=Lib.hid G7;clear G7;obtain⟨R5,M0⟩:=exn (U9*R1 % LL);have N7:R5<LL:=by rw[M0];exact mLL _
 have bU11:R5<2^256:=Nat.lt_trans N7 J4p;have R9:=Lib.hid M0;clear M0;obtain⟨κ,G8⟩:=exn ((U6+R5) % LL);have N6:κ<LL:=by rw[G8];exact mLL _
 have bU12:κ<2^256:=Nat.lt_trans N6 J4p;have N2:=Lib.hid G8;clear G8;obtain⟨μ,G9⟩:=exn (enc (pm h U1));have Z3:μ<2^256:=by rw[G9];exact J9d _
 have N9:=Lib.hid G9;clear G9;intro w hG hsl;have Q6:=hsl;have D:Off [] w w:=Off.refl _ _
 go_enter Tryz.func81,Tryz.ntmps81
 go_upto_region 0 with fail;refine wp_region_lit ?_;refine Ln ?_ (z:=J1 .u8 32 (J4 S)) (t:=23);intro K1 W1 J35 hO h_;replace Q6:=Sl.off Q6 hO f0;replace D:=D.o hO;have U:=h_;clear hO h_ J35;refine Ln ?_ (z:=J1 .u8 80 (J4 0)) (t:=40);intro G4 W2 S7 hO h_;have Q37:=fbn D S7;replace U:=U.o hO;replace Q6:=Sl.off Q6 hO f0;replace D:=D.o hO;have G:=h_;clear hO h_ S7;refine Lw ?_ (v:=.int .i64 0);refine J5 ?_;go_upto_region 1 with fail;refine wp_region_lit ?_;refine L0A ?_ U;refine Lr ?_ (Q56 hd hb T5.out S9.out M4.out W2 (GA_ext hG D.ext));intro W3 hO;replace U:=U.o hO;replace G:=G.o hO;replace Q6:=Sl.off Q6 hO f0;replace D:=D.o hO;clear hO;refine LnP ?_ (z:=s3 0 0 0) (t:=131) (cells:=s3 U1 U2 U3) (hi:=by rw[J16];kernel_rfl) (hs:=by first|rw[J16,J16]|rw[J16]|kernel_rfl) (h1:=by exact Q6y);intro θ W5 J6y hO h_;replace U:=U.o hO;replace G:=G.o hO;replace Q6:=Sl.off Q6 hO f0;replace D:=D.o hO;have J:=h_;clear hO h_ J6y;refine J5 ?_;go_upto_region 2 with fail;refine wp_region_lit ?_;refine Lv ?_;refine J68 (vs:=(J1 .u8 32 (J4 U3)).toList) (by rfl) rfl rfl J (Z4x V1w) (by kernel_rfl) (by kernel_rfl) ?_
 (try simp only[Act.put,mA,mB,mC])
 refine Lv ?_;refine Lr ?_ (hcl v W5 (GA_ext hG D.ext) Q6);intro W6 hO;replace U:=U.o hO;replace G:=G.o hO;replace J:=J.o hO;replace Q6:=Sl.off Q6 hO f0;replace D:=D.o hO;clear hO;refine Lv ?_;refine Lv ?_;refine Lw ?_ (v:=.int .i64 0);refine LnP ?_ (z:=p4 0 0 0 0) (t:=154) (cells:=p4 hx hy hz ht);intro ν W8 V2s hO h_;replace U:=U.o hO;replace G:=G.o hO;replace J:=J.o hO;replace Q6:=Sl.off Q6 hO f0;replace D:=D.o hO;have T:=h_;clear hO h_ V2s;refine Lw ?_ (v:=.int .i64 0);refine J5 ?_;go_upto_region 5 with fail;refine wp_region_lit ?_;refine L0 ?_ T;refine Lv ?_;refine J68 (vs:=(J1 .u8 32 (J4 U1)).toList) (by rfl) rfl rfl J (Z4x V1u) (by kernel_rfl) (by kernel_rfl) ?_
 (try simp only[Act.put,mA,mB,mC])
 refine Lr ?_ (c6 W8 (GA_ext hG D.ext).1);intro W9 hO;replace U:=U.o hO;replace G:=G.o hO;replace J:=J.o hO;replace T:=T.o hO;replace Q6:=Sl.off Q6 hO f0;replace D:=D.o hO;clear hO;refine LnP ?_ (z:=p4 0 0 0 0) (t:=154) (cells:=p4 x1 y2 z3 t4);intro ξ W11 Z0y hO h_;replace U:=U.o hO;replace G:=G.o hO;replace J:=J.o hO;replace T:=T.o hO;replace Q6:=Sl.off Q6 hO f0;replace D:=D.o hO;have M:=h_;clear hO h_ Z0y;refine J5 ?_;go_upto_region 6 with fail;refine wp_region_lit ?_;refine L0 ?_ T;refine Lr ?_ (Q3q hr.rw T1.out W11 (GA_ext hG D.ext).1);intro W12 hO;replace U:=U.o hO;replace G:=G.o hO;replace J:=J.o hO;replace T:=T.o hO;replace M:=M.o hO;replace Q6:=Sl.off Q6 hO f0;replace D:=D.o hO;clear hO;refine LnA ?_ (z:=J1 .u8 32 (J4 0)) (t:=23) (k:=.u8) (n:=32) (f:=J4 U4);intro ρ W14 V7b hO h_;replace U:=U.o hO;replace G:=G.o hO;replace J:=J.o hO;replace T:=T.o hO;replace M:=M.o hO;replace Q6:=Sl.off Q6 hO f0;replace D:=D.o hO;have X:=h_;clear hO h_ V7b;refine J5 ?_;go_upto_region 7 with fail;refine Q4f (.q 0 (.q 1 (.q 2 (.b 3 (.b 4 (.e 5 (.e 6 .z)) 5 (.e 4 (.e 6 .z))) 5 (.e 3 (.e 4 (.e 6 .z))))))) (fun W=>True) (fun a0 a_ wr=> ∃(ζ:Nat)(ε:Nat),a_=Z8p a0 [(35,.pointer (some ⟨θ,32,none⟩)),(36,.slice (some ⟨θ,32,none⟩) 32 32),(37,.slice (some ⟨ρ,0,none⟩) 32 32),(38,.slice (some ⟨ζ,0,none⟩) 2 2),(39,.agg (J1 .u8 64 (J4 U5))),(11,.pointer (some ⟨ε,0,none⟩))]∧Off [] w wr∧Blk wr K1 (J1 .u8 32 (J4 S)) 23∧Blk wr G4 (J1 .u8 80 (J4 0)) 40∧Blk wr θ (s3 U1 U2 U3) 131∧Blk wr ν (p4 hx hy hz ht) 154∧Blk wr ξ (p4 x1 y2 z3 t4) 154∧Blk wr ρ (J1 .u8 32 (J4 U4)) 23∧Blk wr ζ #[.slice (some ⟨θ,32,none⟩) 32 32,.slice (some ⟨ρ,0,none⟩) 32 32] 22∧Blk wr ε (J1 .u8 64 (J4 U5)) 89∧Sl wr v L∧Fb ζ w.heap.size []∧K1≠ζ∧G4≠ζ∧θ≠ζ∧ν≠ζ∧ξ≠ζ∧ρ≠ζ∧(sb v L)≠some ζ∧Fb ε w.heap.size []∧K1≠ε∧G4≠ε∧θ≠ε∧ν≠ε∧ξ≠ε∧ρ≠ε∧ζ≠ε∧(sb v L)≠some ε) (by kernel_rfl) (by kernel_rfl) ?_ ?_
 ·
  intro W15 hO;replace U:=U.o hO;replace G:=G.o hO;replace J:=J.o hO;replace T:=T.o hO;replace M:=M.o hO;replace X:=X.o hO;replace Q6:=Sl.off Q6 hO f0;replace D:=D.o hO;clear hO;refine⟨trivial,?_⟩
  (refine J3q (v:=?_) rfl (by rfl) (fun W hS=> ?_) ?_;rotate_left 1;(focus (go_simp;first|done|with_reducible rfl)))
  (try simp only[Act.put,mA,mB,mC])
  refine J3q (v:=.slice (some ⟨θ,32,none⟩) 32 32) rfl (by rfl) (fun W hS=>by first|rfl|(go_simp;done)|(go_simp;with_reducible rfl)) ?_
  (try simp only[Act.put,mA,mB,mC])
  refine J3q (v:=.slice (some ⟨ρ,0,none⟩) 32 32) rfl (by rfl) (fun W hS=>by first|rfl|(go_simp;done)|(go_simp;with_reducible rfl)) ?_
  (try simp only[Act.put,mA,mB,mC])
  refine Z8r rfl rfl ?_ ?_
  ·
   refine LnS ?_ (z:= #[.slice (some ⟨θ,32,none⟩) 32 32,.slice (some ⟨ρ,0,none⟩) 32 32]) (t:=22) (n:=2) (c:=2) (hr:=by exact X7 [.slice (some ⟨θ,32,none⟩) 32 32,.slice (some ⟨ρ,0,none⟩) 32 32] rfl rfl (vsc (rfl) (vsc (rfl) vs0)) Tryz.underlying168 (by kernel_rfl) (by kernel_rfl) rfl (by decide) (by decide));intro M3 V4 η hO h_;have G5:=bn U η;have D8:=bn G η;have G2:=bn J η;have D3:=bn T η;have G0:=bn M η;have D1:=bn X η;have G1:=J3u (Sl.lt Q6) η;have G3:=fbn D η;replace U:=U.o hO;replace G:=G.o hO;replace J:=J.o hO;replace T:=T.o hO;replace M:=M.o hO;replace X:=X.o hO;replace Q6:=Sl.off Q6 hO f0;replace D:=D.o hO;have Y:=h_;clear hO h_ η;refine J2f (fun W=>True) (fun W hS=>trivial) trivial ?_;refine Z8r rfl rfl ?_ ?_
   ·
    refine Lr ?_ (J71 D7.out [lb 32 U2,lb 32 U4] (some ⟨M3,0,none⟩) 2 (by simp only[List.flatten_cons,List.flatten_nil,List.append_nil,List.nil_append,List.append_assoc,List.cons_append]) (by first|omega|(simp only[List.length_append,List.length_cons,List.length_nil,J8];omega)) (by simp) V4 (J15 Y (pvc (V1 (V:=U2) (n:=32) (off:=32) J V1v (by decide) (by decide)) (pvc (V1 (V:=U4) (n:=32) (off:=0) X ap0 (by decide) (by decide)) pv0))) (GA_ext hG D.ext).2.1);intro M5 hO;replace U:=U.o hO;replace G:=G.o hO;replace J:=J.o hO;replace T:=T.o hO;replace M:=M.o hO;replace X:=X.o hO;replace Y:=Y.o hO;replace Q6:=Sl.off Q6 hO f0;replace D:=D.o hO;clear hO;refine J2f (fun W=>True) (fun W hS=>trivial) trivial ?_;refine J3b rfl ?_;refine Ln ?_ (z:=J1 .u8 64 (J4 0)) (t:=89);intro X1 X4 β hO h_;have χ:=bn U β;have φ:=bn G β;have Ξ:=bn J β;have ψ:=bn T β;have τ:=bn M β;have Γ:=bn X β;have Ω:=bn Y β;have Δ:=J3u (Sl.lt Q6) β;have σ:=fbn D β;replace U:=U.o hO;replace G:=G.o hO;replace J:=J.o hO;replace T:=T.o hO;replace M:=M.o hO;replace X:=X.o hO;replace Y:=Y.o hO;replace Q6:=Sl.off Q6 hO f0;replace D:=D.o hO;have α:=h_;clear hO h_ β;refine J2f (fun W=>True) (fun W hS=>trivial) trivial ?_;refine J3b rfl ?_;refine LpA ?_ α (k:=.u8) (n:=64) (f:=J4 U5);intro D6 hO h_;replace α:Blk D6 X1 (J1 .u8 64 (J4 U5)) 89:=h_;clear h_;replace U:=U.p hO χ;replace G:=G.p hO φ;replace J:=J.p hO Ξ;replace T:=T.p hO ψ;replace M:=M.p hO τ;replace X:=X.p hO Γ;replace Y:=Y.p hO Ω;replace Q6:=Sl.off Q6 hO (f1 Δ);replace D:=D.p hO σ;clear hO;refine J2f (fun W=>True) (fun W hS=>trivial) trivial ?_;refine Q88 ?_;exact⟨M3,X1,(by(simp only[Z8p,List.foldl_cons,List.foldl_nil,Act.put,mA,mB,mC]<;>rfl)),D,U,G,J,T,M,X,Y,α,Q6,G3,G5,D8,G2,D3,G0,D1,G1,σ,χ,φ,Ξ,ψ,τ,Γ,Ω,Δ⟩
   refine Ln ?_ (z:=J1 .u8 64 (J4 0)) (t:=89);intro X3 M5 β hO h_;have χ:=bn U β;have φ:=bn G β;have Ξ:=bn J β;have ψ:=bn T β;have τ:=bn M β;have Γ:=bn X β;have Ω:=bn Y β;have Δ:=J3u (Sl.lt Q6) β;have σ:=fbn D β;replace U:=U.o hO;replace G:=G.o hO;replace J:=J.o hO;replace T:=T.o hO;replace M:=M.o hO;replace X:=X.o hO;replace Y:=Y.o hO;replace Q6:=Sl.off Q6 hO f0;replace D:=D.o hO;have α:=h_;clear hO h_ β;refine J2f (fun W=>True) (fun W hS=>trivial) trivial ?_;refine J3b rfl ?_;refine Lr ?_ (J71 D7.out [lb 32 U2,lb 32 U4] (some ⟨M3,0,none⟩) 2 (by simp only[List.flatten_cons,List.flatten_nil,List.append_nil,List.nil_append,List.append_assoc,List.cons_append]) (by first|omega|(simp only[List.length_append,List.length_cons,List.length_nil,J8];omega)) (by simp) M5 (J15 Y (pvc (V1 (V:=U2) (n:=32) (off:=32) J V1v (by decide) (by decide)) (pvc (V1 (V:=U4) (n:=32) (off:=0) X ap0 (by decide) (by decide)) pv0))) (GA_ext hG D.ext).2.1);intro X4 hO;replace U:=U.o hO;replace G:=G.o hO;replace J:=J.o hO;replace T:=T.o hO;replace M:=M.o hO;replace X:=X.o hO;replace Y:=Y.o hO;replace α:=α.o hO;replace Q6:=Sl.off Q6 hO f0;replace D:=D.o hO;clear hO;refine J2f (fun W=>True) (fun W hS=>trivial) trivial ?_;refine J3b rfl ?_;refine LpA ?_ α (k:=.u8) (n:=64) (f:=J4 U5);intro D6 hO h_;replace α:Blk D6 X3 (J1 .u8 64 (J4 U5)) 89:=h_;clear h_;replace U:=U.p hO χ;replace G:=G.p hO φ;replace J:=J.p hO Ξ;replace T:=T.p hO ψ;replace M:=M.p hO τ;replace X:=X.p hO Γ;replace Y:=Y.p hO Ω;replace Q6:=Sl.off Q6 hO (f1 Δ);replace D:=D.p hO σ;clear hO;refine J2f (fun W=>True) (fun W hS=>trivial) trivial ?_;refine Q88 ?_;exact⟨M3,X3,(by(simp only[Z8p,List.foldl_cons,List.foldl_nil,Act.put,mA,mB,mC]<;>rfl)),D,U,G,J,T,M,X,Y,α,Q6,G3,G5,D8,G2,D3,G0,D1,G1,σ,χ,φ,Ξ,ψ,τ,Γ,Ω,Δ⟩
  refine Ln ?_ (z:=J1 .u8 64 (J4 0)) (t:=89);intro T9 V4 β hO h_;have χ:=bn U β;have φ:=bn G β;have Ξ:=bn J β;have ψ:=bn T β;have τ:=bn M β;have Γ:=bn X β;have Δ:=J3u (Sl.lt Q6) β;have σ:=fbn D β;replace U:=U.o hO;replace G:=G.o hO;replace J:=J.o hO;replace T:=T.o hO;replace M:=M.o hO;replace X:=X.o hO;replace Q6:=Sl.off Q6 hO f0;replace D:=D.o hO;have α:=h_;clear hO h_ β;refine J2f (fun W=>True) (fun W hS=>trivial) trivial ?_;refine J3b rfl ?_;refine LnS ?_ (z:= #[.slice (some ⟨θ,32,none⟩) 32 32,.slice (some ⟨ρ,0,none⟩) 32 32]) (t:=22) (n:=2) (c:=2) (hr:=by exact X7 [.slice (some ⟨θ,32,none⟩) 32 32,.slice (some ⟨ρ,0,none⟩) 32 32] rfl rfl (vsc (rfl) (vsc (rfl) vs0)) Tryz.underlying168 (by kernel_rfl) (by kernel_rfl) rfl (by decide) (by decide));intro X2 M5 η hO h_;have G5:=bn U η;have D8:=bn G η;have G2:=bn J η;have D3:=bn T η;have G0:=bn M η;have D1:=bn X η;have Θ:=bn α η;have G1:=J3u (Sl.lt Q6) η;have G3:=fbn D η;replace U:=U.o hO;replace G:=G.o hO;replace J:=J.o hO;replace T:=T.o hO;replace M:=M.o hO;replace X:=X.o hO;replace α:=α.o hO;replace Q6:=Sl.off Q6 hO f0;replace D:=D.o hO;have Y:=h_;clear hO h_ η;refine J2f (fun W=>True) (fun W hS=>trivial) trivial ?_;refine J3b rfl ?_;refine Lr ?_ (J71 D7.out [lb 32 U2,lb 32 U4] (some ⟨X2,0,none⟩) 2 (by simp only[List.flatten_cons,List.flatten_nil,List.append_nil,List.nil_append,List.append_assoc,List.cons_append]) (by first|omega|(simp only[List.length_append,List.length_cons,List.length_nil,J8];omega)) (by simp) M5 (J15 Y (pvc (V1 (V:=U2) (n:=32) (off:=32) J V1v (by decide) (by decide)) (pvc (V1 (V:=U4) (n:=32) (off:=0) X ap0 (by decide) (by decide)) pv0))) (GA_ext hG D.ext).2.1);intro X4 hO;replace U:=U.o hO;replace G:=G.o hO;replace J:=J.o hO;replace T:=T.o hO;replace M:=M.o hO;replace X:=X.o hO;replace α:=α.o hO;replace Y:=Y.o hO;replace Q6:=Sl.off Q6 hO f0;replace D:=D.o hO;clear hO;refine J2f (fun W=>True) (fun W hS=>trivial) trivial ?_;refine J3b rfl ?_;refine LpA ?_ α (k:=.u8) (n:=64) (f:=J4 U5);intro D6 hO h_;replace α:Blk D6 T9 (J1 .u8 64 (J4 U5)) 89:=h_;clear h_;replace U:=U.p hO χ;replace G:=G.p hO φ;replace J:=J.p hO Ξ;replace T:=T.p hO ψ;replace M:=M.p hO τ;replace X:=X.p hO Γ;replace Y:=Y.p hO Θ.symm;replace Q6:=Sl.off Q6 hO (f1 Δ);replace D:=D.p hO σ;clear hO;refine J2f (fun W=>True) (fun W hS=>trivial) trivial ?_;refine Q88 ?_;exact⟨X2,T9,(by(simp only[Z8p,List.foldl_cons,List.foldl_nil,Act.put,mA,mB,mC]<;>rfl)),D,U,G,J,T,M,X,Y,α,Q6,G3,G5,D8,G2,D3,G0,D1,G1,σ,χ,φ,Ξ,ψ,τ,Γ,Θ.symm,Δ⟩
 rintro _ W20 ⟨ζ,ε,rfl,D,U,G,J,T,M,X,Y,α,Q6,G3,G5,D8,G2,D3,G0,D1,G1,σ,χ,φ,Ξ,ψ,τ,Γ,Ω,Δ⟩;simp only[Z8p,List.foldl_cons,List.foldl_nil]
 (try simp only[Act.put,mA,mB,mC])
 go_upto_region 8 with fail;refine wp_region_lit ?_;refine Lw ?_ (v:=.slice (some ⟨ε,0,none⟩) 64 64) (hv:=by first|rfl|(go_simp;done)|(go_simp;with_reducible rfl));refine Lr ?_ (Y0h T8.out (n:=64) (off:=0) α ap0 (by decide) (by rw[D7.out];exact Y0z _) (GA_ext hG D.ext).2.2.1);intro W21 hO;replace G:=G.o hO;replace J:=J.o hO;replace T:=T.o hO;replace M:=M.o hO;replace D:=D.o hO;clear hO;refine LnP ?_ (z:=c4 0) (t:=157) (cells:=c4 U6);intro Ψ W23 Z4 hO h_;replace G:=G.o hO;replace J:=J.o hO;replace T:=T.o hO;replace M:=M.o hO;replace D:=D.o hO;have Z:=h_;clear hO h_ Z4;refine J5 ?_;go_upto_region 9 with fail;refine J4v (.q 0 (.q 1 (.q 2 (.q 3 (.q 5 (.q 8 (.q 9 (.e 4 (.e 6 (.e 7 (.e 10 (.e 11 (.e 12 (.e 13 (.q 14 .z))))))))))))))) (fun W=>(Blk W θ (s3 U1 U2 U3) 131)∧(Blk W ν (p4 hx hy hz ht) 154)∧(Blk W ξ (p4 x1 y2 z3 t4) 154)∧(Blk W Ψ (c4 U6) 157)) (by kernel_rfl) (by kernel_rfl) ?_;intro W24 hO;replace G:=G.o hO;replace J:=J.o hO;replace T:=T.o hO;replace M:=M.o hO;replace Z:=Z.o hO;replace D:=D.o hO;clear hO;refine⟨⟨J,T,M,Z⟩,?_⟩
 (refine J3q (v:=?_) rfl (by rfl) (fun W hS=> ?_) ?_;rotate_left 1;(focus (go_simp;first|done|with_reducible rfl)))
 (try simp only[Act.put,mA,mB,mC])
 refine J3q (v:=.agg (J1 .u8 32 (J4 U3))) rfl (by rfl) (fun W hS=>by exact(J0d (vs:=(J1 .u8 32 (J4 U3)).toList) rfl rfl (fun i v hv=>by rw[J3 (hS.1)];exact V1w i v (by simpa using hv)) (by kernel_rfl) (by kernel_rfl))) ?_
 (try simp only[Act.put,mA,mB,mC])
 refine J3q (v:=.agg (p4 hx hy hz ht)) rfl (by rfl) (fun W hS=>by exact(J57 rfl rfl (hS.2.1) (by kernel_rfl) (by kernel_rfl))) ?_
 (try simp only[Act.put,mA,mB,mC])
 refine J3q (v:=.agg (p4 x1 y2 z3 t4)) rfl (by rfl) (fun W hS=>by exact(J57 rfl rfl (hS.2.2.1) (by kernel_rfl) (by kernel_rfl))) ?_
 (try simp only[Act.put,mA,mB,mC])
 refine J3q (v:=.agg (c4 U6)) rfl (by rfl) (fun W hS=>by exact(J57 rfl rfl (hS.2.2.2) (by kernel_rfl) (by kernel_rfl))) ?_
 (try simp only[Act.put,mA,mB,mC])
 refine J3q (v:=.agg (p4 hx hy hz ht)) rfl (by rfl) (fun W hS=>by exact(J57 rfl rfl (hS.2.1) (by kernel_rfl) (by kernel_rfl))) ?_
 (try simp only[Act.put,mA,mB,mC])
 refine J3q (v:=.agg (c4 U6)) rfl (by rfl) (fun W hS=>by exact(J57 rfl rfl (hS.2.2.2) (by kernel_rfl) (by kernel_rfl))) ?_
 (try simp only[Act.put,mA,mB,mC])
 refine J3b rfl ?_;refine Lr ?_ (c12 W24 (GA_ext hG D.ext).1);intro W25 hO;replace G:=G.o hO;replace J:=J.o hO;replace T:=T.o hO;replace M:=M.o hO;replace Z:=Z.o hO;replace D:=D.o hO;clear hO;refine J2f (fun W=>(Blk W θ (s3 U1 U2 U3) 131)∧(Blk W ν (p4 hx hy hz ht) 154)∧(Blk W ξ (p4 x1 y2 z3 t4) 154)∧(Blk W Ψ (c4 U6) 157)) (fun W hS=>⟨hS.1,hS.2.1,hS.2.2.1,hS.2.2.2⟩) ⟨J,T,M,Z⟩ ?_;refine J3b rfl ?_;refine Lr ?_ (Q3p D0 W25 (GA_ext hG D.ext).2.2.1);intro W26 hO;replace G:=G.o hO;replace J:=J.o hO;replace T:=T.o hO;replace M:=M.o hO;replace Z:=Z.o hO;replace D:=D.o hO;clear hO;refine J2f (fun W=>(Blk W θ (s3 U1 U2 U3) 131)∧(Blk W ν (p4 hx hy hz ht) 154)∧(Blk W ξ (p4 x1 y2 z3 t4) 154)∧(Blk W Ψ (c4 U6) 157)) (fun W hS=>⟨hS.1,hS.2.1,hS.2.2.1,hS.2.2.2⟩) ⟨J,T,M,Z⟩ ?_;refine J3b rfl ?_;refine Lr ?_ (c18 W26 (GA_ext hG D.ext).1);intro W27 hO;replace G:=G.o hO;replace J:=J.o hO;replace T:=T.o hO;replace M:=M.o hO;replace Z:=Z.o hO;replace D:=D.o hO;clear hO;refine J2f (fun W=>(Blk W θ (s3 U1 U2 U3) 131)∧(Blk W ν (p4 hx hy hz ht) 154)∧(Blk W ξ (p4 x1 y2 z3 t4) 154)∧(Blk W Ψ (c4 U6) 157)) (fun W hS=>⟨hS.1,hS.2.1,hS.2.2.1,hS.2.2.2⟩) ⟨J,T,M,Z⟩ ?_;refine J3b rfl ?_;refine Lr ?_ (Q3p D0 W27 (GA_ext hG D.ext).2.2.1);intro W28 hO;replace G:=G.o hO;replace J:=J.o hO;replace T:=T.o hO;replace M:=M.o hO;replace Z:=Z.o hO;replace D:=D.o hO;clear hO;refine J2f (fun W=>(Blk W θ (s3 U1 U2 U3) 131)∧(Blk W ν (p4 hx hy hz ht) 154)∧(Blk W ξ (p4 x1 y2 z3 t4) 154)∧(Blk W Ψ (c4 U6) 157)) (fun W hS=>⟨hS.1,hS.2.1,hS.2.2.1,hS.2.2.2⟩) ⟨J,T,M,Z⟩ ?_;refine J3b rfl ?_;refine Lr ?_ (c24 W28 (GA_ext hG D.ext).1);intro W29 hO;replace G:=G.o hO;replace J:=J.o hO;replace T:=T.o hO;replace M:=M.o hO;replace Z:=Z.o hO;replace D:=D.o hO;clear hO;refine J2f (fun W=>(Blk W θ (s3 U1 U2 U3) 131)∧(Blk W ν (p4 hx hy hz ht) 154)∧(Blk W ξ (p4 x1 y2 z3 t4) 154)∧(Blk W Ψ (c4 U6) 157)) (fun W hS=>⟨hS.1,hS.2.1,hS.2.2.1,hS.2.2.2⟩) ⟨J,T,M,Z⟩ ?_;refine J3b rfl ?_;refine LnS ?_ (z:=(p4 hx hy hz ht)++(p4 x1 y2 z3 t4)++(p4 x13 y14 z15 t16)++(p4 x19 y20 z21 t22)) (t:=154) (n:=4) (c:=4);intro V2t R3 V7d hO h_;replace G:=G.o hO;replace J:=J.o hO;replace T:=T.o hO;replace M:=M.o hO;replace Z:=Z.o hO;replace D:=D.o hO;have V7e:=h_;clear hO h_ V7d;refine J2f (fun W=>(Blk W θ (s3 U1 U2 U3) 131)∧(Blk W ν (p4 hx hy hz ht) 154)∧(Blk W ξ (p4 x1 y2 z3 t4) 154)∧(Blk W Ψ (c4 U6) 157)) (fun W hS=>⟨hS.1,hS.2.1,hS.2.2.1,hS.2.2.2⟩) ⟨J,T,M,Z⟩ ?_;refine J3b rfl ?_;refine Q7z (R:=fun v W=> ∃p,v=.slice (some ⟨p,0,none⟩) 16 64∧R3.heap.size≤p∧Off [] R3 W∧Blk W p (J1 .u8 64 (J4 U7)) 89) ((V2m (kn:=kn) hr r5 r17 r23 Y2.out V2t R3 (GA_ext hG D.ext) V7e).mono fun e W h=>by obtain⟨p,h1,h2⟩:=h;exact⟨_,h1,p,rfl,h2⟩) (by rfl) rfl (by kernel_rfl) rfl ?_
 (try simp only[Act.put,mA,mB,mC])
 rintro _ W31 ⟨Z1,rfl,Z2,hO,h_⟩
 (try simp only[Act.put,mA,mB,mC])
 replace G:=G.o hO;replace J:=J.o hO;replace T:=T.o hO;replace M:=M.o hO;replace Z:=Z.o hO;replace D:=D.o hO;have δ:=h_;clear hO h_ Z2;refine J2f (fun W=>(Blk W θ (s3 U1 U2 U3) 131)∧(Blk W ν (p4 hx hy hz ht) 154)∧(Blk W ξ (p4 x1 y2 z3 t4) 154)∧(Blk W Ψ (c4 U6) 157)) (fun W hS=>⟨hS.1,hS.2.1,hS.2.2.1,hS.2.2.2⟩) ⟨J,T,M,Z⟩ ?_
 (refine J3q (v:=?_) rfl (by rfl) (fun W hS=> ?_) ?_;rotate_left 1;(focus (go_simp;first|done|with_reducible rfl)))
 (try simp only[Act.put,mA,mB,mC])
 refine Q88 ?_;go_upto_region 10 with fail;refine Rx1 9 14 (z:=J1 .u8 32 (J4 0)) (t:=23) ?_;refine Xl ?_ Z;refine Xv ?_;refine Xf ?_ (fun W hW=>Y0h T6.out (n:=16) (off:=0) (J2 δ hW) (h16 R8.out) (by decide) Y3 (GA_ext (GA_ext hG D.ext) hW).2.2.1);refine Xv ?_;refine Xw ?_ (v:=.slice (some ⟨θ,0,none⟩) 32 32);refine Xf ?_ (fun W hW=>Y0h R0.out (n:=32) (off:=0) (J2 J hW) V1u (by decide) S5 (GA_ext (GA_ext hG D.ext) hW).2.2.1);refine Xf ?_ (fun W hW=>V1y R9.out (Nat.lt_trans Y7 J4p) (Nat.lt_trans R4 J4p) W (GA_ext (GA_ext hG D.ext) hW).2.2.1);refine Xf ?_ (fun W hW=>V1z N2.out (Nat.lt_trans D0 J4p) (Nat.lt_trans N7 J4p) W (GA_ext (GA_ext hG D.ext) hW).2.2.1);refine Xf ?_ (fun W hW=>Q3p N6 W (GA_ext (GA_ext hG D.ext) hW).2.2.1);refine XN ?_;intro M2 W32 G6 hE M1;have hO:=J0b hE;have Z5n:=bn G G6;have Z5o:=bn M G6;have Z5p:=bn δ G6;have V2u:=fbn D G6;replace G:=G.o hO;replace M:=M.o hO;replace δ:=δ.o hO;replace D:=D.o hO;clear hO hE G6;have γ:Blk W32 M2 (J1 .u8 32 (J4 0)) 23:=M1;clear M1;refine LpA ?_ γ (k:=.u8) (n:=32) (f:=J4 κ);intro S3 hO h_;replace γ:Blk S3 M2 (J1 .u8 32 (J4 κ)) 23:=h_;clear h_;replace G:=G.p hO Z5n;replace M:=M.p hO Z5o;replace δ:=δ.p hO Z5p;replace D:=D.p hO V2u;clear hO;refine LN ?_;go_upto_region 11 with fail;refine wp_region_lit ?_;refine L0 ?_ M;refine Lr ?_ (Q3q r5.rw N9.out S3 (GA_ext hG D.ext).1);intro W34 hO;replace G:=G.o hO;replace δ:=δ.o hO;replace γ:=γ.o hO;replace D:=D.o hO;clear hO;refine LnA ?_ (z:=J1 .u8 32 (J4 0)) (t:=23) (k:=.u8) (n:=32) (f:=J4 μ);intro V2v W36 V7f hO h_;replace G:=G.o hO;replace δ:=δ.o hO;replace γ:=γ.o hO;replace D:=D.o hO;have ω:=h_;clear hO h_ V7f;refine J5 ?_;go_upto_region 12 with fail;refine J4v (.q 1 (.q 3 (.q 5 (.e 0 (.e 2 (.e 4 (.e 6 (.q 7 (.q 8 (.e 9 (.q 10 .z))))))))))) (fun W=>True) (by kernel_rfl) (by kernel_rfl) ?_;intro W37 hO;replace G:=G.o hO;replace δ:=δ.o hO;replace γ:=γ.o hO;replace ω:=ω.o hO;replace D:=D.o hO;clear hO;refine⟨trivial,?_⟩;refine J3q (v:=.slice (some ⟨V2v,0,none⟩) 32 32) rfl (by rfl) (fun W hS=>by first|rfl|(go_simp;done)|(go_simp;with_reducible rfl)) ?_
 (try simp only[Act.put,mA,mB,mC])
 (refine J3q (v:=?_) rfl (by rfl) (fun W hS=> ?_) ?_;rotate_left 1;(focus (go_simp;first|done|with_reducible rfl)))
 (try simp only[Act.put,mA,mB,mC])
 refine J3q (v:=.slice (some ⟨M2,0,none⟩) 32 32) rfl (by rfl) (fun W hS=>by first|rfl|(go_simp;done)|(go_simp;with_reducible rfl)) ?_
 (try simp only[Act.put,mA,mB,mC])
 refine J3b rfl ?_;refine LnS ?_ (z:= #[]) (t:=5) (n:=0) (c:=0);intro D4 W38 D9 hO h_;have S4:Value.ownBlock (.slice (some ⟨D4,0,none⟩) 0 0)≠some G4:=obn G D9;have Z5q:Value.ownBlock (.slice (some ⟨D4,0,none⟩) 0 0)≠some Z1:=obn δ D9;have X0:Value.ownBlock (.slice (some ⟨D4,0,none⟩) 0 0)≠some M2:=obn γ D9;have S6:Fr (Value.ownBlock (.slice (some ⟨D4,0,none⟩) 0 0)) w.heap.size []:=frn D D9;replace G:=G.o hO;replace δ:=δ.o hO;replace γ:=γ.o hO;replace ω:=ω.o hO;replace D:=D.o hO;have V2w:Own W38 (.slice (some ⟨D4,0,none⟩) 0 0) []:=J2e h_ (by rfl) (by show 0≤maxLen;decide);clear hO h_ D9;refine J2f (fun W=>True) (fun W hS=>trivial) trivial ?_;refine J3b rfl ?_;refine J0g (xs:=[]) (ys:=(lb 32 μ)) (by rfl) rfl rfl rfl V2w (V1 (V:=μ) (n:=32) (off:=0) ω ap0 (by decide) (by decide)) (by first|omega|(simp only[List.length_append,List.length_cons,List.length_nil,J8];omega)) ?_
 (try simp only[Act.put,mA,mB,mC])
 intro V9q W39 V2x hO M6 M9;clear M9;have T2:=J2x M6 S4 (Q2 G);have Z13:=J2x M6 X0 (Q2 γ);have Y1:=J3v M6 S6 D.size;replace G:=J0n G hO (nmo S4);replace δ:=J0n δ hO (nmo Z5q);replace γ:=J0n γ hO (nmo X0);replace D:=D.step hO (io S6);clear hO M6;refine J2f (fun W=>True) (fun W hS=>trivial) trivial ?_;refine J3b rfl ?_;refine J0g (xs:=([]++(lb 32 μ))) (ys:=(lb 16 U8)) (by rfl) rfl rfl rfl V2x (V1 (V:=U8) (n:=16) (off:=0) δ (h16 R8.out) (by decide) (by decide)) (by first|omega|(simp only[List.length_append,List.length_cons,List.length_nil,J8];omega)) ?_
 (try simp only[Act.put,mA,mB,mC])
 intro V9r W40 V2y hO R6 M7;clear M7;have T7:=J2x R6 T2 (Q2 G);have V2z:=J3v R6 Y1 D.size;replace G:=J0n G hO (nmo T2);replace γ:=J0n γ hO (nmo Z13);replace D:=D.step hO (io Y1);clear hO R6;refine J2f (fun W=>True) (fun W hS=>trivial) trivial ?_;refine J3b rfl ?_;refine J0g (xs:=(([]++(lb 32 μ))++(lb 16 U8))) (ys:=(lb 32 κ)) (by rfl) rfl rfl rfl V2y (V1 (V:=κ) (n:=32) (off:=0) γ ap0 (by decide) (by decide)) (by first|omega|(simp only[List.length_append,List.length_cons,List.length_nil,J8];omega)) ?_
 (try simp only[Act.put,mA,mB,mC])
 intro N3 W41 D5 hO Y4 M8;clear M8;have Z5r:=J2x Y4 T7 (Q2 G);replace G:=J0n G hO (nmo T7);replace D:=D.step hO (io V2z);clear hO Y4;refine J2f (fun W=>(Own W N3 ((([]++(lb 32 μ))++(lb 16 U8))++(lb 32 κ)))) (fun W hS=>trivial) D5 ?_;have N5:((([]++(lb 32 μ))++(lb 16 U8))++(lb 32 κ)).length=80:=by simp only[List.length_append,J8,List.length_nil]
 obtain⟨gz,cz,curz,ez,-,-⟩:=Q8p D5 (by rw[N5];decide);rw[N5] at ez;refine J3q (v:=.pointer (some ⟨gz,0,none⟩)) rfl (by rfl) (fun W hS=>by exact(Y5k (n:=80) rfl (by show N3=_;exact ez) Tryz.underlying40)) ?_
 (try simp only[Act.put,mA,mB,mC])
 refine J3q (v:=.agg (J1 .u8 80 (J4 (μ+2^256*(U8+J3e*κ))))) rfl (by rfl) (fun W hS=>by exact(J0d (vs:=(J1 .u8 80 (J4 (μ+2^256*(U8+J3e*κ)))).toList) rfl rfl (V20 (hS) ez N5 (by decide) (by rw[List.nil_append];exact Y15 Z3 Y3)) (by kernel_rfl) (by rw[Array.length_toList,J0];kernel_rfl))) ?_
 (try simp only[Act.put,mA,mB,mC])
 refine J3b rfl ?_;refine LpA ?_ G (k:=.u8) (n:=80) (f:=J4 (μ+2^256*(U8+J3e*κ)));intro W42 hO h_;replace G:Blk W42 G4 (J1 .u8 80 (J4 (μ+2^256*(U8+J3e*κ)))) 40:=h_;clear h_;replace D5:=Own.off D5 hO (f1 Z5r);replace D:=D.p hO Q37;clear hO;refine J2f (fun W=>(Own W N3 ((([]++(lb 32 μ))++(lb 16 U8))++(lb 32 κ)))) (fun W hS=>hS) D5 ?_
 (refine J3q (v:=?_) rfl (by rfl) (fun W hS=> ?_) ?_;rotate_left 1;(focus (go_simp;first|done|with_reducible rfl)))
 (try simp only[Act.put,mA,mB,mC])
 refine Q88 ?_;go_wp2;rw[show J1 .u8 80 (J4 (μ+2^256*(U8+J3e*κ)))=J1 .u8 80 (J4 (vPr S h)) by rw[N9.out,N2.out,R9.out,R0.out,T6.out,R8.out,Y2.out,T8.out,D7.out,T1.out,M4.out,S9.out,T5.out];rfl] at G;exact bodyPost_ret (X8 rfl rfl rfl G (by kernel_rfl) (by rw[J0];kernel_rfl)) rfl ⟨rfl,D.ext⟩
theorem Y5w (hd:kn.d)(hb:kn.b)(hc:kn.c)(S:Nat)(v:Value)(L:List UInt8)(hL:L.length≤1099511627776)(hv:vpt (kP S) L=none):
  ∀w,GA kn w→Sl w v L→Calls Tryz.prog 81 #[.agg (J1 .u8 32 (J4 S)),v] w fun e w' =>X5 (.tuple #[.agg (J1 .u8 80 (J4 0)),.int .i64 15]) w w' e:=by
 obtain⟨U1,R⟩:=exn (kN S);have η:U1<2^256:=by rw[R];exact Y83 _
 have δ:=Lib.hid R;clear R;obtain⟨U2,N⟩:=exn (kD S);have θ:U2<2^256:=by rw[N];exact Y84 _
 have X:=Lib.hid N;clear N;obtain⟨U3,M⟩:=exn (kP S);have ν:U3<2^256:=by rw[M];exact Y85 _
 have T:=Lib.hid M;clear M;have γ:vpt U3 L=none:=by rw[T.out];exact hv
 intro w hG α;have Q6:=α;have D:Off [] w w:=Off.refl _ _
 go_enter Tryz.func81,Tryz.ntmps81
 go_upto_region 0 with fail;refine wp_region_lit ?_;refine Ln ?_ (z:=J1 .u8 32 (J4 S)) (t:=23);intro K1 W1 Y hO h_;replace Q6:=Sl.off Q6 hO f0;replace D:=D.o hO;have J:=h_;clear hO h_ Y;refine Ln ?_ (z:=J1 .u8 80 (J4 0)) (t:=40);intro ε W2 U hO h_;have Z:=fbn D U;replace J:=J.o hO;replace Q6:=Sl.off Q6 hO f0;replace D:=D.o hO;have G:=h_;clear hO h_ U;refine Lw ?_ (v:=.int .i64 0);refine J5 ?_;go_upto_region 1 with fail;refine wp_region_lit ?_;refine L0A ?_ J;refine Lr ?_ (Q56 hd hb δ.out X.out T.out W2 (GA_ext hG D.ext));intro W3 hO;replace G:=G.o hO;replace Q6:=Sl.off Q6 hO f0;replace D:=D.o hO;clear hO;refine LnP ?_ (z:=s3 0 0 0) (t:=131) (cells:=s3 U1 U2 U3) (hi:=by rw[J16];kernel_rfl) (hs:=by first|rw[J16,J16]|rw[J16]|kernel_rfl) (h1:=by exact Q6y);intro κ W5 ζ hO h_;replace G:=G.o hO;replace Q6:=Sl.off Q6 hO f0;replace D:=D.o hO;have V:=h_;clear hO h_ ζ;refine J5 ?_;go_upto_region 2 with fail;refine wp_region_lit ?_;refine Lv ?_;refine J68 (vs:=(J1 .u8 32 (J4 U3)).toList) (by rfl) rfl rfl V (Z4x V1w) (by kernel_rfl) (by kernel_rfl) ?_
 (try simp only[Act.put,mA,mB,mC])
 refine Lv ?_;refine Lr ?_ (Y5u (kn:=kn) hc hL γ v W5 (GA_ext hG D.ext) Q6);intro W6 hO;replace G:=G.o hO;replace D:=D.o hO;clear hO;refine Lv ?_;refine Lv ?_;refine Lw ?_ (v:=.int .i64 15);refine LnP ?_ (z:=p4 0 0 0 0) (t:=154) (cells:=p4 0 0 0 0);intro μ W8 β hO h_;replace G:=G.o hO;replace D:=D.o hO;clear hO h_ β;refine Lw ?_ (v:=.int .i64 15);refine J5 ?_;go_upto_region 4 with fail;refine wp_region_lit ?_;refine Lw ?_ (v:=.agg (J1 .u8 80 (J4 0))) (hv:=by kernel_rfl);refine Lw ?_ (v:=.int .i64 15);refine LpA ?_ G (k:=.u8) (n:=80) (f:=J4 0);intro W9 hO h_;replace G:Blk W9 ε (J1 .u8 80 (J4 0)) 40:=h_;clear h_;replace D:=D.p hO Z;clear hO;refine Lw ?_ (v:=.int .i64 15);refine J5 ?_;go_wp2;exact bodyPost_ret (X8 rfl rfl rfl G (by kernel_rfl) (by rw[J0];kernel_rfl)) rfl ⟨rfl,D.ext⟩
end

section
set_option maxHeartbeats 2000000
attribute [local irreducible] wpList Y5
variable {kn : Kn}
open Sc (LL J0p)
attribute [local irreducible] hs
def chk (V P:Nat)(h:Pr):Nat:=ch V h (dPt (pG P)) (J1k (pm BP (pN P)) (pm (V6e (dPt V)) (pC P))) (J1k (pm h (pN P)) (pm (V6e (dPt (pG P))) (pC P)))

def V9s (V:Nat)(L:List UInt8)(P:Nat):Nat×Nat:=
  if dOk V=false∨pm (dPt V) 8=p0 then(0,15) else if dOk (pG P)=false∨LL≤pN P then(0,17) else
  match vpt V L with
  |none=>(0,15)
  |some c=>if chk V P (J4f V L c)=pC P then(Y5s P,0) else(0,17)
end

section
set_option maxHeartbeats 2000000
attribute [local irreducible] wpList
open Sc (LL J0p)
variable {kn : Kn}
attribute [local irreducible] hs
section
variable {w : World} {o : Oper} {a : Act} {x y z : Operand} {t : TypeId}
end
end

section
set_option maxHeartbeats 2000000
attribute [local irreducible] wpList
open Sc (LL J0p)
variable {kn : Kn}
attribute [local irreducible] hs
end

section
open Sc (LL J0p)
attribute [local irreducible] hs
theorem V7i (S:Nat)(h:Pr):vC S h<J3e:=Nat.mod_lt _ (by decide)
theorem Y1l {E C n:Nat}(hE:E<2^256)(hC:C<J3e):pG (E+2^256*(C+J3e*n))=E∧pC (E+2^256*(C+J3e*n))=C∧pN (E+2^256*(C+J3e*n))=n:=by
  refine⟨?_,?_,?_⟩
  · unfold pG;rw[Nat.add_mul_mod_self_left,Nat.mod_eq_of_lt hE]
  · unfold pC;rw[Nat.add_mul_div_left _ _ (Nat.two_pow_pos 256),Nat.div_eq_of_lt hE,Nat.zero_add,Nat.add_mul_mod_self_left,Nat.mod_eq_of_lt hC]
  unfold pN;rw[Nat.add_mul_div_left _ _ (Nat.two_pow_pos 256),Nat.div_eq_of_lt hE,Nat.zero_add,Nat.add_mul_div_left _ _ (by decide),Nat.div_eq_of_lt hC,Nat.zero_add]
theorem vPr_parts {S:Nat}{h:Pr}(hon:OnC h):pG (vPr S h)=enc (pm h (kN S))∧pC (vPr S h)=vC S h∧pN (vPr S h)=vN S h:=Y1l (J9d _) (V7i S h)
theorem Z18 {a:Pr}{xa ya n x y:Nat}(ha:a=(fp xa,fp ya))(hx:xa<PP)(hy:ya<PP)(hon:OnC (fp xa,fp ya))(hn:n<2^256)
    (h:x*(tmN (xa,ya,1,xa*ya % PP) n 256).2.2.1 % PP=(tmN (xa,ya,1,xa*ya % PP) n 256).1∧y*(tmN (xa,ya,1,xa*ya % PP) n 256).2.2.1 % PP=(tmN (xa,ya,1,xa*ya % PP) n 256).2.1):pm a n=(fp x,fp y):=by
  subst ha;exact V2k (V1s (P:=(xa,ya,1,xa*ya % PP)) (Y7i hx hy hon rfl) hn) h.1 h.2
theorem V7j {a:Pr}{x y:Nat}(ha:a=(fp x,fp y))(h:(y % PP==1)=false):¬a=p0:=by
  intro e;rw[ha] at e;have e2:fp y=(1:Fp):=congrArg Prod.snd e;have e3:=congrArg Fin.val e2;rw[Q6r] at e3;have e4:y % PP=1:=e3;rw[e4] at h;cases h
theorem Y1m {V c h Vc xq yq:Nat}{L:List UInt8}{a:Pr}(eh:hs ([3,1]++lb 32 V++L++[u8 c,0])=h)(ec:lo h=Vc)(hx:xq<PP)(hy:yq<PP)(he:yq+2^255*(xq % 2)=Vc)(hon:OnC (fp xq,fp yq))(h8:pm (fp xq,fp yq) 8=a)(hne:¬a=p0):
    J24 V L c=true∧J4f V L c=a:=by
  have e:J5x V L c=enc (fp xq,fp yq):=by unfold J5x;rw[eh,ec,Y5q hx hy,he]
  obtain⟨d1,d2⟩:=dec_enc hon;have e8:J4f V L c=a:=by unfold J4f;rw[e,d2,h8]
  exact⟨candOk_iff.2 ⟨by rw[e];exact d1,by rw[e8];exact hne⟩,e8⟩
def qPx:Nat:=26822555233711949854380153315158647482531717314742952720223963642152101436051
def qPy:Nat:=56461774818723834839721450787889437474891852695816614318545467683432985644238
theorem V9z:qPx<PP:=by decide
theorem K00:qPy<PP:=by decide
theorem V7k:OnC (fp qPx,fp qPy):=by unfold OnC;decide+kernel
def qax:Nat:=47024039051628811779107516702321879712624584126105895814772064878575390995579
def qay:Nat:=36463181788650339775237385953296199005534778670103291544839962084555217917972
theorem K03:qax<PP:=by decide
theorem K04:qay<PP:=by decide
theorem V7l:OnC (fp qax,fp qay):=by unfold OnC;decide+kernel
def qbx:Nat:=5347412701449414475638337812612804166351006483222583960086511109711120593916
def qby:Nat:=31454809416705925197151026446448411341732414034120726205309780028097122426136
theorem V7m:qbx<PP:=by decide
theorem V7n:qby<PP:=by decide
theorem Y8c:OnC (fp qbx,fp qby):=by unfold OnC;decide+kernel
def qAx:Nat:=4469178358068918509625982920184479197551857748499590235157424197441462617855
def qAy:Nat:=16503622182197511828209738090181657542955776088139777616436718276135933772672
def qBx:Nat:=5974376345347396749938987862407457246551996092567368546225745622563519485233
def qBy:Nat:=25507955390308686559427229708500431997880189612436112124872904814129796593346
def qEx:Nat:=15442730981594750838971302459575842918760929366015934280027366898552379046717
def qEy:Nat:=42218610869048474510830178928357113993860933435220319996272949481851902639999
theorem tE {a:Pr}(ha:a=(fp qPx,fp qPy)):pm a 8=(fp qEx,fp qEy):=Z18 ha V9z K00 V7k (by decide) (by decide+kernel)
theorem ta {a:Pr}(ha:a=(fp qax,fp qay)):pm a 8=(fp qAx,fp qAy):=Z18 ha K03 K04 V7l (by decide) (by decide+kernel)
theorem tb {a:Pr}(ha:a=(fp qbx,fp qby)):pm a 8=(fp qBx,fp qBy):=Z18 ha V7m V7n Y8c (by decide) (by decide+kernel)
theorem cb:J24 114357819437381932551506943292233391401526845028636896338274259687389550464206 [98] 0=true∧J4f 114357819437381932551506943292233391401526845028636896338274259687389550464206 [98] 0=(fp qBx,fp qBy):=Y1m (h:=616082032838736440229054033691866983738947723987213580315641221012400015752405605581206817103919007263269839956216054564015079766058242509860130319916312) (Vc:=31454809416705925197151026446448411341732414034120726205309780028097122426136) (V2l (by decide+kernel)) (by decide+kernel) V7m V7n (by decide+kernel) Y8c (tb rfl) (V7j rfl (by decide+kernel))
end

section
attribute [local irreducible] wpList
variable {kn : Kn}
open Sc (LL J0p)
attribute [local irreducible] hs
def vprv (S:Nat)(L:List UInt8):Nat×Nat:=match vpt (kP S) L with
  |none=>(0,15)
  |some c=>(vPr S (J4f (kP S) L c),0)
def vsm (P:Nat):Nat×Nat:=if dOk (pG P)=true then(Y5s P,0) else(0,17)
theorem vprv_some {S c:Nat}{L:List UInt8}(h:vpt (kP S) L=some c):vprv S L=(vPr S (J4f (kP S) L c),0):=by unfold vprv;rw[h]
theorem vprv_none {S:Nat}{L:List UInt8}(h:vpt (kP S) L=none):vprv S L=(0,15):=by unfold vprv;rw[h]
theorem candP_on {V c:Nat}{L:List UInt8}(h:J24 V L c=true):OnC (J4f V L c):=pm_on (Z9x (candOk_iff.1 h).1) 8
theorem proveN_c (hd:kn.d)(hb:kn.b)(hc:kn.c){X E S:Nat}{L:List UInt8}(hX:X=(vprv S L).1)(hE:E=(vprv S L).2)(v:Value)(hL:L.length≤1099511627776)(w:World)(hG:GA kn w)(hs:Sl w v L):
    Calls Tryz.prog 81 #[.agg (J1 .u8 32 (J4 S)),v] w fun e w' =>X5 (.tuple #[.agg (J1 .u8 80 (J4 X)),.int .i64 (E:Int)]) w w' e:=by
  subst hX hE;cases h:vpt (kP S) L with
  |none=>rw[vprv_none h];exact Y5w hd hb hc S v L hL h w hG hs
  |some c=>rw[vprv_some h];exact Y5v hd hb hc S c v L hL h rfl w hG hs
theorem vsumN_c (hc:kn.c){X E P:Nat}(hX:X=(vsm P).1)(hE:E=(vsm P).2)(w:World)(hG:GA kn w):
    Calls Tryz.prog 74 #[.agg (J1 .u8 80 (J4 P))] w fun e w' =>X5 (.tuple #[.agg (J1 .u8 64 (J4 X)),.int .i64 (E:Int)]) w w' e:=by
  subst hX hE;unfold vsm;cases h:dOk (pG P)
  · rw[if_neg (by decide)];exact V2o hc h w hG
  rw[if_pos rfl];exact V2p hc h rfl w hG
attribute [local irreducible] vprv V9s

end
end Go.Proofs.YteehbddkcnkhfaaGreatDoor.S8

namespace Go.Proofs.YteehbddkcnkhfaaGreatDoor
open S8 (vprv vsm kP lo)
def pfN (vk:Nat)(l:List UInt8):Nat:=(vprv vk l).1
def erN (vk:Nat)(l:List UInt8):Nat:=(vprv vk l).2
def ixN (vk:Nat)(l:List UInt8):Nat:=lo (vsm (pfN vk l)).1
namespace DD
def leaf (D:DD)(m:Md):Nat×Nat:=(ixN D.vk m.l,bnd (opn D.bk (ixN D.vk m.l) (m.ver:Int)) (ixN D.vk m.l) (m.ver:Int) m.x)
def lvs (D:DD)(e:Nat):List (Nat×Nat):=(D.upto e).map D.leaf
def tree (D:DD)(e:Nat):TR:=ofT (D.lvs e)
def link (D:DD):Nat→Nat
  |0=>lk0 D.id
  |e+1=>lkn D.id ((e+1:Nat):Int) (rs (D.tree (e+1))) (link D e)
theorem Y3u {D:DD}{e:Nat}(h:e<D.puts.length):D.nxt.lvs e=D.lvs e:=by unfold lvs;rw[upto_nxt_lt h];rfl
theorem tree_nxt {D:DD}{e:Nat}(h:e<D.puts.length):D.nxt.tree e=D.tree e:=by unfold tree;rw[Y3u h]
theorem link_nxt {D:DD}:∀{e:Nat},e<D.puts.length→D.nxt.link e=D.link e
  |0,_=>rfl
  |e+1,h=>by
    show lkn _ _ (rs (D.nxt.tree (e+1))) (D.nxt.link e)=_;rw[tree_nxt h,link_nxt (Nat.lt_of_succ_lt h)];rfl
theorem link_put (D:DD)(l x:List UInt8):∀e,(D.put l x).link e=D.link e
  |0=>rfl
  |e+1=>by
    show lkn _ _ _ ((D.put l x).link e)=_;rw[link_put D l x e];rfl
def trees (D:DD):List TR:=(List.range D.puts.length).map D.tree
def links (D:DD):List Nat:=(List.range D.puts.length).map D.link
theorem trees_len (D:DD):D.trees.length=D.puts.length:=by unfold trees;simp
theorem links_len (D:DD):D.links.length=D.puts.length:=by unfold links;simp
theorem trees_at {D:DD}{e:Nat}(h:e<D.puts.length):D.trees[e]?=some (D.tree e):=by unfold trees;rw[List.getElem?_map,List.getElem?_range h];rfl
theorem links_at {D:DD}{e:Nat}(h:e<D.puts.length):D.links[e]?=some (D.link e):=by unfold links;rw[List.getElem?_map,List.getElem?_range h];rfl
theorem nxt_len (D:DD):D.nxt.puts.length=D.puts.length+1:=by unfold nxt;simp
theorem trees_nxt (D:DD):D.nxt.trees=D.trees++[D.nxt.tree D.puts.length]:=by
  unfold trees;rw[nxt_len,List.range_succ,List.map_append]
  congr 1
  exact List.map_congr_left fun e he=>tree_nxt (List.mem_range.1 he)
theorem links_nxt (D:DD):D.nxt.links=D.links++[D.nxt.link D.puts.length]:=by
  unfold links;rw[nxt_len,List.range_succ,List.map_append]
  congr 1
  exact List.map_congr_left fun e he=>link_nxt (List.mem_range.1 he)
end DD
theorem Z02 (vk:Nat)(l:List UInt8):ixN vk l<2^256:=S8.lo_lt _
end Go.Proofs.YteehbddkcnkhfaaGreatDoor

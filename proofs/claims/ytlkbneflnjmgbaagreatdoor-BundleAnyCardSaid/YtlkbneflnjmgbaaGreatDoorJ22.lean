/- Contracts and plain laws for bundleAny_holds. Conditions: the tables hold their numbers. -/
import Derived.Test.YtlkbneflnjmgbaaGreatDoorJ21
open Go.RowKit
set_option maxRecDepth 100000
set_option linter.unusedSimpArgs false
set_option linter.unusedVariables false
namespace Go.Proofs.YtlkbneflnjmgbaaGreatDoor.S8
section
set_option maxHeartbeats 2000000
attribute [local irreducible] wpList Z6
variable {kn : Kn}
open Sc (LL J10)
attribute [local irreducible] hs
theorem h16 {X C:Nat}(hC:C=X % J3s):∀i v,(J0 .u8 16 (J7 C))[i]?=some v→(J0 .u8 64 (J7 X))[0+i]?=some v:=
  Z67 (fun j hj=>by rw[hC,show J3s=2^(8*16) from rfl,Y99 hj,Nat.zero_add]) (by decide)
theorem Y9b (hc:kn.c){V c0:Nat}{L:List UInt8}(hL:L.length≤1099511627776)(hv:vpt V L=some c0){h:Pr}(hh:h=J49 V L c0):
    ∃X Y Z T,RN X Y Z T h∧∀v w,GA kn w→Sl w v L→Calls Tryz.prog 99 #[.agg (J0 .u8 32 (J7 V)),v] w fun e w' =>Ret (.tuple #[.agg (p4 X Y Z T),.int .i64 0]) w w' e:=by
  obtain⟨h1,h2,h3⟩:=vpt_some hv;subst hh;exact Z37 hc hL c0 h1 h2 h3
theorem Y9c (hc:kn.c){V:Nat}{L:List UInt8}(hL:L.length≤1099511627776)(hv:vpt V L=none)(v:Value)(w:World)(hG:GA kn w)(hs:Sl w v L):
    Calls Tryz.prog 99 #[.agg (J0 .u8 32 (J7 V)),v] w fun e w' =>Ret (.tuple #[.agg (p4 0 0 0 0),.int .i64 15]) w w' e:=Z38 hc hL (Y4c hv) v w hG hs
theorem Y4d {E C n:Nat}(hE:E<2^256)(hC:C<J3s):lb 32 E++lb 16 C++lb 32 n=lb 80 (E+2^256*(C+J3s*n)):=by
  have e1:lb 80 (E+2^256*(C+J3s*n))=lb 32 (E+2^256*(C+J3s*n))++lb 48 ((E+2^256*(C+J3s*n)) / 2^(8*32)):=Y44 32 48 _;have e2:lb 48 (C+J3s*n)=lb 16 (C+J3s*n)++lb 32 ((C+J3s*n) / 2^(8*16)):=Y44 16 32 _;rw[e1,show(2:Nat)^(8*32)=2^256 from rfl,Nat.add_mul_div_left _ _ (by decide),Nat.div_eq_of_lt hE,Nat.zero_add,e2,show(2:Nat)^(8*16)=J3s from rfl,Nat.add_mul_div_left _ _ (by decide),Nat.div_eq_of_lt hC,Nat.zero_add,List.append_assoc]
  congr 1
  · rw[←Y2e 32 (E+2^256*(C+J3s*n)),show(2:Nat)^(8*32)=2^256 from rfl,Nat.add_mul_mod_self_left,Nat.mod_eq_of_lt hE]
  congr 1
  rw[←Y2e 16 (C+J3s*n),show(2:Nat)^(8*16)=J3s from rfl,Nat.add_mul_mod_self_left,Nat.mod_eq_of_lt hC]

theorem Y9d (hd:kn.d)(hb:kn.b)(hc:kn.c)(S c0:Nat)(v:Value)(L:List UInt8)(hL:L.length≤1099511627776)(hv:vpt (kP S) L=some c0){h:Pr}(hh:h=J49 (kP S) L c0):
  ∀w,GA kn w→Sl w v L→Calls Tryz.prog 77 #[.agg (J0 .u8 32 (J7 S)),v] w fun e w' =>Ret (.tuple #[.agg (J0 .u8 80 (J7 (vPr S h))),.int .i64 0]) w w' e:=by
 obtain⟨U1,R6⟩:=exn (kN S);have S4:U1<2^256:=by rw[R6];exact V1t _
 have S9:=Lib.hid R6;clear R6;obtain⟨U2,R3⟩:=exn (kD S);have bU2:U2<2^256:=by rw[R3];exact V1u _
 have T1:=Lib.hid R3;clear R3;obtain⟨U3,R5⟩:=exn (kP S);have bU3:U3<2^256:=by rw[R5];exact V1v _
 have M6:=Lib.hid R5;clear R5;have hv_:vpt U3 L=some c0:=by rw[M6.out];exact hv
 have hh_:h=J49 U3 L c0:=by rw[M6.out];exact hh
 obtain⟨hx,hy,hz,ht,hr,Z7⟩:=Y9b (kn:=kn) hc hL hv_ hh_;obtain⟨x1,y2,z3,t4,r5,c6⟩:=Q1o hd hr.rw (N:=U1) S4;obtain⟨U4,R1⟩:=exn (enc h);have bU4:U4<2^256:=by rw[R1];exact Q0l _
 have T2:=Lib.hid R1;clear R1;obtain⟨U5,D9⟩:=exh (hs ((lb 32 U2)++(lb 32 U4)));obtain⟨U6,R7⟩:=exn (U5 % LL);have Ω:U6<LL:=by rw[R7];exact mLL _
 have bU6:U6<2^256:=Nat.lt_trans Ω J5a;have Y4:=Lib.hid R7;clear R7;obtain⟨x7,y8,z9,t10,r11,c12⟩:=Z5k hb;obtain⟨x13,y14,z15,t16,r17,c18⟩:=Q1o hd r11.rw (N:=U6) (Nat.lt_trans Ω J5a);obtain⟨Z4,y20,z21,t22,r23,c24⟩:=Q1o hd hr.rw (N:=U6) (Nat.lt_trans Ω J5a);obtain⟨U7,X2⟩:=exh (chH U3 h (pm h U1) (pm BP U6) (pm h U6));obtain⟨U8,N6⟩:=exn (U7 % J3s);have T5:U8<J3s:=by rw[N6];exact Nat.mod_lt _ (by decide)
 have N8:=Lib.hid N6;clear N6;obtain⟨U9,R9⟩:=exn (U8 % LL);have S5:U9<LL:=by rw[R9];exact mLL _
 have bU9:U9<2^256:=Nat.lt_trans S5 J5a;have Y3:=Lib.hid R9;clear R9;obtain⟨N4,G7⟩:=exn (U1 % LL);have N7:N4<LL:=by rw[G7];exact mLL _
 have bU10:N4<2^256:=Nat.lt_trans N7 J5a;have N9:=Lib.hid G7;clear G7;obtain⟨R0,G8⟩:=exn (U9*N4 % LL);have N5:R0<LL:=by rw[G8];exact mLL _
 have bU11:R0<2^256:=Nat.lt_trans N5 J5a;have N3:=Lib.hid G8;clear G8;obtain⟨μ,G9⟩:=exn ((U6+R0) % LL);have N0:μ<LL:=by rw[G9];exact mLL _
 have bU12:μ<2^256:=Nat.lt_trans N0 J5a;have S2:=Lib.hid G9;clear G9;obtain⟨κ,M0⟩:=exn (enc (pm h U1));have Y6:κ<2^256:=by rw[M0];exact Q0l _
 have R8:=Lib.hid M0;clear M0;intro w hG hsl;have Q3:=hsl;have D:Off [] w w:=Off.refl _ _
 go_enter Tryz.func77,Tryz.ntmps77
 go_upto_region 0 with fail;refine wp_region_lit ?_;refine Ln ?_ (z:=J0 .u8 32 (J7 S)) (t:=22);intro Z8 W1 J2u hO h_;replace Q3:=Sl.off Q3 hO f0;replace D:=D.o hO;have U:=h_;clear hO h_ J2u;refine Ln ?_ (z:=J0 .u8 80 (J7 0)) (t:=53);intro G4 W2 X0 hO h_;have Q4l:=fbn D X0;replace U:=U.o hO;replace Q3:=Sl.off Q3 hO f0;replace D:=D.o hO;have G:=h_;clear hO h_ X0;refine Lw ?_ (v:=.int .i64 0);refine J2 ?_;go_upto_region 1 with fail;refine wp_region_lit ?_;refine L0A ?_ U;refine Lr ?_ (Q6p hd hb S9.out T1.out M6.out W2 (GA_ext hG D.ext));intro W3 hO;replace U:=U.o hO;replace G:=G.o hO;replace Q3:=Sl.off Q3 hO f0;replace D:=D.o hO;clear hO;refine LnP ?_ (z:=s3 0 0 0) (t:=191) (cells:=s3 U1 U2 U3) (hi:=by rw[J1i];kernel_rfl) (hs:=by first|rw[J1i,J1i]|rw[J1i]|kernel_rfl) (h1:=by exact Q8p);intro η W5 J5y hO h_;replace U:=U.o hO;replace G:=G.o hO;replace Q3:=Sl.off Q3 hO f0;replace D:=D.o hO;have J:=h_;clear hO h_ J5y;refine J2 ?_;go_upto_region 2 with fail;refine wp_region_lit ?_;refine Lv ?_;refine J78 (vs:=(J0 .u8 32 (J7 U3)).toList) (by rfl) rfl rfl J (Z7d V5m) (by kernel_rfl) (by kernel_rfl) ?_
 (try simp only[Act.put,mA,mB,mC])
 refine Lv ?_;refine Lr ?_ (Z7 v W5 (GA_ext hG D.ext) Q3);intro W6 hO;replace U:=U.o hO;replace G:=G.o hO;replace J:=J.o hO;replace Q3:=Sl.off Q3 hO f0;replace D:=D.o hO;clear hO;refine Lv ?_;refine Lv ?_;refine Lw ?_ (v:=.int .i64 0);refine LnP ?_ (z:=p4 0 0 0 0) (t:=196) (cells:=p4 hx hy hz ht);intro ν W8 V6h hO h_;replace U:=U.o hO;replace G:=G.o hO;replace J:=J.o hO;replace Q3:=Sl.off Q3 hO f0;replace D:=D.o hO;have T:=h_;clear hO h_ V6h;refine Lw ?_ (v:=.int .i64 0);refine J2 ?_;go_upto_region 5 with fail;refine wp_region_lit ?_;refine L0 ?_ T;refine Lv ?_;refine J78 (vs:=(J0 .u8 32 (J7 U1)).toList) (by rfl) rfl rfl J (Z7d V5k) (by kernel_rfl) (by kernel_rfl) ?_
 (try simp only[Act.put,mA,mB,mC])
 refine Lr ?_ (c6 W8 (GA_ext hG D.ext).1);intro W9 hO;replace U:=U.o hO;replace G:=G.o hO;replace J:=J.o hO;replace T:=T.o hO;replace Q3:=Sl.off Q3 hO f0;replace D:=D.o hO;clear hO;refine LnP ?_ (z:=p4 0 0 0 0) (t:=196) (cells:=p4 x1 y2 z3 t4);intro ξ W11 Z34 hO h_;replace U:=U.o hO;replace G:=G.o hO;replace J:=J.o hO;replace T:=T.o hO;replace Q3:=Sl.off Q3 hO f0;replace D:=D.o hO;have M:=h_;clear hO h_ Z34;refine J2 ?_;go_upto_region 6 with fail;refine wp_region_lit ?_;refine L0 ?_ T;refine Lr ?_ (Q53 hr.rw T2.out W11 (GA_ext hG D.ext).1);intro W12 hO;replace U:=U.o hO;replace G:=G.o hO;replace J:=J.o hO;replace T:=T.o hO;replace M:=M.o hO;replace Q3:=Sl.off Q3 hO f0;replace D:=D.o hO;clear hO;refine LnA ?_ (z:=J0 .u8 32 (J7 0)) (t:=22) (k:=.u8) (n:=32) (f:=J7 U4);intro ρ W14 Z2 hO h_;replace U:=U.o hO;replace G:=G.o hO;replace J:=J.o hO;replace T:=T.o hO;replace M:=M.o hO;replace Q3:=Sl.off Q3 hO f0;replace D:=D.o hO;have X:=h_;clear hO h_ Z2;refine J2 ?_;go_upto_region 7 with fail;refine Q5t (.q 0 (.q 1 (.q 2 (.b 3 (.b 4 (.e 5 (.e 6 .z)) 5 (.e 4 (.e 6 .z))) 5 (.e 3 (.e 4 (.e 6 .z))))))) (fun W=>True) (fun a0 a_ wr=> ∃(ζ:Nat)(ε:Nat),a_=Y1d a0 [(35,.pointer (some ⟨η,32,none⟩)),(36,.slice (some ⟨η,32,none⟩) 32 32),(37,.slice (some ⟨ρ,0,none⟩) 32 32),(38,.slice (some ⟨ζ,0,none⟩) 2 2),(39,.agg (J0 .u8 64 (J7 U5))),(11,.pointer (some ⟨ε,0,none⟩))]∧Off [] w wr∧Blk wr Z8 (J0 .u8 32 (J7 S)) 22∧Blk wr G4 (J0 .u8 80 (J7 0)) 53∧Blk wr η (s3 U1 U2 U3) 191∧Blk wr ν (p4 hx hy hz ht) 196∧Blk wr ξ (p4 x1 y2 z3 t4) 196∧Blk wr ρ (J0 .u8 32 (J7 U4)) 22∧Blk wr ζ #[.slice (some ⟨η,32,none⟩) 32 32,.slice (some ⟨ρ,0,none⟩) 32 32] 35∧Blk wr ε (J0 .u8 64 (J7 U5)) 163∧Sl wr v L∧Fb ζ w.heap.size []∧Z8≠ζ∧G4≠ζ∧η≠ζ∧ν≠ζ∧ξ≠ζ∧ρ≠ζ∧(sb v L)≠some ζ∧Fb ε w.heap.size []∧Z8≠ε∧G4≠ε∧η≠ε∧ν≠ε∧ξ≠ε∧ρ≠ε∧ζ≠ε∧(sb v L)≠some ε) (by kernel_rfl) (by kernel_rfl) ?_ ?_
 ·
  intro W15 hO;replace U:=U.o hO;replace G:=G.o hO;replace J:=J.o hO;replace T:=T.o hO;replace M:=M.o hO;replace X:=X.o hO;replace Q3:=Sl.off Q3 hO f0;replace D:=D.o hO;clear hO;refine⟨trivial,?_⟩
  (refine J3o (v:=?_) rfl (by rfl) (fun W hS=> ?_) ?_;rotate_left 1;(focus (go_simp;first|done|with_reducible rfl)))
  (try simp only[Act.put,mA,mB,mC])
  refine J3o (v:=.slice (some ⟨η,32,none⟩) 32 32) rfl (by rfl) (fun W hS=>by first|rfl|(go_simp;done)|(go_simp;with_reducible rfl)) ?_
  (try simp only[Act.put,mA,mB,mC])
  refine J3o (v:=.slice (some ⟨ρ,0,none⟩) 32 32) rfl (by rfl) (fun W hS=>by first|rfl|(go_simp;done)|(go_simp;with_reducible rfl)) ?_
  (try simp only[Act.put,mA,mB,mC])
  refine Y1f rfl rfl ?_ ?_
  ·
   refine LnS ?_ (z:= #[.slice (some ⟨η,32,none⟩) 32 32,.slice (some ⟨ρ,0,none⟩) 32 32]) (t:=35) (n:=2) (c:=2) (hr:=by exact J0a [.slice (some ⟨η,32,none⟩) 32 32,.slice (some ⟨ρ,0,none⟩) 32 32] rfl rfl (vsc (rfl) (vsc (rfl) vs0)) Tryz.underlying187 (by kernel_rfl) (by kernel_rfl) rfl (by decide) (by decide));intro M3 T8 θ hO h_;have G2:=bn U θ;have G6:=bn G θ;have D1:=bn J θ;have G0:=bn T θ;have G5:=bn M θ;have D3:=bn X θ;have G3:=J3c (Sl.lt Q3) θ;have D8:=fbn D θ;replace U:=U.o hO;replace G:=G.o hO;replace J:=J.o hO;replace T:=T.o hO;replace M:=M.o hO;replace X:=X.o hO;replace Q3:=Sl.off Q3 hO f0;replace D:=D.o hO;have Y:=h_;clear hO h_ θ;refine J2e (fun W=>True) (fun W hS=>trivial) trivial ?_;refine Y1f rfl rfl ?_ ?_
   ·
    refine Lr ?_ (J81 D9.out [lb 32 U2,lb 32 U4] (some ⟨M3,0,none⟩) 2 (by simp only[List.flatten_cons,List.flatten_nil,List.append_nil,List.nil_append,List.append_assoc,List.cons_append]) (by first|omega|(simp only[List.length_append,List.length_cons,List.length_nil,J6];omega)) (by simp) T8 (J1q Y (pvc (V5 (V:=U2) (n:=32) (off:=32) J V5l (by decide) (by decide)) (pvc (V5 (V:=U4) (n:=32) (off:=0) X ap0 (by decide) (by decide)) pv0))) (GA_ext hG D.ext).2.1);intro M5 hO;replace U:=U.o hO;replace G:=G.o hO;replace J:=J.o hO;replace T:=T.o hO;replace M:=M.o hO;replace X:=X.o hO;replace Y:=Y.o hO;replace Q3:=Sl.off Q3 hO f0;replace D:=D.o hO;clear hO;refine J2e (fun W=>True) (fun W hS=>trivial) trivial ?_;refine J39 rfl ?_;refine Ln ?_ (z:=J0 .u8 64 (J7 0)) (t:=163);intro V8 T6 β hO h_;have φ:=bn U β;have τ:=bn G β;have Γ:=bn J β;have Ξ:=bn T β;have Θ:=bn M β;have ω:=bn X β;have D0:=bn Y β;have ψ:=J3c (Sl.lt Q3) β;have Δ:=fbn D β;replace U:=U.o hO;replace G:=G.o hO;replace J:=J.o hO;replace T:=T.o hO;replace M:=M.o hO;replace X:=X.o hO;replace Y:=Y.o hO;replace Q3:=Sl.off Q3 hO f0;replace D:=D.o hO;have α:=h_;clear hO h_ β;refine J2e (fun W=>True) (fun W hS=>trivial) trivial ?_;refine J39 rfl ?_;refine LpA ?_ α (k:=.u8) (n:=64) (f:=J7 U5);intro G1 hO h_;replace α:Blk G1 V8 (J0 .u8 64 (J7 U5)) 163:=h_;clear h_;replace U:=U.p hO φ;replace G:=G.p hO τ;replace J:=J.p hO Γ;replace T:=T.p hO Ξ;replace M:=M.p hO Θ;replace X:=X.p hO ω;replace Y:=Y.p hO D0;replace Q3:=Sl.off Q3 hO (f1 ψ);replace D:=D.p hO Δ;clear hO;refine J2e (fun W=>True) (fun W hS=>trivial) trivial ?_;refine Q6j ?_;exact⟨M3,V8,(by(simp only[Y1d,List.foldl_cons,List.foldl_nil,Act.put,mA,mB,mC]<;>rfl)),D,U,G,J,T,M,X,Y,α,Q3,D8,G2,G6,D1,G0,G5,D3,G3,Δ,φ,τ,Γ,Ξ,Θ,ω,D0,ψ⟩
   refine Ln ?_ (z:=J0 .u8 64 (J7 0)) (t:=163);intro T9 M5 β hO h_;have φ:=bn U β;have τ:=bn G β;have Γ:=bn J β;have Ξ:=bn T β;have Θ:=bn M β;have ω:=bn X β;have D0:=bn Y β;have ψ:=J3c (Sl.lt Q3) β;have Δ:=fbn D β;replace U:=U.o hO;replace G:=G.o hO;replace J:=J.o hO;replace T:=T.o hO;replace M:=M.o hO;replace X:=X.o hO;replace Y:=Y.o hO;replace Q3:=Sl.off Q3 hO f0;replace D:=D.o hO;have α:=h_;clear hO h_ β;refine J2e (fun W=>True) (fun W hS=>trivial) trivial ?_;refine J39 rfl ?_;refine Lr ?_ (J81 D9.out [lb 32 U2,lb 32 U4] (some ⟨M3,0,none⟩) 2 (by simp only[List.flatten_cons,List.flatten_nil,List.append_nil,List.nil_append,List.append_assoc,List.cons_append]) (by first|omega|(simp only[List.length_append,List.length_cons,List.length_nil,J6];omega)) (by simp) M5 (J1q Y (pvc (V5 (V:=U2) (n:=32) (off:=32) J V5l (by decide) (by decide)) (pvc (V5 (V:=U4) (n:=32) (off:=0) X ap0 (by decide) (by decide)) pv0))) (GA_ext hG D.ext).2.1);intro T6 hO;replace U:=U.o hO;replace G:=G.o hO;replace J:=J.o hO;replace T:=T.o hO;replace M:=M.o hO;replace X:=X.o hO;replace Y:=Y.o hO;replace α:=α.o hO;replace Q3:=Sl.off Q3 hO f0;replace D:=D.o hO;clear hO;refine J2e (fun W=>True) (fun W hS=>trivial) trivial ?_;refine J39 rfl ?_;refine LpA ?_ α (k:=.u8) (n:=64) (f:=J7 U5);intro G1 hO h_;replace α:Blk G1 T9 (J0 .u8 64 (J7 U5)) 163:=h_;clear h_;replace U:=U.p hO φ;replace G:=G.p hO τ;replace J:=J.p hO Γ;replace T:=T.p hO Ξ;replace M:=M.p hO Θ;replace X:=X.p hO ω;replace Y:=Y.p hO D0;replace Q3:=Sl.off Q3 hO (f1 ψ);replace D:=D.p hO Δ;clear hO;refine J2e (fun W=>True) (fun W hS=>trivial) trivial ?_;refine Q6j ?_;exact⟨M3,T9,(by(simp only[Y1d,List.foldl_cons,List.foldl_nil,Act.put,mA,mB,mC]<;>rfl)),D,U,G,J,T,M,X,Y,α,Q3,D8,G2,G6,D1,G0,G5,D3,G3,Δ,φ,τ,Γ,Ξ,Θ,ω,D0,ψ⟩
  refine Ln ?_ (z:=J0 .u8 64 (J7 0)) (t:=163);intro T7 T8 β hO h_;have φ:=bn U β;have τ:=bn G β;have Γ:=bn J β;have Ξ:=bn T β;have Θ:=bn M β;have ω:=bn X β;have ψ:=J3c (Sl.lt Q3) β;have Δ:=fbn D β;replace U:=U.o hO;replace G:=G.o hO;replace J:=J.o hO;replace T:=T.o hO;replace M:=M.o hO;replace X:=X.o hO;replace Q3:=Sl.off Q3 hO f0;replace D:=D.o hO;have α:=h_;clear hO h_ β;refine J2e (fun W=>True) (fun W hS=>trivial) trivial ?_;refine J39 rfl ?_;refine LnS ?_ (z:= #[.slice (some ⟨η,32,none⟩) 32 32,.slice (some ⟨ρ,0,none⟩) 32 32]) (t:=35) (n:=2) (c:=2) (hr:=by exact J0a [.slice (some ⟨η,32,none⟩) 32 32,.slice (some ⟨ρ,0,none⟩) 32 32] rfl rfl (vsc (rfl) (vsc (rfl) vs0)) Tryz.underlying187 (by kernel_rfl) (by kernel_rfl) rfl (by decide) (by decide));intro X3 M5 θ hO h_;have G2:=bn U θ;have G6:=bn G θ;have D1:=bn J θ;have G0:=bn T θ;have G5:=bn M θ;have D3:=bn X θ;have χ:=bn α θ;have G3:=J3c (Sl.lt Q3) θ;have D8:=fbn D θ;replace U:=U.o hO;replace G:=G.o hO;replace J:=J.o hO;replace T:=T.o hO;replace M:=M.o hO;replace X:=X.o hO;replace α:=α.o hO;replace Q3:=Sl.off Q3 hO f0;replace D:=D.o hO;have Y:=h_;clear hO h_ θ;refine J2e (fun W=>True) (fun W hS=>trivial) trivial ?_;refine J39 rfl ?_;refine Lr ?_ (J81 D9.out [lb 32 U2,lb 32 U4] (some ⟨X3,0,none⟩) 2 (by simp only[List.flatten_cons,List.flatten_nil,List.append_nil,List.nil_append,List.append_assoc,List.cons_append]) (by first|omega|(simp only[List.length_append,List.length_cons,List.length_nil,J6];omega)) (by simp) M5 (J1q Y (pvc (V5 (V:=U2) (n:=32) (off:=32) J V5l (by decide) (by decide)) (pvc (V5 (V:=U4) (n:=32) (off:=0) X ap0 (by decide) (by decide)) pv0))) (GA_ext hG D.ext).2.1);intro T6 hO;replace U:=U.o hO;replace G:=G.o hO;replace J:=J.o hO;replace T:=T.o hO;replace M:=M.o hO;replace X:=X.o hO;replace α:=α.o hO;replace Y:=Y.o hO;replace Q3:=Sl.off Q3 hO f0;replace D:=D.o hO;clear hO;refine J2e (fun W=>True) (fun W hS=>trivial) trivial ?_;refine J39 rfl ?_;refine LpA ?_ α (k:=.u8) (n:=64) (f:=J7 U5);intro G1 hO h_;replace α:Blk G1 T7 (J0 .u8 64 (J7 U5)) 163:=h_;clear h_;replace U:=U.p hO φ;replace G:=G.p hO τ;replace J:=J.p hO Γ;replace T:=T.p hO Ξ;replace M:=M.p hO Θ;replace X:=X.p hO ω;replace Y:=Y.p hO χ.symm;replace Q3:=Sl.off Q3 hO (f1 ψ);replace D:=D.p hO Δ;clear hO;refine J2e (fun W=>True) (fun W hS=>trivial) trivial ?_;refine Q6j ?_;exact⟨X3,T7,(by(simp only[Y1d,List.foldl_cons,List.foldl_nil,Act.put,mA,mB,mC]<;>rfl)),D,U,G,J,T,M,X,Y,α,Q3,D8,G2,G6,D1,G0,G5,D3,G3,Δ,φ,τ,Γ,Ξ,Θ,ω,χ.symm,ψ⟩
 rintro _ W20 ⟨ζ,ε,rfl,D,U,G,J,T,M,X,Y,α,Q3,D8,G2,G6,D1,G0,G5,D3,G3,Δ,φ,τ,Γ,Ξ,Θ,ω,D0,ψ⟩;simp only[Y1d,List.foldl_cons,List.foldl_nil]
 (try simp only[Act.put,mA,mB,mC])
 go_upto_region 8 with fail;refine wp_region_lit ?_;refine Lw ?_ (v:=.slice (some ⟨ε,0,none⟩) 64 64) (hv:=by first|rfl|(go_simp;done)|(go_simp;with_reducible rfl));refine Lr ?_ (Y3o Y4.out (n:=64) (off:=0) α ap0 (by decide) (by rw[D9.out];exact Y46 _) (GA_ext hG D.ext).2.2.1);intro W21 hO;replace G:=G.o hO;replace J:=J.o hO;replace T:=T.o hO;replace M:=M.o hO;replace D:=D.o hO;clear hO;refine LnP ?_ (z:=c4 0) (t:=201) (cells:=c4 U6);intro Ψ W23 K15 hO h_;replace G:=G.o hO;replace J:=J.o hO;replace T:=T.o hO;replace M:=M.o hO;replace D:=D.o hO;have Z:=h_;clear hO h_ K15;refine J2 ?_;go_upto_region 9 with fail;refine J3z (.q 0 (.q 1 (.q 2 (.q 3 (.q 5 (.q 8 (.q 9 (.e 4 (.e 6 (.e 7 (.e 10 (.e 11 (.e 12 (.e 13 (.q 14 .z))))))))))))))) (fun W=>(Blk W η (s3 U1 U2 U3) 191)∧(Blk W ν (p4 hx hy hz ht) 196)∧(Blk W ξ (p4 x1 y2 z3 t4) 196)∧(Blk W Ψ (c4 U6) 201)) (by kernel_rfl) (by kernel_rfl) ?_;intro W24 hO;replace G:=G.o hO;replace J:=J.o hO;replace T:=T.o hO;replace M:=M.o hO;replace Z:=Z.o hO;replace D:=D.o hO;clear hO;refine⟨⟨J,T,M,Z⟩,?_⟩
 (refine J3o (v:=?_) rfl (by rfl) (fun W hS=> ?_) ?_;rotate_left 1;(focus (go_simp;first|done|with_reducible rfl)))
 (try simp only[Act.put,mA,mB,mC])
 refine J3o (v:=.agg (J0 .u8 32 (J7 U3))) rfl (by rfl) (fun W hS=>by exact(J0k (vs:=(J0 .u8 32 (J7 U3)).toList) rfl rfl (fun i v hv=>by rw[J4 (hS.1)];exact V5m i v (by simpa using hv)) (by kernel_rfl) (by kernel_rfl))) ?_
 (try simp only[Act.put,mA,mB,mC])
 refine J3o (v:=.agg (p4 hx hy hz ht)) rfl (by rfl) (fun W hS=>by exact(J5w rfl rfl (hS.2.1) (by kernel_rfl) (by kernel_rfl))) ?_
 (try simp only[Act.put,mA,mB,mC])
 refine J3o (v:=.agg (p4 x1 y2 z3 t4)) rfl (by rfl) (fun W hS=>by exact(J5w rfl rfl (hS.2.2.1) (by kernel_rfl) (by kernel_rfl))) ?_
 (try simp only[Act.put,mA,mB,mC])
 refine J3o (v:=.agg (c4 U6)) rfl (by rfl) (fun W hS=>by exact(J5w rfl rfl (hS.2.2.2) (by kernel_rfl) (by kernel_rfl))) ?_
 (try simp only[Act.put,mA,mB,mC])
 refine J3o (v:=.agg (p4 hx hy hz ht)) rfl (by rfl) (fun W hS=>by exact(J5w rfl rfl (hS.2.1) (by kernel_rfl) (by kernel_rfl))) ?_
 (try simp only[Act.put,mA,mB,mC])
 refine J3o (v:=.agg (c4 U6)) rfl (by rfl) (fun W hS=>by exact(J5w rfl rfl (hS.2.2.2) (by kernel_rfl) (by kernel_rfl))) ?_
 (try simp only[Act.put,mA,mB,mC])
 refine J39 rfl ?_;refine Lr ?_ (c12 W24 (GA_ext hG D.ext).1);intro W25 hO;replace G:=G.o hO;replace J:=J.o hO;replace T:=T.o hO;replace M:=M.o hO;replace Z:=Z.o hO;replace D:=D.o hO;clear hO;refine J2e (fun W=>(Blk W η (s3 U1 U2 U3) 191)∧(Blk W ν (p4 hx hy hz ht) 196)∧(Blk W ξ (p4 x1 y2 z3 t4) 196)∧(Blk W Ψ (c4 U6) 201)) (fun W hS=>⟨hS.1,hS.2.1,hS.2.2.1,hS.2.2.2⟩) ⟨J,T,M,Z⟩ ?_;refine J39 rfl ?_;refine Lr ?_ (Q52 Ω W25 (GA_ext hG D.ext).2.2.1);intro W26 hO;replace G:=G.o hO;replace J:=J.o hO;replace T:=T.o hO;replace M:=M.o hO;replace Z:=Z.o hO;replace D:=D.o hO;clear hO;refine J2e (fun W=>(Blk W η (s3 U1 U2 U3) 191)∧(Blk W ν (p4 hx hy hz ht) 196)∧(Blk W ξ (p4 x1 y2 z3 t4) 196)∧(Blk W Ψ (c4 U6) 201)) (fun W hS=>⟨hS.1,hS.2.1,hS.2.2.1,hS.2.2.2⟩) ⟨J,T,M,Z⟩ ?_;refine J39 rfl ?_;refine Lr ?_ (c18 W26 (GA_ext hG D.ext).1);intro W27 hO;replace G:=G.o hO;replace J:=J.o hO;replace T:=T.o hO;replace M:=M.o hO;replace Z:=Z.o hO;replace D:=D.o hO;clear hO;refine J2e (fun W=>(Blk W η (s3 U1 U2 U3) 191)∧(Blk W ν (p4 hx hy hz ht) 196)∧(Blk W ξ (p4 x1 y2 z3 t4) 196)∧(Blk W Ψ (c4 U6) 201)) (fun W hS=>⟨hS.1,hS.2.1,hS.2.2.1,hS.2.2.2⟩) ⟨J,T,M,Z⟩ ?_;refine J39 rfl ?_;refine Lr ?_ (Q52 Ω W27 (GA_ext hG D.ext).2.2.1);intro Z3 hO;replace G:=G.o hO;replace J:=J.o hO;replace T:=T.o hO;replace M:=M.o hO;replace Z:=Z.o hO;replace D:=D.o hO;clear hO;refine J2e (fun W=>(Blk W η (s3 U1 U2 U3) 191)∧(Blk W ν (p4 hx hy hz ht) 196)∧(Blk W ξ (p4 x1 y2 z3 t4) 196)∧(Blk W Ψ (c4 U6) 201)) (fun W hS=>⟨hS.1,hS.2.1,hS.2.2.1,hS.2.2.2⟩) ⟨J,T,M,Z⟩ ?_;refine J39 rfl ?_;refine Lr ?_ (c24 Z3 (GA_ext hG D.ext).1);intro W29 hO;replace G:=G.o hO;replace J:=J.o hO;replace T:=T.o hO;replace M:=M.o hO;replace Z:=Z.o hO;replace D:=D.o hO;clear hO;refine J2e (fun W=>(Blk W η (s3 U1 U2 U3) 191)∧(Blk W ν (p4 hx hy hz ht) 196)∧(Blk W ξ (p4 x1 y2 z3 t4) 196)∧(Blk W Ψ (c4 U6) 201)) (fun W hS=>⟨hS.1,hS.2.1,hS.2.2.1,hS.2.2.2⟩) ⟨J,T,M,Z⟩ ?_;refine J39 rfl ?_;refine LnS ?_ (z:=(p4 hx hy hz ht)++(p4 x1 y2 z3 t4)++(p4 x13 y14 z15 t16)++(p4 Z4 y20 z21 t22)) (t:=196) (n:=4) (c:=4);intro V6i R2 K16 hO h_;replace G:=G.o hO;replace J:=J.o hO;replace T:=T.o hO;replace M:=M.o hO;replace Z:=Z.o hO;replace D:=D.o hO;have K17:=h_;clear hO h_ K16;refine J2e (fun W=>(Blk W η (s3 U1 U2 U3) 191)∧(Blk W ν (p4 hx hy hz ht) 196)∧(Blk W ξ (p4 x1 y2 z3 t4) 196)∧(Blk W Ψ (c4 U6) 201)) (fun W hS=>⟨hS.1,hS.2.1,hS.2.2.1,hS.2.2.2⟩) ⟨J,T,M,Z⟩ ?_;refine J39 rfl ?_;refine J3y (R:=fun v W=> ∃p,v=.slice (some ⟨p,0,none⟩) 16 64∧R2.heap.size≤p∧Off [] R2 W∧Blk W p (J0 .u8 64 (J7 U7)) 163) ((V6b (kn:=kn) hr r5 r17 r23 X2.out V6i R2 (GA_ext hG D.ext) K17).mono fun e W h=>by obtain⟨p,h1,h2⟩:=h;exact⟨_,h1,p,rfl,h2⟩) (by rfl) rfl (by kernel_rfl) rfl ?_
 (try simp only[Act.put,mA,mB,mC])
 rintro _ W31 ⟨Y8,rfl,Y7,hO,h_⟩
 (try simp only[Act.put,mA,mB,mC])
 replace G:=G.o hO;replace J:=J.o hO;replace T:=T.o hO;replace M:=M.o hO;replace Z:=Z.o hO;replace D:=D.o hO;have δ:=h_;clear hO h_ Y7;refine J2e (fun W=>(Blk W η (s3 U1 U2 U3) 191)∧(Blk W ν (p4 hx hy hz ht) 196)∧(Blk W ξ (p4 x1 y2 z3 t4) 196)∧(Blk W Ψ (c4 U6) 201)) (fun W hS=>⟨hS.1,hS.2.1,hS.2.2.1,hS.2.2.2⟩) ⟨J,T,M,Z⟩ ?_
 (refine J3o (v:=?_) rfl (by rfl) (fun W hS=> ?_) ?_;rotate_left 1;(focus (go_simp;first|done|with_reducible rfl)))
 (try simp only[Act.put,mA,mB,mC])
 refine Q6j ?_;go_upto_region 10 with fail;refine Rx1 9 14 (z:=J0 .u8 32 (J7 0)) (t:=22) ?_;refine Xl ?_ Z;refine Xv ?_;refine Xf ?_ (fun W hW=>Y3o Y3.out (n:=16) (off:=0) (J3 δ hW) (h16 N8.out) (by decide) T5 (GA_ext (GA_ext hG D.ext) hW).2.2.1);refine Xv ?_;refine Xw ?_ (v:=.slice (some ⟨η,0,none⟩) 32 32);refine Xf ?_ (fun W hW=>Y3o N9.out (n:=32) (off:=0) (J3 J hW) V5k (by decide) S4 (GA_ext (GA_ext hG D.ext) hW).2.2.1);refine Xf ?_ (fun W hW=>V5o N3.out (Nat.lt_trans S5 J5a) (Nat.lt_trans N7 J5a) W (GA_ext (GA_ext hG D.ext) hW).2.2.1);refine Xf ?_ (fun W hW=>V5p S2.out (Nat.lt_trans Ω J5a) (Nat.lt_trans N5 J5a) W (GA_ext (GA_ext hG D.ext) hW).2.2.1);refine Xf ?_ (fun W hW=>Q52 N0 W (GA_ext (GA_ext hG D.ext) hW).2.2.1);refine XN ?_;intro M1 W32 D4 hE M2;have hO:=J0b hE;have Z85:=bn G D4;have Z86:=bn M D4;have Z87:=bn δ D4;have V6j:=fbn D D4;replace G:=G.o hO;replace M:=M.o hO;replace δ:=δ.o hO;replace D:=D.o hO;clear hO hE D4;have γ:Blk W32 M1 (J0 .u8 32 (J7 0)) 22:=M2;clear M2;refine LpA ?_ γ (k:=.u8) (n:=32) (f:=J7 μ);intro S7 hO h_;replace γ:Blk S7 M1 (J0 .u8 32 (J7 μ)) 22:=h_;clear h_;replace G:=G.p hO Z85;replace M:=M.p hO Z86;replace δ:=δ.p hO Z87;replace D:=D.p hO V6j;clear hO;refine LN ?_;go_upto_region 11 with fail;refine wp_region_lit ?_;refine L0 ?_ M;refine Lr ?_ (Q53 r5.rw R8.out S7 (GA_ext hG D.ext).1);intro W34 hO;replace G:=G.o hO;replace δ:=δ.o hO;replace γ:=γ.o hO;replace D:=D.o hO;clear hO;refine LnA ?_ (z:=J0 .u8 32 (J7 0)) (t:=22) (k:=.u8) (n:=32) (f:=J7 κ);intro V6k W36 K18 hO h_;replace G:=G.o hO;replace δ:=δ.o hO;replace γ:=γ.o hO;replace D:=D.o hO;have σ:=h_;clear hO h_ K18;refine J2 ?_;go_upto_region 12 with fail;refine J3z (.q 1 (.q 3 (.q 5 (.e 0 (.e 2 (.e 4 (.e 6 (.q 7 (.q 8 (.e 9 (.q 10 .z))))))))))) (fun W=>True) (by kernel_rfl) (by kernel_rfl) ?_;intro W37 hO;replace G:=G.o hO;replace δ:=δ.o hO;replace γ:=γ.o hO;replace σ:=σ.o hO;replace D:=D.o hO;clear hO;refine⟨trivial,?_⟩;refine J3o (v:=.slice (some ⟨V6k,0,none⟩) 32 32) rfl (by rfl) (fun W hS=>by first|rfl|(go_simp;done)|(go_simp;with_reducible rfl)) ?_
 (try simp only[Act.put,mA,mB,mC])
 (refine J3o (v:=?_) rfl (by rfl) (fun W hS=> ?_) ?_;rotate_left 1;(focus (go_simp;first|done|with_reducible rfl)))
 (try simp only[Act.put,mA,mB,mC])
 refine J3o (v:=.slice (some ⟨M1,0,none⟩) 32 32) rfl (by rfl) (fun W hS=>by first|rfl|(go_simp;done)|(go_simp;with_reducible rfl)) ?_
 (try simp only[Act.put,mA,mB,mC])
 refine J39 rfl ?_;refine LnS ?_ (z:= #[]) (t:=5) (n:=0) (c:=0);intro D5 W38 D6 hO h_;have Y2:Value.ownBlock (.slice (some ⟨D5,0,none⟩) 0 0)≠some G4:=obn G D6;have Z88:Value.ownBlock (.slice (some ⟨D5,0,none⟩) 0 0)≠some Y8:=obn δ D6;have S6:Value.ownBlock (.slice (some ⟨D5,0,none⟩) 0 0)≠some M1:=obn γ D6;have Y5:Fr (Value.ownBlock (.slice (some ⟨D5,0,none⟩) 0 0)) w.heap.size []:=frn D D6;replace G:=G.o hO;replace δ:=δ.o hO;replace γ:=γ.o hO;replace σ:=σ.o hO;replace D:=D.o hO;have V6l:Own W38 (.slice (some ⟨D5,0,none⟩) 0 0) []:=J1s h_ (by rfl) (by show 0≤maxLen;decide);clear hO h_ D6;refine J2e (fun W=>True) (fun W hS=>trivial) trivial ?_;refine J39 rfl ?_;refine J00 (xs:=[]) (ys:=(lb 32 κ)) (by rfl) rfl rfl rfl V6l (V5 (V:=κ) (n:=32) (off:=0) σ ap0 (by decide) (by decide)) (by first|omega|(simp only[List.length_append,List.length_cons,List.length_nil,J6];omega)) ?_
 (try simp only[Act.put,mA,mB,mC])
 intro K3n W39 V6m hO M4 M9;clear M9;have Y1:=J0m M4 Y2 (Q2 G);have Z39:=J0m M4 S6 (Q2 γ);have S3:=J0n M4 Y5 D.size;replace G:=J0j G hO (nmo Y2);replace δ:=J0j δ hO (nmo Z88);replace γ:=J0j γ hO (nmo S6);replace D:=D.step hO (io Y5);clear hO M4;refine J2e (fun W=>True) (fun W hS=>trivial) trivial ?_;refine J39 rfl ?_;refine J00 (xs:=([]++(lb 32 κ))) (ys:=(lb 16 U8)) (by rfl) rfl rfl rfl V6m (V5 (V:=U8) (n:=16) (off:=0) δ (h16 N8.out) (by decide) (by decide)) (by first|omega|(simp only[List.length_append,List.length_cons,List.length_nil,J6];omega)) ?_
 (try simp only[Act.put,mA,mB,mC])
 intro K3o W40 Z1 hO R4 M8;clear M8;have X1:=J0m R4 Y1 (Q2 G);have V6o:=J0n R4 S3 D.size;replace G:=J0j G hO (nmo Y1);replace γ:=J0j γ hO (nmo Z39);replace D:=D.step hO (io S3);clear hO R4;refine J2e (fun W=>True) (fun W hS=>trivial) trivial ?_;refine J39 rfl ?_;refine J00 (xs:=(([]++(lb 32 κ))++(lb 16 U8))) (ys:=(lb 32 μ)) (by rfl) rfl rfl rfl Z1 (V5 (V:=μ) (n:=32) (off:=0) γ ap0 (by decide) (by decide)) (by first|omega|(simp only[List.length_append,List.length_cons,List.length_nil,J6];omega)) ?_
 (try simp only[Act.put,mA,mB,mC])
 intro N1 W41 D7 hO X4 M7;clear M7;have Z89:=J0m X4 X1 (Q2 G);replace G:=J0j G hO (nmo X1);replace D:=D.step hO (io V6o);clear hO X4;refine J2e (fun W=>(Own W N1 ((([]++(lb 32 κ))++(lb 16 U8))++(lb 32 μ)))) (fun W hS=>trivial) D7 ?_;have N2:((([]++(lb 32 κ))++(lb 16 U8))++(lb 32 μ)).length=80:=by simp only[List.length_append,J6,List.length_nil]
 obtain⟨gz,cz,curz,ez,-,-⟩:=Z0t D7 (by rw[N2];decide);rw[N2] at ez;refine J3o (v:=.pointer (some ⟨gz,0,none⟩)) rfl (by rfl) (fun W hS=>by exact(Y93 (n:=80) rfl (by show N1=_;exact ez) Tryz.underlying53)) ?_
 (try simp only[Act.put,mA,mB,mC])
 refine J3o (v:=.agg (J0 .u8 80 (J7 (κ+2^256*(U8+J3s*μ))))) rfl (by rfl) (fun W hS=>by exact(J0k (vs:=(J0 .u8 80 (J7 (κ+2^256*(U8+J3s*μ)))).toList) rfl rfl (V5q (hS) ez N2 (by decide) (by rw[List.nil_append];exact Y4d Y6 T5)) (by kernel_rfl) (by rw[Array.length_toList,J1];kernel_rfl))) ?_
 (try simp only[Act.put,mA,mB,mC])
 refine J39 rfl ?_;refine LpA ?_ G (k:=.u8) (n:=80) (f:=J7 (κ+2^256*(U8+J3s*μ)));intro W42 hO h_;replace G:Blk W42 G4 (J0 .u8 80 (J7 (κ+2^256*(U8+J3s*μ)))) 53:=h_;clear h_;replace D7:=Own.off D7 hO (f1 Z89);replace D:=D.p hO Q4l;clear hO;refine J2e (fun W=>(Own W N1 ((([]++(lb 32 κ))++(lb 16 U8))++(lb 32 μ)))) (fun W hS=>hS) D7 ?_
 (refine J3o (v:=?_) rfl (by rfl) (fun W hS=> ?_) ?_;rotate_left 1;(focus (go_simp;first|done|with_reducible rfl)))
 (try simp only[Act.put,mA,mB,mC])
 refine Q6j ?_;go_wp2;rw[show J0 .u8 80 (J7 (κ+2^256*(U8+J3s*μ)))=J0 .u8 80 (J7 (vPr S h)) by rw[R8.out,S2.out,N3.out,N9.out,Y3.out,N8.out,X2.out,Y4.out,D9.out,T2.out,M6.out,T1.out,S9.out];rfl] at G;exact bodyPost_ret (K0 rfl rfl rfl G (by kernel_rfl) (by rw[J1];kernel_rfl)) rfl ⟨rfl,D.ext⟩
theorem Y9e (hd:kn.d)(hb:kn.b)(hc:kn.c)(S:Nat)(v:Value)(L:List UInt8)(hL:L.length≤1099511627776)(hv:vpt (kP S) L=none):
  ∀w,GA kn w→Sl w v L→Calls Tryz.prog 77 #[.agg (J0 .u8 32 (J7 S)),v] w fun e w' =>Ret (.tuple #[.agg (J0 .u8 80 (J7 0)),.int .i64 15]) w w' e:=by
 obtain⟨U1,R⟩:=exn (kN S);have θ:U1<2^256:=by rw[R];exact V1t _
 have γ:=Lib.hid R;clear R;obtain⟨U2,M⟩:=exn (kD S);have μ:U2<2^256:=by rw[M];exact V1u _
 have δ:=Lib.hid M;clear M;obtain⟨U3,N⟩:=exn (kP S);have η:U3<2^256:=by rw[N];exact V1v _
 have T:=Lib.hid N;clear N;have X:vpt U3 L=none:=by rw[T.out];exact hv
 intro w hG Y;have Q3:=Y;have D:Off [] w w:=Off.refl _ _
 go_enter Tryz.func77,Tryz.ntmps77
 go_upto_region 0 with fail;refine wp_region_lit ?_;refine Ln ?_ (z:=J0 .u8 32 (J7 S)) (t:=22);intro Z8 W1 ζ hO h_;replace Q3:=Sl.off Q3 hO f0;replace D:=D.o hO;have J:=h_;clear hO h_ ζ;refine Ln ?_ (z:=J0 .u8 80 (J7 0)) (t:=53);intro α W2 U hO h_;have Z:=fbn D U;replace J:=J.o hO;replace Q3:=Sl.off Q3 hO f0;replace D:=D.o hO;have G:=h_;clear hO h_ U;refine Lw ?_ (v:=.int .i64 0);refine J2 ?_;go_upto_region 1 with fail;refine wp_region_lit ?_;refine L0A ?_ J;refine Lr ?_ (Q6p hd hb γ.out δ.out T.out W2 (GA_ext hG D.ext));intro W3 hO;replace G:=G.o hO;replace Q3:=Sl.off Q3 hO f0;replace D:=D.o hO;clear hO;refine LnP ?_ (z:=s3 0 0 0) (t:=191) (cells:=s3 U1 U2 U3) (hi:=by rw[J1i];kernel_rfl) (hs:=by first|rw[J1i,J1i]|rw[J1i]|kernel_rfl) (h1:=by exact Q8p);intro ν W5 β hO h_;replace G:=G.o hO;replace Q3:=Sl.off Q3 hO f0;replace D:=D.o hO;have V:=h_;clear hO h_ β;refine J2 ?_;go_upto_region 2 with fail;refine wp_region_lit ?_;refine Lv ?_;refine J78 (vs:=(J0 .u8 32 (J7 U3)).toList) (by rfl) rfl rfl V (Z7d V5m) (by kernel_rfl) (by kernel_rfl) ?_
 (try simp only[Act.put,mA,mB,mC])
 refine Lv ?_;refine Lr ?_ (Y9c (kn:=kn) hc hL X v W5 (GA_ext hG D.ext) Q3);intro W6 hO;replace G:=G.o hO;replace D:=D.o hO;clear hO;refine Lv ?_;refine Lv ?_;refine Lw ?_ (v:=.int .i64 15);refine LnP ?_ (z:=p4 0 0 0 0) (t:=196) (cells:=p4 0 0 0 0);intro κ W8 ε hO h_;replace G:=G.o hO;replace D:=D.o hO;clear hO h_ ε;refine Lw ?_ (v:=.int .i64 15);refine J2 ?_;go_upto_region 4 with fail;refine wp_region_lit ?_;refine Lw ?_ (v:=.agg (J0 .u8 80 (J7 0))) (hv:=by kernel_rfl);refine Lw ?_ (v:=.int .i64 15);refine LpA ?_ G (k:=.u8) (n:=80) (f:=J7 0);intro W9 hO h_;replace G:Blk W9 α (J0 .u8 80 (J7 0)) 53:=h_;clear h_;replace D:=D.p hO Z;clear hO;refine Lw ?_ (v:=.int .i64 15);refine J2 ?_;go_wp2;exact bodyPost_ret (K0 rfl rfl rfl G (by kernel_rfl) (by rw[J1];kernel_rfl)) rfl ⟨rfl,D.ext⟩
end

section
set_option maxHeartbeats 2000000
attribute [local irreducible] wpList Z6
variable {kn : Kn}
open Sc (LL J10)
attribute [local irreducible] hs
def chk (V P:Nat)(h:Pr):Nat:=ch V h (dPt (pG P)) (J1x (pm BP (pN P)) (pm (K07 (dPt V)) (pC P))) (J1x (pm h (pN P)) (pm (K07 (dPt (pG P))) (pC P)))

def K3p (V:Nat)(L:List UInt8)(P:Nat):Nat×Nat:=
  if dOk V=false∨pm (dPt V) 8=p0 then(0,15) else if dOk (pG P)=false∨LL≤pN P then(0,17) else
  match vpt V L with
  |none=>(0,15)
  |some c=>if chk V P (J49 V L c)=pC P then(Y9a P,0) else(0,17)
end

section
set_option maxHeartbeats 2000000
attribute [local irreducible] wpList
open Sc (LL J10)
variable {kn : Kn}
attribute [local irreducible] hs
section
variable {w : World} {o : Oper} {a : Act} {x y z : Operand} {t : TypeId}
end
end

section
set_option maxHeartbeats 2000000
attribute [local irreducible] wpList
open Sc (LL J10)
variable {kn : Kn}
attribute [local irreducible] hs
end

section
open Sc (LL J10)
attribute [local irreducible] hs
theorem K1b (S:Nat)(h:Pr):vC S h<J3s:=Nat.mod_lt _ (by decide)
theorem Y4t {E C n:Nat}(hE:E<2^256)(hC:C<J3s):pG (E+2^256*(C+J3s*n))=E∧pC (E+2^256*(C+J3s*n))=C∧pN (E+2^256*(C+J3s*n))=n:=by
  refine⟨?_,?_,?_⟩
  · unfold pG;rw[Nat.add_mul_mod_self_left,Nat.mod_eq_of_lt hE]
  · unfold pC;rw[Nat.add_mul_div_left _ _ (Nat.two_pow_pos 256),Nat.div_eq_of_lt hE,Nat.zero_add,Nat.add_mul_mod_self_left,Nat.mod_eq_of_lt hC]
  unfold pN;rw[Nat.add_mul_div_left _ _ (Nat.two_pow_pos 256),Nat.div_eq_of_lt hE,Nat.zero_add,Nat.add_mul_div_left _ _ (by decide),Nat.div_eq_of_lt hC,Nat.zero_add]
theorem vPr_parts {S:Nat}{h:Pr}(hon:OnC h):pG (vPr S h)=enc (pm h (kN S))∧pC (vPr S h)=vC S h∧pN (vPr S h)=vN S h:=Y4t (Q0l _) (K1b S h)
theorem Q8w {a:Pr}{xa ya n x y:Nat}(ha:a=(fp xa,fp ya))(hx:xa<PP)(hy:ya<PP)(hon:OnC (fp xa,fp ya))(hn:n<2^256)
    (h:x*(tmN (xa,ya,1,xa*ya % PP) n 256).2.2.1 % PP=(tmN (xa,ya,1,xa*ya % PP) n 256).1∧y*(tmN (xa,ya,1,xa*ya % PP) n 256).2.2.1 % PP=(tmN (xa,ya,1,xa*ya % PP) n 256).2.1):pm a n=(fp x,fp y):=by
  subst ha;exact V6a (V5i (P:=(xa,ya,1,xa*ya % PP)) (V18 hx hy hon rfl) hn) h.1 h.2
theorem V6s {a:Pr}{x y e:Nat}(ha:a=(fp x,fp y))(hx:x<PP)(hy:y<PP)(he:y+2^255*(x % 2)=e):enc a=e:=by rw[ha,Z66 hx hy,he]
theorem K1c {a:Pr}{x y:Nat}(ha:a=(fp x,fp y))(h:(y % PP==1)=false):¬a=p0:=by
  intro e;rw[ha] at e;have e2:fp y=(1:Fp):=congrArg Prod.snd e;have e3:=congrArg Fin.val e2;rw[Q8i] at e3;have e4:y % PP=1:=e3;rw[e4] at h;cases h
theorem Y4u {V c h Vc xq yq:Nat}{L:List UInt8}{a:Pr}(eh:hs ([3,1]++lb 32 V++L++[u8 c,0])=h)(ec:lo h=Vc)(hx:xq<PP)(hy:yq<PP)(he:yq+2^255*(xq % 2)=Vc)(hon:OnC (fp xq,fp yq))(h8:pm (fp xq,fp yq) 8=a)(hne:¬a=p0):
    J2j V L c=true∧J49 V L c=a:=by
  have e:J6y V L c=enc (fp xq,fp yq):=by unfold J6y;rw[eh,ec,Z66 hx hy,he]
  obtain⟨d1,d2⟩:=dec_enc hon;have e8:J49 V L c=a:=by unfold J49;rw[e,d2,h8]
  exact⟨candOk_iff.2 ⟨by rw[e];exact d1,by rw[e8];exact hne⟩,e8⟩
theorem Z3e {S h1 N D P:Nat}(e:hs (lb 32 S)=h1)(eN:clN (lo h1)=N)(eD:hi h1=D)(eP:enc (pm BP N)=P):kN S=N∧kD S=D∧kP S=P:=by
  subst e eN eD eP;exact⟨rfl,rfl,rfl⟩
def qPx:Nat:=26822555233711949854380153315158647482531717314742952720223963642152101436051
def qPy:Nat:=56461774818723834839721450787889437474891852695816614318545467683432985644238
theorem K1d:qPx<PP:=by decide
theorem K1e:qPy<PP:=by decide
theorem K1f:OnC (fp qPx,fp qPy):=by unfold OnC;decide+kernel
def qax:Nat:=47024039051628811779107516702321879712624584126105895814772064878575390995579
def qay:Nat:=36463181788650339775237385953296199005534778670103291544839962084555217917972
theorem K3w:qax<PP:=by decide
theorem K3x:qay<PP:=by decide
theorem K1g:OnC (fp qax,fp qay):=by unfold OnC;decide+kernel
def qbx:Nat:=5347412701449414475638337812612804166351006483222583960086511109711120593916
def qby:Nat:=31454809416705925197151026446448411341732414034120726205309780028097122426136
theorem K1h:qbx<PP:=by decide
theorem K1i:qby<PP:=by decide
theorem V22:OnC (fp qbx,fp qby):=by unfold OnC;decide+kernel
def qAx:Nat:=4469178358068918509625982920184479197551857748499590235157424197441462617855
def qAy:Nat:=16503622182197511828209738090181657542955776088139777616436718276135933772672
def qBx:Nat:=5974376345347396749938987862407457246551996092567368546225745622563519485233
def qBy:Nat:=25507955390308686559427229708500431997880189612436112124872904814129796593346
def qEx:Nat:=15442730981594750838971302459575842918760929366015934280027366898552379046717
def qEy:Nat:=42218610869048474510830178928357113993860933435220319996272949481851902639999
theorem tP:pm BP 41354757114163650016304086911142683682198188400503391378057401993857692208328=(fp qPx,fp qPy):=Q8w (xa:=BX) (ya:=BY) rfl (by decide) (by decide) V1a (by decide) (by decide+kernel)
theorem tE {a:Pr}(ha:a=(fp qPx,fp qPy)):pm a 8=(fp qEx,fp qEy):=Q8w ha K1d K1e K1f (by decide) (by decide+kernel)
theorem ta {a:Pr}(ha:a=(fp qax,fp qay)):pm a 8=(fp qAx,fp qAy):=Q8w ha K3w K3x K1g (by decide) (by decide+kernel)
theorem tb {a:Pr}(ha:a=(fp qbx,fp qby)):pm a 8=(fp qBx,fp qBy):=Q8w ha K1h K1i V22 (by decide) (by decide+kernel)
theorem sp1:kN 1=41354757114163650016304086911142683682198188400503391378057401993857692208328∧kD 1=74947656346158344409503503793437276329892731540947283120607119044439939905177∧kP 1=114357819437381932551506943292233391401526845028636896338274259687389550464206:=Z3e (h1:=8678345711762074483941435942459349315791744468269612026220829880717679751032992162212105630643471702240689105779349018571374047650718608606628566249376974) (Y4a (by decide+kernel)) (by decide+kernel) (by decide+kernel) (V6s tP K1d K1e (by decide+kernel))
theorem cb:J2j 114357819437381932551506943292233391401526845028636896338274259687389550464206 [98] 0=true∧J49 114357819437381932551506943292233391401526845028636896338274259687389550464206 [98] 0=(fp qBx,fp qBy):=Y4u (h:=616082032838736440229054033691866983738947723987213580315641221012400015752405605581206817103919007263269839956216054564015079766058242509860130319916312) (Vc:=31454809416705925197151026446448411341732414034120726205309780028097122426136) (Y4a (by decide+kernel)) (by decide+kernel) K1h K1i (by decide+kernel) V22 (tb rfl) (K1c rfl (by decide+kernel))
theorem hb_:J49 (kP 1) [98] 0=(fp qBx,fp qBy):=by rw[sp1.2.2];exact cb.2
end

section
attribute [local irreducible] wpList
variable {kn : Kn}
open Sc (LL J10)
attribute [local irreducible] hs
def vprv (S:Nat)(L:List UInt8):Nat×Nat:=match vpt (kP S) L with
  |none=>(0,15)
  |some c=>(vPr S (J49 (kP S) L c),0)
def vsm (P:Nat):Nat×Nat:=if dOk (pG P)=true then(Y9a P,0) else(0,17)
theorem vprv_some {S c:Nat}{L:List UInt8}(h:vpt (kP S) L=some c):vprv S L=(vPr S (J49 (kP S) L c),0):=by unfold vprv;rw[h]
theorem vprv_none {S:Nat}{L:List UInt8}(h:vpt (kP S) L=none):vprv S L=(0,15):=by unfold vprv;rw[h]
theorem candP_on {V c:Nat}{L:List UInt8}(h:J2j V L c=true):OnC (J49 V L c):=pm_on (Y34 (candOk_iff.1 h).1) 8
theorem proveN_c (hd:kn.d)(hb:kn.b)(hc:kn.c){X E S:Nat}{L:List UInt8}(hX:X=(vprv S L).1)(hE:E=(vprv S L).2)(v:Value)(hL:L.length≤1099511627776)(w:World)(hG:GA kn w)(hs:Sl w v L):
    Calls Tryz.prog 77 #[.agg (J0 .u8 32 (J7 S)),v] w fun e w' =>Ret (.tuple #[.agg (J0 .u8 80 (J7 X)),.int .i64 (E:Int)]) w w' e:=by
  subst hX hE;cases h:vpt (kP S) L with
  |none=>rw[vprv_none h];exact Y9e hd hb hc S v L hL h w hG hs
  |some c=>rw[vprv_some h];exact Y9d hd hb hc S c v L hL h rfl w hG hs
theorem vsumN_c (hc:kn.c){X E P:Nat}(hX:X=(vsm P).1)(hE:E=(vsm P).2)(w:World)(hG:GA kn w):
    Calls Tryz.prog 78 #[.agg (J0 .u8 80 (J7 P))] w fun e w' =>Ret (.tuple #[.agg (J0 .u8 64 (J7 X)),.int .i64 (E:Int)]) w w' e:=by
  subst hX hE;unfold vsm;cases h:dOk (pG P)
  · rw[if_neg (by decide)];exact V6d hc h w hG
  rw[if_pos rfl];exact V6e hc h rfl w hG
attribute [local irreducible] vprv K3p

end
end Go.Proofs.YtlkbneflnjmgbaaGreatDoor.S8

namespace Go.Proofs.YtlkbneflnjmgbaaGreatDoor
section
theorem Q84:∀l:List UInt8,(l.map fun c=>[Value.int .u8 (c.toNat:Int)]).flatten=bs8 l
  |[]=>rfl
  |c::l=>by rw[List.map_cons,List.flatten_cons,Q84 l];rfl
theorem V4g {W:World}{v:Value}{l:List UInt8}(h:Own W v l):Row 5 1 W v (l.map fun c=>[Value.int .u8 (c.toNat:Int)]):=
  ⟨by rw[List.length_map,Q84];exact h,fun e he=>by obtain⟨_,_,rfl⟩:=List.mem_map.1 he;rfl⟩
theorem V4h {W:World}{v:Value}{l:List UInt8}(h:Row 5 1 W v (l.map fun c=>[Value.int .u8 (c.toNat:Int)])):Own W v l:=by
  have h1:=h.1;rw[List.length_map,Q84] at h1;exact h1
theorem Y2k {W:World}{v:Value}{l:List UInt8}(h:Own W v l)(hp:0<l.length):∃g c cur,v=.slice (some ⟨g,0,none⟩) l.length c∧Blk W g cur 5∧cur.toList.take l.length=bs8 l∧l.length≤cur.size:=by
  rcases h.2 with⟨_,h0⟩|⟨g,c,cur,hv,_,hh,hc,_,hs,ht⟩
  · omega
  exact⟨g,c,cur,hv,hh,by rwa [Nat.mul_one] at ht,by omega⟩
theorem Z9s {W:World}{v:Value}{l:List UInt8}{g n c j:Nat}{b:UInt8}(h:Own W v l)(hv:v=.slice (some ⟨g,0,none⟩) n c)(hj:l[j]?=some b):W.cell? ⟨g,0+j,none⟩=some (.int .u8 (b.toNat:Int)):=by
  have G:=(List.getElem?_eq_some_iff.1 hj).1;obtain⟨g',c',D,e,hB,ht,hs⟩:=Y2k h (by omega);rw[hv] at e;injection e with e1 _ _
  injection e1 with e1
  injection e1 with e1
  subst e1;rw[J4 hB,Nat.zero_add,←Array.getElem?_toList,←List.getElem?_take_of_lt (l:=D.toList) G,ht];unfold bs8;rw[List.getElem?_map,hj];rfl
section
variable {ops : Array Oper} {Q : Exit → Act → World → Prop} {w : World} {r : List Oper} {o : Oper} {a a' : Act} {F : List Nat} {H H' : List As} {k : Wk}
theorem MIo (i j:Nat){x y:Operand}{v:Value}{l:List UInt8}{kk:IntKind}{a' :Nat→Act}(hj:j<l.length)(h:∀g c,RowKit.Hid (v=.slice (some ⟨g,0,none⟩) l.length c)→wpM Tryz.prog ops k F w H r (a' g))(hi:H[i]?=some (.o v l):=by exact rfl)(hw:Region.wanted o (yielded ops a.tmps)=true:=by exact rfl)
    (ho:o.op=.indexAddr 35 x y:=by exact rfl) (hx:a.eval x=v:=by exact rfl) (hy:a.eval y=.int kk (j:Int):=by exact rfl)
    (hp:∀g,a.put o.dst (.pointer (some ⟨g,0+j,none⟩))=a' g:=by intro b;first|exact pl (by dsimp only[mB,mC];first|done|exact rfl)|exact pn|exact rfl):wpM Tryz.prog ops k F w H (o::r) a:=by
  intro W hS;obtain⟨g,G,cs,hv,_⟩:=Y2k (hS.own hi) (by omega);have D:∀W,(execOp a.eval o).run Tryz.prog W=.ok (.value (.pointer (some ⟨g,0+j,none⟩))) W:=fun W=>by rw[J4l hj ho (hx.trans hv) hy,Addr.add_mid]
  cases k with
  |L Q=>exact J1r hw (D W) (by rw[hp];exact h g G (Lib.hid hv) W hS)
  |X E=>exact J0d hw (fun W' _=>D W') (by rw[hp];exact h g G (Lib.hid hv) W hS)
theorem MPo (i:Nat){ty:TypeId}{x y:Operand}{g j n c:Nat}{b:UInt8}{v:Value}{l:List UInt8}(hj:j<l.length)(hv:v=.slice (some ⟨g,0,none⟩) n c)(h:wpM Tryz.prog ops (.L Q) F w H' r a')(hi:H[i]?=some (.o v l):=by exact rfl)(hw:Region.wanted o (yielded ops a.tmps)=true:=by exact rfl)
    (ho:o.op=.store ty x y:=by exact rfl) (hx:a.eval x=.pointer (some ⟨g,0+j,none⟩):=by exact rfl) (hy:a.eval y=.int .u8 (b.toNat:Int):=by exact rfl) (hz:(Tryz.prog.info? ty).map (·.size)=some 1:=by kernel_rfl)
    (hH:H.set i (.o v (l.set j b))=H' :=by dsimp only[sB,sC];first|done|exact rfl) (hp:a.put o.dst undef=a' :=by first|exact pl (by dsimp only[mB,mC];first|done|exact rfl)|exact pn|exact rfl):wpM Tryz.prog ops (.L Q) F w H (o::r) a:=by
  subst hp hH;intro W hS;refine Y2g (j:=j) (q:=0) (e:=[.int .u8 ((l[j]).toNat:Int)]) ⟨rfl,rfl⟩ (V4g (hS.own hi)) hv (by rw[List.getElem?_map,List.getElem?_eq_getElem hj];rfl) (by decide) hw ho (hx.trans (by rw[Nat.zero_add,Nat.mul_one,Nat.add_zero])) hy hz fun W' h1 h2=>h W' (hS.seto hi h2 (V4h ?_) (fun k hk _=>by rw[hk];simp));rw[List.map_set];exact h1
theorem MCo (i:Nat){x y:Operand}{u v:Value}{l m:List UInt8}{a' :Act}(hs:∀W,SH F w W H→Sl W u m)(hm:m.length≤l.length)(hp0:0<m.length)(h:wpM Tryz.prog ops (.L Q) F w H' r a')(hi:H[i]?=some (.o v l):=by exact rfl)(hw:Region.wanted o (yielded ops a.tmps)=true:=by exact rfl)
    (ho:o.op=.call {callee:=.builtin .copy,args:= #[x,y],argTypes:= #[35,35]}:=by exact rfl) (hx:a.eval x=v:=by exact rfl) (hy:a.eval y=u:=by exact rfl)
    (hH:H.set i (.o v (m++l.drop m.length))=H' :=by dsimp only[sB,sC];first|done|exact rfl) (hp:a.put o.dst (goInt m.length)=a' :=by first|exact pl (by dsimp only[mB,mC];first|done|exact rfl)|exact pn|exact rfl):wpM Tryz.prog ops (.L Q) F w H (o::r) a:=by
  subst hp hH;intro W hS;obtain⟨A,cc,rfl,h1,h2,h0,h3⟩:=hs W hS;obtain⟨ad,rfl,_⟩:=h3 0 m[0] (List.getElem?_eq_getElem hp0);have hO:=hS.own hi;rcases hO.2 with⟨_,e0⟩|⟨g,c,D,hv,hb,hB,hc,N,M,ht⟩
  · omega
  rw[Nat.mul_one] at ht M;have R:l.length≤D.size:=by omega
  have J:=run_copy_row (P:=Tryz.prog) W 35 35 o.type 5 g 0 l.length c ad m.length cc D 5 (bs8 m) Tryz.underlying35 J6g hB (by rw[V7];exact(Nat.min_eq_left hm).symm) (fun j u hj=>by
    simp only[bs8,List.getElem?_map,Option.map_eq_some_iff] at hj;obtain⟨z,hz,rfl⟩:=hj;obtain⟨S,e,hc⟩:=h3 j z hz;obtain rfl:=Option.some.inj e
    exact hc) (by rw[V7];omega) (Q19 m)
  have e:(D.toList.take 0++bs8 m++D.toList.drop (0+(bs8 m).length))=bs8 m++D.toList.drop m.length:=by
    rw[List.take_zero,List.nil_append,Nat.zero_add,V7]
  rw[e] at J;have h4:Blk (W.setRow g (bs8 m++D.toList.drop m.length).toArray) g (bs8 m++D.toList.drop m.length).toArray 5:=V9 hB _;have G:(m++l.drop m.length).length=l.length:=by rw[List.length_append,List.length_drop];omega
  refine J5i hw (v:=goInt m.length) (W:=W.setRow g (bs8 m++D.toList.drop m.length).toArray) ?_ (h _ (hS.seto hi (by rw[hv];exact⟨rfl,rfl,rfl,by simp,fun k _ hk=>setRow_other W g k _ (fun e=>hk (by subst e;show k∈[k];simp))⟩) ⟨by rw[V7,Nat.mul_one],.inr ⟨g,c,_,by rw[G];exact hv,hb,h4,by rw[G];exact hc,N,?_,?_⟩⟩ (fun k hk _=>by rw[hk];simp)))
  · unfold execOp
    simp only[ho,resolve,invoke,builtin,Sem.run_bind,Sem.run_pure,Result.andThen_ok,List.map_toArray,List.map_cons,List.map_nil,hx,hv,hy,J,V7]
  · have e3:(bs8 m++D.toList.drop m.length).toArray.size=D.size:=by
      rw[show(bs8 m++D.toList.drop m.length).toArray.size=(bs8 m++D.toList.drop m.length).length from rfl,List.length_append,List.length_drop,V7,←Array.length_toList (xs:=D)];have:D.toList.length=D.size:=Array.length_toList;omega
    rw[Nat.mul_one,e3];exact M
  rw[Nat.mul_one,G];refine(show((bs8 m++D.toList.drop m.length).toArray.toList).take l.length=bs8 (m++l.drop m.length) from ?_)
  have e4:(bs8 m++D.toList.drop m.length).take l.length=bs8 m++(D.toList.drop m.length).take (l.length-m.length):=by
    rw[List.take_append,V7,List.take_of_length_le (by rw[V7];exact hm)]
  have e5:bs8 (m++l.drop m.length)=bs8 m++(bs8 l).drop m.length:=by unfold bs8;rw[List.map_append,List.map_drop]
  refine e4.trans (e5.trans ?_).symm;rw[←ht,List.drop_take]
end
end

section
theorem V94:fsz []=0:=rfl
theorem V93 (v:Value)(l:List Fd):fsz (.c v::l)=1+fsz l:=rfl
theorem V92 (n X:Nat)(l:List Fd):fsz (.a n X::l)=n+fsz l:=rfl
section
variable {ops : Array Oper} {Q : Exit → Act → World → Prop} {w : World} {r : List Oper} {o : Oper} {a a' : Act} {F : List Nat} {H H' : List As}
end
end
end Go.Proofs.YtlkbneflnjmgbaaGreatDoor

/- Contracts and plain laws for directPuts_holds. Conditions: the tables hold their numbers. -/
import Derived.Test.YteehbddkcnkhfaaGreatDoorJ20
open Go.RowKit
set_option maxRecDepth 100000
set_option linter.unusedSimpArgs false
set_option linter.unusedVariables false
namespace Go.Proofs.YteehbddkcnkhfaaGreatDoor.S8
section
set_option maxHeartbeats 2000000
attribute [local irreducible] wpList Y8
variable {kn : Kn}
open Sc (LL J0v)
attribute [local irreducible] hs
theorem h16 {X C:Nat}(hC:C=X % J3z):∀i v,(J0 .u8 16 (J7 C))[i]?=some v→(J0 .u8 64 (J7 X))[0+i]?=some v:=
  Z62 (fun j hj=>by rw[hC,show J3z=2^(8*16) from rfl,Y85 hj,Nat.zero_add]) (by decide)
theorem Y87 (hc:kn.c){V c0:Nat}{L:List UInt8}(hL:L.length≤1099511627776)(hv:vpt V L=some c0){h:Pr}(hh:h=J43 V L c0):
    ∃X Y Z T,RN X Y Z T h∧∀v w,GA kn w→Sl w v L→Calls Tryz.prog 66 #[.agg (J0 .u8 32 (J7 V)),v] w fun e w' =>K7 (.tuple #[.agg (p4 X Y Z T),.int .i64 0]) w w' e:=by
  obtain⟨h1,h2,h3⟩:=vpt_some hv;subst hh;exact Z30 hc hL c0 h1 h2 h3
theorem Y88 (hc:kn.c){V:Nat}{L:List UInt8}(hL:L.length≤1099511627776)(hv:vpt V L=none)(v:Value)(w:World)(hG:GA kn w)(hs:Sl w v L):
    Calls Tryz.prog 66 #[.agg (J0 .u8 32 (J7 V)),v] w fun e w' =>K7 (.tuple #[.agg (p4 0 0 0 0),.int .i64 15]) w w' e:=Z31 hc hL (vpt_none hv) v w hG hs
theorem Y3m {E C n:Nat}(hE:E<2^256)(hC:C<J3z):lb 32 E++lb 16 C++lb 32 n=lb 80 (E+2^256*(C+J3z*n)):=by
  have e1:lb 80 (E+2^256*(C+J3z*n))=lb 32 (E+2^256*(C+J3z*n))++lb 48 ((E+2^256*(C+J3z*n)) / 2^(8*32)):=Y3f 32 48 _;have e2:lb 48 (C+J3z*n)=lb 16 (C+J3z*n)++lb 32 ((C+J3z*n) / 2^(8*16)):=Y3f 16 32 _;rw[e1,show(2:Nat)^(8*32)=2^256 from rfl,Nat.add_mul_div_left _ _ (by decide),Nat.div_eq_of_lt hE,Nat.zero_add,e2,show(2:Nat)^(8*16)=J3z from rfl,Nat.add_mul_div_left _ _ (by decide),Nat.div_eq_of_lt hC,Nat.zero_add,List.append_assoc]
  congr 1
  · rw[←Y1l 32 (E+2^256*(C+J3z*n)),show(2:Nat)^(8*32)=2^256 from rfl,Nat.add_mul_mod_self_left,Nat.mod_eq_of_lt hE]
  congr 1
  rw[←Y1l 16 (C+J3z*n),show(2:Nat)^(8*16)=J3z from rfl,Nat.add_mul_mod_self_left,Nat.mod_eq_of_lt hC]

theorem Y89 (hd:kn.d)(hb:kn.b)(hc:kn.c)(S c0:Nat)(v:Value)(L:List UInt8)(hL:L.length≤1099511627776)(hv:vpt (kP S) L=some c0){h:Pr}(hh:h=J43 (kP S) L c0):
  ∀w,GA kn w→Sl w v L→Calls Tryz.prog 81 #[.agg (J0 .u8 32 (J7 S)),v] w fun e w' =>K7 (.tuple #[.agg (J0 .u8 80 (J7 (vPr S h))),.int .i64 0]) w w' e:=by
 obtain⟨U1,N8⟩:=exn (kN S);have Y4:U1<2^256:=by rw[N8];exact V0p _
 have X3:=Lib.hid N8;clear N8;obtain⟨U2,R0⟩:=exn (kD S);have bU2:U2<2^256:=by rw[R0];exact V0q _
 have X1:=Lib.hid R0;clear R0;obtain⟨U3,R5⟩:=exn (kP S);have bU3:U3<2^256:=by rw[R5];exact V0r _
 have M1:=Lib.hid R5;clear R5;have hv_:vpt U3 L=some c0:=by rw[M1.out];exact hv
 have hh_:h=J43 U3 L c0:=by rw[M1.out];exact hh
 obtain⟨hx,hy,hz,ht,hr,hcl⟩:=Y87 (kn:=kn) hc hL hv_ hh_;obtain⟨x1,y2,z3,t4,r5,c6⟩:=Q1i hd hr.rw (N:=U1) Y4;obtain⟨U4,N5⟩:=exn (enc h);have bU4:U4<2^256:=by rw[N5];exact Q0p _
 have T8:=Lib.hid N5;clear N5;obtain⟨U5,D5⟩:=exh (hs ((lb 32 U2)++(lb 32 U4)));obtain⟨U6,R9⟩:=exn (U5 % LL);have Ω:U6<LL:=by rw[R9];exact mLL _
 have bU6:U6<2^256:=Nat.lt_trans Ω J5f;have Y3:=Lib.hid R9;clear R9;obtain⟨x7,y8,z9,t10,r11,c12⟩:=Z5h hb;obtain⟨x13,y14,z15,t16,r17,c18⟩:=Q1i hd r11.rw (N:=U6) (Nat.lt_trans Ω J5f);obtain⟨x19,y20,z21,t22,r23,c24⟩:=Q1i hd hr.rw (N:=U6) (Nat.lt_trans Ω J5f);obtain⟨U7,X4⟩:=exh (chH U3 h (pm h U1) (pm BP U6) (pm h U6));obtain⟨U8,N9⟩:=exn (U7 % J3z);have T5:U8<J3z:=by rw[N9];exact Nat.mod_lt _ (by decide)
 have R2:=Lib.hid N9;clear N9;obtain⟨U9,N1⟩:=exn (U8 % LL);have T9:U9<LL:=by rw[N1];exact mLL _
 have bU9:U9<2^256:=Nat.lt_trans T9 J5f;have S5:=Lib.hid N1;clear N1;obtain⟨N2,G9⟩:=exn (U1 % LL);have R4:N2<LL:=by rw[G9];exact mLL _
 have bU10:N2<2^256:=Nat.lt_trans R4 J5f;have N6:=Lib.hid G9;clear G9;obtain⟨R8,G8⟩:=exn (U9*N2 % LL);have R1:R8<LL:=by rw[G8];exact mLL _
 have bU11:R8<2^256:=Nat.lt_trans R1 J5f;have N7:=Lib.hid G8;clear G8;obtain⟨μ,G7⟩:=exn ((U6+R8) % LL);have N0:μ<LL:=by rw[G7];exact mLL _
 have bU12:μ<2^256:=Nat.lt_trans N0 J5f;have R7:=Lib.hid G7;clear G7;obtain⟨κ,M0⟩:=exn (enc (pm h U1));have Z4:κ<2^256:=by rw[M0];exact Q0p _
 have N4:=Lib.hid M0;clear M0;intro w hG hsl;have Q8:=hsl;have D:Off [] w w:=Off.refl _ _
 go_enter Tryz.func81,Tryz.ntmps81
 go_upto_region 0 with fail;refine wp_region_lit ?_;refine Ln ?_ (z:=J0 .u8 32 (J7 S)) (t:=23);intro V5 W1 J3n hO h_;replace Q8:=Sl.off Q8 hO f0;replace D:=D.o hO;have U:=h_;clear hO h_ J3n;refine Ln ?_ (z:=J0 .u8 80 (J7 0)) (t:=40);intro G3 W2 T6 hO h_;have Q4t:=fbn D T6;replace U:=U.o hO;replace Q8:=Sl.off Q8 hO f0;replace D:=D.o hO;have G:=h_;clear hO h_ T6;refine Lw ?_ (v:=.int .i64 0);refine J5 ?_;go_upto_region 1 with fail;refine wp_region_lit ?_;refine L0A ?_ U;refine Lr ?_ (Q6p hd hb X3.out X1.out M1.out W2 (GA_ext hG D.ext));intro W3 hO;replace U:=U.o hO;replace G:=G.o hO;replace Q8:=Sl.off Q8 hO f0;replace D:=D.o hO;clear hO;refine LnP ?_ (z:=s3 0 0 0) (t:=131) (cells:=s3 U1 U2 U3) (hi:=by rw[J1e];kernel_rfl) (hs:=by first|rw[J1e,J1e]|rw[J1e]|kernel_rfl) (h1:=by exact Q8k);intro θ W5 J7s hO h_;replace U:=U.o hO;replace G:=G.o hO;replace Q8:=Sl.off Q8 hO f0;replace D:=D.o hO;have J:=h_;clear hO h_ J7s;refine J5 ?_;go_upto_region 2 with fail;refine wp_region_lit ?_;refine Lv ?_;refine J75 (vs:=(J0 .u8 32 (J7 U3)).toList) (by rfl) rfl rfl J (Z77 V4s) (by kernel_rfl) (by kernel_rfl) ?_
 (try simp only[Act.put,mA,mB,mC])
 refine Lv ?_;refine Lr ?_ (hcl v W5 (GA_ext hG D.ext) Q8);intro W6 hO;replace U:=U.o hO;replace G:=G.o hO;replace J:=J.o hO;replace Q8:=Sl.off Q8 hO f0;replace D:=D.o hO;clear hO;refine Lv ?_;refine Lv ?_;refine Lw ?_ (v:=.int .i64 0);refine LnP ?_ (z:=p4 0 0 0 0) (t:=154) (cells:=p4 hx hy hz ht);intro ξ W8 V5l hO h_;replace U:=U.o hO;replace G:=G.o hO;replace J:=J.o hO;replace Q8:=Sl.off Q8 hO f0;replace D:=D.o hO;have M:=h_;clear hO h_ V5l;refine Lw ?_ (v:=.int .i64 0);refine J5 ?_;go_upto_region 5 with fail;refine wp_region_lit ?_;refine L0 ?_ M;refine Lv ?_;refine J75 (vs:=(J0 .u8 32 (J7 U1)).toList) (by rfl) rfl rfl J (Z77 V4q) (by kernel_rfl) (by kernel_rfl) ?_
 (try simp only[Act.put,mA,mB,mC])
 refine Lr ?_ (c6 W8 (GA_ext hG D.ext).1);intro W9 hO;replace U:=U.o hO;replace G:=G.o hO;replace J:=J.o hO;replace M:=M.o hO;replace Q8:=Sl.off Q8 hO f0;replace D:=D.o hO;clear hO;refine LnP ?_ (z:=p4 0 0 0 0) (t:=154) (cells:=p4 x1 y2 z3 t4);intro ν W11 Z2x hO h_;replace U:=U.o hO;replace G:=G.o hO;replace J:=J.o hO;replace M:=M.o hO;replace Q8:=Sl.off Q8 hO f0;replace D:=D.o hO;have T:=h_;clear hO h_ Z2x;refine J5 ?_;go_upto_region 6 with fail;refine wp_region_lit ?_;refine L0 ?_ M;refine Lr ?_ (Q5c hr.rw T8.out W11 (GA_ext hG D.ext).1);intro W12 hO;replace U:=U.o hO;replace G:=G.o hO;replace J:=J.o hO;replace M:=M.o hO;replace T:=T.o hO;replace Q8:=Sl.off Q8 hO f0;replace D:=D.o hO;clear hO;refine LnA ?_ (z:=J0 .u8 32 (J7 0)) (t:=23) (k:=.u8) (n:=32) (f:=J7 U4);intro ρ W14 K11 hO h_;replace U:=U.o hO;replace G:=G.o hO;replace J:=J.o hO;replace M:=M.o hO;replace T:=T.o hO;replace Q8:=Sl.off Q8 hO f0;replace D:=D.o hO;have X:=h_;clear hO h_ K11;refine J5 ?_;go_upto_region 7 with fail;refine Q5x (.q 0 (.q 1 (.q 2 (.b 3 (.b 4 (.e 5 (.e 6 .z)) 5 (.e 4 (.e 6 .z))) 5 (.e 3 (.e 4 (.e 6 .z))))))) (fun W=>True) (fun a0 a_ wr=> ∃(ζ:Nat)(ε:Nat),a_=Y19 a0 [(35,.pointer (some ⟨θ,32,none⟩)),(36,.slice (some ⟨θ,32,none⟩) 32 32),(37,.slice (some ⟨ρ,0,none⟩) 32 32),(38,.slice (some ⟨ζ,0,none⟩) 2 2),(39,.agg (J0 .u8 64 (J7 U5))),(11,.pointer (some ⟨ε,0,none⟩))]∧Off [] w wr∧Blk wr V5 (J0 .u8 32 (J7 S)) 23∧Blk wr G3 (J0 .u8 80 (J7 0)) 40∧Blk wr θ (s3 U1 U2 U3) 131∧Blk wr ξ (p4 hx hy hz ht) 154∧Blk wr ν (p4 x1 y2 z3 t4) 154∧Blk wr ρ (J0 .u8 32 (J7 U4)) 23∧Blk wr ζ #[.slice (some ⟨θ,32,none⟩) 32 32,.slice (some ⟨ρ,0,none⟩) 32 32] 22∧Blk wr ε (J0 .u8 64 (J7 U5)) 89∧Sl wr v L∧Fb ζ w.heap.size []∧V5≠ζ∧G3≠ζ∧θ≠ζ∧ξ≠ζ∧ν≠ζ∧ρ≠ζ∧(sb v L)≠some ζ∧Fb ε w.heap.size []∧V5≠ε∧G3≠ε∧θ≠ε∧ξ≠ε∧ν≠ε∧ρ≠ε∧ζ≠ε∧(sb v L)≠some ε) (by kernel_rfl) (by kernel_rfl) ?_ ?_
 ·
  intro W15 hO;replace U:=U.o hO;replace G:=G.o hO;replace J:=J.o hO;replace M:=M.o hO;replace T:=T.o hO;replace X:=X.o hO;replace Q8:=Sl.off Q8 hO f0;replace D:=D.o hO;clear hO;refine⟨trivial,?_⟩
  (refine J4a (v:=?_) rfl (by rfl) (fun W hS=> ?_) ?_;rotate_left 1;(focus (go_simp;first|done|with_reducible rfl)))
  (try simp only[Act.put,mA,mB,mC])
  refine J4a (v:=.slice (some ⟨θ,32,none⟩) 32 32) rfl (by rfl) (fun W hS=>by first|rfl|(go_simp;done)|(go_simp;with_reducible rfl)) ?_
  (try simp only[Act.put,mA,mB,mC])
  refine J4a (v:=.slice (some ⟨ρ,0,none⟩) 32 32) rfl (by rfl) (fun W hS=>by first|rfl|(go_simp;done)|(go_simp;with_reducible rfl)) ?_
  (try simp only[Act.put,mA,mB,mC])
  refine Y1b rfl rfl ?_ ?_
  ·
   refine LnS ?_ (z:= #[.slice (some ⟨θ,32,none⟩) 32 32,.slice (some ⟨ρ,0,none⟩) 32 32]) (t:=22) (n:=2) (c:=2) (hr:=by exact K3 [.slice (some ⟨θ,32,none⟩) 32 32,.slice (some ⟨ρ,0,none⟩) 32 32] rfl rfl (vsc (rfl) (vsc (rfl) vs0)) Tryz.underlying168 (by kernel_rfl) (by kernel_rfl) rfl (by decide) (by decide));intro M2 Y2 η hO h_;have G6:=bn U η;have G1:=bn G η;have G2:=bn J η;have G4:=bn M η;have D7:=bn T η;have D6:=bn X η;have G0:=J4h (Sl.lt Q8) η;have D1:=fbn D η;replace U:=U.o hO;replace G:=G.o hO;replace J:=J.o hO;replace M:=M.o hO;replace T:=T.o hO;replace X:=X.o hO;replace Q8:=Sl.off Q8 hO f0;replace D:=D.o hO;have Y:=h_;clear hO h_ η;refine J2r (fun W=>True) (fun W hS=>trivial) trivial ?_;refine Y1b rfl rfl ?_ ?_
   ·
    refine Lr ?_ (J7w D5.out [lb 32 U2,lb 32 U4] (some ⟨M2,0,none⟩) 2 (by simp only[List.flatten_cons,List.flatten_nil,List.append_nil,List.nil_append,List.append_assoc,List.cons_append]) (by first|omega|(simp only[List.length_append,List.length_cons,List.length_nil,Q0];omega)) (by simp) Y2 (J1n Y (pvc (Y6 (V:=U2) (n:=32) (off:=32) J V4r (by decide) (by decide)) (pvc (Y6 (V:=U4) (n:=32) (off:=0) X ap0 (by decide) (by decide)) pv0))) (GA_ext hG D.ext).2.1);intro M4 hO;replace U:=U.o hO;replace G:=G.o hO;replace J:=J.o hO;replace M:=M.o hO;replace T:=T.o hO;replace X:=X.o hO;replace Y:=Y.o hO;replace Q8:=Sl.off Q8 hO f0;replace D:=D.o hO;clear hO;refine J2r (fun W=>True) (fun W hS=>trivial) trivial ?_;refine J3v rfl ?_;refine Ln ?_ (z:=J0 .u8 64 (J7 0)) (t:=89);intro Z1 S9 β hO h_;have Θ:=bn U β;have ω:=bn G β;have σ:=bn J β;have Δ:=bn M β;have Ξ:=bn T β;have χ:=bn X β;have D0:=bn Y β;have ψ:=J4h (Sl.lt Q8) β;have Γ:=fbn D β;replace U:=U.o hO;replace G:=G.o hO;replace J:=J.o hO;replace M:=M.o hO;replace T:=T.o hO;replace X:=X.o hO;replace Y:=Y.o hO;replace Q8:=Sl.off Q8 hO f0;replace D:=D.o hO;have α:=h_;clear hO h_ β;refine J2r (fun W=>True) (fun W hS=>trivial) trivial ?_;refine J3v rfl ?_;refine LpA ?_ α (k:=.u8) (n:=64) (f:=J7 U5);intro D4 hO h_;replace α:Blk D4 Z1 (J0 .u8 64 (J7 U5)) 89:=h_;clear h_;replace U:=U.p hO Θ;replace G:=G.p hO ω;replace J:=J.p hO σ;replace M:=M.p hO Δ;replace T:=T.p hO Ξ;replace X:=X.p hO χ;replace Y:=Y.p hO D0;replace Q8:=Sl.off Q8 hO (f1 ψ);replace D:=D.p hO Γ;clear hO;refine J2r (fun W=>True) (fun W hS=>trivial) trivial ?_;refine Z03 ?_;exact⟨M2,Z1,(by(simp only[Y19,List.foldl_cons,List.foldl_nil,Act.put,mA,mB,mC]<;>rfl)),D,U,G,J,M,T,X,Y,α,Q8,D1,G6,G1,G2,G4,D7,D6,G0,Γ,Θ,ω,σ,Δ,Ξ,χ,D0,ψ⟩
   refine Ln ?_ (z:=J0 .u8 64 (J7 0)) (t:=89);intro T7 M4 β hO h_;have Θ:=bn U β;have ω:=bn G β;have σ:=bn J β;have Δ:=bn M β;have Ξ:=bn T β;have χ:=bn X β;have D0:=bn Y β;have ψ:=J4h (Sl.lt Q8) β;have Γ:=fbn D β;replace U:=U.o hO;replace G:=G.o hO;replace J:=J.o hO;replace M:=M.o hO;replace T:=T.o hO;replace X:=X.o hO;replace Y:=Y.o hO;replace Q8:=Sl.off Q8 hO f0;replace D:=D.o hO;have α:=h_;clear hO h_ β;refine J2r (fun W=>True) (fun W hS=>trivial) trivial ?_;refine J3v rfl ?_;refine Lr ?_ (J7w D5.out [lb 32 U2,lb 32 U4] (some ⟨M2,0,none⟩) 2 (by simp only[List.flatten_cons,List.flatten_nil,List.append_nil,List.nil_append,List.append_assoc,List.cons_append]) (by first|omega|(simp only[List.length_append,List.length_cons,List.length_nil,Q0];omega)) (by simp) M4 (J1n Y (pvc (Y6 (V:=U2) (n:=32) (off:=32) J V4r (by decide) (by decide)) (pvc (Y6 (V:=U4) (n:=32) (off:=0) X ap0 (by decide) (by decide)) pv0))) (GA_ext hG D.ext).2.1);intro S9 hO;replace U:=U.o hO;replace G:=G.o hO;replace J:=J.o hO;replace M:=M.o hO;replace T:=T.o hO;replace X:=X.o hO;replace Y:=Y.o hO;replace α:=α.o hO;replace Q8:=Sl.off Q8 hO f0;replace D:=D.o hO;clear hO;refine J2r (fun W=>True) (fun W hS=>trivial) trivial ?_;refine J3v rfl ?_;refine LpA ?_ α (k:=.u8) (n:=64) (f:=J7 U5);intro D4 hO h_;replace α:Blk D4 T7 (J0 .u8 64 (J7 U5)) 89:=h_;clear h_;replace U:=U.p hO Θ;replace G:=G.p hO ω;replace J:=J.p hO σ;replace M:=M.p hO Δ;replace T:=T.p hO Ξ;replace X:=X.p hO χ;replace Y:=Y.p hO D0;replace Q8:=Sl.off Q8 hO (f1 ψ);replace D:=D.p hO Γ;clear hO;refine J2r (fun W=>True) (fun W hS=>trivial) trivial ?_;refine Z03 ?_;exact⟨M2,T7,(by(simp only[Y19,List.foldl_cons,List.foldl_nil,Act.put,mA,mB,mC]<;>rfl)),D,U,G,J,M,T,X,Y,α,Q8,D1,G6,G1,G2,G4,D7,D6,G0,Γ,Θ,ω,σ,Δ,Ξ,χ,D0,ψ⟩
  refine Ln ?_ (z:=J0 .u8 64 (J7 0)) (t:=89);intro S6 Y2 β hO h_;have Θ:=bn U β;have ω:=bn G β;have σ:=bn J β;have Δ:=bn M β;have Ξ:=bn T β;have χ:=bn X β;have ψ:=J4h (Sl.lt Q8) β;have Γ:=fbn D β;replace U:=U.o hO;replace G:=G.o hO;replace J:=J.o hO;replace M:=M.o hO;replace T:=T.o hO;replace X:=X.o hO;replace Q8:=Sl.off Q8 hO f0;replace D:=D.o hO;have α:=h_;clear hO h_ β;refine J2r (fun W=>True) (fun W hS=>trivial) trivial ?_;refine J3v rfl ?_;refine LnS ?_ (z:= #[.slice (some ⟨θ,32,none⟩) 32 32,.slice (some ⟨ρ,0,none⟩) 32 32]) (t:=22) (n:=2) (c:=2) (hr:=by exact K3 [.slice (some ⟨θ,32,none⟩) 32 32,.slice (some ⟨ρ,0,none⟩) 32 32] rfl rfl (vsc (rfl) (vsc (rfl) vs0)) Tryz.underlying168 (by kernel_rfl) (by kernel_rfl) rfl (by decide) (by decide));intro X2 M4 η hO h_;have G6:=bn U η;have G1:=bn G η;have G2:=bn J η;have G4:=bn M η;have D7:=bn T η;have D6:=bn X η;have φ:=bn α η;have G0:=J4h (Sl.lt Q8) η;have D1:=fbn D η;replace U:=U.o hO;replace G:=G.o hO;replace J:=J.o hO;replace M:=M.o hO;replace T:=T.o hO;replace X:=X.o hO;replace α:=α.o hO;replace Q8:=Sl.off Q8 hO f0;replace D:=D.o hO;have Y:=h_;clear hO h_ η;refine J2r (fun W=>True) (fun W hS=>trivial) trivial ?_;refine J3v rfl ?_;refine Lr ?_ (J7w D5.out [lb 32 U2,lb 32 U4] (some ⟨X2,0,none⟩) 2 (by simp only[List.flatten_cons,List.flatten_nil,List.append_nil,List.nil_append,List.append_assoc,List.cons_append]) (by first|omega|(simp only[List.length_append,List.length_cons,List.length_nil,Q0];omega)) (by simp) M4 (J1n Y (pvc (Y6 (V:=U2) (n:=32) (off:=32) J V4r (by decide) (by decide)) (pvc (Y6 (V:=U4) (n:=32) (off:=0) X ap0 (by decide) (by decide)) pv0))) (GA_ext hG D.ext).2.1);intro S9 hO;replace U:=U.o hO;replace G:=G.o hO;replace J:=J.o hO;replace M:=M.o hO;replace T:=T.o hO;replace X:=X.o hO;replace α:=α.o hO;replace Y:=Y.o hO;replace Q8:=Sl.off Q8 hO f0;replace D:=D.o hO;clear hO;refine J2r (fun W=>True) (fun W hS=>trivial) trivial ?_;refine J3v rfl ?_;refine LpA ?_ α (k:=.u8) (n:=64) (f:=J7 U5);intro D4 hO h_;replace α:Blk D4 S6 (J0 .u8 64 (J7 U5)) 89:=h_;clear h_;replace U:=U.p hO Θ;replace G:=G.p hO ω;replace J:=J.p hO σ;replace M:=M.p hO Δ;replace T:=T.p hO Ξ;replace X:=X.p hO χ;replace Y:=Y.p hO φ.symm;replace Q8:=Sl.off Q8 hO (f1 ψ);replace D:=D.p hO Γ;clear hO;refine J2r (fun W=>True) (fun W hS=>trivial) trivial ?_;refine Z03 ?_;exact⟨X2,S6,(by(simp only[Y19,List.foldl_cons,List.foldl_nil,Act.put,mA,mB,mC]<;>rfl)),D,U,G,J,M,T,X,Y,α,Q8,D1,G6,G1,G2,G4,D7,D6,G0,Γ,Θ,ω,σ,Δ,Ξ,χ,φ.symm,ψ⟩
 rintro _ W20 ⟨ζ,ε,rfl,D,U,G,J,M,T,X,Y,α,Q8,D1,G6,G1,G2,G4,D7,D6,G0,Γ,Θ,ω,σ,Δ,Ξ,χ,D0,ψ⟩;simp only[Y19,List.foldl_cons,List.foldl_nil]
 (try simp only[Act.put,mA,mB,mC])
 go_upto_region 8 with fail;refine wp_region_lit ?_;refine Lw ?_ (v:=.slice (some ⟨ε,0,none⟩) 64 64) (hv:=by first|rfl|(go_simp;done)|(go_simp;with_reducible rfl));refine Lr ?_ (Y2z Y3.out (n:=64) (off:=0) α ap0 (by decide) (by rw[D5.out];exact Y3h _) (GA_ext hG D.ext).2.2.1);intro W21 hO;replace G:=G.o hO;replace J:=J.o hO;replace M:=M.o hO;replace T:=T.o hO;replace D:=D.o hO;clear hO;refine LnP ?_ (z:=c4 0) (t:=157) (cells:=c4 U6);intro Ψ W23 K12 hO h_;replace G:=G.o hO;replace J:=J.o hO;replace M:=M.o hO;replace T:=T.o hO;replace D:=D.o hO;have Z:=h_;clear hO h_ K12;refine J5 ?_;go_upto_region 9 with fail;refine J5m (.q 0 (.q 1 (.q 2 (.q 3 (.q 5 (.q 8 (.q 9 (.e 4 (.e 6 (.e 7 (.e 10 (.e 11 (.e 12 (.e 13 (.q 14 .z))))))))))))))) (fun W=>(Blk W θ (s3 U1 U2 U3) 131)∧(Blk W ξ (p4 hx hy hz ht) 154)∧(Blk W ν (p4 x1 y2 z3 t4) 154)∧(Blk W Ψ (c4 U6) 157)) (by kernel_rfl) (by kernel_rfl) ?_;intro W24 hO;replace G:=G.o hO;replace J:=J.o hO;replace M:=M.o hO;replace T:=T.o hO;replace Z:=Z.o hO;replace D:=D.o hO;clear hO;refine⟨⟨J,M,T,Z⟩,?_⟩
 (refine J4a (v:=?_) rfl (by rfl) (fun W hS=> ?_) ?_;rotate_left 1;(focus (go_simp;first|done|with_reducible rfl)))
 (try simp only[Act.put,mA,mB,mC])
 refine J4a (v:=.agg (J0 .u8 32 (J7 U3))) rfl (by rfl) (fun W hS=>by exact(J0g (vs:=(J0 .u8 32 (J7 U3)).toList) rfl rfl (fun i v hv=>by rw[J3 (hS.1)];exact V4s i v (by simpa using hv)) (by kernel_rfl) (by kernel_rfl))) ?_
 (try simp only[Act.put,mA,mB,mC])
 refine J4a (v:=.agg (p4 hx hy hz ht)) rfl (by rfl) (fun W hS=>by exact(J62 rfl rfl (hS.2.1) (by kernel_rfl) (by kernel_rfl))) ?_
 (try simp only[Act.put,mA,mB,mC])
 refine J4a (v:=.agg (p4 x1 y2 z3 t4)) rfl (by rfl) (fun W hS=>by exact(J62 rfl rfl (hS.2.2.1) (by kernel_rfl) (by kernel_rfl))) ?_
 (try simp only[Act.put,mA,mB,mC])
 refine J4a (v:=.agg (c4 U6)) rfl (by rfl) (fun W hS=>by exact(J62 rfl rfl (hS.2.2.2) (by kernel_rfl) (by kernel_rfl))) ?_
 (try simp only[Act.put,mA,mB,mC])
 refine J4a (v:=.agg (p4 hx hy hz ht)) rfl (by rfl) (fun W hS=>by exact(J62 rfl rfl (hS.2.1) (by kernel_rfl) (by kernel_rfl))) ?_
 (try simp only[Act.put,mA,mB,mC])
 refine J4a (v:=.agg (c4 U6)) rfl (by rfl) (fun W hS=>by exact(J62 rfl rfl (hS.2.2.2) (by kernel_rfl) (by kernel_rfl))) ?_
 (try simp only[Act.put,mA,mB,mC])
 refine J3v rfl ?_;refine Lr ?_ (c12 W24 (GA_ext hG D.ext).1);intro W25 hO;replace G:=G.o hO;replace J:=J.o hO;replace M:=M.o hO;replace T:=T.o hO;replace Z:=Z.o hO;replace D:=D.o hO;clear hO;refine J2r (fun W=>(Blk W θ (s3 U1 U2 U3) 131)∧(Blk W ξ (p4 hx hy hz ht) 154)∧(Blk W ν (p4 x1 y2 z3 t4) 154)∧(Blk W Ψ (c4 U6) 157)) (fun W hS=>⟨hS.1,hS.2.1,hS.2.2.1,hS.2.2.2⟩) ⟨J,M,T,Z⟩ ?_;refine J3v rfl ?_;refine Lr ?_ (Q5b Ω W25 (GA_ext hG D.ext).2.2.1);intro W26 hO;replace G:=G.o hO;replace J:=J.o hO;replace M:=M.o hO;replace T:=T.o hO;replace Z:=Z.o hO;replace D:=D.o hO;clear hO;refine J2r (fun W=>(Blk W θ (s3 U1 U2 U3) 131)∧(Blk W ξ (p4 hx hy hz ht) 154)∧(Blk W ν (p4 x1 y2 z3 t4) 154)∧(Blk W Ψ (c4 U6) 157)) (fun W hS=>⟨hS.1,hS.2.1,hS.2.2.1,hS.2.2.2⟩) ⟨J,M,T,Z⟩ ?_;refine J3v rfl ?_;refine Lr ?_ (c18 W26 (GA_ext hG D.ext).1);intro W27 hO;replace G:=G.o hO;replace J:=J.o hO;replace M:=M.o hO;replace T:=T.o hO;replace Z:=Z.o hO;replace D:=D.o hO;clear hO;refine J2r (fun W=>(Blk W θ (s3 U1 U2 U3) 131)∧(Blk W ξ (p4 hx hy hz ht) 154)∧(Blk W ν (p4 x1 y2 z3 t4) 154)∧(Blk W Ψ (c4 U6) 157)) (fun W hS=>⟨hS.1,hS.2.1,hS.2.2.1,hS.2.2.2⟩) ⟨J,M,T,Z⟩ ?_;refine J3v rfl ?_;refine Lr ?_ (Q5b Ω W27 (GA_ext hG D.ext).2.2.1);intro W28 hO;replace G:=G.o hO;replace J:=J.o hO;replace M:=M.o hO;replace T:=T.o hO;replace Z:=Z.o hO;replace D:=D.o hO;clear hO;refine J2r (fun W=>(Blk W θ (s3 U1 U2 U3) 131)∧(Blk W ξ (p4 hx hy hz ht) 154)∧(Blk W ν (p4 x1 y2 z3 t4) 154)∧(Blk W Ψ (c4 U6) 157)) (fun W hS=>⟨hS.1,hS.2.1,hS.2.2.1,hS.2.2.2⟩) ⟨J,M,T,Z⟩ ?_;refine J3v rfl ?_;refine Lr ?_ (c24 W28 (GA_ext hG D.ext).1);intro W29 hO;replace G:=G.o hO;replace J:=J.o hO;replace M:=M.o hO;replace T:=T.o hO;replace Z:=Z.o hO;replace D:=D.o hO;clear hO;refine J2r (fun W=>(Blk W θ (s3 U1 U2 U3) 131)∧(Blk W ξ (p4 hx hy hz ht) 154)∧(Blk W ν (p4 x1 y2 z3 t4) 154)∧(Blk W Ψ (c4 U6) 157)) (fun W hS=>⟨hS.1,hS.2.1,hS.2.2.1,hS.2.2.2⟩) ⟨J,M,T,Z⟩ ?_;refine J3v rfl ?_;refine LnS ?_ (z:=(p4 hx hy hz ht)++(p4 x1 y2 z3 t4)++(p4 x13 y14 z15 t16)++(p4 x19 y20 z21 t22)) (t:=154) (n:=4) (c:=4);intro V5m N3 K13 hO h_;replace G:=G.o hO;replace J:=J.o hO;replace M:=M.o hO;replace T:=T.o hO;replace Z:=Z.o hO;replace D:=D.o hO;have K14:=h_;clear hO h_ K13;refine J2r (fun W=>(Blk W θ (s3 U1 U2 U3) 131)∧(Blk W ξ (p4 hx hy hz ht) 154)∧(Blk W ν (p4 x1 y2 z3 t4) 154)∧(Blk W Ψ (c4 U6) 157)) (fun W hS=>⟨hS.1,hS.2.1,hS.2.2.1,hS.2.2.2⟩) ⟨J,M,T,Z⟩ ?_;refine J3v rfl ?_;refine Q9u (R:=fun v W=> ∃p,v=.slice (some ⟨p,0,none⟩) 16 64∧N3.heap.size≤p∧Off [] N3 W∧Blk W p (J0 .u8 64 (J7 U7)) 89) ((V5f (kn:=kn) hr r5 r17 r23 X4.out V5m N3 (GA_ext hG D.ext) K14).mono fun e W h=>by obtain⟨p,h1,h2⟩:=h;exact⟨_,h1,p,rfl,h2⟩) (by rfl) rfl (by kernel_rfl) rfl ?_
 (try simp only[Act.put,mA,mB,mC])
 rintro _ W31 ⟨Z2,rfl,Z3,hO,h_⟩
 (try simp only[Act.put,mA,mB,mC])
 replace G:=G.o hO;replace J:=J.o hO;replace M:=M.o hO;replace T:=T.o hO;replace Z:=Z.o hO;replace D:=D.o hO;have δ:=h_;clear hO h_ Z3;refine J2r (fun W=>(Blk W θ (s3 U1 U2 U3) 131)∧(Blk W ξ (p4 hx hy hz ht) 154)∧(Blk W ν (p4 x1 y2 z3 t4) 154)∧(Blk W Ψ (c4 U6) 157)) (fun W hS=>⟨hS.1,hS.2.1,hS.2.2.1,hS.2.2.2⟩) ⟨J,M,T,Z⟩ ?_
 (refine J4a (v:=?_) rfl (by rfl) (fun W hS=> ?_) ?_;rotate_left 1;(focus (go_simp;first|done|with_reducible rfl)))
 (try simp only[Act.put,mA,mB,mC])
 refine Z03 ?_;go_upto_region 10 with fail;refine Rx1 9 14 (z:=J0 .u8 32 (J7 0)) (t:=23) ?_;refine Xl ?_ Z;refine Xv ?_;refine Xf ?_ (fun W hW=>Y2z S5.out (n:=16) (off:=0) (J2 δ hW) (h16 R2.out) (by decide) T5 (GA_ext (GA_ext hG D.ext) hW).2.2.1);refine Xv ?_;refine Xw ?_ (v:=.slice (some ⟨θ,0,none⟩) 32 32);refine Xf ?_ (fun W hW=>Y2z N6.out (n:=32) (off:=0) (J2 J hW) V4q (by decide) Y4 (GA_ext (GA_ext hG D.ext) hW).2.2.1);refine Xf ?_ (fun W hW=>V4u N7.out (Nat.lt_trans T9 J5f) (Nat.lt_trans R4 J5f) W (GA_ext (GA_ext hG D.ext) hW).2.2.1);refine Xf ?_ (fun W hW=>V4v R7.out (Nat.lt_trans Ω J5f) (Nat.lt_trans R1 J5f) W (GA_ext (GA_ext hG D.ext) hW).2.2.1);refine Xf ?_ (fun W hW=>Q5b N0 W (GA_ext (GA_ext hG D.ext) hW).2.2.1);refine XN ?_;intro M6 W32 D8 hE M3;have hO:=J08 hE;have Z7z:=bn G D8;have Z80:=bn T D8;have Z81:=bn δ D8;have V5n:=fbn D D8;replace G:=G.o hO;replace T:=T.o hO;replace δ:=δ.o hO;replace D:=D.o hO;clear hO hE D8;have γ:Blk W32 M6 (J0 .u8 32 (J7 0)) 23:=M3;clear M3;refine LpA ?_ γ (k:=.u8) (n:=32) (f:=J7 μ);intro S4 hO h_;replace γ:Blk S4 M6 (J0 .u8 32 (J7 μ)) 23:=h_;clear h_;replace G:=G.p hO Z7z;replace T:=T.p hO Z80;replace δ:=δ.p hO Z81;replace D:=D.p hO V5n;clear hO;refine LN ?_;go_upto_region 11 with fail;refine wp_region_lit ?_;refine L0 ?_ T;refine Lr ?_ (Q5c r5.rw N4.out S4 (GA_ext hG D.ext).1);intro W34 hO;replace G:=G.o hO;replace δ:=δ.o hO;replace γ:=γ.o hO;replace D:=D.o hO;clear hO;refine LnA ?_ (z:=J0 .u8 32 (J7 0)) (t:=23) (k:=.u8) (n:=32) (f:=J7 κ);intro V5o W36 K16 hO h_;replace G:=G.o hO;replace δ:=δ.o hO;replace γ:=γ.o hO;replace D:=D.o hO;have τ:=h_;clear hO h_ K16;refine J5 ?_;go_upto_region 12 with fail;refine J5m (.q 1 (.q 3 (.q 5 (.e 0 (.e 2 (.e 4 (.e 6 (.q 7 (.q 8 (.e 9 (.q 10 .z))))))))))) (fun W=>True) (by kernel_rfl) (by kernel_rfl) ?_;intro W37 hO;replace G:=G.o hO;replace δ:=δ.o hO;replace γ:=γ.o hO;replace τ:=τ.o hO;replace D:=D.o hO;clear hO;refine⟨trivial,?_⟩;refine J4a (v:=.slice (some ⟨V5o,0,none⟩) 32 32) rfl (by rfl) (fun W hS=>by first|rfl|(go_simp;done)|(go_simp;with_reducible rfl)) ?_
 (try simp only[Act.put,mA,mB,mC])
 (refine J4a (v:=?_) rfl (by rfl) (fun W hS=> ?_) ?_;rotate_left 1;(focus (go_simp;first|done|with_reducible rfl)))
 (try simp only[Act.put,mA,mB,mC])
 refine J4a (v:=.slice (some ⟨M6,0,none⟩) 32 32) rfl (by rfl) (fun W hS=>by first|rfl|(go_simp;done)|(go_simp;with_reducible rfl)) ?_
 (try simp only[Act.put,mA,mB,mC])
 refine J3v rfl ?_;refine LnS ?_ (z:= #[]) (t:=5) (n:=0) (c:=0);intro D3 W38 G5 hO h_;have Y1:Value.ownBlock (.slice (some ⟨D3,0,none⟩) 0 0)≠some G3:=obn G G5;have Z82:Value.ownBlock (.slice (some ⟨D3,0,none⟩) 0 0)≠some Z2:=obn δ G5;have V4:Value.ownBlock (.slice (some ⟨D3,0,none⟩) 0 0)≠some M6:=obn γ G5;have S7:Fr (Value.ownBlock (.slice (some ⟨D3,0,none⟩) 0 0)) w.heap.size []:=frn D G5;replace G:=G.o hO;replace δ:=δ.o hO;replace γ:=γ.o hO;replace τ:=τ.o hO;replace D:=D.o hO;have V5p:Own W38 (.slice (some ⟨D3,0,none⟩) 0 0) []:=J2q h_ (by rfl) (by show 0≤maxLen;decide);clear hO h_ G5;refine J2r (fun W=>True) (fun W hS=>trivial) trivial ?_;refine J3v rfl ?_;refine J0i (xs:=[]) (ys:=(lb 32 κ)) (by rfl) rfl rfl rfl V5p (Y6 (V:=κ) (n:=32) (off:=0) τ ap0 (by decide) (by decide)) (by first|omega|(simp only[List.length_append,List.length_cons,List.length_nil,Q0];omega)) ?_
 (try simp only[Act.put,mA,mB,mC])
 intro K3l W39 V5q hO M5 M9;clear M9;have Y7:=J3e M5 Y1 (Q6 G);have Z32:=J3e M5 V4 (Q6 γ);have T2:=J4i M5 S7 D.size;replace G:=J0p G hO (nmo Y1);replace δ:=J0p δ hO (nmo Z82);replace γ:=J0p γ hO (nmo V4);replace D:=D.step hO (io S7);clear hO M5;refine J2r (fun W=>True) (fun W hS=>trivial) trivial ?_;refine J3v rfl ?_;refine J0i (xs:=([]++(lb 32 κ))) (ys:=(lb 16 U8)) (by rfl) rfl rfl rfl V5q (Y6 (V:=U8) (n:=16) (off:=0) δ (h16 R2.out) (by decide) (by decide)) (by first|omega|(simp only[List.length_append,List.length_cons,List.length_nil,Q0];omega)) ?_
 (try simp only[Act.put,mA,mB,mC])
 intro K3m W40 V5r hO S3 M7;clear M7;have X0:=J3e S3 Y7 (Q6 G);have V5s:=J4i S3 T2 D.size;replace G:=J0p G hO (nmo Y7);replace γ:=J0p γ hO (nmo Z32);replace D:=D.step hO (io T2);clear hO S3;refine J2r (fun W=>True) (fun W hS=>trivial) trivial ?_;refine J3v rfl ?_;refine J0i (xs:=(([]++(lb 32 κ))++(lb 16 U8))) (ys:=(lb 32 μ)) (by rfl) rfl rfl rfl V5r (Y6 (V:=μ) (n:=32) (off:=0) γ ap0 (by decide) (by decide)) (by first|omega|(simp only[List.length_append,List.length_cons,List.length_nil,Q0];omega)) ?_
 (try simp only[Act.put,mA,mB,mC])
 intro R3 W41 D9 hO T1 M8;clear M8;have Z83:=J3e T1 X0 (Q6 G);replace G:=J0p G hO (nmo X0);replace D:=D.step hO (io V5s);clear hO T1;refine J2r (fun W=>(Own W R3 ((([]++(lb 32 κ))++(lb 16 U8))++(lb 32 μ)))) (fun W hS=>trivial) D9 ?_;have R6:((([]++(lb 32 κ))++(lb 16 U8))++(lb 32 μ)).length=80:=by simp only[List.length_append,Q0,List.length_nil]
 obtain⟨gz,cz,curz,ez,-,-⟩:=Z0k D9 (by rw[R6];decide);rw[R6] at ez;refine J4a (v:=.pointer (some ⟨gz,0,none⟩)) rfl (by rfl) (fun W hS=>by exact(Y7z (n:=80) rfl (by show R3=_;exact ez) Tryz.underlying40)) ?_
 (try simp only[Act.put,mA,mB,mC])
 refine J4a (v:=.agg (J0 .u8 80 (J7 (κ+2^256*(U8+J3z*μ))))) rfl (by rfl) (fun W hS=>by exact(J0g (vs:=(J0 .u8 80 (J7 (κ+2^256*(U8+J3z*μ)))).toList) rfl rfl (V4w (hS) ez R6 (by decide) (by rw[List.nil_append];exact Y3m Z4 T5)) (by kernel_rfl) (by rw[Array.length_toList,J1];kernel_rfl))) ?_
 (try simp only[Act.put,mA,mB,mC])
 refine J3v rfl ?_;refine LpA ?_ G (k:=.u8) (n:=80) (f:=J7 (κ+2^256*(U8+J3z*μ)));intro W42 hO h_;replace G:Blk W42 G3 (J0 .u8 80 (J7 (κ+2^256*(U8+J3z*μ)))) 40:=h_;clear h_;replace D9:=Own.off D9 hO (f1 Z83);replace D:=D.p hO Q4t;clear hO;refine J2r (fun W=>(Own W R3 ((([]++(lb 32 κ))++(lb 16 U8))++(lb 32 μ)))) (fun W hS=>hS) D9 ?_
 (refine J4a (v:=?_) rfl (by rfl) (fun W hS=> ?_) ?_;rotate_left 1;(focus (go_simp;first|done|with_reducible rfl)))
 (try simp only[Act.put,mA,mB,mC])
 refine Z03 ?_;go_wp2;rw[show J0 .u8 80 (J7 (κ+2^256*(U8+J3z*μ)))=J0 .u8 80 (J7 (vPr S h)) by rw[N4.out,R7.out,N7.out,N6.out,S5.out,R2.out,X4.out,Y3.out,D5.out,T8.out,M1.out,X1.out,X3.out];rfl] at G;exact bodyPost_ret (J0h rfl rfl rfl G (by kernel_rfl) (by rw[J1];kernel_rfl)) rfl ⟨rfl,D.ext⟩
theorem Y8a (hd:kn.d)(hb:kn.b)(hc:kn.c)(S:Nat)(v:Value)(L:List UInt8)(hL:L.length≤1099511627776)(hv:vpt (kP S) L=none):
  ∀w,GA kn w→Sl w v L→Calls Tryz.prog 81 #[.agg (J0 .u8 32 (J7 S)),v] w fun e w' =>K7 (.tuple #[.agg (J0 .u8 80 (J7 0)),.int .i64 15]) w w' e:=by
 obtain⟨U1,N⟩:=exn (kN S);have θ:U1<2^256:=by rw[N];exact V0p _
 have γ:=Lib.hid N;clear N;obtain⟨U2,R⟩:=exn (kD S);have κ:U2<2^256:=by rw[R];exact V0q _
 have X:=Lib.hid R;clear R;obtain⟨U3,M⟩:=exn (kP S);have η:U3<2^256:=by rw[M];exact V0r _
 have T:=Lib.hid M;clear M;have Y:vpt U3 L=none:=by rw[T.out];exact hv
 intro w hG α;have Q8:=α;have D:Off [] w w:=Off.refl _ _
 go_enter Tryz.func81,Tryz.ntmps81
 go_upto_region 0 with fail;refine wp_region_lit ?_;refine Ln ?_ (z:=J0 .u8 32 (J7 S)) (t:=23);intro V5 W1 δ hO h_;replace Q8:=Sl.off Q8 hO f0;replace D:=D.o hO;have J:=h_;clear hO h_ δ;refine Ln ?_ (z:=J0 .u8 80 (J7 0)) (t:=40);intro ζ W2 U hO h_;have β:=fbn D U;replace J:=J.o hO;replace Q8:=Sl.off Q8 hO f0;replace D:=D.o hO;have G:=h_;clear hO h_ U;refine Lw ?_ (v:=.int .i64 0);refine J5 ?_;go_upto_region 1 with fail;refine wp_region_lit ?_;refine L0A ?_ J;refine Lr ?_ (Q6p hd hb γ.out X.out T.out W2 (GA_ext hG D.ext));intro W3 hO;replace G:=G.o hO;replace Q8:=Sl.off Q8 hO f0;replace D:=D.o hO;clear hO;refine LnP ?_ (z:=s3 0 0 0) (t:=131) (cells:=s3 U1 U2 U3) (hi:=by rw[J1e];kernel_rfl) (hs:=by first|rw[J1e,J1e]|rw[J1e]|kernel_rfl) (h1:=by exact Q8k);intro ν W5 Z hO h_;replace G:=G.o hO;replace Q8:=Sl.off Q8 hO f0;replace D:=D.o hO;have V:=h_;clear hO h_ Z;refine J5 ?_;go_upto_region 2 with fail;refine wp_region_lit ?_;refine Lv ?_;refine J75 (vs:=(J0 .u8 32 (J7 U3)).toList) (by rfl) rfl rfl V (Z77 V4s) (by kernel_rfl) (by kernel_rfl) ?_
 (try simp only[Act.put,mA,mB,mC])
 refine Lv ?_;refine Lr ?_ (Y88 (kn:=kn) hc hL Y v W5 (GA_ext hG D.ext) Q8);intro W6 hO;replace G:=G.o hO;replace D:=D.o hO;clear hO;refine Lv ?_;refine Lv ?_;refine Lw ?_ (v:=.int .i64 15);refine LnP ?_ (z:=p4 0 0 0 0) (t:=154) (cells:=p4 0 0 0 0);intro μ W8 ε hO h_;replace G:=G.o hO;replace D:=D.o hO;clear hO h_ ε;refine Lw ?_ (v:=.int .i64 15);refine J5 ?_;go_upto_region 4 with fail;refine wp_region_lit ?_;refine Lw ?_ (v:=.agg (J0 .u8 80 (J7 0))) (hv:=by kernel_rfl);refine Lw ?_ (v:=.int .i64 15);refine LpA ?_ G (k:=.u8) (n:=80) (f:=J7 0);intro W9 hO h_;replace G:Blk W9 ζ (J0 .u8 80 (J7 0)) 40:=h_;clear h_;replace D:=D.p hO β;clear hO;refine Lw ?_ (v:=.int .i64 15);refine J5 ?_;go_wp2;exact bodyPost_ret (J0h rfl rfl rfl G (by kernel_rfl) (by rw[J1];kernel_rfl)) rfl ⟨rfl,D.ext⟩
end

section
set_option maxHeartbeats 2000000
attribute [local irreducible] wpList Y8
variable {kn : Kn}
open Sc (LL J0v)
attribute [local irreducible] hs
def chk (V P:Nat)(h:Pr):Nat:=ch V h (dPt (pG P)) (J1r (pm BP (pN P)) (pm (K05 (dPt V)) (pC P))) (J1r (pm h (pN P)) (pm (K05 (dPt (pG P))) (pC P)))

def K3n (V:Nat)(L:List UInt8)(P:Nat):Nat×Nat:=
  if dOk V=false∨pm (dPt V) 8=p0 then(0,15) else if dOk (pG P)=false∨LL≤pN P then(0,17) else
  match vpt V L with
  |none=>(0,15)
  |some c=>if chk V P (J43 V L c)=pC P then(Y86 P,0) else(0,17)
end

section
set_option maxHeartbeats 2000000
attribute [local irreducible] wpList
open Sc (LL J0v)
variable {kn : Kn}
attribute [local irreducible] hs
section
variable {w : World} {o : Oper} {a : Act} {x y z : Operand} {t : TypeId}
end
end

section
set_option maxHeartbeats 2000000
attribute [local irreducible] wpList
open Sc (LL J0v)
variable {kn : Kn}
attribute [local irreducible] hs
end

section
open Sc (LL J0v)
attribute [local irreducible] hs
theorem K19 (S:Nat)(h:Pr):vC S h<J3z:=Nat.mod_lt _ (by decide)
theorem Y42 {E C n:Nat}(hE:E<2^256)(hC:C<J3z):pG (E+2^256*(C+J3z*n))=E∧pC (E+2^256*(C+J3z*n))=C∧pN (E+2^256*(C+J3z*n))=n:=by
  refine⟨?_,?_,?_⟩
  · unfold pG;rw[Nat.add_mul_mod_self_left,Nat.mod_eq_of_lt hE]
  · unfold pC;rw[Nat.add_mul_div_left _ _ (Nat.two_pow_pos 256),Nat.div_eq_of_lt hE,Nat.zero_add,Nat.add_mul_mod_self_left,Nat.mod_eq_of_lt hC]
  unfold pN;rw[Nat.add_mul_div_left _ _ (Nat.two_pow_pos 256),Nat.div_eq_of_lt hE,Nat.zero_add,Nat.add_mul_div_left _ _ (by decide),Nat.div_eq_of_lt hC,Nat.zero_add]
theorem vPr_parts {S:Nat}{h:Pr}(hon:OnC h):pG (vPr S h)=enc (pm h (kN S))∧pC (vPr S h)=vC S h∧pN (vPr S h)=vN S h:=Y42 (Q0p _) (K19 S h)
theorem Q8r {a:Pr}{xa ya n x y:Nat}(ha:a=(fp xa,fp ya))(hx:xa<PP)(hy:ya<PP)(hon:OnC (fp xa,fp ya))(hn:n<2^256)
    (h:x*(tmN (xa,ya,1,xa*ya % PP) n 256).2.2.1 % PP=(tmN (xa,ya,1,xa*ya % PP) n 256).1∧y*(tmN (xa,ya,1,xa*ya % PP) n 256).2.2.1 % PP=(tmN (xa,ya,1,xa*ya % PP) n 256).2.1):pm a n=(fp x,fp y):=by
  subst ha;exact Z1z (Z20 (P:=(xa,ya,1,xa*ya % PP)) (Z4c hx hy hon rfl) hn) h.1 h.2
theorem V5v {a:Pr}{x y e:Nat}(ha:a=(fp x,fp y))(hx:x<PP)(hy:y<PP)(he:y+2^255*(x % 2)=e):enc a=e:=by rw[ha,Q3k hx hy,he]
theorem K1a {a:Pr}{x y:Nat}(ha:a=(fp x,fp y))(h:(y % PP==1)=false):¬a=p0:=by
  intro e;rw[ha] at e;have e2:fp y=(1:Fp):=congrArg Prod.snd e;have e3:=congrArg Fin.val e2;rw[Q8d] at e3;have e4:y % PP=1:=e3;rw[e4] at h;cases h
theorem Y43 {V c h Vc xq yq:Nat}{L:List UInt8}{a:Pr}(eh:hs ([3,1]++lb 32 V++L++[u8 c,0])=h)(ec:lo h=Vc)(hx:xq<PP)(hy:yq<PP)(he:yq+2^255*(xq % 2)=Vc)(hon:OnC (fp xq,fp yq))(h8:pm (fp xq,fp yq) 8=a)(hne:¬a=p0):
    candOk V L c=true∧J43 V L c=a:=by
  have e:J5w V L c=enc (fp xq,fp yq):=by unfold J5w;rw[eh,ec,Q3k hx hy,he]
  obtain⟨d1,d2⟩:=dec_enc hon;have e8:J43 V L c=a:=by unfold J43;rw[e,d2,h8]
  exact⟨candOk_iff.2 ⟨by rw[e];exact d1,by rw[e8];exact hne⟩,e8⟩
theorem Z37 {S h1 N D P:Nat}(e:hs (lb 32 S)=h1)(eN:clN (lo h1)=N)(eD:hi h1=D)(eP:enc (pm BP N)=P):kN S=N∧kD S=D∧kP S=P:=by
  subst e eN eD eP;exact⟨rfl,rfl,rfl⟩
def qPx:Nat:=26822555233711949854380153315158647482531717314742952720223963642152101436051
def qPy:Nat:=56461774818723834839721450787889437474891852695816614318545467683432985644238
theorem K1b:qPx<PP:=by decide
theorem K1c:qPy<PP:=by decide
theorem K1d:OnC (fp qPx,fp qPy):=by unfold OnC;decide+kernel
def qax:Nat:=47024039051628811779107516702321879712624584126105895814772064878575390995579
def qay:Nat:=36463181788650339775237385953296199005534778670103291544839962084555217917972
theorem K3u:qax<PP:=by decide
theorem K3v:qay<PP:=by decide
theorem K1e:OnC (fp qax,fp qay):=by unfold OnC;decide+kernel
def qbx:Nat:=5347412701449414475638337812612804166351006483222583960086511109711120593916
def qby:Nat:=31454809416705925197151026446448411341732414034120726205309780028097122426136
theorem K1f:qbx<PP:=by decide
theorem K1g:qby<PP:=by decide
theorem V0y:OnC (fp qbx,fp qby):=by unfold OnC;decide+kernel
def qAx:Nat:=4469178358068918509625982920184479197551857748499590235157424197441462617855
def qAy:Nat:=16503622182197511828209738090181657542955776088139777616436718276135933772672
def qBx:Nat:=5974376345347396749938987862407457246551996092567368546225745622563519485233
def qBy:Nat:=25507955390308686559427229708500431997880189612436112124872904814129796593346
def qEx:Nat:=15442730981594750838971302459575842918760929366015934280027366898552379046717
def qEy:Nat:=42218610869048474510830178928357113993860933435220319996272949481851902639999
theorem tP:pm BP 41354757114163650016304086911142683682198188400503391378057401993857692208328=(fp qPx,fp qPy):=Q8r (xa:=BX) (ya:=BY) rfl (by decide) (by decide) Y2a (by decide) (by decide+kernel)
theorem tE {a:Pr}(ha:a=(fp qPx,fp qPy)):pm a 8=(fp qEx,fp qEy):=Q8r ha K1b K1c K1d (by decide) (by decide+kernel)
theorem ta {a:Pr}(ha:a=(fp qax,fp qay)):pm a 8=(fp qAx,fp qAy):=Q8r ha K3u K3v K1e (by decide) (by decide+kernel)
theorem tb {a:Pr}(ha:a=(fp qbx,fp qby)):pm a 8=(fp qBx,fp qBy):=Q8r ha K1f K1g V0y (by decide) (by decide+kernel)
theorem sp1:kN 1=41354757114163650016304086911142683682198188400503391378057401993857692208328∧kD 1=74947656346158344409503503793437276329892731540947283120607119044439939905177∧kP 1=114357819437381932551506943292233391401526845028636896338274259687389550464206:=Z37 (h1:=8678345711762074483941435942459349315791744468269612026220829880717679751032992162212105630643471702240689105779349018571374047650718608606628566249376974) (Q7k (by decide+kernel)) (by decide+kernel) (by decide+kernel) (V5v tP K1b K1c (by decide+kernel))
theorem cb:candOk 114357819437381932551506943292233391401526845028636896338274259687389550464206 [98] 0=true∧J43 114357819437381932551506943292233391401526845028636896338274259687389550464206 [98] 0=(fp qBx,fp qBy):=Y43 (h:=616082032838736440229054033691866983738947723987213580315641221012400015752405605581206817103919007263269839956216054564015079766058242509860130319916312) (Vc:=31454809416705925197151026446448411341732414034120726205309780028097122426136) (Q7k (by decide+kernel)) (by decide+kernel) K1f K1g (by decide+kernel) V0y (tb rfl) (K1a rfl (by decide+kernel))
theorem hb_:J43 (kP 1) [98] 0=(fp qBx,fp qBy):=by rw[sp1.2.2];exact cb.2
end

section
attribute [local irreducible] wpList
variable {kn : Kn}
open Sc (LL J0v)
attribute [local irreducible] hs
def vprv (S:Nat)(L:List UInt8):Nat×Nat:=match vpt (kP S) L with
  |none=>(0,15)
  |some c=>(vPr S (J43 (kP S) L c),0)
def vsm (P:Nat):Nat×Nat:=if dOk (pG P)=true then(Y86 P,0) else(0,17)
theorem vprv_some {S c:Nat}{L:List UInt8}(h:vpt (kP S) L=some c):vprv S L=(vPr S (J43 (kP S) L c),0):=by unfold vprv;rw[h]
theorem vprv_none {S:Nat}{L:List UInt8}(h:vpt (kP S) L=none):vprv S L=(0,15):=by unfold vprv;rw[h]
theorem candP_on {V c:Nat}{L:List UInt8}(h:candOk V L c=true):OnC (J43 V L c):=pm_on (Y2f (candOk_iff.1 h).1) 8
theorem proveN_c (hd:kn.d)(hb:kn.b)(hc:kn.c){X E S:Nat}{L:List UInt8}(hX:X=(vprv S L).1)(hE:E=(vprv S L).2)(v:Value)(hL:L.length≤1099511627776)(w:World)(hG:GA kn w)(hs:Sl w v L):
    Calls Tryz.prog 81 #[.agg (J0 .u8 32 (J7 S)),v] w fun e w' =>K7 (.tuple #[.agg (J0 .u8 80 (J7 X)),.int .i64 (E:Int)]) w w' e:=by
  subst hX hE;cases h:vpt (kP S) L with
  |none=>rw[vprv_none h];exact Y8a hd hb hc S v L hL h w hG hs
  |some c=>rw[vprv_some h];exact Y89 hd hb hc S c v L hL h rfl w hG hs
theorem vsumN_c (hc:kn.c){X E P:Nat}(hX:X=(vsm P).1)(hE:E=(vsm P).2)(w:World)(hG:GA kn w):
    Calls Tryz.prog 74 #[.agg (J0 .u8 80 (J7 P))] w fun e w' =>K7 (.tuple #[.agg (J0 .u8 64 (J7 X)),.int .i64 (E:Int)]) w w' e:=by
  subst hX hE;unfold vsm;cases h:dOk (pG P)
  · rw[if_neg (by decide)];exact V5h hc h w hG
  rw[if_pos rfl];exact V5i hc h rfl w hG
attribute [local irreducible] vprv K3n

end
end Go.Proofs.YteehbddkcnkhfaaGreatDoor.S8

namespace Go.Proofs.YteehbddkcnkhfaaGreatDoor
section
theorem Q7z:∀l:List UInt8,(l.map fun c=>[Value.int .u8 (c.toNat:Int)]).flatten=bs8 l
  |[]=>rfl
  |c::l=>by rw[List.map_cons,List.flatten_cons,Q7z l];rfl
theorem V3m {W:World}{v:Value}{l:List UInt8}(h:Own W v l):Row 5 1 W v (l.map fun c=>[Value.int .u8 (c.toNat:Int)]):=
  ⟨by rw[List.length_map,Q7z];exact h,fun e he=>by obtain⟨_,_,rfl⟩:=List.mem_map.1 he;rfl⟩
theorem V3n {W:World}{v:Value}{l:List UInt8}(h:Row 5 1 W v (l.map fun c=>[Value.int .u8 (c.toNat:Int)])):Own W v l:=by
  have h1:=h.1;rw[List.length_map,Q7z] at h1;exact h1
theorem Y1s {W:World}{v:Value}{l:List UInt8}(h:Own W v l)(hp:0<l.length):∃g c cur,v=.slice (some ⟨g,0,none⟩) l.length c∧Blk W g cur 5∧cur.toList.take l.length=bs8 l∧l.length≤cur.size:=by
  rcases h.2 with⟨_,h0⟩|⟨g,c,cur,hv,_,hh,hc,_,hs,ht⟩
  · omega
  exact⟨g,c,cur,hv,hh,by rwa [Nat.mul_one] at ht,by omega⟩
theorem Q96 {W:World}{v:Value}{l:List UInt8}{g n c j:Nat}{b:UInt8}(h:Own W v l)(hv:v=.slice (some ⟨g,0,none⟩) n c)(hj:l[j]?=some b):W.cell? ⟨g,0+j,none⟩=some (.int .u8 (b.toNat:Int)):=by
  have G:=(List.getElem?_eq_some_iff.1 hj).1;obtain⟨g',c',D,e,hB,ht,hs⟩:=Y1s h (by omega);rw[hv] at e;injection e with e1 _ _
  injection e1 with e1
  injection e1 with e1
  subst e1;rw[J3 hB,Nat.zero_add,←Array.getElem?_toList,←List.getElem?_take_of_lt (l:=D.toList) G,ht];unfold bs8;rw[List.getElem?_map,hj];rfl
section
variable {ops : Array Oper} {Q : Exit → Act → World → Prop} {w : World} {r : List Oper} {o : Oper} {a a' : Act} {F : List Nat} {H H' : List As} {k : Wk}
theorem MIo (i j:Nat){x y:Operand}{v:Value}{l:List UInt8}{kk:IntKind}{a' :Nat→Act}(hj:j<l.length)(h:∀g c,RowKit.Hid (v=.slice (some ⟨g,0,none⟩) l.length c)→wpM Tryz.prog ops k F w H r (a' g))(hi:H[i]?=some (.o v l):=by exact rfl)(hw:Region.wanted o (yielded ops a.tmps)=true:=by exact rfl)
    (ho:o.op=.indexAddr 22 x y:=by exact rfl) (hx:a.eval x=v:=by exact rfl) (hy:a.eval y=.int kk (j:Int):=by exact rfl)
    (hp:∀g,a.put o.dst (.pointer (some ⟨g,0+j,none⟩))=a' g:=by intro b;first|exact pl (by dsimp only[mB,mC];first|done|exact rfl)|exact pn|exact rfl):wpM Tryz.prog ops k F w H (o::r) a:=by
  intro W hS;obtain⟨g,G,cs,hv,_⟩:=Y1s (hS.own hi) (by omega);have D:∀W,(execOp a.eval o).run Tryz.prog W=.ok (.value (.pointer (some ⟨g,0+j,none⟩))) W:=fun W=>by rw[Q0w hj ho (hx.trans hv) hy,Addr.add_mid]
  cases k with
  |L Q=>exact J29 hw (D W) (by rw[hp];exact h g G (Lib.hid hv) W hS)
  |X E=>exact J3i hw (fun W' _=>D W') (by rw[hp];exact h g G (Lib.hid hv) W hS)
theorem MPo (i:Nat){ty:TypeId}{x y:Operand}{g j n c:Nat}{b:UInt8}{v:Value}{l:List UInt8}(hj:j<l.length)(hv:v=.slice (some ⟨g,0,none⟩) n c)(h:wpM Tryz.prog ops (.L Q) F w H' r a')(hi:H[i]?=some (.o v l):=by exact rfl)(hw:Region.wanted o (yielded ops a.tmps)=true:=by exact rfl)
    (ho:o.op=.store ty x y:=by exact rfl) (hx:a.eval x=.pointer (some ⟨g,0+j,none⟩):=by exact rfl) (hy:a.eval y=.int .u8 (b.toNat:Int):=by exact rfl) (hz:(Tryz.prog.info? ty).map (·.size)=some 1:=by kernel_rfl)
    (hH:H.set i (.o v (l.set j b))=H' :=by dsimp only[sB,sC];first|done|exact rfl) (hp:a.put o.dst undef=a' :=by first|exact pl (by dsimp only[mB,mC];first|done|exact rfl)|exact pn|exact rfl):wpM Tryz.prog ops (.L Q) F w H (o::r) a:=by
  subst hp hH;intro W hS;refine Q9b (j:=j) (q:=0) (e:=[.int .u8 ((l[j]).toNat:Int)]) ⟨rfl,rfl⟩ (V3m (hS.own hi)) hv (by rw[List.getElem?_map,List.getElem?_eq_getElem hj];rfl) (by decide) hw ho (hx.trans (by rw[Nat.zero_add,Nat.mul_one,Nat.add_zero])) hy hz fun W' h1 h2=>h W' (hS.seto hi h2 (V3n ?_) (fun k hk _=>by rw[hk];simp));rw[List.map_set];exact h1
theorem MCo (i:Nat){x y:Operand}{u v:Value}{l m:List UInt8}{a' :Act}(hs:∀W,SH F w W H→Sl W u m)(hm:m.length≤l.length)(hp0:0<m.length)(h:wpM Tryz.prog ops (.L Q) F w H' r a')(hi:H[i]?=some (.o v l):=by exact rfl)(hw:Region.wanted o (yielded ops a.tmps)=true:=by exact rfl)
    (ho:o.op=.call {callee:=.builtin .copy,args:= #[x,y],argTypes:= #[22,22]}:=by exact rfl) (hx:a.eval x=v:=by exact rfl) (hy:a.eval y=u:=by exact rfl)
    (hH:H.set i (.o v (m++l.drop m.length))=H' :=by dsimp only[sB,sC];first|done|exact rfl) (hp:a.put o.dst (goInt m.length)=a' :=by first|exact pl (by dsimp only[mB,mC];first|done|exact rfl)|exact pn|exact rfl):wpM Tryz.prog ops (.L Q) F w H (o::r) a:=by
  subst hp hH;intro W hS;obtain⟨A,cc,rfl,h1,h2,h0,h3⟩:=hs W hS;obtain⟨ad,rfl,_⟩:=h3 0 m[0] (List.getElem?_eq_getElem hp0);have hO:=hS.own hi;rcases hO.2 with⟨_,e0⟩|⟨g,c,D,hv,hb,hB,hc,N,M,ht⟩
  · omega
  rw[Nat.mul_one] at ht M;have R:l.length≤D.size:=by omega
  have J:=run_copy_row (P:=Tryz.prog) W 22 22 o.type 5 g 0 l.length c ad m.length cc D 5 (bs8 m) Tryz.underlying22 J9s hB (by rw[Y9];exact(Nat.min_eq_left hm).symm) (fun j u hj=>by
    simp only[bs8,List.getElem?_map,Option.map_eq_some_iff] at hj;obtain⟨z,hz,rfl⟩:=hj;obtain⟨S,e,hc⟩:=h3 j z hz;obtain rfl:=Option.some.inj e
    exact hc) (by rw[Y9];omega) (Q3o m)
  have e:(D.toList.take 0++bs8 m++D.toList.drop (0+(bs8 m).length))=bs8 m++D.toList.drop m.length:=by
    rw[List.take_zero,List.nil_append,Nat.zero_add,Y9]
  rw[e] at J;have h4:Blk (W.setRow g (bs8 m++D.toList.drop m.length).toArray) g (bs8 m++D.toList.drop m.length).toArray 5:=V9 hB _;have G:(m++l.drop m.length).length=l.length:=by rw[List.length_append,List.length_drop];omega
  refine J4n hw (v:=goInt m.length) (W:=W.setRow g (bs8 m++D.toList.drop m.length).toArray) ?_ (h _ (hS.seto hi (by rw[hv];exact⟨rfl,rfl,rfl,by simp,fun k _ hk=>setRow_other W g k _ (fun e=>hk (by subst e;show k∈[k];simp))⟩) ⟨by rw[Y9,Nat.mul_one],.inr ⟨g,c,_,by rw[G];exact hv,hb,h4,by rw[G];exact hc,N,?_,?_⟩⟩ (fun k hk _=>by rw[hk];simp)))
  · unfold execOp
    simp only[ho,resolve,invoke,builtin,Sem.run_bind,Sem.run_pure,Result.andThen_ok,List.map_toArray,List.map_cons,List.map_nil,hx,hv,hy,J,Y9]
  · have e3:(bs8 m++D.toList.drop m.length).toArray.size=D.size:=by
      rw[show(bs8 m++D.toList.drop m.length).toArray.size=(bs8 m++D.toList.drop m.length).length from rfl,List.length_append,List.length_drop,Y9,←Array.length_toList (xs:=D)];have:D.toList.length=D.size:=Array.length_toList;omega
    rw[Nat.mul_one,e3];exact M
  rw[Nat.mul_one,G];refine(show((bs8 m++D.toList.drop m.length).toArray.toList).take l.length=bs8 (m++l.drop m.length) from ?_)
  have e4:(bs8 m++D.toList.drop m.length).take l.length=bs8 m++(D.toList.drop m.length).take (l.length-m.length):=by
    rw[List.take_append,Y9,List.take_of_length_le (by rw[Y9];exact hm)]
  have e5:bs8 (m++l.drop m.length)=bs8 m++(bs8 l).drop m.length:=by unfold bs8;rw[List.map_append,List.map_drop]
  refine e4.trans (e5.trans ?_).symm;rw[←ht,List.drop_take]
end
end

section
theorem V8z:fsz []=0:=rfl
theorem V8y (v:Value)(l:List Fd):fsz (.c v::l)=1+fsz l:=rfl
theorem V8x (n X:Nat)(l:List Fd):fsz (.a n X::l)=n+fsz l:=rfl
section
variable {ops : Array Oper} {Q : Exit → Act → World → Prop} {w : World} {r : List Oper} {o : Oper} {a a' : Act} {F : List Nat} {H H' : List As}
end
end
end Go.Proofs.YteehbddkcnkhfaaGreatDoor

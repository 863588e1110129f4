/- Contracts and plain laws for directStays_holds. Conditions: the tables hold their numbers. -/
import Derived.Test.YteehbddkcnkhfaaGreatDoorJ21
open Go.RowKit
set_option maxRecDepth 100000
set_option linter.unusedSimpArgs false
set_option linter.unusedVariables false
namespace Go.Proofs.YteehbddkcnkhfaaGreatDoor.S8
section
set_option maxHeartbeats 2000000
attribute [local irreducible] wpList V2
variable {kn : Kn}
open Sc (LL J12)
attribute [local irreducible] hs
theorem h16 {X C:Nat}(hC:C=X % J40):∀i v,(J0 .u8 16 (J5 C))[i]?=some v→(J0 .u8 64 (J5 X))[0+i]?=some v:=
  Z78 (fun j hj=>by rw[hC,show J40=2^(8*16) from rfl,Y95 hj,Nat.zero_add]) (by decide)
theorem Y97 (hc:kn.c){V c0:Nat}{L:List UInt8}(hL:L.length≤1099511627776)(hv:vpt V L=some c0){h:Pr}(hh:h=J47 V L c0):
    ∃X Y Z T,RN X Y Z T h∧∀v w,GA kn w→Sl w v L→Calls Tryz.prog 66 #[.agg (J0 .u8 32 (J5 V)),v] w fun e w' =>X5 (.tuple #[.agg (p4 X Y Z T),.int .i64 0]) w w' e:=by
  obtain⟨h1,h2,h3⟩:=vpt_some hv;subst hh;exact Z46 hc hL c0 h1 h2 h3
theorem Y98 (hc:kn.c){V:Nat}{L:List UInt8}(hL:L.length≤1099511627776)(hv:vpt V L=none)(v:Value)(w:World)(hG:GA kn w)(hs:Sl w v L):
    Calls Tryz.prog 66 #[.agg (J0 .u8 32 (J5 V)),v] w fun e w' =>X5 (.tuple #[.agg (p4 0 0 0 0),.int .i64 15]) w w' e:=Z47 hc hL (vpt_none hv) v w hG hs
theorem Y4n {E C n:Nat}(hE:E<2^256)(hC:C<J40):lb 32 E++lb 16 C++lb 32 n=lb 80 (E+2^256*(C+J40*n)):=by
  have e1:lb 80 (E+2^256*(C+J40*n))=lb 32 (E+2^256*(C+J40*n))++lb 48 ((E+2^256*(C+J40*n)) / 2^(8*32)):=Y4g 32 48 _;have e2:lb 48 (C+J40*n)=lb 16 (C+J40*n)++lb 32 ((C+J40*n) / 2^(8*16)):=Y4g 16 32 _;rw[e1,show(2:Nat)^(8*32)=2^256 from rfl,Nat.add_mul_div_left _ _ (by decide),Nat.div_eq_of_lt hE,Nat.zero_add,e2,show(2:Nat)^(8*16)=J40 from rfl,Nat.add_mul_div_left _ _ (by decide),Nat.div_eq_of_lt hC,Nat.zero_add,List.append_assoc]
  congr 1
  · rw[←Y2k 32 (E+2^256*(C+J40*n)),show(2:Nat)^(8*32)=2^256 from rfl,Nat.add_mul_mod_self_left,Nat.mod_eq_of_lt hE]
  congr 1
  rw[←Y2k 16 (C+J40*n),show(2:Nat)^(8*16)=J40 from rfl,Nat.add_mul_mod_self_left,Nat.mod_eq_of_lt hC]

theorem Y99 (hd:kn.d)(hb:kn.b)(hc:kn.c)(S c0:Nat)(v:Value)(L:List UInt8)(hL:L.length≤1099511627776)(hv:vpt (kP S) L=some c0){h:Pr}(hh:h=J47 (kP S) L c0):
  ∀w,GA kn w→Sl w v L→Calls Tryz.prog 81 #[.agg (J0 .u8 32 (J5 S)),v] w fun e w' =>X5 (.tuple #[.agg (J0 .u8 80 (J5 (vPr S h))),.int .i64 0]) w w' e:=by
 obtain⟨U1,R4⟩:=exn (kN S);have Y1:U1<2^256:=by rw[R4];exact V1t _
 have X3:=Lib.hid R4;clear R4;obtain⟨U2,N8⟩:=exn (kD S);have bU2:U2<2^256:=by rw[N8];exact V1u _
 have V7:=Lib.hid N8;clear N8;obtain⟨U3,N1⟩:=exn (kP S);have bU3:U3<2^256:=by rw[N1];exact V1v _
 have M1:=Lib.hid N1;clear N1;have hv_:vpt U3 L=some c0:=by rw[M1.out];exact hv
 have hh_:h=J47 U3 L c0:=by rw[M1.out];exact hh
 obtain⟨hx,hy,hz,ht,hr,hcl⟩:=Y97 (kn:=kn) hc hL hv_ hh_;obtain⟨x1,y2,z3,t4,r5,c6⟩:=Q22 hd hr.rw (N:=U1) Y1;obtain⟨U4,N5⟩:=exn (enc h);have bU4:U4<2^256:=by rw[N5];exact Q19 _
 have T5:=Lib.hid N5;clear N5;obtain⟨U5,D1⟩:=exh (hs ((lb 32 U2)++(lb 32 U4)));obtain⟨U6,N7⟩:=exn (U5 % LL);have D0:U6<LL:=by rw[N7];exact mLL _
 have bU6:U6<2^256:=Nat.lt_trans D0 J5k;have T6:=Lib.hid N7;clear N7;obtain⟨x7,y8,z9,t10,r11,c12⟩:=Z6n hb;obtain⟨x13,y14,z15,t16,r17,c18⟩:=Q22 hd r11.rw (N:=U6) (Nat.lt_trans D0 J5k);obtain⟨x19,y20,z21,t22,r23,c24⟩:=Q22 hd hr.rw (N:=U6) (Nat.lt_trans D0 J5k);obtain⟨U7,X0⟩:=exh (chH U3 h (pm h U1) (pm BP U6) (pm h U6));obtain⟨U8,N4⟩:=exn (U7 % J40);have X1:U8<J40:=by rw[N4];exact Nat.mod_lt _ (by decide)
 have R2:=Lib.hid N4;clear N4;obtain⟨U9,R8⟩:=exn (U8 % LL);have T2:U9<LL:=by rw[R8];exact mLL _
 have bU9:U9<2^256:=Nat.lt_trans T2 J5k;have X2:=Lib.hid R8;clear R8;obtain⟨N0,G7⟩:=exn (U1 % LL);have R7:N0<LL:=by rw[G7];exact mLL _
 have bU10:N0<2^256:=Nat.lt_trans R7 J5k;have N2:=Lib.hid G7;clear G7;obtain⟨N3,G9⟩:=exn (U9*N0 % LL);have N6:N3<LL:=by rw[G9];exact mLL _
 have bU11:N3<2^256:=Nat.lt_trans N6 J5k;have R1:=Lib.hid G9;clear G9;obtain⟨μ,M0⟩:=exn ((U6+N3) % LL);have R5:μ<LL:=by rw[M0];exact mLL _
 have bU12:μ<2^256:=Nat.lt_trans R5 J5k;have R3:=Lib.hid M0;clear M0;obtain⟨κ,G8⟩:=exn (enc (pm h U1));have Z3:κ<2^256:=by rw[G8];exact Q19 _
 have S3:=Lib.hid G8;clear G8;intro w hG hsl;have Q8:=hsl;have D:Off [] w w:=Off.refl _ _
 go_enter Tryz.func81,Tryz.ntmps81
 go_upto_region 0 with fail;refine wp_region_lit ?_;refine Ln ?_ (z:=J0 .u8 32 (J5 S)) (t:=23);intro K9 W1 J3q hO h_;replace Q8:=Sl.off Q8 hO f0;replace D:=D.o hO;have U:=h_;clear hO h_ J3q;refine Ln ?_ (z:=J0 .u8 80 (J5 0)) (t:=40);intro G0 W2 S5 hO h_;have Q5l:=fbn D S5;replace U:=U.o hO;replace Q8:=Sl.off Q8 hO f0;replace D:=D.o hO;have G:=h_;clear hO h_ S5;refine Lw ?_ (v:=.int .i64 0);refine J6 ?_;go_upto_region 1 with fail;refine wp_region_lit ?_;refine L0A ?_ U;refine Lr ?_ (Q7q hd hb X3.out V7.out M1.out W2 (GA_ext hG D.ext));intro W3 hO;replace U:=U.o hO;replace G:=G.o hO;replace Q8:=Sl.off Q8 hO f0;replace D:=D.o hO;clear hO;refine LnP ?_ (z:=s3 0 0 0) (t:=131) (cells:=s3 U1 U2 U3) (hi:=by rw[J1n];kernel_rfl) (hs:=by first|rw[J1n,J1n]|rw[J1n]|kernel_rfl) (h1:=by exact Q9p);intro θ W5 J89 hO h_;replace U:=U.o hO;replace G:=G.o hO;replace Q8:=Sl.off Q8 hO f0;replace D:=D.o hO;have J:=h_;clear hO h_ J89;refine J6 ?_;go_upto_region 2 with fail;refine wp_region_lit ?_;refine Lv ?_;refine J7i (vs:=(J0 .u8 32 (J5 U3)).toList) (by rfl) rfl rfl J (Z86 V5z) (by kernel_rfl) (by kernel_rfl) ?_
 (try simp only[Act.put,mA,mB,mC])
 refine Lv ?_;refine Lr ?_ (hcl v W5 (GA_ext hG D.ext) Q8);intro W6 hO;replace U:=U.o hO;replace G:=G.o hO;replace J:=J.o hO;replace Q8:=Sl.off Q8 hO f0;replace D:=D.o hO;clear hO;refine Lv ?_;refine Lv ?_;refine Lw ?_ (v:=.int .i64 0);refine LnP ?_ (z:=p4 0 0 0 0) (t:=154) (cells:=p4 hx hy hz ht);intro ξ W8 V6s hO h_;replace U:=U.o hO;replace G:=G.o hO;replace J:=J.o hO;replace Q8:=Sl.off Q8 hO f0;replace D:=D.o hO;have T:=h_;clear hO h_ V6s;refine Lw ?_ (v:=.int .i64 0);refine J6 ?_;go_upto_region 5 with fail;refine wp_region_lit ?_;refine L0 ?_ T;refine Lv ?_;refine J7i (vs:=(J0 .u8 32 (J5 U1)).toList) (by rfl) rfl rfl J (Z86 V5x) (by kernel_rfl) (by kernel_rfl) ?_
 (try simp only[Act.put,mA,mB,mC])
 refine Lr ?_ (c6 W8 (GA_ext hG D.ext).1);intro W9 hO;replace U:=U.o hO;replace G:=G.o hO;replace J:=J.o hO;replace T:=T.o hO;replace Q8:=Sl.off Q8 hO f0;replace D:=D.o hO;clear hO;refine LnP ?_ (z:=p4 0 0 0 0) (t:=154) (cells:=p4 x1 y2 z3 t4);intro ν W11 Z43 hO h_;replace U:=U.o hO;replace G:=G.o hO;replace J:=J.o hO;replace T:=T.o hO;replace Q8:=Sl.off Q8 hO f0;replace D:=D.o hO;have M:=h_;clear hO h_ Z43;refine J6 ?_;go_upto_region 6 with fail;refine wp_region_lit ?_;refine L0 ?_ T;refine Lr ?_ (Q68 hr.rw T5.out W11 (GA_ext hG D.ext).1);intro W12 hO;replace U:=U.o hO;replace G:=G.o hO;replace J:=J.o hO;replace T:=T.o hO;replace M:=M.o hO;replace Q8:=Sl.off Q8 hO f0;replace D:=D.o hO;clear hO;refine LnA ?_ (z:=J0 .u8 32 (J5 0)) (t:=23) (k:=.u8) (n:=32) (f:=J5 U4);intro ρ W14 K22 hO h_;replace U:=U.o hO;replace G:=G.o hO;replace J:=J.o hO;replace T:=T.o hO;replace M:=M.o hO;replace Q8:=Sl.off Q8 hO f0;replace D:=D.o hO;have X:=h_;clear hO h_ K22;refine J6 ?_;go_upto_region 7 with fail;refine Q71 (.q 0 (.q 1 (.q 2 (.b 3 (.b 4 (.e 5 (.e 6 .z)) 5 (.e 4 (.e 6 .z))) 5 (.e 3 (.e 4 (.e 6 .z))))))) (fun W=>True) (fun a0 a_ wr=> ∃(ζ:Nat)(ε:Nat),a_=Y28 a0 [(35,.pointer (some ⟨θ,32,none⟩)),(36,.slice (some ⟨θ,32,none⟩) 32 32),(37,.slice (some ⟨ρ,0,none⟩) 32 32),(38,.slice (some ⟨ζ,0,none⟩) 2 2),(39,.agg (J0 .u8 64 (J5 U5))),(11,.pointer (some ⟨ε,0,none⟩))]∧Off [] w wr∧Blk wr K9 (J0 .u8 32 (J5 S)) 23∧Blk wr G0 (J0 .u8 80 (J5 0)) 40∧Blk wr θ (s3 U1 U2 U3) 131∧Blk wr ξ (p4 hx hy hz ht) 154∧Blk wr ν (p4 x1 y2 z3 t4) 154∧Blk wr ρ (J0 .u8 32 (J5 U4)) 23∧Blk wr ζ #[.slice (some ⟨θ,32,none⟩) 32 32,.slice (some ⟨ρ,0,none⟩) 32 32] 22∧Blk wr ε (J0 .u8 64 (J5 U5)) 89∧Sl wr v L∧Fb ζ w.heap.size []∧K9≠ζ∧G0≠ζ∧θ≠ζ∧ξ≠ζ∧ν≠ζ∧ρ≠ζ∧(sb v L)≠some ζ∧Fb ε w.heap.size []∧K9≠ε∧G0≠ε∧θ≠ε∧ξ≠ε∧ν≠ε∧ρ≠ε∧ζ≠ε∧(sb v L)≠some ε) (by kernel_rfl) (by kernel_rfl) ?_ ?_
 ·
  intro W15 hO;replace U:=U.o hO;replace G:=G.o hO;replace J:=J.o hO;replace T:=T.o hO;replace M:=M.o hO;replace X:=X.o hO;replace Q8:=Sl.off Q8 hO f0;replace D:=D.o hO;clear hO;refine⟨trivial,?_⟩
  (refine J4h (v:=?_) rfl (by rfl) (fun W hS=> ?_) ?_;rotate_left 1;(focus (go_simp;first|done|with_reducible rfl)))
  (try simp only[Act.put,mA,mB,mC])
  refine J4h (v:=.slice (some ⟨θ,32,none⟩) 32 32) rfl (by rfl) (fun W hS=>by first|rfl|(go_simp;done)|(go_simp;with_reducible rfl)) ?_
  (try simp only[Act.put,mA,mB,mC])
  refine J4h (v:=.slice (some ⟨ρ,0,none⟩) 32 32) rfl (by rfl) (fun W hS=>by first|rfl|(go_simp;done)|(go_simp;with_reducible rfl)) ?_
  (try simp only[Act.put,mA,mB,mC])
  refine Y2a rfl rfl ?_ ?_
  ·
   refine LnS ?_ (z:= #[.slice (some ⟨θ,32,none⟩) 32 32,.slice (some ⟨ρ,0,none⟩) 32 32]) (t:=22) (n:=2) (c:=2) (hr:=by exact K6 [.slice (some ⟨θ,32,none⟩) 32 32,.slice (some ⟨ρ,0,none⟩) 32 32] rfl rfl (vsc (rfl) (vsc (rfl) vs0)) Tryz.underlying168 (by kernel_rfl) (by kernel_rfl) rfl (by decide) (by decide));intro M3 Y2 η hO h_;have D6:=bn U η;have G5:=bn G η;have G2:=bn J η;have D3:=bn T η;have D8:=bn M η;have D7:=bn X η;have D4:=J4l (Sl.lt Q8) η;have D5:=fbn D η;replace U:=U.o hO;replace G:=G.o hO;replace J:=J.o hO;replace T:=T.o hO;replace M:=M.o hO;replace X:=X.o hO;replace Q8:=Sl.off Q8 hO f0;replace D:=D.o hO;have Y:=h_;clear hO h_ η;refine J2u (fun W=>True) (fun W hS=>trivial) trivial ?_;refine Y2a rfl rfl ?_ ?_
   ·
    refine Lr ?_ (J8e D1.out [lb 32 U2,lb 32 U4] (some ⟨M3,0,none⟩) 2 (by simp only[List.flatten_cons,List.flatten_nil,List.append_nil,List.nil_append,List.append_assoc,List.cons_append]) (by first|omega|(simp only[List.length_append,List.length_cons,List.length_nil,Q0];omega)) (by simp) Y2 (J1v Y (pvc (Z6 (V:=U2) (n:=32) (off:=32) J V5y (by decide) (by decide)) (pvc (Z6 (V:=U4) (n:=32) (off:=0) X ap0 (by decide) (by decide)) pv0))) (GA_ext hG D.ext).2.1);intro M4 hO;replace U:=U.o hO;replace G:=G.o hO;replace J:=J.o hO;replace T:=T.o hO;replace M:=M.o hO;replace X:=X.o hO;replace Y:=Y.o hO;replace Q8:=Sl.off Q8 hO f0;replace D:=D.o hO;clear hO;refine J2u (fun W=>True) (fun W hS=>trivial) trivial ?_;refine J3x rfl ?_;refine Ln ?_ (z:=J0 .u8 64 (J5 0)) (t:=89);intro T8 Y3 β hO h_;have τ:=bn U β;have Θ:=bn G β;have Γ:=bn J β;have φ:=bn T β;have ψ:=bn M β;have χ:=bn X β;have Ω:=bn Y β;have Δ:=J4l (Sl.lt Q8) β;have σ:=fbn D β;replace U:=U.o hO;replace G:=G.o hO;replace J:=J.o hO;replace T:=T.o hO;replace M:=M.o hO;replace X:=X.o hO;replace Y:=Y.o hO;replace Q8:=Sl.off Q8 hO f0;replace D:=D.o hO;have α:=h_;clear hO h_ β;refine J2u (fun W=>True) (fun W hS=>trivial) trivial ?_;refine J3x rfl ?_;refine LpA ?_ α (k:=.u8) (n:=64) (f:=J5 U5);intro G4 hO h_;replace α:Blk G4 T8 (J0 .u8 64 (J5 U5)) 89:=h_;clear h_;replace U:=U.p hO τ;replace G:=G.p hO Θ;replace J:=J.p hO Γ;replace T:=T.p hO φ;replace M:=M.p hO ψ;replace X:=X.p hO χ;replace Y:=Y.p hO Ω;replace Q8:=Sl.off Q8 hO (f1 Δ);replace D:=D.p hO σ;clear hO;refine J2u (fun W=>True) (fun W hS=>trivial) trivial ?_;refine Z12 ?_;exact⟨M3,T8,(by(simp only[Y28,List.foldl_cons,List.foldl_nil,Act.put,mA,mB,mC]<;>rfl)),D,U,G,J,T,M,X,Y,α,Q8,D5,D6,G5,G2,D3,D8,D7,D4,σ,τ,Θ,Γ,φ,ψ,χ,Ω,Δ⟩
   refine Ln ?_ (z:=J0 .u8 64 (J5 0)) (t:=89);intro S9 M4 β hO h_;have τ:=bn U β;have Θ:=bn G β;have Γ:=bn J β;have φ:=bn T β;have ψ:=bn M β;have χ:=bn X β;have Ω:=bn Y β;have Δ:=J4l (Sl.lt Q8) β;have σ:=fbn D β;replace U:=U.o hO;replace G:=G.o hO;replace J:=J.o hO;replace T:=T.o hO;replace M:=M.o hO;replace X:=X.o hO;replace Y:=Y.o hO;replace Q8:=Sl.off Q8 hO f0;replace D:=D.o hO;have α:=h_;clear hO h_ β;refine J2u (fun W=>True) (fun W hS=>trivial) trivial ?_;refine J3x rfl ?_;refine Lr ?_ (J8e D1.out [lb 32 U2,lb 32 U4] (some ⟨M3,0,none⟩) 2 (by simp only[List.flatten_cons,List.flatten_nil,List.append_nil,List.nil_append,List.append_assoc,List.cons_append]) (by first|omega|(simp only[List.length_append,List.length_cons,List.length_nil,Q0];omega)) (by simp) M4 (J1v Y (pvc (Z6 (V:=U2) (n:=32) (off:=32) J V5y (by decide) (by decide)) (pvc (Z6 (V:=U4) (n:=32) (off:=0) X ap0 (by decide) (by decide)) pv0))) (GA_ext hG D.ext).2.1);intro Y3 hO;replace U:=U.o hO;replace G:=G.o hO;replace J:=J.o hO;replace T:=T.o hO;replace M:=M.o hO;replace X:=X.o hO;replace Y:=Y.o hO;replace α:=α.o hO;replace Q8:=Sl.off Q8 hO f0;replace D:=D.o hO;clear hO;refine J2u (fun W=>True) (fun W hS=>trivial) trivial ?_;refine J3x rfl ?_;refine LpA ?_ α (k:=.u8) (n:=64) (f:=J5 U5);intro G4 hO h_;replace α:Blk G4 S9 (J0 .u8 64 (J5 U5)) 89:=h_;clear h_;replace U:=U.p hO τ;replace G:=G.p hO Θ;replace J:=J.p hO Γ;replace T:=T.p hO φ;replace M:=M.p hO ψ;replace X:=X.p hO χ;replace Y:=Y.p hO Ω;replace Q8:=Sl.off Q8 hO (f1 Δ);replace D:=D.p hO σ;clear hO;refine J2u (fun W=>True) (fun W hS=>trivial) trivial ?_;refine Z12 ?_;exact⟨M3,S9,(by(simp only[Y28,List.foldl_cons,List.foldl_nil,Act.put,mA,mB,mC]<;>rfl)),D,U,G,J,T,M,X,Y,α,Q8,D5,D6,G5,G2,D3,D8,D7,D4,σ,τ,Θ,Γ,φ,ψ,χ,Ω,Δ⟩
  refine Ln ?_ (z:=J0 .u8 64 (J5 0)) (t:=89);intro Z1 Y2 β hO h_;have τ:=bn U β;have Θ:=bn G β;have Γ:=bn J β;have φ:=bn T β;have ψ:=bn M β;have χ:=bn X β;have Δ:=J4l (Sl.lt Q8) β;have σ:=fbn D β;replace U:=U.o hO;replace G:=G.o hO;replace J:=J.o hO;replace T:=T.o hO;replace M:=M.o hO;replace X:=X.o hO;replace Q8:=Sl.off Q8 hO f0;replace D:=D.o hO;have α:=h_;clear hO h_ β;refine J2u (fun W=>True) (fun W hS=>trivial) trivial ?_;refine J3x rfl ?_;refine LnS ?_ (z:= #[.slice (some ⟨θ,32,none⟩) 32 32,.slice (some ⟨ρ,0,none⟩) 32 32]) (t:=22) (n:=2) (c:=2) (hr:=by exact K6 [.slice (some ⟨θ,32,none⟩) 32 32,.slice (some ⟨ρ,0,none⟩) 32 32] rfl rfl (vsc (rfl) (vsc (rfl) vs0)) Tryz.underlying168 (by kernel_rfl) (by kernel_rfl) rfl (by decide) (by decide));intro Y7 M4 η hO h_;have D6:=bn U η;have G5:=bn G η;have G2:=bn J η;have D3:=bn T η;have D8:=bn M η;have D7:=bn X η;have Ξ:=bn α η;have D4:=J4l (Sl.lt Q8) η;have D5:=fbn D η;replace U:=U.o hO;replace G:=G.o hO;replace J:=J.o hO;replace T:=T.o hO;replace M:=M.o hO;replace X:=X.o hO;replace α:=α.o hO;replace Q8:=Sl.off Q8 hO f0;replace D:=D.o hO;have Y:=h_;clear hO h_ η;refine J2u (fun W=>True) (fun W hS=>trivial) trivial ?_;refine J3x rfl ?_;refine Lr ?_ (J8e D1.out [lb 32 U2,lb 32 U4] (some ⟨Y7,0,none⟩) 2 (by simp only[List.flatten_cons,List.flatten_nil,List.append_nil,List.nil_append,List.append_assoc,List.cons_append]) (by first|omega|(simp only[List.length_append,List.length_cons,List.length_nil,Q0];omega)) (by simp) M4 (J1v Y (pvc (Z6 (V:=U2) (n:=32) (off:=32) J V5y (by decide) (by decide)) (pvc (Z6 (V:=U4) (n:=32) (off:=0) X ap0 (by decide) (by decide)) pv0))) (GA_ext hG D.ext).2.1);intro Y3 hO;replace U:=U.o hO;replace G:=G.o hO;replace J:=J.o hO;replace T:=T.o hO;replace M:=M.o hO;replace X:=X.o hO;replace α:=α.o hO;replace Y:=Y.o hO;replace Q8:=Sl.off Q8 hO f0;replace D:=D.o hO;clear hO;refine J2u (fun W=>True) (fun W hS=>trivial) trivial ?_;refine J3x rfl ?_;refine LpA ?_ α (k:=.u8) (n:=64) (f:=J5 U5);intro G4 hO h_;replace α:Blk G4 Z1 (J0 .u8 64 (J5 U5)) 89:=h_;clear h_;replace U:=U.p hO τ;replace G:=G.p hO Θ;replace J:=J.p hO Γ;replace T:=T.p hO φ;replace M:=M.p hO ψ;replace X:=X.p hO χ;replace Y:=Y.p hO Ξ.symm;replace Q8:=Sl.off Q8 hO (f1 Δ);replace D:=D.p hO σ;clear hO;refine J2u (fun W=>True) (fun W hS=>trivial) trivial ?_;refine Z12 ?_;exact⟨Y7,Z1,(by(simp only[Y28,List.foldl_cons,List.foldl_nil,Act.put,mA,mB,mC]<;>rfl)),D,U,G,J,T,M,X,Y,α,Q8,D5,D6,G5,G2,D3,D8,D7,D4,σ,τ,Θ,Γ,φ,ψ,χ,Ξ.symm,Δ⟩
 rintro _ W20 ⟨ζ,ε,rfl,D,U,G,J,T,M,X,Y,α,Q8,D5,D6,G5,G2,D3,D8,D7,D4,σ,τ,Θ,Γ,φ,ψ,χ,Ω,Δ⟩;simp only[Y28,List.foldl_cons,List.foldl_nil]
 (try simp only[Act.put,mA,mB,mC])
 go_upto_region 8 with fail;refine wp_region_lit ?_;refine Lw ?_ (v:=.slice (some ⟨ε,0,none⟩) 64 64) (hv:=by first|rfl|(go_simp;done)|(go_simp;with_reducible rfl));refine Lr ?_ (Y40 T6.out (n:=64) (off:=0) α ap0 (by decide) (by rw[D1.out];exact Y4i _) (GA_ext hG D.ext).2.2.1);intro W21 hO;replace G:=G.o hO;replace J:=J.o hO;replace T:=T.o hO;replace M:=M.o hO;replace D:=D.o hO;clear hO;refine LnP ?_ (z:=c4 0) (t:=157) (cells:=c4 U6);intro Ψ W23 K23 hO h_;replace G:=G.o hO;replace J:=J.o hO;replace T:=T.o hO;replace M:=M.o hO;replace D:=D.o hO;have Z:=h_;clear hO h_ K23;refine J6 ?_;go_upto_region 9 with fail;refine J5s (.q 0 (.q 1 (.q 2 (.q 3 (.q 5 (.q 8 (.q 9 (.e 4 (.e 6 (.e 7 (.e 10 (.e 11 (.e 12 (.e 13 (.q 14 .z))))))))))))))) (fun W=>(Blk W θ (s3 U1 U2 U3) 131)∧(Blk W ξ (p4 hx hy hz ht) 154)∧(Blk W ν (p4 x1 y2 z3 t4) 154)∧(Blk W Ψ (c4 U6) 157)) (by kernel_rfl) (by kernel_rfl) ?_;intro W24 hO;replace G:=G.o hO;replace J:=J.o hO;replace T:=T.o hO;replace M:=M.o hO;replace Z:=Z.o hO;replace D:=D.o hO;clear hO;refine⟨⟨J,T,M,Z⟩,?_⟩
 (refine J4h (v:=?_) rfl (by rfl) (fun W hS=> ?_) ?_;rotate_left 1;(focus (go_simp;first|done|with_reducible rfl)))
 (try simp only[Act.put,mA,mB,mC])
 refine J4h (v:=.agg (J0 .u8 32 (J5 U3))) rfl (by rfl) (fun W hS=>by exact(J0i (vs:=(J0 .u8 32 (J5 U3)).toList) rfl rfl (fun i v hv=>by rw[J3 (hS.1)];exact V5z i v (by simpa using hv)) (by kernel_rfl) (by kernel_rfl))) ?_
 (try simp only[Act.put,mA,mB,mC])
 refine J4h (v:=.agg (p4 hx hy hz ht)) rfl (by rfl) (fun W hS=>by exact(J67 rfl rfl (hS.2.1) (by kernel_rfl) (by kernel_rfl))) ?_
 (try simp only[Act.put,mA,mB,mC])
 refine J4h (v:=.agg (p4 x1 y2 z3 t4)) rfl (by rfl) (fun W hS=>by exact(J67 rfl rfl (hS.2.2.1) (by kernel_rfl) (by kernel_rfl))) ?_
 (try simp only[Act.put,mA,mB,mC])
 refine J4h (v:=.agg (c4 U6)) rfl (by rfl) (fun W hS=>by exact(J67 rfl rfl (hS.2.2.2) (by kernel_rfl) (by kernel_rfl))) ?_
 (try simp only[Act.put,mA,mB,mC])
 refine J4h (v:=.agg (p4 hx hy hz ht)) rfl (by rfl) (fun W hS=>by exact(J67 rfl rfl (hS.2.1) (by kernel_rfl) (by kernel_rfl))) ?_
 (try simp only[Act.put,mA,mB,mC])
 refine J4h (v:=.agg (c4 U6)) rfl (by rfl) (fun W hS=>by exact(J67 rfl rfl (hS.2.2.2) (by kernel_rfl) (by kernel_rfl))) ?_
 (try simp only[Act.put,mA,mB,mC])
 refine J3x rfl ?_;refine Lr ?_ (c12 W24 (GA_ext hG D.ext).1);intro W25 hO;replace G:=G.o hO;replace J:=J.o hO;replace T:=T.o hO;replace M:=M.o hO;replace Z:=Z.o hO;replace D:=D.o hO;clear hO;refine J2u (fun W=>(Blk W θ (s3 U1 U2 U3) 131)∧(Blk W ξ (p4 hx hy hz ht) 154)∧(Blk W ν (p4 x1 y2 z3 t4) 154)∧(Blk W Ψ (c4 U6) 157)) (fun W hS=>⟨hS.1,hS.2.1,hS.2.2.1,hS.2.2.2⟩) ⟨J,T,M,Z⟩ ?_;refine J3x rfl ?_;refine Lr ?_ (Q67 D0 W25 (GA_ext hG D.ext).2.2.1);intro W26 hO;replace G:=G.o hO;replace J:=J.o hO;replace T:=T.o hO;replace M:=M.o hO;replace Z:=Z.o hO;replace D:=D.o hO;clear hO;refine J2u (fun W=>(Blk W θ (s3 U1 U2 U3) 131)∧(Blk W ξ (p4 hx hy hz ht) 154)∧(Blk W ν (p4 x1 y2 z3 t4) 154)∧(Blk W Ψ (c4 U6) 157)) (fun W hS=>⟨hS.1,hS.2.1,hS.2.2.1,hS.2.2.2⟩) ⟨J,T,M,Z⟩ ?_;refine J3x rfl ?_;refine Lr ?_ (c18 W26 (GA_ext hG D.ext).1);intro W27 hO;replace G:=G.o hO;replace J:=J.o hO;replace T:=T.o hO;replace M:=M.o hO;replace Z:=Z.o hO;replace D:=D.o hO;clear hO;refine J2u (fun W=>(Blk W θ (s3 U1 U2 U3) 131)∧(Blk W ξ (p4 hx hy hz ht) 154)∧(Blk W ν (p4 x1 y2 z3 t4) 154)∧(Blk W Ψ (c4 U6) 157)) (fun W hS=>⟨hS.1,hS.2.1,hS.2.2.1,hS.2.2.2⟩) ⟨J,T,M,Z⟩ ?_;refine J3x rfl ?_;refine Lr ?_ (Q67 D0 W27 (GA_ext hG D.ext).2.2.1);intro W28 hO;replace G:=G.o hO;replace J:=J.o hO;replace T:=T.o hO;replace M:=M.o hO;replace Z:=Z.o hO;replace D:=D.o hO;clear hO;refine J2u (fun W=>(Blk W θ (s3 U1 U2 U3) 131)∧(Blk W ξ (p4 hx hy hz ht) 154)∧(Blk W ν (p4 x1 y2 z3 t4) 154)∧(Blk W Ψ (c4 U6) 157)) (fun W hS=>⟨hS.1,hS.2.1,hS.2.2.1,hS.2.2.2⟩) ⟨J,T,M,Z⟩ ?_;refine J3x rfl ?_;refine Lr ?_ (c24 W28 (GA_ext hG D.ext).1);intro W29 hO;replace G:=G.o hO;replace J:=J.o hO;replace T:=T.o hO;replace M:=M.o hO;replace Z:=Z.o hO;replace D:=D.o hO;clear hO;refine J2u (fun W=>(Blk W θ (s3 U1 U2 U3) 131)∧(Blk W ξ (p4 hx hy hz ht) 154)∧(Blk W ν (p4 x1 y2 z3 t4) 154)∧(Blk W Ψ (c4 U6) 157)) (fun W hS=>⟨hS.1,hS.2.1,hS.2.2.1,hS.2.2.2⟩) ⟨J,T,M,Z⟩ ?_;refine J3x rfl ?_;refine LnS ?_ (z:=(p4 hx hy hz ht)++(p4 x1 y2 z3 t4)++(p4 x13 y14 z15 t16)++(p4 x19 y20 z21 t22)) (t:=154) (n:=4) (c:=4);intro V6t N9 K24 hO h_;replace G:=G.o hO;replace J:=J.o hO;replace T:=T.o hO;replace M:=M.o hO;replace Z:=Z.o hO;replace D:=D.o hO;have K26:=h_;clear hO h_ K24;refine J2u (fun W=>(Blk W θ (s3 U1 U2 U3) 131)∧(Blk W ξ (p4 hx hy hz ht) 154)∧(Blk W ν (p4 x1 y2 z3 t4) 154)∧(Blk W Ψ (c4 U6) 157)) (fun W hS=>⟨hS.1,hS.2.1,hS.2.2.1,hS.2.2.2⟩) ⟨J,T,M,Z⟩ ?_;refine J3x rfl ?_;refine Z0t (R:=fun v W=> ∃p,v=.slice (some ⟨p,0,none⟩) 16 64∧N9.heap.size≤p∧Off [] N9 W∧Blk W p (J0 .u8 64 (J5 U7)) 89) ((V6m (kn:=kn) hr r5 r17 r23 X0.out V6t N9 (GA_ext hG D.ext) K26).mono fun e W h=>by obtain⟨p,h1,h2⟩:=h;exact⟨_,h1,p,rfl,h2⟩) (by rfl) rfl (by kernel_rfl) rfl ?_
 (try simp only[Act.put,mA,mB,mC])
 rintro _ W31 ⟨Z2,rfl,Z4,hO,h_⟩
 (try simp only[Act.put,mA,mB,mC])
 replace G:=G.o hO;replace J:=J.o hO;replace T:=T.o hO;replace M:=M.o hO;replace Z:=Z.o hO;replace D:=D.o hO;have δ:=h_;clear hO h_ Z4;refine J2u (fun W=>(Blk W θ (s3 U1 U2 U3) 131)∧(Blk W ξ (p4 hx hy hz ht) 154)∧(Blk W ν (p4 x1 y2 z3 t4) 154)∧(Blk W Ψ (c4 U6) 157)) (fun W hS=>⟨hS.1,hS.2.1,hS.2.2.1,hS.2.2.2⟩) ⟨J,T,M,Z⟩ ?_
 (refine J4h (v:=?_) rfl (by rfl) (fun W hS=> ?_) ?_;rotate_left 1;(focus (go_simp;first|done|with_reducible rfl)))
 (try simp only[Act.put,mA,mB,mC])
 refine Z12 ?_;go_upto_region 10 with fail;refine Rx1 9 14 (z:=J0 .u8 32 (J5 0)) (t:=23) ?_;refine Xl ?_ Z;refine Xv ?_;refine Xf ?_ (fun W hW=>Y40 X2.out (n:=16) (off:=0) (J2 δ hW) (h16 R2.out) (by decide) X1 (GA_ext (GA_ext hG D.ext) hW).2.2.1);refine Xv ?_;refine Xw ?_ (v:=.slice (some ⟨θ,0,none⟩) 32 32);refine Xf ?_ (fun W hW=>Y40 N2.out (n:=32) (off:=0) (J2 J hW) V5x (by decide) Y1 (GA_ext (GA_ext hG D.ext) hW).2.2.1);refine Xf ?_ (fun W hW=>V61 R1.out (Nat.lt_trans T2 J5k) (Nat.lt_trans R7 J5k) W (GA_ext (GA_ext hG D.ext) hW).2.2.1);refine Xf ?_ (fun W hW=>V62 R3.out (Nat.lt_trans D0 J5k) (Nat.lt_trans N6 J5k) W (GA_ext (GA_ext hG D.ext) hW).2.2.1);refine Xf ?_ (fun W hW=>Q67 R5 W (GA_ext (GA_ext hG D.ext) hW).2.2.1);refine XN ?_;intro M5 W32 D9 hE M6;have hO:=J08 hE;have Z8x:=bn G D9;have Z8y:=bn M D9;have Z8z:=bn δ D9;have V6u:=fbn D D9;replace G:=G.o hO;replace M:=M.o hO;replace δ:=δ.o hO;replace D:=D.o hO;clear hO hE D9;have γ:Blk W32 M5 (J0 .u8 32 (J5 0)) 23:=M6;clear M6;refine LpA ?_ γ (k:=.u8) (n:=32) (f:=J5 μ);intro Y4 hO h_;replace γ:Blk Y4 M5 (J0 .u8 32 (J5 μ)) 23:=h_;clear h_;replace G:=G.p hO Z8x;replace M:=M.p hO Z8y;replace δ:=δ.p hO Z8z;replace D:=D.p hO V6u;clear hO;refine LN ?_;go_upto_region 11 with fail;refine wp_region_lit ?_;refine L0 ?_ M;refine Lr ?_ (Q68 r5.rw S3.out Y4 (GA_ext hG D.ext).1);intro W34 hO;replace G:=G.o hO;replace δ:=δ.o hO;replace γ:=γ.o hO;replace D:=D.o hO;clear hO;refine LnA ?_ (z:=J0 .u8 32 (J5 0)) (t:=23) (k:=.u8) (n:=32) (f:=J5 κ);intro V6v W36 K27 hO h_;replace G:=G.o hO;replace δ:=δ.o hO;replace γ:=γ.o hO;replace D:=D.o hO;have ω:=h_;clear hO h_ K27;refine J6 ?_;go_upto_region 12 with fail;refine J5s (.q 1 (.q 3 (.q 5 (.e 0 (.e 2 (.e 4 (.e 6 (.q 7 (.q 8 (.e 9 (.q 10 .z))))))))))) (fun W=>True) (by kernel_rfl) (by kernel_rfl) ?_;intro W37 hO;replace G:=G.o hO;replace δ:=δ.o hO;replace γ:=γ.o hO;replace ω:=ω.o hO;replace D:=D.o hO;clear hO;refine⟨trivial,?_⟩;refine J4h (v:=.slice (some ⟨V6v,0,none⟩) 32 32) rfl (by rfl) (fun W hS=>by first|rfl|(go_simp;done)|(go_simp;with_reducible rfl)) ?_
 (try simp only[Act.put,mA,mB,mC])
 (refine J4h (v:=?_) rfl (by rfl) (fun W hS=> ?_) ?_;rotate_left 1;(focus (go_simp;first|done|with_reducible rfl)))
 (try simp only[Act.put,mA,mB,mC])
 refine J4h (v:=.slice (some ⟨M5,0,none⟩) 32 32) rfl (by rfl) (fun W hS=>by first|rfl|(go_simp;done)|(go_simp;with_reducible rfl)) ?_
 (try simp only[Act.put,mA,mB,mC])
 refine J3x rfl ?_;refine LnS ?_ (z:= #[]) (t:=5) (n:=0) (c:=0);intro G1 W38 G3 hO h_;have S7:Value.ownBlock (.slice (some ⟨G1,0,none⟩) 0 0)≠some G0:=obn G G3;have Z90:Value.ownBlock (.slice (some ⟨G1,0,none⟩) 0 0)≠some Z2:=obn δ G3;have T9:Value.ownBlock (.slice (some ⟨G1,0,none⟩) 0 0)≠some M5:=obn γ G3;have T1:Fr (Value.ownBlock (.slice (some ⟨G1,0,none⟩) 0 0)) w.heap.size []:=frn D G3;replace G:=G.o hO;replace δ:=δ.o hO;replace γ:=γ.o hO;replace ω:=ω.o hO;replace D:=D.o hO;have V6w:Own W38 (.slice (some ⟨G1,0,none⟩) 0 0) []:=J2t h_ (by rfl) (by show 0≤maxLen;decide);clear hO h_ G3;refine J2u (fun W=>True) (fun W hS=>trivial) trivial ?_;refine J3x rfl ?_;refine J0n (xs:=[]) (ys:=(lb 32 κ)) (by rfl) rfl rfl rfl V6w (Z6 (V:=κ) (n:=32) (off:=0) ω ap0 (by decide) (by decide)) (by first|omega|(simp only[List.length_append,List.length_cons,List.length_nil,Q0];omega)) ?_
 (try simp only[Act.put,mA,mB,mC])
 intro K4m W39 V6x hO M2 M7;clear M7;have S6:=J3h M2 S7 (Q6 G);have Z48:=J3h M2 T9 (Q6 γ);have T7:=J4m M2 T1 D.size;replace G:=J0v G hO (nmo S7);replace δ:=J0v δ hO (nmo Z90);replace γ:=J0v γ hO (nmo T9);replace D:=D.step hO (io T1);clear hO M2;refine J2u (fun W=>True) (fun W hS=>trivial) trivial ?_;refine J3x rfl ?_;refine J0n (xs:=([]++(lb 32 κ))) (ys:=(lb 16 U8)) (by rfl) rfl rfl rfl V6x (Z6 (V:=U8) (n:=16) (off:=0) δ (h16 R2.out) (by decide) (by decide)) (by first|omega|(simp only[List.length_append,List.length_cons,List.length_nil,Q0];omega)) ?_
 (try simp only[Act.put,mA,mB,mC])
 intro K4n W40 V6y hO R0 M9;clear M9;have S4:=J3h R0 S6 (Q6 G);have V6z:=J4m R0 T7 D.size;replace G:=J0v G hO (nmo S6);replace γ:=J0v γ hO (nmo Z48);replace D:=D.step hO (io T7);clear hO R0;refine J2u (fun W=>True) (fun W hS=>trivial) trivial ?_;refine J3x rfl ?_;refine J0n (xs:=(([]++(lb 32 κ))++(lb 16 U8))) (ys:=(lb 32 μ)) (by rfl) rfl rfl rfl V6y (Z6 (V:=μ) (n:=32) (off:=0) γ ap0 (by decide) (by decide)) (by first|omega|(simp only[List.length_append,List.length_cons,List.length_nil,Q0];omega)) ?_
 (try simp only[Act.put,mA,mB,mC])
 intro R9 W41 G6 hO X4 M8;clear M8;have Z91:=J3h X4 S4 (Q6 G);replace G:=J0v G hO (nmo S4);replace D:=D.step hO (io V6z);clear hO X4;refine J2u (fun W=>(Own W R9 ((([]++(lb 32 κ))++(lb 16 U8))++(lb 32 μ)))) (fun W hS=>trivial) G6 ?_;have R6:((([]++(lb 32 κ))++(lb 16 U8))++(lb 32 μ)).length=80:=by simp only[List.length_append,Q0,List.length_nil]
 obtain⟨gz,cz,curz,ez,-,-⟩:=Z1k G6 (by rw[R6];decide);rw[R6] at ez;refine J4h (v:=.pointer (some ⟨gz,0,none⟩)) rfl (by rfl) (fun W hS=>by exact(Y8z (n:=80) rfl (by show R9=_;exact ez) Tryz.underlying40)) ?_
 (try simp only[Act.put,mA,mB,mC])
 refine J4h (v:=.agg (J0 .u8 80 (J5 (κ+2^256*(U8+J40*μ))))) rfl (by rfl) (fun W hS=>by exact(J0i (vs:=(J0 .u8 80 (J5 (κ+2^256*(U8+J40*μ)))).toList) rfl rfl (V63 (hS) ez R6 (by decide) (by rw[List.nil_append];exact Y4n Z3 X1)) (by kernel_rfl) (by rw[Array.length_toList,J1];kernel_rfl))) ?_
 (try simp only[Act.put,mA,mB,mC])
 refine J3x rfl ?_;refine LpA ?_ G (k:=.u8) (n:=80) (f:=J5 (κ+2^256*(U8+J40*μ)));intro W42 hO h_;replace G:Blk W42 G0 (J0 .u8 80 (J5 (κ+2^256*(U8+J40*μ)))) 40:=h_;clear h_;replace G6:=Own.off G6 hO (f1 Z91);replace D:=D.p hO Q5l;clear hO;refine J2u (fun W=>(Own W R9 ((([]++(lb 32 κ))++(lb 16 U8))++(lb 32 μ)))) (fun W hS=>hS) G6 ?_
 (refine J4h (v:=?_) rfl (by rfl) (fun W hS=> ?_) ?_;rotate_left 1;(focus (go_simp;first|done|with_reducible rfl)))
 (try simp only[Act.put,mA,mB,mC])
 refine Z12 ?_;go_wp2;rw[show J0 .u8 80 (J5 (κ+2^256*(U8+J40*μ)))=J0 .u8 80 (J5 (vPr S h)) by rw[S3.out,R3.out,R1.out,N2.out,X2.out,R2.out,X0.out,T6.out,D1.out,T5.out,M1.out,V7.out,X3.out];rfl] at G;exact bodyPost_ret (J03 rfl rfl rfl G (by kernel_rfl) (by rw[J1];kernel_rfl)) rfl ⟨rfl,D.ext⟩
theorem Y9a (hd:kn.d)(hb:kn.b)(hc:kn.c)(S:Nat)(v:Value)(L:List UInt8)(hL:L.length≤1099511627776)(hv:vpt (kP S) L=none):
  ∀w,GA kn w→Sl w v L→Calls Tryz.prog 81 #[.agg (J0 .u8 32 (J5 S)),v] w fun e w' =>X5 (.tuple #[.agg (J0 .u8 80 (J5 0)),.int .i64 15]) w w' e:=by
 obtain⟨U1,N⟩:=exn (kN S);have θ:U1<2^256:=by rw[N];exact V1t _
 have Y:=Lib.hid N;clear N;obtain⟨U2,R⟩:=exn (kD S);have ν:U2<2^256:=by rw[R];exact V1u _
 have β:=Lib.hid R;clear R;obtain⟨U3,M⟩:=exn (kP S);have η:U3<2^256:=by rw[M];exact V1v _
 have U:=Lib.hid M;clear M;have α:vpt U3 L=none:=by rw[U.out];exact hv
 intro w hG ε;have Q8:=ε;have D:Off [] w w:=Off.refl _ _
 go_enter Tryz.func81,Tryz.ntmps81
 go_upto_region 0 with fail;refine wp_region_lit ?_;refine Ln ?_ (z:=J0 .u8 32 (J5 S)) (t:=23);intro K9 W1 δ hO h_;replace Q8:=Sl.off Q8 hO f0;replace D:=D.o hO;have J:=h_;clear hO h_ δ;refine Ln ?_ (z:=J0 .u8 80 (J5 0)) (t:=40);intro X W2 T hO h_;have ζ:=fbn D T;replace J:=J.o hO;replace Q8:=Sl.off Q8 hO f0;replace D:=D.o hO;have G:=h_;clear hO h_ T;refine Lw ?_ (v:=.int .i64 0);refine J6 ?_;go_upto_region 1 with fail;refine wp_region_lit ?_;refine L0A ?_ J;refine Lr ?_ (Q7q hd hb Y.out β.out U.out W2 (GA_ext hG D.ext));intro W3 hO;replace G:=G.o hO;replace Q8:=Sl.off Q8 hO f0;replace D:=D.o hO;clear hO;refine LnP ?_ (z:=s3 0 0 0) (t:=131) (cells:=s3 U1 U2 U3) (hi:=by rw[J1n];kernel_rfl) (hs:=by first|rw[J1n,J1n]|rw[J1n]|kernel_rfl) (h1:=by exact Q9p);intro κ W5 γ hO h_;replace G:=G.o hO;replace Q8:=Sl.off Q8 hO f0;replace D:=D.o hO;have V:=h_;clear hO h_ γ;refine J6 ?_;go_upto_region 2 with fail;refine wp_region_lit ?_;refine Lv ?_;refine J7i (vs:=(J0 .u8 32 (J5 U3)).toList) (by rfl) rfl rfl V (Z86 V5z) (by kernel_rfl) (by kernel_rfl) ?_
 (try simp only[Act.put,mA,mB,mC])
 refine Lv ?_;refine Lr ?_ (Y98 (kn:=kn) hc hL α v W5 (GA_ext hG D.ext) Q8);intro W6 hO;replace G:=G.o hO;replace D:=D.o hO;clear hO;refine Lv ?_;refine Lv ?_;refine Lw ?_ (v:=.int .i64 15);refine LnP ?_ (z:=p4 0 0 0 0) (t:=154) (cells:=p4 0 0 0 0);intro μ W8 Z hO h_;replace G:=G.o hO;replace D:=D.o hO;clear hO h_ Z;refine Lw ?_ (v:=.int .i64 15);refine J6 ?_;go_upto_region 4 with fail;refine wp_region_lit ?_;refine Lw ?_ (v:=.agg (J0 .u8 80 (J5 0))) (hv:=by kernel_rfl);refine Lw ?_ (v:=.int .i64 15);refine LpA ?_ G (k:=.u8) (n:=80) (f:=J5 0);intro W9 hO h_;replace G:Blk W9 X (J0 .u8 80 (J5 0)) 40:=h_;clear h_;replace D:=D.p hO ζ;clear hO;refine Lw ?_ (v:=.int .i64 15);refine J6 ?_;go_wp2;exact bodyPost_ret (J03 rfl rfl rfl G (by kernel_rfl) (by rw[J1];kernel_rfl)) rfl ⟨rfl,D.ext⟩
end

section
set_option maxHeartbeats 2000000
attribute [local irreducible] wpList V2
variable {kn : Kn}
open Sc (LL J12)
attribute [local irreducible] hs
def chk (V P:Nat)(h:Pr):Nat:=ch V h (dPt (pG P)) (J1z (pm BP (pN P)) (pm (K16 (dPt V)) (pC P))) (J1z (pm h (pN P)) (pm (K16 (dPt (pG P))) (pC P)))

def K4o (V:Nat)(L:List UInt8)(P:Nat):Nat×Nat:=
  if dOk V=false∨pm (dPt V) 8=p0 then(0,15) else if dOk (pG P)=false∨LL≤pN P then(0,17) else
  match vpt V L with
  |none=>(0,15)
  |some c=>if chk V P (J47 V L c)=pC P then(Y96 P,0) else(0,17)
end

section
set_option maxHeartbeats 2000000
attribute [local irreducible] wpList
open Sc (LL J12)
variable {kn : Kn}
attribute [local irreducible] hs
section
variable {w : World} {o : Oper} {a : Act} {x y z : Operand} {t : TypeId}
end
end

section
set_option maxHeartbeats 2000000
attribute [local irreducible] wpList
open Sc (LL J12)
variable {kn : Kn}
attribute [local irreducible] hs
end

section
open Sc (LL J12)
attribute [local irreducible] hs
theorem K2a (S:Nat)(h:Pr):vC S h<J40:=Nat.mod_lt _ (by decide)
theorem Y53 {E C n:Nat}(hE:E<2^256)(hC:C<J40):pG (E+2^256*(C+J40*n))=E∧pC (E+2^256*(C+J40*n))=C∧pN (E+2^256*(C+J40*n))=n:=by
  refine⟨?_,?_,?_⟩
  · unfold pG;rw[Nat.add_mul_mod_self_left,Nat.mod_eq_of_lt hE]
  · unfold pC;rw[Nat.add_mul_div_left _ _ (Nat.two_pow_pos 256),Nat.div_eq_of_lt hE,Nat.zero_add,Nat.add_mul_mod_self_left,Nat.mod_eq_of_lt hC]
  unfold pN;rw[Nat.add_mul_div_left _ _ (Nat.two_pow_pos 256),Nat.div_eq_of_lt hE,Nat.zero_add,Nat.add_mul_div_left _ _ (by decide),Nat.div_eq_of_lt hC,Nat.zero_add]
theorem vPr_parts {S:Nat}{h:Pr}(hon:OnC h):pG (vPr S h)=enc (pm h (kN S))∧pC (vPr S h)=vC S h∧pN (vPr S h)=vN S h:=Y53 (Q19 _) (K2a S h)
theorem Q9w {a:Pr}{xa ya n x y:Nat}(ha:a=(fp xa,fp ya))(hx:xa<PP)(hy:ya<PP)(hon:OnC (fp xa,fp ya))(hn:n<2^256)
    (h:x*(tmN (xa,ya,1,xa*ya % PP) n 256).2.2.1 % PP=(tmN (xa,ya,1,xa*ya % PP) n 256).1∧y*(tmN (xa,ya,1,xa*ya % PP) n 256).2.2.1 % PP=(tmN (xa,ya,1,xa*ya % PP) n 256).2.1):pm a n=(fp x,fp y):=by
  subst ha;exact Z34 (Z35 (P:=(xa,ya,1,xa*ya % PP)) (Z5h hx hy hon rfl) hn) h.1 h.2
theorem V72 {a:Pr}{x y e:Nat}(ha:a=(fp x,fp y))(hx:x<PP)(hy:y<PP)(he:y+2^255*(x % 2)=e):enc a=e:=by rw[ha,Q4c hx hy,he]
theorem K2b {a:Pr}{x y:Nat}(ha:a=(fp x,fp y))(h:(y % PP==1)=false):¬a=p0:=by
  intro e;rw[ha] at e;have e2:fp y=(1:Fp):=congrArg Prod.snd e;have e3:=congrArg Fin.val e2;rw[Q9i] at e3;have e4:y % PP=1:=e3;rw[e4] at h;cases h
theorem Y54 {V c h Vc xq yq:Nat}{L:List UInt8}{a:Pr}(eh:hs ([3,1]++lb 32 V++L++[u8 c,0])=h)(ec:lo h=Vc)(hx:xq<PP)(hy:yq<PP)(he:yq+2^255*(xq % 2)=Vc)(hon:OnC (fp xq,fp yq))(h8:pm (fp xq,fp yq) 8=a)(hne:¬a=p0):
    candOk V L c=true∧J47 V L c=a:=by
  have e:J61 V L c=enc (fp xq,fp yq):=by unfold J61;rw[eh,ec,Q4c hx hy,he]
  obtain⟨d1,d2⟩:=dec_enc hon;have e8:J47 V L c=a:=by unfold J47;rw[e,d2,h8]
  exact⟨candOk_iff.2 ⟨by rw[e];exact d1,by rw[e8];exact hne⟩,e8⟩
theorem Z4d {S h1 N D P:Nat}(e:hs (lb 32 S)=h1)(eN:clN (lo h1)=N)(eD:hi h1=D)(eP:enc (pm BP N)=P):kN S=N∧kD S=D∧kP S=P:=by
  subst e eN eD eP;exact⟨rfl,rfl,rfl⟩
def qPx:Nat:=26822555233711949854380153315158647482531717314742952720223963642152101436051
def qPy:Nat:=56461774818723834839721450787889437474891852695816614318545467683432985644238
theorem K2c:qPx<PP:=by decide
theorem K2d:qPy<PP:=by decide
theorem K2e:OnC (fp qPx,fp qPy):=by unfold OnC;decide+kernel
def qax:Nat:=47024039051628811779107516702321879712624584126105895814772064878575390995579
def qay:Nat:=36463181788650339775237385953296199005534778670103291544839962084555217917972
theorem K4v:qax<PP:=by decide
theorem K4w:qay<PP:=by decide
theorem K2f:OnC (fp qax,fp qay):=by unfold OnC;decide+kernel
def qbx:Nat:=5347412701449414475638337812612804166351006483222583960086511109711120593916
def qby:Nat:=31454809416705925197151026446448411341732414034120726205309780028097122426136
theorem K2g:qbx<PP:=by decide
theorem K2h:qby<PP:=by decide
theorem V22:OnC (fp qbx,fp qby):=by unfold OnC;decide+kernel
def qAx:Nat:=4469178358068918509625982920184479197551857748499590235157424197441462617855
def qAy:Nat:=16503622182197511828209738090181657542955776088139777616436718276135933772672
def qBx:Nat:=5974376345347396749938987862407457246551996092567368546225745622563519485233
def qBy:Nat:=25507955390308686559427229708500431997880189612436112124872904814129796593346
def qEx:Nat:=15442730981594750838971302459575842918760929366015934280027366898552379046717
def qEy:Nat:=42218610869048474510830178928357113993860933435220319996272949481851902639999
theorem tP:pm BP 41354757114163650016304086911142683682198188400503391378057401993857692208328=(fp qPx,fp qPy):=Q9w (xa:=BX) (ya:=BY) rfl (by decide) (by decide) Y3b (by decide) (by decide+kernel)
theorem tE {a:Pr}(ha:a=(fp qPx,fp qPy)):pm a 8=(fp qEx,fp qEy):=Q9w ha K2c K2d K2e (by decide) (by decide+kernel)
theorem ta {a:Pr}(ha:a=(fp qax,fp qay)):pm a 8=(fp qAx,fp qAy):=Q9w ha K4v K4w K2f (by decide) (by decide+kernel)
theorem tb {a:Pr}(ha:a=(fp qbx,fp qby)):pm a 8=(fp qBx,fp qBy):=Q9w ha K2g K2h V22 (by decide) (by decide+kernel)
theorem sp1:kN 1=41354757114163650016304086911142683682198188400503391378057401993857692208328∧kD 1=74947656346158344409503503793437276329892731540947283120607119044439939905177∧kP 1=114357819437381932551506943292233391401526845028636896338274259687389550464206:=Z4d (h1:=8678345711762074483941435942459349315791744468269612026220829880717679751032992162212105630643471702240689105779349018571374047650718608606628566249376974) (Q8n (by decide+kernel)) (by decide+kernel) (by decide+kernel) (V72 tP K2c K2d (by decide+kernel))
theorem cb:candOk 114357819437381932551506943292233391401526845028636896338274259687389550464206 [98] 0=true∧J47 114357819437381932551506943292233391401526845028636896338274259687389550464206 [98] 0=(fp qBx,fp qBy):=Y54 (h:=616082032838736440229054033691866983738947723987213580315641221012400015752405605581206817103919007263269839956216054564015079766058242509860130319916312) (Vc:=31454809416705925197151026446448411341732414034120726205309780028097122426136) (Q8n (by decide+kernel)) (by decide+kernel) K2g K2h (by decide+kernel) V22 (tb rfl) (K2b rfl (by decide+kernel))
theorem hb_:J47 (kP 1) [98] 0=(fp qBx,fp qBy):=by rw[sp1.2.2];exact cb.2
end

section
attribute [local irreducible] wpList
variable {kn : Kn}
open Sc (LL J12)
attribute [local irreducible] hs
def vprv (S:Nat)(L:List UInt8):Nat×Nat:=match vpt (kP S) L with
  |none=>(0,15)
  |some c=>(vPr S (J47 (kP S) L c),0)
def vsm (P:Nat):Nat×Nat:=if dOk (pG P)=true then(Y96 P,0) else(0,17)
theorem vprv_some {S c:Nat}{L:List UInt8}(h:vpt (kP S) L=some c):vprv S L=(vPr S (J47 (kP S) L c),0):=by unfold vprv;rw[h]
theorem vprv_none {S:Nat}{L:List UInt8}(h:vpt (kP S) L=none):vprv S L=(0,15):=by unfold vprv;rw[h]
theorem candP_on {V c:Nat}{L:List UInt8}(h:candOk V L c=true):OnC (J47 V L c):=pm_on (Y3g (candOk_iff.1 h).1) 8
theorem proveN_c (hd:kn.d)(hb:kn.b)(hc:kn.c){X E S:Nat}{L:List UInt8}(hX:X=(vprv S L).1)(hE:E=(vprv S L).2)(v:Value)(hL:L.length≤1099511627776)(w:World)(hG:GA kn w)(hs:Sl w v L):
    Calls Tryz.prog 81 #[.agg (J0 .u8 32 (J5 S)),v] w fun e w' =>X5 (.tuple #[.agg (J0 .u8 80 (J5 X)),.int .i64 (E:Int)]) w w' e:=by
  subst hX hE;cases h:vpt (kP S) L with
  |none=>rw[vprv_none h];exact Y9a hd hb hc S v L hL h w hG hs
  |some c=>rw[vprv_some h];exact Y99 hd hb hc S c v L hL h rfl w hG hs
theorem vsumN_c (hc:kn.c){X E P:Nat}(hX:X=(vsm P).1)(hE:E=(vsm P).2)(w:World)(hG:GA kn w):
    Calls Tryz.prog 74 #[.agg (J0 .u8 80 (J5 P))] w fun e w' =>X5 (.tuple #[.agg (J0 .u8 64 (J5 X)),.int .i64 (E:Int)]) w w' e:=by
  subst hX hE;unfold vsm;cases h:dOk (pG P)
  · rw[if_neg (by decide)];exact V6o hc h w hG
  rw[if_pos rfl];exact V6p hc h rfl w hG
attribute [local irreducible] vprv K4o

end
end Go.Proofs.YteehbddkcnkhfaaGreatDoor.S8

namespace Go.Proofs.YteehbddkcnkhfaaGreatDoor
section
theorem Q93:∀l:List UInt8,(l.map fun c=>[Value.int .u8 (c.toNat:Int)]).flatten=bs8 l
  |[]=>rfl
  |c::l=>by rw[List.map_cons,List.flatten_cons,Q93 l];rfl
theorem V4t {W:World}{v:Value}{l:List UInt8}(h:Own W v l):Row 5 1 W v (l.map fun c=>[Value.int .u8 (c.toNat:Int)]):=
  ⟨by rw[List.length_map,Q93];exact h,fun e he=>by obtain⟨_,_,rfl⟩:=List.mem_map.1 he;rfl⟩
theorem V4u {W:World}{v:Value}{l:List UInt8}(h:Row 5 1 W v (l.map fun c=>[Value.int .u8 (c.toNat:Int)])):Own W v l:=by
  have h1:=h.1;rw[List.length_map,Q93] at h1;exact h1
theorem Y2s {W:World}{v:Value}{l:List UInt8}(h:Own W v l)(hp:0<l.length):∃g c cur,v=.slice (some ⟨g,0,none⟩) l.length c∧Blk W g cur 5∧cur.toList.take l.length=bs8 l∧l.length≤cur.size:=by
  rcases h.2 with⟨_,h0⟩|⟨g,c,cur,hv,_,hh,hc,_,hs,ht⟩
  · omega
  exact⟨g,c,cur,hv,hh,by rwa [Nat.mul_one] at ht,by omega⟩
theorem Z0d {W:World}{v:Value}{l:List UInt8}{g n c j:Nat}{b:UInt8}(h:Own W v l)(hv:v=.slice (some ⟨g,0,none⟩) n c)(hj:l[j]?=some b):W.cell? ⟨g,0+j,none⟩=some (.int .u8 (b.toNat:Int)):=by
  have G:=(List.getElem?_eq_some_iff.1 hj).1;obtain⟨g',c',D,e,hB,ht,hs⟩:=Y2s h (by omega);rw[hv] at e;injection e with e1 _ _
  injection e1 with e1
  injection e1 with e1
  subst e1;rw[J3 hB,Nat.zero_add,←Array.getElem?_toList,←List.getElem?_take_of_lt (l:=D.toList) G,ht];unfold bs8;rw[List.getElem?_map,hj];rfl
section
variable {ops : Array Oper} {Q : Exit → Act → World → Prop} {w : World} {r : List Oper} {o : Oper} {a a' : Act} {F : List Nat} {H H' : List As} {k : Wk}
theorem MIo (i j:Nat){x y:Operand}{v:Value}{l:List UInt8}{kk:IntKind}{a' :Nat→Act}(hj:j<l.length)(h:∀g c,RowKit.Hid (v=.slice (some ⟨g,0,none⟩) l.length c)→wpM Tryz.prog ops k F w H r (a' g))(hi:H[i]?=some (.o v l):=by exact rfl)(hw:Region.wanted o (yielded ops a.tmps)=true:=by exact rfl)
    (ho:o.op=.indexAddr 22 x y:=by exact rfl) (hx:a.eval x=v:=by exact rfl) (hy:a.eval y=.int kk (j:Int):=by exact rfl)
    (hp:∀g,a.put o.dst (.pointer (some ⟨g,0+j,none⟩))=a' g:=by intro b;first|exact pl (by dsimp only[mB,mC];first|done|exact rfl)|exact pn|exact rfl):wpM Tryz.prog ops k F w H (o::r) a:=by
  intro W hS;obtain⟨g,G,cs,hv,_⟩:=Y2s (hS.own hi) (by omega);have D:∀W,(execOp a.eval o).run Tryz.prog W=.ok (.value (.pointer (some ⟨g,0+j,none⟩))) W:=fun W=>by rw[Q4k hj ho (hx.trans hv) hy,Addr.add_mid]
  cases k with
  |L Q=>exact J2b hw (D W) (by rw[hp];exact h g G (Lib.hid hv) W hS)
  |X E=>exact J3l hw (fun W' _=>D W') (by rw[hp];exact h g G (Lib.hid hv) W hS)
theorem MPo (i:Nat){ty:TypeId}{x y:Operand}{g j n c:Nat}{b:UInt8}{v:Value}{l:List UInt8}(hj:j<l.length)(hv:v=.slice (some ⟨g,0,none⟩) n c)(h:wpM Tryz.prog ops (.L Q) F w H' r a')(hi:H[i]?=some (.o v l):=by exact rfl)(hw:Region.wanted o (yielded ops a.tmps)=true:=by exact rfl)
    (ho:o.op=.store ty x y:=by exact rfl) (hx:a.eval x=.pointer (some ⟨g,0+j,none⟩):=by exact rfl) (hy:a.eval y=.int .u8 (b.toNat:Int):=by exact rfl) (hz:(Tryz.prog.info? ty).map (·.size)=some 1:=by kernel_rfl)
    (hH:H.set i (.o v (l.set j b))=H' :=by dsimp only[sB,sC];first|done|exact rfl) (hp:a.put o.dst undef=a' :=by first|exact pl (by dsimp only[mB,mC];first|done|exact rfl)|exact pn|exact rfl):wpM Tryz.prog ops (.L Q) F w H (o::r) a:=by
  subst hp hH;intro W hS;refine Y2n (j:=j) (q:=0) (e:=[.int .u8 ((l[j]).toNat:Int)]) ⟨rfl,rfl⟩ (V4t (hS.own hi)) hv (by rw[List.getElem?_map,List.getElem?_eq_getElem hj];rfl) (by decide) hw ho (hx.trans (by rw[Nat.zero_add,Nat.mul_one,Nat.add_zero])) hy hz fun W' h1 h2=>h W' (hS.seto hi h2 (V4u ?_) (fun k hk _=>by rw[hk];simp));rw[List.map_set];exact h1
theorem MCo (i:Nat){x y:Operand}{u v:Value}{l m:List UInt8}{a' :Act}(hs:∀W,SH F w W H→Sl W u m)(hm:m.length≤l.length)(hp0:0<m.length)(h:wpM Tryz.prog ops (.L Q) F w H' r a')(hi:H[i]?=some (.o v l):=by exact rfl)(hw:Region.wanted o (yielded ops a.tmps)=true:=by exact rfl)
    (ho:o.op=.call {callee:=.builtin .copy,args:= #[x,y],argTypes:= #[22,22]}:=by exact rfl) (hx:a.eval x=v:=by exact rfl) (hy:a.eval y=u:=by exact rfl)
    (hH:H.set i (.o v (m++l.drop m.length))=H' :=by dsimp only[sB,sC];first|done|exact rfl) (hp:a.put o.dst (goInt m.length)=a' :=by first|exact pl (by dsimp only[mB,mC];first|done|exact rfl)|exact pn|exact rfl):wpM Tryz.prog ops (.L Q) F w H (o::r) a:=by
  subst hp hH;intro W hS;obtain⟨A,cc,rfl,h1,h2,h0,h3⟩:=hs W hS;obtain⟨ad,rfl,_⟩:=h3 0 m[0] (List.getElem?_eq_getElem hp0);have hO:=hS.own hi;rcases hO.2 with⟨_,e0⟩|⟨g,c,D,hv,hb,hB,hc,N,M,ht⟩
  · omega
  rw[Nat.mul_one] at ht M;have R:l.length≤D.size:=by omega
  have G:=run_copy_row (P:=Tryz.prog) W 22 22 o.type 5 g 0 l.length c ad m.length cc D 5 (bs8 m) Tryz.underlying22 Q0c hB (by rw[Y8];exact(Nat.min_eq_left hm).symm) (fun j u hj=>by
    simp only[bs8,List.getElem?_map,Option.map_eq_some_iff] at hj;obtain⟨z,hz,rfl⟩:=hj;obtain⟨S,e,hc⟩:=h3 j z hz;obtain rfl:=Option.some.inj e
    exact hc) (by rw[Y8];omega) (Q4h m)
  have e:(D.toList.take 0++bs8 m++D.toList.drop (0+(bs8 m).length))=bs8 m++D.toList.drop m.length:=by
    rw[List.take_zero,List.nil_append,Nat.zero_add,Y8]
  rw[e] at G;have h4:Blk (W.setRow g (bs8 m++D.toList.drop m.length).toArray) g (bs8 m++D.toList.drop m.length).toArray 5:=K1 hB _;have J:(m++l.drop m.length).length=l.length:=by rw[List.length_append,List.length_drop];omega
  refine J4r hw (v:=goInt m.length) (W:=W.setRow g (bs8 m++D.toList.drop m.length).toArray) ?_ (h _ (hS.seto hi (by rw[hv];exact⟨rfl,rfl,rfl,by simp,fun k _ hk=>setRow_other W g k _ (fun e=>hk (by subst e;show k∈[k];simp))⟩) ⟨by rw[Y8,Nat.mul_one],.inr ⟨g,c,_,by rw[J];exact hv,hb,h4,by rw[J];exact hc,N,?_,?_⟩⟩ (fun k hk _=>by rw[hk];simp)))
  · unfold execOp
    simp only[ho,resolve,invoke,builtin,Sem.run_bind,Sem.run_pure,Result.andThen_ok,List.map_toArray,List.map_cons,List.map_nil,hx,hv,hy,G,Y8]
  · have e3:(bs8 m++D.toList.drop m.length).toArray.size=D.size:=by
      rw[show(bs8 m++D.toList.drop m.length).toArray.size=(bs8 m++D.toList.drop m.length).length from rfl,List.length_append,List.length_drop,Y8,←Array.length_toList (xs:=D)];have:D.toList.length=D.size:=Array.length_toList;omega
    rw[Nat.mul_one,e3];exact M
  rw[Nat.mul_one,J];refine(show((bs8 m++D.toList.drop m.length).toArray.toList).take l.length=bs8 (m++l.drop m.length) from ?_)
  have e4:(bs8 m++D.toList.drop m.length).take l.length=bs8 m++(D.toList.drop m.length).take (l.length-m.length):=by
    rw[List.take_append,Y8,List.take_of_length_le (by rw[Y8];exact hm)]
  have e5:bs8 (m++l.drop m.length)=bs8 m++(bs8 l).drop m.length:=by unfold bs8;rw[List.map_append,List.map_drop]
  refine e4.trans (e5.trans ?_).symm;rw[←ht,List.drop_take]
end
end

section
theorem V9z:fsz []=0:=rfl
theorem V9y (v:Value)(l:List Fd):fsz (.c v::l)=1+fsz l:=rfl
theorem V9x (n X:Nat)(l:List Fd):fsz (.a n X::l)=n+fsz l:=rfl
section
variable {ops : Array Oper} {Q : Exit → Act → World → Prop} {w : World} {r : List Oper} {o : Oper} {a a' : Act} {F : List Nat} {H H' : List As}
end
end
end Go.Proofs.YteehbddkcnkhfaaGreatDoor

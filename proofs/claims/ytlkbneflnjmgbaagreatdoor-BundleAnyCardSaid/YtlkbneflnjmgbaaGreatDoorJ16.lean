/- Contracts and plain laws for bundleAny_holds. Conditions: the tables hold their numbers. -/
import Derived.Test.YtlkbneflnjmgbaaGreatDoorJ15
import Derived.Test.YtlkbneflnjmgbaaGreatDoorCards
import Derived.Test.YtlkbneflnjmgbaaGreatDoorTie
open Go.RowKit
set_option maxRecDepth 100000
set_option linter.unusedSimpArgs false
set_option linter.unusedVariables false
namespace Go.Proofs.YtlkbneflnjmgbaaGreatDoor
section
set_option maxHeartbeats 1500000
attribute [local irreducible] wpList Z6 wpX
def GT (hr:Prop)(w:World):Prop:=GS4 w∧(hr→GR4 w)
theorem J0y {q:Prop}{w W:World}(h:GT q w)(e:Ext w W):GT q W:=⟨J23 h.1 e,fun x=>Y6d (h.2 x) e⟩
def db (d:Int):List UInt8:=[UInt8.ofNat (d / 256 % 256).toNat,UInt8.ofNat (d % 256).toNat]
theorem dbl (d:Int):(db d).length=2:=rfl
theorem Z1e {x:Int}(h0:0≤x)(h1:x<256):((UInt8.ofNat x.toNat).toNat:Int)=x:=by rw[UInt8.toNat_ofNat',Nat.mod_eq_of_lt (by omega)];omega
theorem K1o (d:Int):IntKind.wrap .u8 (d / 256)=((UInt8.ofNat (d / 256 % 256).toNat).toNat:Int):=by rw[Z1e (by omega) (by omega),IntKind.wrap_u8]
theorem K1p (d:Int):IntKind.wrap .u8 d=((UInt8.ofNat (d % 256).toNat).toNat:Int):=by rw[Z1e (by omega) (by omega),IntKind.wrap_u8]
def sE:Nat:=hs4 [2]
def sL (k v:Nat):Nat:=hs4 ([0]++lb 32 k++lb 32 v)
def sN (d:Int)(l r:Nat):Nat:=hs4 ([1]++db d++lb 32 l++lb 32 r)
theorem J9l {H:Nat}{F:List UInt8}(hH:H=hs4 F)(ps:List (List UInt8))(A:Option Addr)(c:Nat)(hF:ps.flatten=F)(hlen:F.length≤70368744177664)(hpn:ps.length≤9223372036854775000)(w:World)(hps:∀i l,ps[i]?=some l→∃ad u,A=some ad∧w.cell? (ad.add i)=some u∧Sl w u l)(hG:GS4 w):
  Calls Tryz.prog 74 #[.slice A ps.length c] w fun e w' =>Ret (.agg (J0 .u8 32 (J7 H))) w w' e:=by
 rw[hH,←Z9n];exact V6w ps A c F hF hlen hpn w hps hG
attribute [local irreducible] hs4

theorem Y9u {q:Prop}(w:World)(hG:GT q w):
  Calls Tryz.prog 76 #[] w fun e w' =>Ret (.agg (J0 .u8 32 (J7 sE))) w w' e:=by
 have hS:=SH.nil [] w
 go_enter Tryz.func76,Tryz.ntmps76
 go_upto_region 0 with fail;refine RL hS ?_;clear hS;refine MN (z:=J0 .u8 32 (J7 0)) (t:=22) ?_;intro M;refine MZ fun W hS=> ?_;go_upto_region 1 with fail;refine RL hS ?_;clear hS;refine MO (m:=[2]) (n:=1) (z:= #[.int .u8 2]) ?_;intro D;refine MB (z:= #[D]) (t:=35) (n:=1) (c:=1) ?_ (hr:=fun W hS=>J0a [D] rfl rfl (vsc (Q1 (hS.osl (i:=0) rfl)).1 vs0) Tryz.underlying187 (by kernel_rfl) (by kernel_rfl) rfl (by decide) (by decide));intro J;obtain⟨U1,G⟩:=exh (hs4 ([2]));refine MC (v:=.agg (J0 .u8 32 (J7 U1))) (fun W hS=>J9l G.out [[2]] (some ⟨J,0,none⟩) 1 (by simp only[List.flatten_cons,List.flatten_nil,List.append_nil,List.nil_append,List.append_assoc,List.cons_append]) (by first|omega|(simp only[List.length_append,List.length_cons,List.length_nil,J6,dbl];omega)) (by simp) W (J1q (hS.blk (i:=0) rfl) (pvc (hS.osl (i:=1) rfl) pv0)) (J23 hG.1 hS.ext)) ?_;refine MR 2 ?_;refine MZ fun W hS=> ?_;have e_:=G.out;subst e_;go_wp2;exact bodyPost_ret (Z0 rfl rfl (hS.blk (i:=2) rfl) (by kernel_rfl) (by rw[J1];kernel_rfl)) rfl ⟨rfl,hS.ext⟩
theorem Z8n {q:Prop}(k v:Nat)(w:World)(hG:GT q w):
  Calls Tryz.prog 176 #[.agg (lf k v)] w fun e w' =>Ret (.agg (J0 .u8 32 (J7 (sL k v)))) w w' e:=by
 have hS:=SH.nil [] w
 go_enter Tryz.func176,Tryz.ntmps176
 go_upto_region 0 with fail;refine RL hS ?_;clear hS;refine MN (z:=lf k v) (t:=57) ?_;intro D;refine MN (z:=J0 .u8 32 (J7 0)) (t:=22) ?_;intro N;refine MZ fun W hS=> ?_;go_upto_region 1 with fail;refine RTp [1] (.q 1 (.q 2 (.q 3 (.q 4 (.e 0 (.e 5 (.e 6 (.e 7 .z)))))))) hS ?_;clear hS;refine TV ?_;refine TW ?_ (v:=.slice (some ⟨D,0,none⟩) 32 32);refine TV ?_;refine TW ?_ (v:=.slice (some ⟨D,32,none⟩) 32 32);refine TE (fun _ h=>h.pick [1]) ?_;refine MO (m:=[0]) (n:=1) (z:= #[.int .u8 0]) ?_;intro J;refine TNp [0,2] [1] ?_;refine TE (fun _ h=>h.pick [0,2]) ?_;refine MB (z:= #[J,.slice (some ⟨D,0,none⟩) 32 32,.slice (some ⟨D,32,none⟩) 32 32]) (t:=35) (n:=3) (c:=3) ?_ (hr:=fun W hS=>J0a [J,.slice (some ⟨D,0,none⟩) 32 32,.slice (some ⟨D,32,none⟩) 32 32] rfl rfl (vsc (Q1 (hS.osl (i:=0) rfl)).1 (vsc rfl (vsc rfl vs0))) Tryz.underlying187 (by kernel_rfl) (by kernel_rfl) rfl (by decide) (by decide));intro M;refine TNp [0,1,3] [1,2] ?_;refine TE (fun _ h=>h.pick [0,1,3]) ?_;obtain⟨U1,G⟩:=exh (hs4 ([0]++(lb 32 k)++(lb 32 v)));refine MC (v:=.agg (J0 .u8 32 (J7 U1))) (fun W hS=>J9l G.out [[0],lb 32 k,lb 32 v] (some ⟨M,0,none⟩) 3 (by simp only[List.flatten_cons,List.flatten_nil,List.append_nil,List.nil_append,List.append_assoc,List.cons_append]) (by first|omega|(simp only[List.length_append,List.length_cons,List.length_nil,J6,dbl];omega)) (by simp) W (J1q (hS.blk (i:=0) rfl) (pvc (hS.osl (i:=1) rfl) (pvc (V5 (V:=k) (n:=32) (off:=0) (hS.blk (i:=3) rfl) Z7i (by decide) (by decide)) (pvc (V5 (V:=v) (n:=32) (off:=32) (hS.blk (i:=3) rfl) K39 (by decide) (by decide)) pv0)))) (J23 hG.1 hS.ext)) ?_;refine TNp [0,1,3] [0,1,2] ?_;refine TE (fun _ h=>h.pick [0,1,3]) ?_;refine MR 2 ?_;refine TNp [0,1,3] [0,1,2] ?_;refine TZ (fun _ h=>h.pick [0,1,3]) fun W hS=> ?_;have e_:=G.out;subst e_;go_wp2;exact bodyPost_ret (Z0 rfl rfl (hS.blk (i:=2) rfl) (by kernel_rfl) (by rw[J1];kernel_rfl)) rfl ⟨rfl,hS.ext⟩
theorem Z8o {q:Prop}(d:Int)(l r:Nat)(w:World)(hG:GT q w):
  Calls Tryz.prog 179 #[.int .i64 d,.agg (J0 .u8 32 (J7 l)),.agg (J0 .u8 32 (J7 r))] w fun e w' =>Ret (.agg (J0 .u8 32 (J7 (sN d l r)))) w w' e:=by
 have hS:=SH.nil [] w
 go_enter Tryz.func179,Tryz.ntmps179
 go_upto_region 0 with fail;refine RL hS ?_;clear hS;refine MN (z:=J0 .u8 32 (J7 l)) (t:=22) ?_;intro D;refine MN (z:=J0 .u8 32 (J7 r)) (t:=22) ?_;intro G;refine MN (z:=J0 .u8 32 (J7 0)) (t:=22) ?_;intro R;refine MZ fun W hS=> ?_;go_upto_region 1 with fail;refine RTp [1,2] (.q 0 (.q 1 (.q 2 (.q 3 (.q 4 (.q 6 (.q 7 (.e 5 (.e 8 (.e 9 (.e 10 .z))))))))))) hS ?_;clear hS;refine TV ?_;refine TW ?_ (v:=.int .i64 (d / 256)) (hv:=by intro W;exact Z8b (n:=8) (by decide) rfl rfl rfl);refine TW ?_ (v:=.int .u8 ((UInt8.ofNat (d / 256 % 256).toNat).toNat:Int)) (hv:=by intro W;rw[←K1o d];exact Q8v rfl rfl);refine TV ?_;refine TW ?_ (v:=.int .u8 ((UInt8.ofNat (d % 256).toNat).toNat:Int)) (hv:=by intro W;rw[←K1p d];exact Q8v rfl rfl);refine TW ?_ (v:=.slice (some ⟨D,0,none⟩) 32 32);refine TW ?_ (v:=.slice (some ⟨G,0,none⟩) 32 32);refine TE (fun _ h=>h.pick [1,2]) ?_;refine MO (m:=[1,UInt8.ofNat (d / 256 % 256).toNat,UInt8.ofNat (d % 256).toNat]) (n:=3) (z:= #[.int .u8 1,.int .u8 ((UInt8.ofNat (d / 256 % 256).toNat).toNat:Int),.int .u8 ((UInt8.ofNat (d % 256).toNat).toNat:Int)]) ?_;intro M;refine TNp [0,2,3] [1,2] ?_;refine TE (fun _ h=>h.pick [0,2,3]) ?_;refine MB (z:= #[M,.slice (some ⟨D,0,none⟩) 32 32,.slice (some ⟨G,0,none⟩) 32 32]) (t:=35) (n:=3) (c:=3) ?_ (hr:=fun W hS=>J0a [M,.slice (some ⟨D,0,none⟩) 32 32,.slice (some ⟨G,0,none⟩) 32 32] rfl rfl (vsc (Q1 (hS.osl (i:=0) rfl)).1 (vsc rfl (vsc rfl vs0))) Tryz.underlying187 (by kernel_rfl) (by kernel_rfl) rfl (by decide) (by decide));intro N;refine TNp [0,1,3,4] [1,2,3] ?_;refine TE (fun _ h=>h.pick [0,1,3,4]) ?_;obtain⟨U1,J⟩:=exh (hs4 ([1,UInt8.ofNat (d / 256 % 256).toNat,UInt8.ofNat (d % 256).toNat]++(lb 32 l)++(lb 32 r)));refine MC (v:=.agg (J0 .u8 32 (J7 U1))) (fun W hS=>J9l J.out [[1,UInt8.ofNat (d / 256 % 256).toNat,UInt8.ofNat (d % 256).toNat],lb 32 l,lb 32 r] (some ⟨N,0,none⟩) 3 (by simp only[List.flatten_cons,List.flatten_nil,List.append_nil,List.nil_append,List.append_assoc,List.cons_append]) (by first|omega|(simp only[List.length_append,List.length_cons,List.length_nil,J6,dbl];omega)) (by simp) W (J1q (hS.blk (i:=0) rfl) (pvc (hS.osl (i:=1) rfl) (pvc (V5 (V:=l) (n:=32) (off:=0) (hS.blk (i:=4) rfl) ap0 (by decide) (by decide)) (pvc (V5 (V:=r) (n:=32) (off:=0) (hS.blk (i:=3) rfl) ap0 (by decide) (by decide)) pv0)))) (J23 hG.1 hS.ext)) ?_;refine TNp [0,1,3,4] [0,1,2,3] ?_;refine TE (fun _ h=>h.pick [0,1,3,4]) ?_;refine MR 2 ?_;refine TNp [0,1,3,4] [0,1,2,3] ?_;refine TZ (fun _ h=>h.pick [0,1,3,4]) fun W hS=> ?_;have e_:=J.out;subst e_;go_wp2;exact bodyPost_ret (Z0 rfl rfl (hS.blk (i:=2) rfl) (by kernel_rfl) (by rw[J1];kernel_rfl)) rfl ⟨rfl,hS.ext⟩
end

section
open S8 (Kn GA)
abbrev kn0:Kn:=⟨True,True,True,False⟩
def GX (w:World):Prop:=GS4 w∧GA kn0 w
abbrev gxF:List Nat:=[10,2,14,13,7,11,4,5,12,3,6]
abbrev gx:As:=.p gxF GX
theorem Q12 {w:World}(h:GX w):gx.holds w:=by
  obtain⟨⟨s1,s2⟩,⟨⟨m1,m2⟩,e1,e2,e3,e4,e5⟩,⟨r1,r2⟩,⟨o1,o2,o3,o4,o5⟩,_⟩:=h;replace e1:Rd _ _ _:=e1 trivial;replace e2:=e2 trivial;replace e3:=e3 trivial;replace e4:=e4 trivial;replace e5:=e5 trivial;refine⟨⟨⟨s1,s2⟩,⟨⟨m1,m2⟩,fun _=>e1,fun _=>e2,fun _=>e3,fun _=>e4,fun _=>e5⟩,⟨r1,r2⟩,⟨o1,o2,o3,o4,o5⟩,fun h=>h.elim⟩,fun k hk=> ?_,fun W hs he=> ?_⟩
  · simp only[gxF,List.mem_cons,List.not_mem_nil,or_false] at hk
    rcases hk with rfl|rfl|rfl|rfl|rfl|rfl|rfl|rfl|rfl|rfl|rfl
    · exact s1.2
    · exact s2.2
    · exact m1.2
    · exact e1.2
    · exact e2.2
    · exact e3.2
    · exact e4.2
    · exact e5.2
    · exact r1.2
    · exact r2.2
    exact o5
  have c:∀j v,w.cell? ⟨6,j,none⟩=some v→W.cell? ⟨6,j,none⟩=some v:=fun j v h=>(World.cell?_of_block (w:=w) (he _ (by simp))).trans h;exact⟨⟨J3i s1 hs (he _ (by simp)),J3i s2 hs (he _ (by simp))⟩,⟨⟨J3i m1 hs (he _ (by simp)),trivial⟩,fun _=>J3i e1 hs (he _ (by simp)),fun _=>J3i e2 hs (he _ (by simp)),fun _=>J3i e3 hs (he _ (by simp)),fun _=>J3i e4 hs (he _ (by simp)),fun _=>J3i e5 hs (he _ (by simp))⟩,⟨J3i r1 hs (he _ (by simp)),J3i r2 hs (he _ (by simp))⟩,⟨c _ _ o1,c _ _ o2,c _ _ o3,c _ _ o4,Nat.lt_of_lt_of_le o5 hs⟩,fun h=>h.elim⟩
theorem GX.gt {w:World}(h:GX w):GT False w:=⟨h.1,fun x=>x.elim⟩
theorem GX.ext {w W:World}(h:GX w)(k:Ext w W):GX W:=⟨J23 h.1 k,S8.GA_ext h.2 k⟩
theorem GX.of {kn:Kn}{q:Prop}{w:World}(hd:kn.d)(hb:kn.b)(hc:kn.c)(hG:GT q w)(hA:GA kn w):GX w:=⟨hG.1,⟨hA.1.1,fun _=>hA.1.2.1 hc,fun _=>hA.1.2.2.1 hc,fun _=>hA.1.2.2.2.1 hd,fun _=>hA.1.2.2.2.2.1 hb,fun _=>hA.1.2.2.2.2.2 hb⟩,hA.2.1,hA.2.2.1,fun h=>h.elim⟩
end

section
open Go.ChangeShapes Go.WideShapes Go.ChangeAt Go.RowKit Go.Deep
theorem Z2h {P:Program}{x:String×DataW Unit}{r:List (String×DataW Unit)}{W:World}(h:laidMet P (x::r) W):laidMet P r W:=by
  obtain⟨ps,⟨g,t,cs,G,p,q,_,_,_,_,hv,rfl⟩,hn,hc⟩:=h;exact⟨q,hv,(List.nodup_append.1 hn).2.1,fun b D hb=>hc b D (List.mem_append_right _ hb)⟩
theorem J29 {P:Program}(n:Nat){l:List (String×DataW Unit)}{W:World}(h:laidMet P l W):laidMet P (l.drop n) W:=by
  induction n generalizing l with
  |zero=>exact h
  |succ n ih=>cases l with
    |nil=>exact h
    |cons x r=>exact ih (Z2h h)
theorem J2p {W:World}{name:String}{k:IntKind}{zs:List Int}{g:Nat}(h:Lib.TabIs Tryz.prog W name k zs)(hg:Tryz.prog.globalNamed name=some g)(h0:0<zs.length):Rd W g (zs.map fun z=>Value.int k z).toArray:=by
  refine⟨fun j v hj=> ?_,World.block_lt_of_cell? W ⟨g,0,none⟩ (h.cell hg 0 h0)⟩;rw[List.getElem?_toArray,List.getElem?_map] at hj;cases hz:zs[j]? with
  |none=>rw[hz] at hj;cases hj
  |some z=>
    rw[hz] at hj;obtain rfl:=Option.some.inj hj
    have hl:j<zs.length:=by
      rcases Nat.lt_or_ge j zs.length with h|h
      · exact h
      · rw[List.getElem?_eq_none h] at hz;cases hz
    have:=h.cell hg j hl
    rwa [List.getD_eq_getElem?_getD,hz] at this
theorem V95 : Tryz.prog.globalNamed "custumal/sha2.start" = some 2 := by kernel_rfl
theorem V96 {W : World} {r : List (String × DataW Unit)} (h : laidMet Tryz.prog (("custumal/sha2.start", Rows.laid_custumal_sha2_start) :: r) W) : Rd W 2 (J0 .u32 8 hf4) :=
  have e:(hh4.map fun z=>Value.int .u32 z).toArray=J0 .u32 8 hf4:=by kernel_rfl
  have t : Lib.TabIs Tryz.prog W "custumal/sha2.start" .u32 hh4 := Lib.tabIs_of_head (rest := r) V95 (by kernel_rfl) Tryz.underlying237 Tryz.underlying236 (by kernel_rfl) (by kernel_rfl) h
  e▸J2p t V95 (by decide)
theorem V97 : Tryz.prog.globalNamed "custumal/sha2.rounds" = some 10 := by kernel_rfl
theorem V98 {W : World} {r : List (String × DataW Unit)} (h : laidMet Tryz.prog (("custumal/sha2.rounds", Rows.laid_custumal_sha2_rounds) :: r) W) : Rd W 10 (J0 .u32 64 kf4) :=
  have e:(kk4.map fun z=>Value.int .u32 z).toArray=J0 .u32 64 kf4:=by kernel_rfl
  have t : Lib.TabIs Tryz.prog W "custumal/sha2.rounds" .u32 kk4 := Lib.tabIs_of_head (rest := r) V97 (by kernel_rfl) Tryz.underlying285 Tryz.underlying236 (by kernel_rfl) (by kernel_rfl) h
  e▸J2p t V97 (by decide)
theorem V99 : Tryz.prog.globalNamed "custumal/sha5.start" = some 3 := by kernel_rfl
theorem V9a {W : World} {r : List (String × DataW Unit)} (h : laidMet Tryz.prog (("custumal/sha5.start", Rows.laid_custumal_sha5_start) :: r) W) : Rd W 3 (J0 .u64 8 hf) :=
  have e:(hh.map fun z=>Value.int .u64 z).toArray=J0 .u64 8 hf:=by kernel_rfl
  have t : Lib.TabIs Tryz.prog W "custumal/sha5.start" .u64 hh := Lib.tabIs_of_head (rest := r) V99 (by kernel_rfl) Tryz.underlying248 Tryz.underlying43 (by kernel_rfl) (by kernel_rfl) h
  e▸J2p t V99 (by decide)
theorem V9b : Tryz.prog.globalNamed "custumal/sha5.rounds" = some 12 := by kernel_rfl
theorem V9c {W : World} {r : List (String × DataW Unit)} (h : laidMet Tryz.prog (("custumal/sha5.rounds", Rows.laid_custumal_sha5_rounds) :: r) W) : Rd W 12 (J0 .u64 80 kf) :=
  have e:(kk.map fun z=>Value.int .u64 z).toArray=J0 .u64 80 kf:=by kernel_rfl
  have t : Lib.TabIs Tryz.prog W "custumal/sha5.rounds" .u64 kk := Lib.tabIs_of_head (rest := r) V9b (by kernel_rfl) Tryz.underlying270 Tryz.underlying43 (by kernel_rfl) (by kernel_rfl) h
  e▸J2p t V9b (by decide)
theorem V10 : Tryz.prog.globalNamed "custumal/field.modulus" = some 14 := by kernel_rfl
theorem V4j {W : World} {r : List (String × DataW Unit)} (h : laidMet Tryz.prog (("custumal/field.modulus", Rows.laid_custumal_field_modulus) :: r) W) : Rd W 14 (S8.modC) :=
  have t : Lib.TabIs Tryz.prog W "custumal/field.modulus" .u64 [18446744073709551597, 18446744073709551615, 18446744073709551615, 9223372036854775807] := Lib.tabIs_of_head (rest := r) V10 (by kernel_rfl) Tryz.underlying194 Tryz.underlying43 (by kernel_rfl) (by kernel_rfl) h
  J2p t V10 (by decide)
theorem V11 : Tryz.prog.globalNamed "custumal/field.imaginary" = some 13 := by kernel_rfl
theorem V4k {W : World} {r : List (String × DataW Unit)} (h : laidMet Tryz.prog (("custumal/field.imaginary", Rows.laid_custumal_field_imaginary) :: r) W) : Rd W 13 (S8.imaC) :=
  have t : Lib.TabIs Tryz.prog W "custumal/field.imaginary" .u64 [14190309331451158704, 3405592160176694392, 3120150775007532967, 3135389899092516619] := Lib.tabIs_of_head (rest := r) V11 (by kernel_rfl) Tryz.underlying194 Tryz.underlying43 (by kernel_rfl) (by kernel_rfl) h
  J2p t V11 (by decide)
theorem V12 : Tryz.prog.globalNamed "custumal/edwards.curve" = some 7 := by kernel_rfl
theorem V4l {W : World} {r : List (String × DataW Unit)} (h : laidMet Tryz.prog (("custumal/edwards.curve", Rows.laid_custumal_edwards_curve) :: r) W) : Rd W 7 (c4 S8.DD) :=
  have t : Lib.TabIs Tryz.prog W "custumal/edwards.curve" .u64 [8496970652267935907,31536524315187371,10144147576115030168,5909686906226998899] := Lib.tabIs_of_head (rest := r) V12 (by kernel_rfl) Tryz.underlying194 Tryz.underlying43 (by kernel_rfl) (by kernel_rfl) h
  J2p t V12 (by decide)
theorem V13 : Tryz.prog.globalNamed "custumal/edwards.double" = some 11 := by kernel_rfl
theorem V4m {W : World} {r : List (String × DataW Unit)} (h : laidMet Tryz.prog (("custumal/edwards.double", Rows.laid_custumal_edwards_double) :: r) W) : Rd W 11 (c4 S8.D2) :=
  have t : Lib.TabIs Tryz.prog W "custumal/edwards.double" .u64 [16993941304535871833,63073048630374742,1841551078520508720,2596001775599221991] := Lib.tabIs_of_head (rest := r) V13 (by kernel_rfl) Tryz.underlying194 Tryz.underlying43 (by kernel_rfl) (by kernel_rfl) h
  J2p t V13 (by decide)
theorem V14 : Tryz.prog.globalNamed "custumal/edwards.baseX" = some 4 := by kernel_rfl
theorem V4n {W : World} {r : List (String × DataW Unit)} (h : laidMet Tryz.prog (("custumal/edwards.baseX", Rows.laid_custumal_edwards_baseX) :: r) W) : Rd W 4 (c4 S8.BX) :=
  have t : Lib.TabIs Tryz.prog W "custumal/edwards.baseX" .u64 [14507833142362363162,7578651490590762930,13881468655802702940,2407515759118799870] := Lib.tabIs_of_head (rest := r) V14 (by kernel_rfl) Tryz.underlying194 Tryz.underlying43 (by kernel_rfl) (by kernel_rfl) h
  J2p t V14 (by decide)
theorem V15 : Tryz.prog.globalNamed "custumal/edwards.baseY" = some 5 := by kernel_rfl
theorem V4o {W : World} {r : List (String × DataW Unit)} (h : laidMet Tryz.prog (("custumal/edwards.baseY", Rows.laid_custumal_edwards_baseY) :: r) W) : Rd W 5 (c4 S8.BY) :=
  have t : Lib.TabIs Tryz.prog W "custumal/edwards.baseY" .u64 [7378697629483820632,7378697629483820646,7378697629483820646,7378697629483820646] := Lib.tabIs_of_head (rest := r) V15 (by kernel_rfl) Tryz.underlying194 Tryz.underlying43 (by kernel_rfl) (by kernel_rfl) h
  J2p t V15 (by decide)
theorem Y2n : Tryz.prog.globalNamed "custumal/scalar.order" = some 6 := by kernel_rfl
theorem V9d {W : World} {r : List (String × DataW Unit)} (h : laidMet Tryz.prog (("custumal/scalar.order", Rows.laid_custumal_scalar_order) :: r) W) : S8.Sc.GL W :=
  have t : Lib.TabIs Tryz.prog W "custumal/scalar.order" .u64 [6346243789798364141, 1503914060200516822, 0, 1152921504606846976] := Lib.tabIs_of_head (rest := r) Y2n (by kernel_rfl) Tryz.underlying201 Tryz.underlying43 (by kernel_rfl) (by kernel_rfl) h
  have h0:=t.cell Y2n 0 (by decide)
  ⟨h0,t.cell Y2n 1 (by decide),t.cell Y2n 2 (by decide),t.cell Y2n 3 (by decide),World.block_lt_of_cell? W _ h0⟩
theorem Q87 {W:World}(h:laidMet Tryz.prog Rows.bundleAnyRow.laid W):S8.GA ⟨True,True,True,False⟩ W:=⟨⟨⟨(V4j h),trivial⟩,fun _=>(V4k (J29 1 h)),fun _=>(V4l (J29 2 h)),fun _=>(V4m (J29 3 h)),fun _=>(V4n (J29 4 h)),fun _=>(V4o (J29 5 h))⟩,⟨(V9c (J29 10 h)),(V9a (J29 9 h))⟩,(V9d (J29 6 h)),fun h=>h.elim⟩
theorem Q86 {W:World}(h:laidMet Tryz.prog Rows.bundleAnyRow.laid W):GX W:=⟨⟨(V98 (J29 8 h)),(V96 (J29 7 h))⟩,Q87 h⟩
def J1l (cs:Array Value):Obj→Obj
  | .cells _ t frozen=> .cells cs t frozen
  |o=>o
noncomputable def laidWorld (os:Os):World:={World.holding Tryz.prog os ⟨#[],#[],[]⟩ with heap:=((((((((((((((((World.holding Tryz.prog os ⟨#[],#[],[]⟩).heap.modify 1 (J1l (J0 .i64 64 kf4))).modify 0 (J1l (J0 .i64 8 hf4))).modify 9 (J1l (J0 .u64 80 kf))).modify 8 (J1l (J0 .u64 8 hf))).modify 2 (J1l (J0 .u32 8 hf4))).modify 10 (J1l (J0 .u32 64 kf4))).modify 3 (J1l (J0 .u64 8 hf))).modify 12 (J1l (J0 .u64 80 kf))).modify 14 (J1l (S8.modC))).modify 13 (J1l (S8.imaC))).modify 7 (J1l (c4 S8.DD))).modify 11 (J1l (c4 S8.D2))).modify 4 (J1l (c4 S8.BX))).modify 5 (J1l (c4 S8.BY))).modify 6 (J1l (#[.int .u64 6346243789798364141,.int .u64 1503914060200516822,.int .u64 0,.int .u64 1152921504606846976])))}
end
end Go.Proofs.YtlkbneflnjmgbaaGreatDoor

/- Contracts and plain laws for custumalPast_holds. Conditions: the tables hold their numbers. -/
import Derived.Test.YteehbddkcnkhfaaGreatDoorJ15
import Derived.Test.YteehbddkcnkhfaaGreatDoorCards
import Derived.Test.YteehbddkcnkhfaaGreatDoorTie
open Go.RowKit
set_option maxRecDepth 100000
set_option linter.unusedSimpArgs false
set_option linter.unusedVariables false
namespace Go.Proofs.YteehbddkcnkhfaaGreatDoor
section
set_option maxHeartbeats 1500000
attribute [local irreducible] wpList Y5 wpX
def GT (hr:Prop)(w:World):Prop:=GS4 w∧(hr→GR4 w)
theorem J0f {q:Prop}{w W:World}(h:GT q w)(e:Ext w W):GT q W:=⟨J1e h.1 e,fun x=>Y2p (h.2 x) e⟩
def db (d:Int):List UInt8:=[UInt8.ofNat (d / 256 % 256).toNat,UInt8.ofNat (d % 256).toNat]
theorem dbl (d:Int):(db d).length=2:=rfl
theorem Q9d {x:Int}(h0:0≤x)(h1:x<256):((UInt8.ofNat x.toNat).toNat:Int)=x:=by rw[UInt8.toNat_ofNat',Nat.mod_eq_of_lt (by omega)];omega
theorem V7u (d:Int):IntKind.wrap .u8 (d / 256)=((UInt8.ofNat (d / 256 % 256).toNat).toNat:Int):=by rw[Q9d (by omega) (by omega),IntKind.wrap_u8]
theorem V7v (d:Int):IntKind.wrap .u8 d=((UInt8.ofNat (d % 256).toNat).toNat:Int):=by rw[Q9d (by omega) (by omega),IntKind.wrap_u8]
def sE:Nat:=hs4 [2]
def sL (k v:Nat):Nat:=hs4 ([0]++lb 32 k++lb 32 v)
def sN (d:Int)(l r:Nat):Nat:=hs4 ([1]++db d++lb 32 l++lb 32 r)
theorem J6o {H:Nat}{F:List UInt8}(hH:H=hs4 F)(ps:List (List UInt8))(A:Option Addr)(c:Nat)(hF:ps.flatten=F)(hlen:F.length≤70368744177664)(hpn:ps.length≤9223372036854775000)(w:World)(hps:∀i l,ps[i]?=some l→∃ad u,A=some ad∧w.cell? (ad.add i)=some u∧Sl w u l)(hG:GS4 w):
  Calls Tryz.prog 77 #[.slice A ps.length c] w fun e w' =>X5 (.agg (J1 .u8 32 (J4 H))) w w' e:=by
 rw[hH,←Q9m];exact V37 ps A c F hF hlen hpn w hps hG
attribute [local irreducible] hs4

theorem Y6f {q:Prop}(w:World)(hG:GT q w):
  Calls Tryz.prog 84 #[] w fun e w' =>X5 (.agg (J1 .u8 32 (J4 sE))) w w' e:=by
 have hS:=SH.nil [] w
 go_enter Tryz.func84,Tryz.ntmps84
 go_upto_region 0 with fail;refine RL hS ?_;clear hS;refine MN (z:=J1 .u8 32 (J4 0)) (t:=23) ?_;intro M;refine MZ fun W hS=> ?_;go_upto_region 1 with fail;refine RL hS ?_;clear hS;refine MO (m:=[2]) (n:=1) (z:= #[.int .u8 2]) ?_;intro D;refine MB (z:= #[D]) (t:=22) (n:=1) (c:=1) ?_ (hr:=fun W hS=>X7 [D] rfl rfl (vsc (Q1 (hS.osl (i:=0) rfl)).1 vs0) Tryz.underlying168 (by kernel_rfl) (by kernel_rfl) rfl (by decide) (by decide));intro J;obtain⟨U1,G⟩:=exh (hs4 ([2]));refine MC (v:=.agg (J1 .u8 32 (J4 U1))) (fun W hS=>J6o G.out [[2]] (some ⟨J,0,none⟩) 1 (by simp only[List.flatten_cons,List.flatten_nil,List.append_nil,List.nil_append,List.append_assoc,List.cons_append]) (by first|omega|(simp only[List.length_append,List.length_cons,List.length_nil,J8,dbl];omega)) (by simp) W (J15 (hS.blk (i:=0) rfl) (pvc (hS.osl (i:=1) rfl) pv0)) (J1e hG.1 hS.ext)) ?_;refine MR 2 ?_;refine MZ fun W hS=> ?_;have e_:=G.out;subst e_;go_wp2;exact bodyPost_ret (Z8 rfl rfl (hS.blk (i:=2) rfl) (by kernel_rfl) (by rw[J0];kernel_rfl)) rfl ⟨rfl,hS.ext⟩
theorem Z65 {q:Prop}(k v:Nat)(w:World)(hG:GT q w):
  Calls Tryz.prog 196 #[.agg (lf k v)] w fun e w' =>X5 (.agg (J1 .u8 32 (J4 (sL k v)))) w w' e:=by
 have hS:=SH.nil [] w
 go_enter Tryz.func196,Tryz.ntmps196
 go_upto_region 0 with fail;refine RL hS ?_;clear hS;refine MN (z:=lf k v) (t:=44) ?_;intro D;refine MN (z:=J1 .u8 32 (J4 0)) (t:=23) ?_;intro N;refine MZ fun W hS=> ?_;go_upto_region 1 with fail;refine RTp [1] (.q 1 (.q 2 (.q 3 (.q 4 (.e 0 (.e 5 (.e 6 (.e 7 .z)))))))) hS ?_;clear hS;refine TV ?_;refine TW ?_ (v:=.slice (some ⟨D,0,none⟩) 32 32);refine TV ?_;refine TW ?_ (v:=.slice (some ⟨D,32,none⟩) 32 32);refine TE (fun _ h=>h.pick [1]) ?_;refine MO (m:=[0]) (n:=1) (z:= #[.int .u8 0]) ?_;intro J;refine V8 [0,2] [1] ?_;refine TE (fun _ h=>h.pick [0,2]) ?_;refine MB (z:= #[J,.slice (some ⟨D,0,none⟩) 32 32,.slice (some ⟨D,32,none⟩) 32 32]) (t:=22) (n:=3) (c:=3) ?_ (hr:=fun W hS=>X7 [J,.slice (some ⟨D,0,none⟩) 32 32,.slice (some ⟨D,32,none⟩) 32 32] rfl rfl (vsc (Q1 (hS.osl (i:=0) rfl)).1 (vsc rfl (vsc rfl vs0))) Tryz.underlying168 (by kernel_rfl) (by kernel_rfl) rfl (by decide) (by decide));intro M;refine V8 [0,1,3] [1,2] ?_;refine TE (fun _ h=>h.pick [0,1,3]) ?_;obtain⟨U1,G⟩:=exh (hs4 ([0]++(lb 32 k)++(lb 32 v)));refine MC (v:=.agg (J1 .u8 32 (J4 U1))) (fun W hS=>J6o G.out [[0],lb 32 k,lb 32 v] (some ⟨M,0,none⟩) 3 (by simp only[List.flatten_cons,List.flatten_nil,List.append_nil,List.nil_append,List.append_assoc,List.cons_append]) (by first|omega|(simp only[List.length_append,List.length_cons,List.length_nil,J8,dbl];omega)) (by simp) W (J15 (hS.blk (i:=0) rfl) (pvc (hS.osl (i:=1) rfl) (pvc (V1 (V:=k) (n:=32) (off:=0) (hS.blk (i:=3) rfl) Z4y (by decide) (by decide)) (pvc (V1 (V:=v) (n:=32) (off:=32) (hS.blk (i:=3) rfl) V59 (by decide) (by decide)) pv0)))) (J1e hG.1 hS.ext)) ?_;refine V8 [0,1,3] [0,1,2] ?_;refine TE (fun _ h=>h.pick [0,1,3]) ?_;refine MR 2 ?_;refine V8 [0,1,3] [0,1,2] ?_;refine TZ (fun _ h=>h.pick [0,1,3]) fun W hS=> ?_;have e_:=G.out;subst e_;go_wp2;exact bodyPost_ret (Z8 rfl rfl (hS.blk (i:=2) rfl) (by kernel_rfl) (by rw[J0];kernel_rfl)) rfl ⟨rfl,hS.ext⟩
theorem Z66 {q:Prop}(d:Int)(l r:Nat)(w:World)(hG:GT q w):
  Calls Tryz.prog 198 #[.int .i64 d,.agg (J1 .u8 32 (J4 l)),.agg (J1 .u8 32 (J4 r))] w fun e w' =>X5 (.agg (J1 .u8 32 (J4 (sN d l r)))) w w' e:=by
 have hS:=SH.nil [] w
 go_enter Tryz.func198,Tryz.ntmps198
 go_upto_region 0 with fail;refine RL hS ?_;clear hS;refine MN (z:=J1 .u8 32 (J4 l)) (t:=23) ?_;intro D;refine MN (z:=J1 .u8 32 (J4 r)) (t:=23) ?_;intro G;refine MN (z:=J1 .u8 32 (J4 0)) (t:=23) ?_;intro R;refine MZ fun W hS=> ?_;go_upto_region 1 with fail;refine RTp [1,2] (.q 0 (.q 1 (.q 2 (.q 3 (.q 4 (.q 6 (.q 7 (.e 5 (.e 8 (.e 9 (.e 10 .z))))))))))) hS ?_;clear hS;refine TV ?_;refine TW ?_ (v:=.int .i64 (d / 256)) (hv:=by intro W;exact Z5t (n:=8) (by decide) rfl rfl rfl);refine TW ?_ (v:=.int .u8 ((UInt8.ofNat (d / 256 % 256).toNat).toNat:Int)) (hv:=by intro W;rw[←V7u d];exact Q74 rfl rfl);refine TV ?_;refine TW ?_ (v:=.int .u8 ((UInt8.ofNat (d % 256).toNat).toNat:Int)) (hv:=by intro W;rw[←V7v d];exact Q74 rfl rfl);refine TW ?_ (v:=.slice (some ⟨D,0,none⟩) 32 32);refine TW ?_ (v:=.slice (some ⟨G,0,none⟩) 32 32);refine TE (fun _ h=>h.pick [1,2]) ?_;refine MO (m:=[1,UInt8.ofNat (d / 256 % 256).toNat,UInt8.ofNat (d % 256).toNat]) (n:=3) (z:= #[.int .u8 1,.int .u8 ((UInt8.ofNat (d / 256 % 256).toNat).toNat:Int),.int .u8 ((UInt8.ofNat (d % 256).toNat).toNat:Int)]) ?_;intro J;refine V8 [0,2,3] [1,2] ?_;refine TE (fun _ h=>h.pick [0,2,3]) ?_;refine MB (z:= #[J,.slice (some ⟨D,0,none⟩) 32 32,.slice (some ⟨G,0,none⟩) 32 32]) (t:=22) (n:=3) (c:=3) ?_ (hr:=fun W hS=>X7 [J,.slice (some ⟨D,0,none⟩) 32 32,.slice (some ⟨G,0,none⟩) 32 32] rfl rfl (vsc (Q1 (hS.osl (i:=0) rfl)).1 (vsc rfl (vsc rfl vs0))) Tryz.underlying168 (by kernel_rfl) (by kernel_rfl) rfl (by decide) (by decide));intro N;refine V8 [0,1,3,4] [1,2,3] ?_;refine TE (fun _ h=>h.pick [0,1,3,4]) ?_;obtain⟨U1,M⟩:=exh (hs4 ([1,UInt8.ofNat (d / 256 % 256).toNat,UInt8.ofNat (d % 256).toNat]++(lb 32 l)++(lb 32 r)));refine MC (v:=.agg (J1 .u8 32 (J4 U1))) (fun W hS=>J6o M.out [[1,UInt8.ofNat (d / 256 % 256).toNat,UInt8.ofNat (d % 256).toNat],lb 32 l,lb 32 r] (some ⟨N,0,none⟩) 3 (by simp only[List.flatten_cons,List.flatten_nil,List.append_nil,List.nil_append,List.append_assoc,List.cons_append]) (by first|omega|(simp only[List.length_append,List.length_cons,List.length_nil,J8,dbl];omega)) (by simp) W (J15 (hS.blk (i:=0) rfl) (pvc (hS.osl (i:=1) rfl) (pvc (V1 (V:=l) (n:=32) (off:=0) (hS.blk (i:=4) rfl) ap0 (by decide) (by decide)) (pvc (V1 (V:=r) (n:=32) (off:=0) (hS.blk (i:=3) rfl) ap0 (by decide) (by decide)) pv0)))) (J1e hG.1 hS.ext)) ?_;refine V8 [0,1,3,4] [0,1,2,3] ?_;refine TE (fun _ h=>h.pick [0,1,3,4]) ?_;refine MR 2 ?_;refine V8 [0,1,3,4] [0,1,2,3] ?_;refine TZ (fun _ h=>h.pick [0,1,3,4]) fun W hS=> ?_;have e_:=M.out;subst e_;go_wp2;exact bodyPost_ret (Z8 rfl rfl (hS.blk (i:=2) rfl) (by kernel_rfl) (by rw[J0];kernel_rfl)) rfl ⟨rfl,hS.ext⟩
end

section
open S8 (Kn GA)
abbrev kn0:Kn:=⟨True,True,True,False⟩
def GX (w:World):Prop:=GS4 w∧GA kn0 w
abbrev gxF:List Nat:=[14,11,10,13,8,2,0,1,12,3,9]
abbrev gx:As:=.p gxF GX
theorem Z6y {w:World}(h:GX w):gx.holds w:=by
  obtain⟨⟨s1,s2⟩,⟨⟨m1,m2⟩,e1,e2,e3,e4,e5⟩,⟨r1,r2⟩,⟨o1,o2,o3,o4,o5⟩,_⟩:=h;replace e1:Rd _ _ _:=e1 trivial;replace e2:=e2 trivial;replace e3:=e3 trivial;replace e4:=e4 trivial;replace e5:=e5 trivial;refine⟨⟨⟨s1,s2⟩,⟨⟨m1,m2⟩,fun _=>e1,fun _=>e2,fun _=>e3,fun _=>e4,fun _=>e5⟩,⟨r1,r2⟩,⟨o1,o2,o3,o4,o5⟩,fun h=>h.elim⟩,fun k hk=> ?_,fun W hs he=> ?_⟩
  · simp only[gxF,List.mem_cons,List.not_mem_nil,or_false] at hk
    rcases hk with rfl|rfl|rfl|rfl|rfl|rfl|rfl|rfl|rfl|rfl|rfl
    · exact s1.2
    · exact s2.2
    · exact m1.2
    · exact e1.2
    · exact e2.2
    · exact e3.2
    · exact e4.2
    · exact e5.2
    · exact r1.2
    · exact r2.2
    exact o5
  have c:∀j v,w.cell? ⟨9,j,none⟩=some v→W.cell? ⟨9,j,none⟩=some v:=fun j v h=>(World.cell?_of_block (w:=w) (he _ (by simp))).trans h;exact⟨⟨J32 s1 hs (he _ (by simp)),J32 s2 hs (he _ (by simp))⟩,⟨⟨J32 m1 hs (he _ (by simp)),trivial⟩,fun _=>J32 e1 hs (he _ (by simp)),fun _=>J32 e2 hs (he _ (by simp)),fun _=>J32 e3 hs (he _ (by simp)),fun _=>J32 e4 hs (he _ (by simp)),fun _=>J32 e5 hs (he _ (by simp))⟩,⟨J32 r1 hs (he _ (by simp)),J32 r2 hs (he _ (by simp))⟩,⟨c _ _ o1,c _ _ o2,c _ _ o3,c _ _ o4,Nat.lt_of_lt_of_le o5 hs⟩,fun h=>h.elim⟩
theorem GX.gt {w:World}(h:GX w):GT False w:=⟨h.1,fun x=>x.elim⟩
theorem GX.ext {w W:World}(h:GX w)(k:Ext w W):GX W:=⟨J1e h.1 k,S8.GA_ext h.2 k⟩
theorem GX.of {kn:Kn}{q:Prop}{w:World}(hd:kn.d)(hb:kn.b)(hc:kn.c)(hG:GT q w)(hA:GA kn w):GX w:=⟨hG.1,⟨hA.1.1,fun _=>hA.1.2.1 hc,fun _=>hA.1.2.2.1 hc,fun _=>hA.1.2.2.2.1 hd,fun _=>hA.1.2.2.2.2.1 hb,fun _=>hA.1.2.2.2.2.2 hb⟩,hA.2.1,hA.2.2.1,fun h=>h.elim⟩
end

section
open Go.ChangeShapes Go.WideShapes Go.ChangeAt Go.RowKit Go.Deep
theorem Z0b {P:Program}{x:String×DataW Unit}{r:List (String×DataW Unit)}{W:World}(h:laidMet P (x::r) W):laidMet P r W:=by
  obtain⟨ps,⟨g,t,cs,G,p,q,_,_,_,_,hv,rfl⟩,hn,hc⟩:=h;exact⟨q,hv,(List.nodup_append.1 hn).2.1,fun b D hb=>hc b D (List.mem_append_right _ hb)⟩
theorem J1s {P:Program}(n:Nat){l:List (String×DataW Unit)}{W:World}(h:laidMet P l W):laidMet P (l.drop n) W:=by
  induction n generalizing l with
  |zero=>exact h
  |succ n ih=>cases l with
    |nil=>exact h
    |cons x r=>exact ih (Z0b h)
theorem J29 {W:World}{name:String}{k:IntKind}{zs:List Int}{g:Nat}(h:Lib.TabIs Tryz.prog W name k zs)(hg:Tryz.prog.globalNamed name=some g)(h0:0<zs.length):Rd W g (zs.map fun z=>Value.int k z).toArray:=by
  refine⟨fun j v hj=> ?_,World.block_lt_of_cell? W ⟨g,0,none⟩ (h.cell hg 0 h0)⟩;rw[List.getElem?_toArray,List.getElem?_map] at hj;cases hz:zs[j]? with
  |none=>rw[hz] at hj;cases hj
  |some z=>
    rw[hz] at hj;obtain rfl:=Option.some.inj hj
    have hl:j<zs.length:=by
      rcases Nat.lt_or_ge j zs.length with h|h
      · exact h
      · rw[List.getElem?_eq_none h] at hz;cases hz
    have:=h.cell hg j hl
    rwa [List.getD_eq_getElem?_getD,hz] at this
theorem V5b : Tryz.prog.globalNamed "custumal/sha2.start" = some 11 := by kernel_rfl
theorem V5c {W : World} {r : List (String × DataW Unit)} (h : laidMet Tryz.prog (("custumal/sha2.start", Rows.laid_custumal_sha2_start) :: r) W) : Rd W 11 (J1 .u32 8 hf4) :=
  have e:(hh4.map fun z=>Value.int .u32 z).toArray=J1 .u32 8 hf4:=by kernel_rfl
  have t : Lib.TabIs Tryz.prog W "custumal/sha2.start" .u32 hh4 := Lib.tabIs_of_head (rest := r) V5b (by kernel_rfl) Tryz.underlying271 Tryz.underlying270 (by kernel_rfl) (by kernel_rfl) h
  e▸J29 t V5b (by decide)
theorem V5d : Tryz.prog.globalNamed "custumal/sha2.rounds" = some 14 := by kernel_rfl
theorem V5e {W : World} {r : List (String × DataW Unit)} (h : laidMet Tryz.prog (("custumal/sha2.rounds", Rows.laid_custumal_sha2_rounds) :: r) W) : Rd W 14 (J1 .u32 64 kf4) :=
  have e:(kk4.map fun z=>Value.int .u32 z).toArray=J1 .u32 64 kf4:=by kernel_rfl
  have t : Lib.TabIs Tryz.prog W "custumal/sha2.rounds" .u32 kk4 := Lib.tabIs_of_head (rest := r) V5d (by kernel_rfl) Tryz.underlying295 Tryz.underlying270 (by kernel_rfl) (by kernel_rfl) h
  e▸J29 t V5d (by decide)
theorem V5f : Tryz.prog.globalNamed "custumal/sha5.start" = some 3 := by kernel_rfl
theorem V5g {W : World} {r : List (String × DataW Unit)} (h : laidMet Tryz.prog (("custumal/sha5.start", Rows.laid_custumal_sha5_start) :: r) W) : Rd W 3 (J1 .u64 8 hf) :=
  have e:(hh.map fun z=>Value.int .u64 z).toArray=J1 .u64 8 hf:=by kernel_rfl
  have t : Lib.TabIs Tryz.prog W "custumal/sha5.start" .u64 hh := Lib.tabIs_of_head (rest := r) V5f (by kernel_rfl) Tryz.underlying230 Tryz.underlying99 (by kernel_rfl) (by kernel_rfl) h
  e▸J29 t V5f (by decide)
theorem V5h : Tryz.prog.globalNamed "custumal/sha5.rounds" = some 12 := by kernel_rfl
theorem V5i {W : World} {r : List (String × DataW Unit)} (h : laidMet Tryz.prog (("custumal/sha5.rounds", Rows.laid_custumal_sha5_rounds) :: r) W) : Rd W 12 (J1 .u64 80 kf) :=
  have e:(kk.map fun z=>Value.int .u64 z).toArray=J1 .u64 80 kf:=by kernel_rfl
  have t : Lib.TabIs Tryz.prog W "custumal/sha5.rounds" .u64 kk := Lib.tabIs_of_head (rest := r) V5h (by kernel_rfl) Tryz.underlying234 Tryz.underlying99 (by kernel_rfl) (by kernel_rfl) h
  e▸J29 t V5h (by decide)
theorem Y7a : Tryz.prog.globalNamed "custumal/field.modulus" = some 10 := by kernel_rfl
theorem V0t {W : World} {r : List (String × DataW Unit)} (h : laidMet Tryz.prog (("custumal/field.modulus", Rows.laid_custumal_field_modulus) :: r) W) : Rd W 10 (S8.modC) :=
  have t : Lib.TabIs Tryz.prog W "custumal/field.modulus" .u64 [18446744073709551597, 18446744073709551615, 18446744073709551615, 9223372036854775807] := Lib.tabIs_of_head (rest := r) Y7a (by kernel_rfl) Tryz.underlying152 Tryz.underlying99 (by kernel_rfl) (by kernel_rfl) h
  J29 t Y7a (by decide)
theorem Y7b : Tryz.prog.globalNamed "custumal/field.imaginary" = some 13 := by kernel_rfl
theorem V0u {W : World} {r : List (String × DataW Unit)} (h : laidMet Tryz.prog (("custumal/field.imaginary", Rows.laid_custumal_field_imaginary) :: r) W) : Rd W 13 (S8.imaC) :=
  have t : Lib.TabIs Tryz.prog W "custumal/field.imaginary" .u64 [14190309331451158704, 3405592160176694392, 3120150775007532967, 3135389899092516619] := Lib.tabIs_of_head (rest := r) Y7b (by kernel_rfl) Tryz.underlying152 Tryz.underlying99 (by kernel_rfl) (by kernel_rfl) h
  J29 t Y7b (by decide)
theorem Y7c : Tryz.prog.globalNamed "custumal/edwards.curve" = some 8 := by kernel_rfl
theorem V0v {W : World} {r : List (String × DataW Unit)} (h : laidMet Tryz.prog (("custumal/edwards.curve", Rows.laid_custumal_edwards_curve) :: r) W) : Rd W 8 (c4 S8.DD) :=
  have t : Lib.TabIs Tryz.prog W "custumal/edwards.curve" .u64 [8496970652267935907,31536524315187371,10144147576115030168,5909686906226998899] := Lib.tabIs_of_head (rest := r) Y7c (by kernel_rfl) Tryz.underlying152 Tryz.underlying99 (by kernel_rfl) (by kernel_rfl) h
  J29 t Y7c (by decide)
theorem Y7d : Tryz.prog.globalNamed "custumal/edwards.double" = some 2 := by kernel_rfl
theorem V0w {W : World} {r : List (String × DataW Unit)} (h : laidMet Tryz.prog (("custumal/edwards.double", Rows.laid_custumal_edwards_double) :: r) W) : Rd W 2 (c4 S8.D2) :=
  have t : Lib.TabIs Tryz.prog W "custumal/edwards.double" .u64 [16993941304535871833,63073048630374742,1841551078520508720,2596001775599221991] := Lib.tabIs_of_head (rest := r) Y7d (by kernel_rfl) Tryz.underlying152 Tryz.underlying99 (by kernel_rfl) (by kernel_rfl) h
  J29 t Y7d (by decide)
theorem Y7e : Tryz.prog.globalNamed "custumal/edwards.baseX" = some 0 := by kernel_rfl
theorem V0x {W : World} {r : List (String × DataW Unit)} (h : laidMet Tryz.prog (("custumal/edwards.baseX", Rows.laid_custumal_edwards_baseX) :: r) W) : Rd W 0 (c4 S8.BX) :=
  have t : Lib.TabIs Tryz.prog W "custumal/edwards.baseX" .u64 [14507833142362363162,7578651490590762930,13881468655802702940,2407515759118799870] := Lib.tabIs_of_head (rest := r) Y7e (by kernel_rfl) Tryz.underlying152 Tryz.underlying99 (by kernel_rfl) (by kernel_rfl) h
  J29 t Y7e (by decide)
theorem Y7f : Tryz.prog.globalNamed "custumal/edwards.baseY" = some 1 := by kernel_rfl
theorem V0y {W : World} {r : List (String × DataW Unit)} (h : laidMet Tryz.prog (("custumal/edwards.baseY", Rows.laid_custumal_edwards_baseY) :: r) W) : Rd W 1 (c4 S8.BY) :=
  have t : Lib.TabIs Tryz.prog W "custumal/edwards.baseY" .u64 [7378697629483820632,7378697629483820646,7378697629483820646,7378697629483820646] := Lib.tabIs_of_head (rest := r) Y7f (by kernel_rfl) Tryz.underlying152 Tryz.underlying99 (by kernel_rfl) (by kernel_rfl) h
  J29 t Y7f (by decide)
theorem Z9g : Tryz.prog.globalNamed "custumal/scalar.order" = some 9 := by kernel_rfl
theorem V5j {W : World} {r : List (String × DataW Unit)} (h : laidMet Tryz.prog (("custumal/scalar.order", Rows.laid_custumal_scalar_order) :: r) W) : S8.Sc.GL W :=
  have t : Lib.TabIs Tryz.prog W "custumal/scalar.order" .u64 [6346243789798364141, 1503914060200516822, 0, 1152921504606846976] := Lib.tabIs_of_head (rest := r) Z9g (by kernel_rfl) Tryz.underlying157 Tryz.underlying99 (by kernel_rfl) (by kernel_rfl) h
  have h0:=t.cell Z9g 0 (by decide)
  ⟨h0,t.cell Z9g 1 (by decide),t.cell Z9g 2 (by decide),t.cell Z9g 3 (by decide),World.block_lt_of_cell? W _ h0⟩
theorem Q1s {W:World}(h:laidMet Tryz.prog Rows.custumalPastRow.laid W):S8.GA ⟨True,True,True,False⟩ W:=⟨⟨⟨(V0t h),trivial⟩,fun _=>(V0u (J1s 1 h)),fun _=>(V0v (J1s 2 h)),fun _=>(V0w (J1s 3 h)),fun _=>(V0x (J1s 4 h)),fun _=>(V0y (J1s 5 h))⟩,⟨(V5i (J1s 10 h)),(V5g (J1s 9 h))⟩,(V5j (J1s 6 h)),fun h=>h.elim⟩
theorem Q1r {W:World}(h:laidMet Tryz.prog Rows.custumalPastRow.laid W):GX W:=⟨⟨(V5e (J1s 8 h)),(V5c (J1s 7 h))⟩,Q1s h⟩
def J1a (cs:Array Value):Obj→Obj
  | .cells _ t frozen=> .cells cs t frozen
  |o=>o
noncomputable def laidWorld (os:Os):World:={World.holding Tryz.prog os ⟨#[],#[],[]⟩ with heap:=((((((((((((((((World.holding Tryz.prog os ⟨#[],#[],[]⟩).heap.modify 7 (J1a (J1 .i64 64 kf4))).modify 6 (J1a (J1 .i64 8 hf4))).modify 5 (J1a (J1 .u64 80 kf))).modify 4 (J1a (J1 .u64 8 hf))).modify 11 (J1a (J1 .u32 8 hf4))).modify 14 (J1a (J1 .u32 64 kf4))).modify 3 (J1a (J1 .u64 8 hf))).modify 12 (J1a (J1 .u64 80 kf))).modify 10 (J1a (S8.modC))).modify 13 (J1a (S8.imaC))).modify 8 (J1a (c4 S8.DD))).modify 2 (J1a (c4 S8.D2))).modify 0 (J1a (c4 S8.BX))).modify 1 (J1a (c4 S8.BY))).modify 9 (J1a (#[.int .u64 6346243789798364141,.int .u64 1503914060200516822,.int .u64 0,.int .u64 1152921504606846976])))}
end

section
open Go.ChangeShapes Go.WideShapes Go.ChangeAt Go.RowKit Go.Deep
section
variable {H : Type} {enc : TypeId × Value → H} {W : World} {base : Nat} {sp : Nat → Bool} {held : Bool}
theorem Z4z {W:World}{a:Addr}{v:Value}(h:W.cell? a=some v):a.spot=none:=by
  unfold World.cell? at h
  split at h
  · split at h
    · cases h
    rename_i hs;cases hsp:a.spot with
    |none=>rfl
    |some _=>rw[hsp] at hs;exact absurd rfl hs
  cases h
theorem Z9f {t e:TypeId}{k:Nat}{α:Type}[Inhabited α]{f:α→List Value}{Q:α→Prop}(hu:Tryz.prog.underlying t=some (.slice e))(hk:Tryz.prog.cellsOf e=k)(hk0:0<k)(hf:∀x,(f x).length=k)
    (htr:∀{fuel:Nat} {cs:List Value} {x:DataW H×List MemPlace},DataW.trod enc Tryz.prog W base sp held fuel e cs=some x→∃y,Q y∧cs=f y)
    {r:Reach} {b0:Nat} {v:Value} {d:DataW H} {ps:List MemPlace} (hval:Value.okWide Tryz.prog W r b0 t v) (hd:DataW.Trod enc Tryz.prog W base sp held t v d ps):
    ∃ls:List α,(∀y∈ls,Q y)∧RR k W v (ls.map f):=by
  obtain⟨ao,M,Y,rfl⟩:=okWide_slice hu hval;obtain⟨fuel,T⟩:=hd;rcases open_slice hu T with⟨N,_⟩|⟨a,β,γ,m,n,D,Pl,N,δ,hl,hm,U,η,hi⟩
  · simp[Value.cells] at N
    obtain⟨rfl,rfl,rfl⟩:=N;exact⟨[],fun y hy=>(by cases hy),Q9t k W⟩
  simp[Value.cells] at N;obtain⟨rfl,rfl,rfl⟩:=N;have ε:M≤m:=by rw[U];split<;>omega
  have Z:0<M→a.spot=none:=fun h=>by
    obtain⟨V,h1,h2⟩:=hi 0 (by omega);rw[hk] at h1;obtain⟨_,R,G⟩:=World.cells?_some h1;have h0:=G 0 hk0;rw[List.getElem?_eq_getElem (by rw[R];exact hk0)] at h0;have h4:=Z4z h0
    simpa[Addr.add] using h4
  have S:∀i,i<M→∃x:α,Q x∧a.spot=none∧∀(j:Nat)(u:Value),(f x)[j]?=some u→W.cell? ⟨a.block,a.off+i*k+j,none⟩=some u:=by
    intro i ζ;obtain⟨V,h1,h2⟩:=hi i (by omega);rw[hk] at h1;obtain⟨_,R,G⟩:=World.cells?_some h1;obtain⟨x,hx,e⟩:=htr h2;rw[e] at R G;have hs:=Z (by omega);refine⟨x,hx,hs,fun j u hj=> ?_⟩
    have hj' :j<k:=by
      have:=(List.getElem?_eq_some_iff.1 hj).1;rw[hf] at this;exact this
    have h3:=G j hj';rw[hj] at h3
    have e2:(a.add (i*k)).add j=⟨a.block,a.off+i*k+j,none⟩:=by
      clear R G h1 h3 hi U T hval;obtain⟨ab,θ,X⟩:=a;have hs' :X=none:=hs;subst hs';rw[Addr.add_mid,Addr.add_mid]
    rw[e2] at h3;exact h3
  refine⟨(List.range M).map fun i=>if h:i<M then Classical.choose (S i h) else default,fun y hy=> ?_,some a,Y,by simp,by simpa using hl,fun e=>(by cases e),fun j e hj=> ?_⟩
  · obtain⟨i,hi,rfl⟩:=List.mem_map.1 hy
    have J:=List.mem_range.1 hi;rw[dif_pos J];exact(Classical.choose_spec (S i J)).1
  rw[List.map_map] at hj;have J:j<M:=by have:=(List.getElem?_eq_some_iff.1 hj).1;simpa using this
  rw[List.getElem?_map,List.getElem?_range J] at hj;have hj:=Option.some.inj hj;simp only[Function.comp_apply,dif_pos J] at hj;subst hj;obtain⟨_,h2,h3⟩:=Classical.choose_spec (S j J);refine⟨a.block,a.off,?_,h3⟩;rw[←h2]
end
end

section
set_option maxHeartbeats 1500000
attribute [local irreducible] wpList Y5 wpX
inductive TR where
 |nil:TR
 |leaf:Nat→Nat→TR
 |node:Nat→TR→TR→TR
def rs:TR→Nat
 | .nil=>sE
 | .leaf k v=>sL k v
 | .node d l r=>sN (d:Int) (rs l) (rs r)
def cnt:TR→Nat
 | .nil=>0
 | .leaf _ _=>1
 | .node _ l r=>cnt l+cnt r
def ndc (k v:Nat)(s0 s1:Value)(sp:Bool)(S n:Nat):Array Value:=lf k v++(#[s0,s1,.bool sp]++(J1 .u8 32 (J4 S)++ #[.int .i64 (n:Int)]))
section
variable {k v S n : Nat} {s0 s1 : Value} {sp : Bool}
theorem Y6g:∀i u,(lf k v)[i]?=some u→(ndc k v s0 s1 sp S n)[0+i]?=some u:=fun i u h=>by rw[Nat.zero_add];exact J2h h
theorem J77:∀i u,(J1 .u8 32 (J4 k))[i]?=some u→(ndc k v s0 s1 sp S n)[0+i]?=some u:=fun i u h=>by have:=Z4y (k:=k) (v:=v) i u h;rw[Nat.zero_add] at this⊢;exact J2h this
theorem V3c:∀i u,(J1 .u8 32 (J4 v))[i]?=some u→(ndc k v s0 s1 sp S n)[32+i]?=some u:=fun i u h=>J2h (V59 i u h)
theorem Y25 {i:Nat}{u:Value}(h:(#[s0,s1,.bool sp]++(J1 .u8 32 (J4 S)++ #[.int .i64 (n:Int)]))[i]?=some u):(ndc k v s0 s1 sp S n)[64+i]?=some u:=J69 J0c h
theorem nd_s0:(ndc k v s0 s1 sp S n)[64]?=some s0:=Y25 (i:=0) (J2h rfl)
theorem nd_s1:(ndc k v s0 s1 sp S n)[65]?=some s1:=Y25 (i:=1) (J2h rfl)
theorem J6k:(ndc k v s0 s1 sp S n)[66]?=some (.bool sp):=Y25 (i:=2) (J2h rfl)
theorem V3d:∀i u,(J1 .u8 32 (J4 S))[i]?=some u→(ndc k v s0 s1 sp S n)[67+i]?=some u:=fun i u h=>by
 have h1:(#[s0,s1,Value.bool sp]++(J1 .u8 32 (J4 S)++ #[.int .i64 (n:Int)]))[3+i]?=some u:=J69 rfl (J2h h);have:=Y25 (k:=k) (v:=v) h1;rw[←Nat.add_assoc] at this;exact this
theorem K0q:(ndc k v s0 s1 sp S n)[99]?=some (.int .i64 (n:Int)):=by
 have h1:(#[s0,s1,Value.bool sp]++(J1 .u8 32 (J4 S)++ #[.int .i64 (n:Int)]))[3+(32+0)]?=some (.int .i64 (n:Int)):=J69 rfl (J69 (J0 _ _ _) rfl);rw[show(99:Nat)=64+(3+(32+0)) from rfl];exact Y25 h1
theorem Q9e:∀i u,(#[s0,s1]:Array Value)[i]?=some u→(ndc k v s0 s1 sp S n)[64+i]?=some u:=fun i u h=>by
 match i,h with
 |0,h=>exact nd_s0.trans h
 |1,h=>exact nd_s1.trans h
 |i+2,h=>simp at h
end
abbrev ptr (b:Nat):Value:=.pointer (some ⟨b,0,none⟩)
abbrev nlp:Value:=.pointer none
def TA (w:World):TR→Value→Prop
 | .nil,u=>u=nlp
 | .leaf k v,u=> ∃b,u=ptr b∧Blk w b (ndc k v nlp nlp false (sL k v) 1) 181∧k<2^256∧v<2^256
 | .node d l r,u=> ∃b s0 s1,u=ptr b∧Blk w b (ndc 0 0 s0 s1 true (rs (.node d l r)) (cnt l+cnt r)) 181∧TA w l s0∧TA w r s1
theorem Y26 {w:World}{b:Nat}{cs:Array Value}{t:TypeId}(h:Blk w b cs t):J8q w b=some t:=by unfold J8q;rw[show w.heap[b]?=_ from h]
theorem TA.keep {w W:World}(e:∀k,k<w.heap.size→J8q w k=some 181→W.heap[k]?=w.heap[k]?):∀{T:TR} {u:Value},TA w T u→TA W T u
 | .nil,_,h=>h
 | .leaf k v,_,⟨b,h1,h2,h3⟩=>⟨b,h1,(e b (Q2 h2) (Y26 h2)).trans h2,h3⟩
 | .node d l r,_,⟨b,s0,s1,h1,h2,h3,h4⟩=>⟨b,s0,s1,h1,(e b (Q2 h2) (Y26 h2)).trans h2,TA.keep e h3,TA.keep e h4⟩
theorem TA.ext {w W:World}{T:TR}{u:Value}(h:TA w T u)(k:Ext w W):TA W T u:=h.keep fun b hb _=>k.block b hb
theorem TA.holds {w:World}{T:TR}{u:Value}(h:TA w T u):(As.t 181 fun W=>TA W T u).holds w:=⟨h,fun _ _ e=>h.keep e⟩
theorem TA.one {w:World}{T:TR}{u:Value}(h:TA w T u):u.cells= #[u]∧u.oneCell' =true:=by
 cases T with
 |nil=>rw[show u=nlp from h];exact⟨rfl,rfl⟩
 |leaf k v=>obtain⟨b,rfl,_⟩:=h;exact⟨rfl,rfl⟩
 |node d l r=>obtain⟨b,s0,s1,rfl,_⟩:=h;exact⟨rfl,rfl⟩
theorem TA.pt {w:World}{T:TR}{u:Value}(h:TA w T u):∃p,u=.pointer p:=by
 cases T with
 |nil=>exact⟨_,h⟩
 |leaf k v=>obtain⟨b,h,_⟩:=h;exact⟨_,h⟩
 |node d l r=>obtain⟨b,s0,s1,h,_⟩:=h;exact⟨_,h⟩
theorem TA.blk {w:World}{T:TR}{u:Value}(h:TA w T u):(T=.nil∧u=nlp)∨∃b k v s0 s1 sp,u=ptr b∧Blk w b (ndc k v s0 s1 sp (rs T) (cnt T)) 181:=by
 cases T with
 |nil=>exact .inl ⟨rfl,h⟩
 |leaf k v=>obtain⟨b,h1,h2,_⟩:=h;exact .inr ⟨b,k,v,_,_,_,h1,h2⟩
 |node d l r=>obtain⟨b,s0,s1,h1,h2,_⟩:=h;exact .inr ⟨b,0,0,s0,s1,_,h1,h2⟩
def J9e (T:TR)(w w' :World)(e:Ending):Prop:=∃u,e=.returned u∧Ext w w' ∧TA w' T u
theorem J4r {f:FuncId}{args:Array Value}{F:List Nat}{w W:World}{H:List As}{T:TR}(hS:SH F w W H)(hc:Calls Tryz.prog f args W fun e W' =>J9e T W W' e)(ht:H.all (fun y=>SH.tyOk y (.t 181 fun _=>True))=true):
  Calls Tryz.prog f args W fun e W' => ∃u,e=.returned u∧SH F w W' (.t 181 (fun W=>TA W T u)::H):=
 hc.mono fun e W' ⟨u,h1,h2,h3⟩=>⟨u,h1,(hS.grow h2).fact h3.holds ht⟩
attribute [local irreducible] hs4 sE sL sN

theorem Y27 {q:Prop}(w:World)(hG:GT q w):
  Calls Tryz.prog 46 #[nlp] w fun e w' =>X5 (.agg (J1 .u8 32 (J4 sE))) w w' e:=by
 have hS:=SH.nil [] w
 go_enter Tryz.func46,Tryz.ntmps46
 go_upto_region 0 with fail;refine RL hS ?_;clear hS;refine MN (z:=J1 .u8 32 (J4 0)) (t:=23) ?_;intro K1;refine MZ fun W hS=> ?_;go_upto_region 2 with fail;refine RL hS ?_;clear hS;obtain⟨U1,D⟩:=exh (sE);refine MC (v:=.agg (J1 .u8 32 (J4 U1))) (fun W hS=>(by rw[D.out];exact Y6f W (J0f hG hS.ext))) ?_;refine MR 0 ?_;refine MZ fun W hS=> ?_;have e_:=D.out;subst e_;go_wp2;exact bodyPost_ret (Z8 rfl rfl (hS.blk (i:=0) rfl) (by kernel_rfl) (by rw[J0];kernel_rfl)) rfl ⟨rfl,hS.ext⟩
theorem V3e (w:World){b k v S n:Nat}{s0 s1:Value}{sp:Bool}(hB:Blk w b (ndc k v s0 s1 sp S n) 181):
  Calls Tryz.prog 46 #[ptr b] w fun e w' =>X5 (.agg (J1 .u8 32 (J4 S))) w w' e:=by
 have hS:=SH.nil [] w
 go_enter Tryz.func46,Tryz.ntmps46
 go_upto_region 0 with fail;refine RL hS ?_;clear hS;refine MN (z:=J1 .u8 32 (J4 0)) (t:=23) ?_;intro K1;refine MZ fun W hS=> ?_;go_upto_region 3 with fail;refine RL hS ?_;clear hS;(iterate 3 refine MV ?_);refine MF (v:=.agg (J1 .u8 32 (J4 S))) (fun W hS=>J0d (vs:=(J1 .u8 32 (J4 S)).toList) rfl rfl (fun i v hv=>by rw[J3 (J2 hB hS.ext)];exact V3d i v (by simpa using hv)) (by kernel_rfl) (by first|kernel_rfl|(simp only[Array.length_toList];rw[J0];kernel_rfl))) ?_;refine MR 0 ?_;refine MZ fun W hS=> ?_;go_wp2;exact bodyPost_ret (Z8 rfl rfl (hS.blk (i:=0) rfl) (by kernel_rfl) (by rw[J0];kernel_rfl)) rfl ⟨rfl,hS.ext⟩
theorem J4k {q:Prop}{T:TR}{u:Value}(w:World)(hG:GT q w)(h:TA w T u):Calls Tryz.prog 46 #[u] w fun e w' =>X5 (.agg (J1 .u8 32 (J4 (rs T)))) w w' e:=by
 rcases h.blk with⟨rfl,rfl⟩|⟨b,k,v,s0,s1,sp,rfl,hB⟩
 ·
  exact Y27 w hG
 exact V3e w hB
theorem Y6h (w:World):
  Calls Tryz.prog 199 #[nlp] w fun e w' =>X5 (.int .i64 ((0:Nat):Int)) w w' e:=by
 have hS:=SH.nil [] w
 go_enter Tryz.func199,Tryz.ntmps199
 go_wp2;exact bodyPost_ret (v:=.int .i64 0) (by simp only[results,Tryz.results199];go_simp) rfl ⟨rfl,hS.ext⟩
theorem V7z (w:World){b k v S n:Nat}{s0 s1:Value}{sp:Bool}(hB:Blk w b (ndc k v s0 s1 sp S n) 181):
  Calls Tryz.prog 199 #[ptr b] w fun e w' =>X5 (.int .i64 (n:Int)) w w' e:=by
 have hS:=SH.nil [] w
 go_enter Tryz.func199,Tryz.ntmps199
 go_upto_region 3 with fail;refine RL hS ?_;clear hS;(iterate 3 refine MV ?_);refine MF (v:=.int .i64 (n:Int)) (fun W hS=>Q5 rfl rfl (by rw[J3 (J2 hB hS.ext)];exact K0q) (by kernel_rfl)) ?_;refine MV ?_;refine MZ fun W hS=> ?_;go_wp2;exact bodyPost_ret (v:=.int .i64 (n:Int)) (by simp only[results,Tryz.results199];go_simp) rfl ⟨rfl,hS.ext⟩
theorem Y8h {T:TR}{u:Value}(w:World)(h:TA w T u):Calls Tryz.prog 199 #[u] w fun e w' =>X5 (.int .i64 (cnt T:Int)) w w' e:=by
 rcases h.blk with⟨rfl,rfl⟩|⟨b,k,v,s0,s1,sp,rfl,hB⟩
 ·
  exact Y6h w
 exact V7z w hB
theorem Y28 {q:Prop}{k v:Nat}(hk:k<2^256)(hv:v<2^256)(w:World)(hG:GT q w):
  Calls Tryz.prog 170 #[.agg (lf k v)] w fun e w' =>J9e (.leaf k v) w w' e:=by
 have hS:=SH.nil [] w
 go_enter Tryz.func170,Tryz.ntmps170
 go_upto_region 0 with fail;refine RL hS ?_;clear hS;refine MN (z:=lf k v) (t:=44) ?_;intro J;refine MV ?_;refine MZ fun W hS=> ?_;go_upto_region 1 with fail;refine RTh (.q 0 (.q 1 (.e 2 (.q 3 (.e 4 (.q 5 .z)))))) hS ?_;clear hS;refine TL 0 ?_ (hs:=by rw[J0c];kernel_rfl);refine TL 0 ?_ (hs:=by rw[J0c];kernel_rfl);refine TE (fun _ h=>h) ?_;obtain⟨U1,D⟩:=exh (sL k v);refine MC (v:=.agg (J1 .u8 32 (J4 U1))) (fun W hS=>(by rw[D.out];exact Z65 k v W (J0f hG hS.ext))) ?_;refine TNh (fun W hS=>hS) ?_;refine TW ?_ (v:=.agg (ndc k v nlp nlp false U1 1)) (hv:=by intro W;first|rfl|kernel_rfl);refine TE (fun _ h=>h) ?_;refine MN (z:=ndc k v nlp nlp false U1 1) (t:=181) ?_ (hr:=by intro w;kernel_rfl);intro G;refine TNh (fun W hS=>hS.pick [1]) ?_;refine TV ?_;refine TZ (fun _ h=>h) fun W hS=> ?_;have e_:=D.out;subst e_;go_wp2;exact bodyPost_ret (v:=ptr G) (by simp only[results,Tryz.results170];go_simp) rfl ⟨_,rfl,hS.ext,⟨_,rfl,(hS.blk (i:=0) rfl),hk,hv⟩⟩
theorem V3f {q:Prop}{L R:TR}{pa pb:Option Addr}(d:Nat)(hn:cnt L+cnt R<4611686018427387904)(w:World)(hG:GT q w)(hl:TA w L (.pointer pa))(hr_:TA w R (.pointer pb)):
  Calls Tryz.prog 172 #[.int .i64 (d:Int),.pointer pa,.pointer pb] w fun e w' =>J9e (.node d L R) w w' e:=by
 have hS:=SH.nil [] w
 go_enter Tryz.func172,Tryz.ntmps172
 go_upto_region 1 with fail;refine RL hS ?_;clear hS;refine MV ?_;refine MV ?_;refine MW ?_ (v:=.agg #[.pointer pa,.pointer pb]) (hv:=by intro W;first|rfl|kernel_rfl);refine MV ?_;refine MV ?_;refine MC (v:=.agg (J1 .u8 32 (J4 (rs L)))) (fun W hS=>J4k W (J0f hG hS.ext) (TA.ext hl hS.ext)) ?_;refine MV ?_;refine MC (v:=.agg (J1 .u8 32 (J4 (rs R)))) (fun W hS=>J4k W (J0f hG hS.ext) (TA.ext hr_ hS.ext)) ?_;obtain⟨U1,D⟩:=exh (sN (d:Int) (rs L) (rs R));refine MC (v:=.agg (J1 .u8 32 (J4 U1))) (fun W hS=>(by rw[D.out];exact Z66 (d:Int) (rs L) (rs R) W (J0f hG hS.ext))) ?_;refine MV ?_;refine MC (v:=.int .i64 (cnt L:Int)) (fun W hS=>Y8h W (TA.ext hl hS.ext)) ?_;refine MV ?_;refine MC (v:=.int .i64 (cnt R:Int)) (fun W hS=>Y8h W (TA.ext hr_ hS.ext)) ?_;refine MW ?_ (v:=.int .i64 ((cnt L+cnt R:Nat):Int)) (hv:=by intro W;go_simp;(try simp only[IntKind.wrap_i64]);omega);refine MW ?_ (v:=.agg (ndc 0 0 (.pointer pa) (.pointer pb) true U1 (cnt L+cnt R))) (hv:=by intro W;first|rfl|kernel_rfl);refine MN (z:=ndc 0 0 (.pointer pa) (.pointer pb) true U1 (cnt L+cnt R)) (t:=181) ?_ (hr:=by intro w;kernel_rfl);intro G;refine MV ?_;refine MZ fun W hS=> ?_;have e_:=D.out;subst e_;go_wp2;exact bodyPost_ret (v:=ptr G) (by simp only[results,Tryz.results172];go_simp) rfl ⟨_,rfl,hS.ext,⟨_,_,_,rfl,(hS.blk (i:=0) rfl),hl.ext hS.ext,hr_.ext hS.ext⟩⟩
theorem J8a {q:Prop}{L R:TR}{a b:Value}(d:Nat)(hn:cnt L+cnt R<4611686018427387904)(w:World)(hG:GT q w)(hl:TA w L a)(hr_:TA w R b):
  Calls Tryz.prog 172 #[.int .i64 (d:Int),a,b] w fun e w' =>J9e (.node d L R) w w' e:=by
 obtain⟨pa,rfl⟩:=hl.pt;obtain⟨pb,rfl⟩:=hr_.pt;exact V3f d hn w hG hl hr_
end

section
set_option maxHeartbeats 1500000
attribute [local irreducible] wpList
def J4q (f:Nat→Int)(i:Nat):Int:=f (i / 8) / 2^(7-i % 8) % 2
theorem Y23 {x:Int}{n:Nat}(h:0≤x∧x<256):0≤x / 2^n∧x / 2^n<256:=by
  obtain⟨a,rfl⟩:=Int.eq_ofNat_of_zero_le h.1;rw[show((a:Int) / 2^n)=((a / 2^n:Nat):Int) by rw[Int.natCast_ediv,Int.natCast_pow];rfl];have h2:=Nat.div_le_self a (2^n);have h3:=h.2;clear h;generalize a / 2^n=q at*;omega
section
variable {w : World} {o : Oper} {a : Act} {x y : Operand} {t t' : TypeId} {p : Int}
theorem Z64 {P:Program}{k:IntKind}{n:Nat}(hn:n≤8)(ho:o.op=.binOp .shr t x y t')(hx:a.eval x=.int .u8 p)(hy:a.eval y=.int k (n:Int)):(execOp a.eval o).run P w=.ok (.value (.int .u8 (p / 2^n))) w:=by
  have h:min ((n:Int)).toNat IntKind.u8.bits=n:=by rw[Int.toNat_natCast];exact Nat.min_eq_left hn
  simp only[execOp,ho,hx,hy,eqGuard,binOp,Sem.run_bind];simp[Op.shift,h,go_sem,Sem.run_bind]
theorem Y6d (hp:0≤p∧p<256)(ho:o.op=.convert 5 3 x)(hx:a.eval x=.int .u8 p):(execOp a.eval o).run Tryz.prog w=.ok (.value (.int .i64 p)) w:=by
  have hw:IntKind.wrap .i64 p=p:=by rw[IntKind.wrap_i64];omega
  simp[execOp,ho,hx,convert,run_underlying Tryz.underlying5,run_underlying Tryz.underlying3,Sem.run_bind,Conv.intToInt,hw]
theorem Y6e (h:0≤p∧p<256):bits .and .i64 p 1=p % 2:=bits_mask .i64 63 (by decide) V8o 1 (by decide) p h.1 (by omega)
end

theorem Y24 (i:Nat)(hi:i<256)(w:World):
  Calls Tryz.prog 167 #[.int .i64 (i:Int)] w fun e w' =>X5 (.bool true) w w' e:=by
 have J:(i:Int)<256:=by omega
 have G:(0:Int)≤(i:Int):=by omega
 have D:Off [] w w:=Off.refl _ _
 go_enter Tryz.func167,Tryz.ntmps167
 go_upto_region 1 with fail;refine wp_region_lit ?_;refine Lv ?_;refine Lw ?_ (v:=.bool true) (hv:=by first|(go_simp;done)|(go_simp;omega));refine Lw ?_ (v:=.bool true);refine Lv ?_;refine Lw ?_ (v:=.bool true) (hv:=by first|(go_simp;done)|(go_simp;omega));refine Lw ?_ (v:=.bool true);refine Lw ?_ (v:=.bool true);refine J5 ?_;go_wp2;exact bodyPost_ret (v:=.bool true) (by simp only[results,Tryz.results167];go_simp) rfl ⟨rfl,D.ext⟩
theorem V3b (f:Nat→Int)(hf:∀j,0≤f j∧f j<256)(i:Nat)(hi:i<256)(w:World):
  Calls Tryz.prog 122 #[.agg (J1 .u8 32 f),.int .i64 (i:Int)] w fun e w' =>X5 (.int .i64 (J4q f i)) w w' e:=by
 have M:(i:Int)<256:=by omega
 have N:(0:Int)≤(i:Int):=by omega
 have hD:=Y23 (n:=7-i % 8) (hf (i / 8));have hA:=Y6e hD;clear hf;have D:Off [] w w:=Off.refl _ _
 go_enter Tryz.func122,Tryz.ntmps122
 go_upto_region 0 with fail;refine wp_region_lit ?_;refine Ln ?_ (z:=J1 .u8 32 f) (t:=42);intro K1 W1 J hO h_;replace D:=D.o hO;have G:=h_;clear hO h_ J;refine Lw ?_ (v:=.int .i64 0);refine J5 ?_;go_upto_region 1 with fail;refine wp_region_lit ?_;refine Lv ?_;refine Lr ?_ (Y24 i hi W1);intro W2 hO;replace G:=G.o hO;replace D:=D.o hO;clear hO;refine Lw ?_ (v:=.bool false);refine J5 ?_;go_upto_region 3 with fail;refine wp_region_lit ?_;refine Lv ?_;refine Lw ?_ (v:=.int .i64 (((i / 8:Nat):Int))) (hv:=by go_simp;(try simp only[IntKind.wrap_u64,IntKind.wrap_i64]);(try omega));refine Lw ?_ (v:=.pointer (some ⟨K1,0+(i / 8),none⟩)) (hv:=rxa Tryz.underlying42 (by omega));refine Lg ?_ G (v:=.int .u8 (f (i / 8))) (hj:=ag0 (by omega));refine Lv ?_;refine Lw ?_ (v:=.int .i64 (((i % 8:Nat):Int))) (hv:=by go_simp;(try rw[Int.tmod_eq_emod_of_nonneg (by omega)]);(try omega));refine Lw ?_ (v:=.int .i64 (((7-i % 8:Nat):Int))) (hv:=by go_simp;(try simp only[IntKind.wrap_u64,IntKind.wrap_i64]);(try omega));refine Lw ?_ (v:=.int .u8 (f (i / 8) / 2^(7-i % 8))) (hv:=by exact Z64 (n:=7-i % 8) (by omega) rfl rfl rfl);refine Lw ?_ (v:=.int .i64 (f (i / 8) / 2^(7-i % 8))) (hv:=by exact Y6d hD rfl rfl);refine Lw ?_ (v:=.int .i64 (J4q f i)) (hv:=by unfold J4q;rw[←hA];exact Z5u rfl rfl rfl);refine Lv ?_;refine J5 ?_;go_wp2;exact bodyPost_ret (v:=.int .i64 (J4q f i)) (by simp only[results,Tryz.results122];go_simp) rfl ⟨rfl,D.ext⟩
end

section
set_option maxHeartbeats 1500000
attribute [local irreducible] wpList
def Q5h (f g:Nat→Int):Nat→Nat→Nat
  |0,i=>i
  |n+1,i=>if J4q f i=J4q g i then Q5h f g n (i+1) else i
def J36 (f g:Nat→Int):Nat:=Q5h f g 256 0
theorem Q15 {f g:Nat→Int}{i:Nat}(h:i<256):Q5h f g (256-i) i=if J4q f i=J4q g i then Q5h f g (256-(i+1)) (i+1) else i:=by
  rw[show 256-i=(256-(i+1))+1 by omega];rfl

end

section
set_option maxHeartbeats 1500000
attribute [local irreducible] wpList Y5 wpX
theorem Z42 (f:Nat→Int)(i:Nat):0≤J4q f i∧J4q f i<2:=by unfold J4q;omega
def kb (k i:Nat):Nat:=if i<256 then(J4q (J4 k) i).toNat else 0
theorem Y6i {k i:Nat}(h:i<256):((kb k i:Nat):Int)=J4q (J4 k) i:=by unfold kb;rw[if_pos h];have:=(Z42 (J4 k) i).1;omega
theorem V81 {k i:Nat}(h:256≤i):kb k i=0:=by unfold kb;rw[if_neg (by omega)]
theorem Y8i (k i:Nat):kb k i<2:=by unfold kb;split;have:=Z42 (J4 k) i;omega;decide
theorem V82 (k:Nat):∀j,0≤J4 k j∧J4 k j<256:=fun j=>J7j k j
theorem Q8n {w:World}{o:Oper}{a:Act}{x y:Operand}{l:List UInt8}{i:Nat}{c:UInt8}(h:l[i]?=some c)(ho:o.op=.index 9 x y)(hx:a.eval x=str l){k:IntKind}(hy:a.eval y=.int k (i:Int)):(execOp a.eval o).run Tryz.prog w=.ok (.value (.int .u8 (c.toNat:Int))) w:=by
 have hs:=Z2q l;have hi:=(List.getElem?_eq_some_iff.1 h).1;have hg:=(List.getElem?_eq_some_iff.1 h).2
 have D : (⟨l.toArray⟩ : ByteArray)[i]'(by rw [hs]; exact hi) = c := by
  show l.toArray[i]'(by simpa using hi) = c
  simpa using hg
 simp only[execOp,ho,hx,hy,str,Sem.run_bind];simp[Instr.index,asIntOf,run_underlying Tryz.underlying9,hs,hi,D,Sem.run_bind]
def tb8:List UInt8:=[0,1,2,2,3,3,3,3,4,4,4,4,4,4,4,4,5,5,5,5,5,5,5,5,5,5,5,5,5,5,5,5,6,6,6,6,6,6,6,6,6,6,6,6,6,6,6,6,6,6,6,6,6,6,6,6,6,6,6,6,6,6,6,6,7,7,7,7,7,7,7,7,7,7,7,7,7,7,7,7,7,7,7,7,7,7,7,7,7,7,7,7,7,7,7,7,7,7,7,7,7,7,7,7,7,7,7,7,7,7,7,7,7,7,7,7,7,7,7,7,7,7,7,7,7,7,7,7,8,8,8,8,8,8,8,8,8,8,8,8,8,8,8,8,8,8,8,8,8,8,8,8,8,8,8,8,8,8,8,8,8,8,8,8,8,8,8,8,8,8,8,8,8,8,8,8,8,8,8,8,8,8,8,8,8,8,8,8,8,8,8,8,8,8,8,8,8,8,8,8,8,8,8,8,8,8,8,8,8,8,8,8,8,8,8,8,8,8,8,8,8,8,8,8,8,8,8,8,8,8,8,8,8,8,8,8,8,8,8,8,8,8,8,8,8,8,8,8,8,8,8,8,8,8,8,8]
def l8 (z:Nat):Nat:=(tb8.getD z 0).toNat
theorem Y6j {z:Nat}(h:z<256):tb8[z]?=some (tb8.getD z 0):=by rw[List.getD_eq_getElem?_getD,List.getElem?_eq_getElem (by rw[show tb8.length=256 by decide+kernel];exact h)];rfl
theorem Y29:∀z:Fin 256,l8 z.val≤8∧(z.val≠0→0<l8 z.val∧z.val / 2^(l8 z.val-1) % 2=1)∧∀i:Fin 8,i.val<8-l8 z.val→z.val / 2^(7-i.val) % 2=0:=by decide+kernel
theorem Y6k (x y n:Nat):(x^^^y) / 2^n % 2=0↔x / 2^n % 2=y / 2^n % 2:=by
 have h:=Nat.testBit_xor x y n;have e:∀z:Nat,z.testBit n=decide (z / 2^n % 2=1):=fun z=>by rw[Nat.testBit_eq_decide_div_mod_eq]
 rw[e,e,e] at h;have h1:(x^^^y) / 2^n % 2<2:=Nat.mod_lt _ (by decide);have h2:x / 2^n % 2<2:=Nat.mod_lt _ (by decide);have h3:y / 2^n % 2<2:=Nat.mod_lt _ (by decide);generalize (x^^^y) / 2^n % 2=a at*;generalize x / 2^n % 2=b at*;generalize y / 2^n % 2=c at*
 match a,b,c,h1,h2,h3 with
 |0,0,0,_,_,_=>simp
 |0,0,1,_,_,_=>simp at h
 |0,1,0,_,_,_=>simp at h
 |0,1,1,_,_,_=>simp
 |1,0,0,_,_,_=>simp at h
 |1,0,1,_,_,_=>simp
 |1,1,0,_,_,_=>simp
 |1,1,1,_,_,_=>simp at h
def kby (k j:Nat):Nat:=k / 2^(8*j) % 256
theorem Q77 (k j:Nat):J4 k j=((kby k j:Nat):Int):=rfl
theorem Q16 (k j:Nat):kby k j<256:=Nat.mod_lt _ (by decide)
theorem Q09 (k i:Nat):J4q (J4 k) i=((kby k (i / 8) / 2^(7-i % 8) % 2:Nat):Int):=by
 unfold J4q;rw[Q77];rw[Int.natCast_emod,Int.natCast_ediv,Int.natCast_pow];rfl
theorem Z43 {a b i:Nat}:J4q (J4 a) i=J4q (J4 b) i↔(kby a (i / 8)^^^kby b (i / 8)) / 2^(7-i % 8) % 2=0:=by
 rw[Q09,Q09,Y6k];omega
theorem Q9f {f g:Nat→Int}{m:Nat}(hm:m≤256)(hlt:∀i,i<m→J4q f i=J4q g i)(he:m<256→J4q f m≠J4q g m):∀n i,n+i=m→Q5h f g (256-i) i=m
 |0,i,h=>by
  obtain rfl:i=m:=by omega
  by_cases h2:i<256
  ·
   rw[Q15 h2,if_neg (he h2)]
  ·
   obtain rfl:i=256:=by omega
   rfl
 |n+1,i,h=>by
  rw[Q15 (by omega),if_pos (hlt i (by omega))];exact Q9f hm hlt he n (i+1) (by omega)
theorem Z44 {f g:Nat→Int}{m:Nat}(hm:m≤256)(hlt:∀i,i<m→J4q f i=J4q g i)(he:m<256→J4q f m≠J4q g m):J36 f g=m:=Q9f hm hlt he m 0 (by omega)
theorem Z67 {a b j:Nat}(hj:j<32)(hlt:∀i,i<j→kby a i=kby b i)(hne:kby a j≠kby b j):J36 (J4 a) (J4 b)=8*j+(8-l8 (kby a j^^^kby b j)):=by
 have hz:kby a j^^^kby b j<256:=Nat.xor_lt_two_pow (n:=8) (Q16 a j) (Q16 b j);have D:kby a j^^^kby b j≠0:=fun h=>hne (by have e:=congrArg (· ^^^kby b j) h;simpa[Nat.xor_assoc] using e);obtain⟨h1,h2,h3⟩:=Y29 ⟨_,hz⟩;obtain⟨h2,h4⟩:=h2 D;simp only at h1 h2 h3 h4;generalize hl:l8 (kby a j^^^kby b j)=L at*;refine Z44 (by omega) (fun i hi=> ?_) fun _=> ?_
 ·
  rw[Z43]
  by_cases hq:i / 8<j
  ·
   rw[hlt _ hq,Nat.xor_self,Nat.zero_div]
  have e:i / 8=j:=by omega
  have h5:=h3 ⟨i % 8,Nat.mod_lt _ (by decide)⟩ (by simp only;omega);rw[e];exact h5
 rw[Ne,Z43];have e1:(8*j+(8-L)) / 8=j:=by omega
 have e2:7-(8*j+(8-L)) % 8=L-1:=by omega
 rw[e1,e2,h4];decide
theorem Y2a {a b:Nat}(h:∀i,i<32→kby a i=kby b i):J36 (J4 a) (J4 b)=256:=
 Z44 (Nat.le_refl _) (fun i hi=>by rw[Q09,Q09,h _ (by omega)]) (fun h=>absurd h (by decide))
theorem Z45 (f g:Nat→Int):J36 f g≤256:=by
 have:∀n i,n+i=256→Q5h f g (256-i) i≤256:=by
  intro n
  induction n with
  |zero=>
   intro i h;obtain rfl:i=256:=by omega
   exact Nat.le_refl 256
  |succ n ih=>intro i h;rw[Q15 (by omega)];split;exact ih (i+1) (by omega);omega
 exact this 256 0 rfl

theorem Z68 (i:Nat)(hi:256≤i)(hi2:i<4611686018427387904)(w:World):
  Calls Tryz.prog 167 #[.int .i64 (i:Int)] w fun e w' =>X5 (.bool false) w w' e:=by
 have hS:=SH.nil [] w
 go_enter Tryz.func167,Tryz.ntmps167
 go_upto_region 1 with fail;refine RL hS ?_;clear hS;refine MV ?_;refine MW ?_ (v:=.bool true) (hv:=by intro W;first|(go_simp;done)|(go_simp;omega));refine Wt ?_;refine MV ?_;refine MW ?_ (v:=.bool false) (hv:=by intro W;first|(go_simp;done)|(go_simp;omega));refine Wf ?_;refine Wf ?_;refine MZ fun W hS=> ?_;go_wp2;exact bodyPost_ret (v:=.bool false) (by simp only[results,Tryz.results167];go_simp) rfl ⟨rfl,hS.ext⟩
theorem Y6l (k i:Nat)(hi:256≤i)(hi2:i<4611686018427387904)(w:World):
  Calls Tryz.prog 122 #[.agg (J1 .u8 32 (J4 k)),.int .i64 (i:Int)] w fun e w' =>X5 (.int .i64 0) w w' e:=by
 have hS:=SH.nil [] w
 go_enter Tryz.func122,Tryz.ntmps122
 go_upto_region 0 with fail;refine RL hS ?_;clear hS;refine MN (z:=J1 .u8 32 (J4 k)) (t:=42) ?_;intro K1;refine W0 ?_;refine MZ fun W hS=> ?_;go_upto_region 1 with fail;refine RL hS ?_;clear hS;refine MV ?_;refine MC (v:=.bool false) (fun W hS=>Z68 i hi hi2 W) ?_;refine Wt ?_;refine MZ fun W hS=> ?_;go_wp2;exact bodyPost_ret (v:=.int .i64 0) (by simp only[results,Tryz.results122];go_simp) rfl ⟨rfl,hS.ext⟩
theorem J7b (k i:Nat)(hi:i<4611686018427387904)(w:World):Calls Tryz.prog 122 #[.agg (J1 .u8 32 (J4 k)),.int .i64 (i:Int)] w fun e w' =>X5 (.int .i64 (kb k i:Int)) w w' e:=by
 by_cases h:i<256
 ·
  rw[Y6i h];exact V3b _ (V82 k) i h w
 rw[V81 (by omega)];exact Y6l k i (by omega) hi w
theorem V3g (z:Nat)(hz:z<256)(w:World):
  Calls Tryz.prog 193 #[.int .u8 (z:Int)] w fun e w' =>X5 (.int .i64 (l8 z:Int)) w w' e:=by
 have hS:=SH.nil [] w
 go_enter Tryz.func193,Tryz.ntmps193
 go_upto_region 1 with fail;refine RL hS ?_;clear hS;refine MV ?_;refine MW ?_ (v:=.int .u8 ((tb8.getD z 0).toNat:Int)) (hv:=by intro W;exact Q8n (l:=tb8) (i:=z) (Y6j hz) rfl rfl rfl);refine MW ?_ (v:=.int .i64 (l8 z:Int)) (hv:=by intro W;exact Y68 rfl rfl);refine MV ?_;refine MZ fun W hS=> ?_;go_wp2;exact bodyPost_ret (v:=.int .i64 (l8 z:Int)) (by simp only[results,Tryz.results193];go_simp) rfl ⟨rfl,hS.ext⟩
theorem V83 (z:Nat)(hz:z<256)(w:World):
  Calls Tryz.prog 166 #[.int .u8 (z:Int)] w fun e w' =>X5 (.int .i64 ((8-l8 z:Nat):Int)) w w' e:=by
 have hl:=(Y29 ⟨z,hz⟩).1;simp only at hl;have hS:=SH.nil [] w
 go_enter Tryz.func166,Tryz.ntmps166
 go_upto_region 1 with fail;refine RL hS ?_;clear hS;refine MV ?_;refine MC (v:=.int .i64 (l8 z:Int)) (fun W hS=>V3g z hz W) ?_;refine MW ?_ (v:=.int .i64 ((8-l8 z:Nat):Int)) (hv:=by intro W;go_simp;(try simp only[IntKind.wrap_i64]);omega);refine MV ?_;refine MZ fun W hS=> ?_;go_wp2;exact bodyPost_ret (v:=.int .i64 ((8-l8 z:Nat):Int)) (by simp only[results,Tryz.results166];go_simp) rfl ⟨rfl,hS.ext⟩
theorem V3h {w:World}:(isAgg 5).run Tryz.prog w=.ok false w:=by
 simp[isAgg,run_underlying Tryz.underlying5,Sem.run_bind]
theorem Z6i {a b:Nat}(ha:a<256)(hb:b<256):bits .xor .u8 (a:Int) (b:Int)=((a^^^b:Nat):Int):=J4t .u8 8 (by decide) (fun n h0 h1=>by rw[IntKind.wrap_u8];omega) a b ha hb
theorem Y2b {w:World}{o:Oper}{a:Act}{x y:Operand}{t t' :TypeId}{p q:Int}(ho:o.op=.binOp .xor t x y t')(hx:a.eval x=.int .u8 p)(hy:a.eval y=.int .u8 q):(execOp a.eval o).run Tryz.prog w=.ok (.value (.int .u8 (bits .xor .u8 p q))) w:=by
 simp only[execOp,ho,hx,hy];rfl
theorem Z69 (a b:Nat)(w:World):
  Calls Tryz.prog 119 #[.agg (J1 .u8 32 (J4 a)),.agg (J1 .u8 32 (J4 b))] w fun e w' =>X5 (.int .i64 (J36 (J4 a) (J4 b):Int)) w w' e:=by
 have hS:=SH.nil [] w
 go_enter Tryz.func119,Tryz.ntmps119
 go_upto_region 0 with fail;refine RL hS ?_;clear hS;refine MN (z:=J1 .u8 32 (J4 a)) (t:=42) ?_;intro K1;refine MN (z:=J1 .u8 32 (J4 b)) (t:=42) ?_;intro J;refine W0 ?_;refine MZ fun W hS=> ?_;go_upto_region 1 with fail;refine RL hS ?_;clear hS;refine ML 1 ?_;refine W0 ?_;refine MZ fun W hS=> ?_
 go_wp2_with fail
 go_loopw [8] (fun ii wr=> ∃(j:Nat),(j≤32)∧(∀i,i<j→kby a i=kby b i)∧(ii=.int .i64 (j:Int))∧SH [] w wr [.b J (J1 .u8 32 (J4 b)) 42,.b K1 (J1 .u8 32 (J4 a)) 42])
  (fun ii _=>32-(intOf ii).toNat)
 case atStart=>exact⟨0,Nat.zero_le _,fun i h=>absurd h (Nat.not_lt_zero _),rfl,hS⟩
 clear hS
 case round=>
  obtain⟨j,hj,M,rfl,hS⟩:=hrel
  by_cases G:j<32
  ·
   go_upto_region 2 with fail;refine RL hS ?_;clear hS;refine Wt ?_;refine MZ fun W hS=> ?_;go_upto_region 3 with fail;refine RL hS ?_;clear hS;refine MV ?_;refine MW ?_ (v:=.int .u8 ((kby a j:Nat):Int)) (hv:=fun _=>Q6z (m:=32) (f:=J4 a) G Tryz.underlying42 (by kernel_rfl) V3h rfl rfl rfl);refine MV ?_;refine MV ?_;refine MZ fun W hS=> ?_
   by_cases D:kby a j=kby b j
   ·
    go_upto_region 4 with fail;refine RL hS ?_;clear hS;refine MV ?_;refine MV ?_;refine MW ?_ (v:=.pointer (some ⟨J,0+j,none⟩)) (hv:=fun _=>rxa Tryz.underlying42 (by omega));refine MG 0 ?_ (j:=0+j) (v:=.int .u8 ((J4 b) j)) (hj:=ag0 (by omega));refine MW ?_ (v:=.bool false) (hv:=by intro W;go_simp;(try simp only[Q77]);(try simp[D]));refine MZ fun W hS=> ?_;go_wp2;go_roundw
    case rel=>exact⟨j+1,by omega,fun i h=>by rcases Nat.lt_succ_iff_lt_or_eq.1 h with h|rfl;exact M i h;exact D,by go_num,hS⟩
    case measure=>simp[intOf];omega
   have N:=D;go_upto_region 4 with fail;refine RL hS ?_;clear hS;refine MV ?_;refine MV ?_;refine MW ?_ (v:=.pointer (some ⟨J,0+j,none⟩)) (hv:=fun _=>rxa Tryz.underlying42 (by omega));refine MG 0 ?_ (j:=0+j) (v:=.int .u8 ((J4 b) j)) (hj:=ag0 (by omega));refine MW ?_ (v:=.bool true) (hv:=by intro W;go_simp;(try simp only[Q77]);omega);refine MZ fun W hS=> ?_;go_upto_region 5 with fail;refine RL hS ?_;clear hS;refine MV ?_;refine MW ?_ (v:=.int .i64 ((8*j:Nat):Int)) (hv:=by intro W;go_simp;(try simp only[IntKind.wrap_i64]);omega);refine MV ?_;refine MV ?_;refine MW ?_ (v:=.pointer (some ⟨J,0+j,none⟩)) (hv:=fun _=>rxa Tryz.underlying42 (by omega));refine MG 0 ?_ (j:=0+j) (v:=.int .u8 ((J4 b) j)) (hj:=ag0 (by omega));refine MW ?_ (v:=.int .u8 ((kby a j^^^kby b j:Nat):Int)) (hv:=by intro W;rw[←Z6i (Q16 a j) (Q16 b j)];exact Y2b rfl rfl rfl);refine MC (v:=.int .i64 ((8-l8 (kby a j^^^kby b j):Nat):Int)) (fun W hS=>V83 (kby a j^^^kby b j) (Nat.xor_lt_two_pow (n:=8) (Q16 a j) (Q16 b j)) W) ?_;refine MW ?_ (v:=.int .i64 ((8*j+(8-l8 (kby a j^^^kby b j)):Nat):Int)) (hv:=by intro W;go_simp;(try simp only[IntKind.wrap_i64]);omega);refine MV ?_;refine MZ fun W hS=> ?_;go_wp2;exact bodyPost_ret (v:=.int .i64 ((8*j+(8-l8 (kby a j^^^kby b j)):Nat):Int)) (by simp only[results,Tryz.results119];go_simp) rfl ⟨by rw[Z67 G M N],hS.ext⟩
  obtain rfl:j=32:=by omega
  go_upto_region 2 with fail;refine RL hS ?_;clear hS;refine Wf ?_;refine MZ fun W hS=> ?_;go_wp2;exact bodyPost_ret (v:=.int .i64 256) (by simp only[results,Tryz.results119];go_simp) rfl ⟨by rw[Y2a M];rfl,hS.ext⟩
end
end Go.Proofs.YteehbddkcnkhfaaGreatDoor

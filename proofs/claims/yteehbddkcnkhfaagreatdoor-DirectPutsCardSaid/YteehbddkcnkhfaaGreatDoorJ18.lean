/- Contracts and plain laws for directPuts_holds. Conditions: the tables hold their numbers. -/
import Derived.Test.YteehbddkcnkhfaaGreatDoorJ17
import Derived.Test.YteehbddkcnkhfaaGreatDoorJ6
import Derived.Test.YteehbddkcnkhfaaGreatDoorCards
import Derived.Test.YteehbddkcnkhfaaGreatDoorTie
open Go.RowKit
set_option maxRecDepth 100000
set_option linter.unusedSimpArgs false
set_option linter.unusedVariables false
namespace Go.Proofs.YteehbddkcnkhfaaGreatDoor
section
set_option maxHeartbeats 1500000
attribute [local irreducible] wpList Y8 wpX
def GT (hr:Prop)(w:World):Prop:=GS4 w∧(hr→GR4 w)
theorem J05 {q:Prop}{w W:World}(h:GT q w)(e:Ext w W):GT q W:=⟨J1u h.1 e,fun x=>Q0t (h.2 x) e⟩
def db (d:Int):List UInt8:=[UInt8.ofNat (d / 256 % 256).toNat,UInt8.ofNat (d % 256).toNat]
theorem dbl (d:Int):(db d).length=2:=rfl
theorem Z15 {x:Int}(h0:0≤x)(h1:x<256):((UInt8.ofNat x.toNat).toNat:Int)=x:=by rw[UInt8.toNat_ofNat',Nat.mod_eq_of_lt (by omega)];omega
theorem K1o (d:Int):IntKind.wrap .u8 (d / 256)=((UInt8.ofNat (d / 256 % 256).toNat).toNat:Int):=by rw[Z15 (by omega) (by omega),IntKind.wrap_u8]
theorem K1p (d:Int):IntKind.wrap .u8 d=((UInt8.ofNat (d % 256).toNat).toNat:Int):=by rw[Z15 (by omega) (by omega),IntKind.wrap_u8]
def sE:Nat:=hs4 [2]
def sL (k v:Nat):Nat:=hs4 ([0]++lb 32 k++lb 32 v)
def sN (d:Int)(l r:Nat):Nat:=hs4 ([1]++db d++lb 32 l++lb 32 r)
theorem J9h {H:Nat}{F:List UInt8}(hH:H=hs4 F)(ps:List (List UInt8))(A:Option Addr)(c:Nat)(hF:ps.flatten=F)(hlen:F.length≤70368744177664)(hpn:ps.length≤9223372036854775000)(w:World)(hps:∀i l,ps[i]?=some l→∃ad u,A=some ad∧w.cell? (ad.add i)=some u∧Sl w u l)(hG:GS4 w):
  Calls Tryz.prog 77 #[.slice A ps.length c] w fun e w' =>K7 (.agg (J0 .u8 32 (J7 H))) w w' e:=by
 rw[hH,←Z8y];exact V69 ps A c F hF hlen hpn w hps hG
theorem Q9j {H:Nat}{l:List UInt8}(hH:H=hs4 l)(hlen:l.length≤70368744177664)(w:World)(hG:GR4 w):Calls Tryz.prog 102 #[K6 l] w fun e w' =>K7 (K6 (lb 32 H)) w w' e:=by
 rw[hH,←Z3k];exact Y8p l hlen w hG
attribute [local irreducible] hs4

theorem Y8u {q:Prop}(w:World)(hG:GT q w):
  Calls Tryz.prog 84 #[] w fun e w' =>K7 (.agg (J0 .u8 32 (J7 sE))) w w' e:=by
 have hS:=SH.nil [] w
 go_enter Tryz.func84,Tryz.ntmps84
 go_upto_region 0 with fail;refine RL hS ?_;clear hS;refine MN (z:=J0 .u8 32 (J7 0)) (t:=23) ?_;intro M;refine MZ fun W hS=> ?_;go_upto_region 1 with fail;refine RL hS ?_;clear hS;refine MO (m:=[2]) (n:=1) (z:= #[.int .u8 2]) ?_;intro D;refine MB (z:= #[D]) (t:=22) (n:=1) (c:=1) ?_ (hr:=fun W hS=>K3 [D] rfl rfl (vsc (J9 (hS.osl (i:=0) rfl)).1 vs0) Tryz.underlying168 (by kernel_rfl) (by kernel_rfl) rfl (by decide) (by decide));intro J;obtain⟨U1,G⟩:=exh (hs4 ([2]));refine MC (v:=.agg (J0 .u8 32 (J7 U1))) (fun W hS=>J9h G.out [[2]] (some ⟨J,0,none⟩) 1 (by simp only[List.flatten_cons,List.flatten_nil,List.append_nil,List.nil_append,List.append_assoc,List.cons_append]) (by first|omega|(simp only[List.length_append,List.length_cons,List.length_nil,Q0,dbl];omega)) (by simp) W (J1n (hS.blk (i:=0) rfl) (pvc (hS.osl (i:=1) rfl) pv0)) (J1u hG.1 hS.ext)) ?_;refine MR 2 ?_;refine MZ fun W hS=> ?_;have e_:=G.out;subst e_;go_wp2;exact bodyPost_ret (Z7 rfl rfl (hS.blk (i:=2) rfl) (by kernel_rfl) (by rw[J1];kernel_rfl)) rfl ⟨rfl,hS.ext⟩
theorem Z8e {q:Prop}(k v:Nat)(w:World)(hG:GT q w):
  Calls Tryz.prog 196 #[.agg (lf k v)] w fun e w' =>K7 (.agg (J0 .u8 32 (J7 (sL k v)))) w w' e:=by
 have hS:=SH.nil [] w
 go_enter Tryz.func196,Tryz.ntmps196
 go_upto_region 0 with fail;refine RL hS ?_;clear hS;refine MN (z:=lf k v) (t:=44) ?_;intro D;refine MN (z:=J0 .u8 32 (J7 0)) (t:=23) ?_;intro N;refine MZ fun W hS=> ?_;go_upto_region 1 with fail;refine RTp [1] (.q 1 (.q 2 (.q 3 (.q 4 (.e 0 (.e 5 (.e 6 (.e 7 .z)))))))) hS ?_;clear hS;refine TV ?_;refine TW ?_ (v:=.slice (some ⟨D,0,none⟩) 32 32);refine TV ?_;refine TW ?_ (v:=.slice (some ⟨D,32,none⟩) 32 32);refine TE (fun _ h=>h.pick [1]) ?_;refine MO (m:=[0]) (n:=1) (z:= #[.int .u8 0]) ?_;intro J;refine X6 [0,2] [1] ?_;refine TE (fun _ h=>h.pick [0,2]) ?_;refine MB (z:= #[J,.slice (some ⟨D,0,none⟩) 32 32,.slice (some ⟨D,32,none⟩) 32 32]) (t:=22) (n:=3) (c:=3) ?_ (hr:=fun W hS=>K3 [J,.slice (some ⟨D,0,none⟩) 32 32,.slice (some ⟨D,32,none⟩) 32 32] rfl rfl (vsc (J9 (hS.osl (i:=0) rfl)).1 (vsc rfl (vsc rfl vs0))) Tryz.underlying168 (by kernel_rfl) (by kernel_rfl) rfl (by decide) (by decide));intro M;refine X6 [0,1,3] [1,2] ?_;refine TE (fun _ h=>h.pick [0,1,3]) ?_;obtain⟨U1,G⟩:=exh (hs4 ([0]++(lb 32 k)++(lb 32 v)));refine MC (v:=.agg (J0 .u8 32 (J7 U1))) (fun W hS=>J9h G.out [[0],lb 32 k,lb 32 v] (some ⟨M,0,none⟩) 3 (by simp only[List.flatten_cons,List.flatten_nil,List.append_nil,List.nil_append,List.append_assoc,List.cons_append]) (by first|omega|(simp only[List.length_append,List.length_cons,List.length_nil,Q0,dbl];omega)) (by simp) W (J1n (hS.blk (i:=0) rfl) (pvc (hS.osl (i:=1) rfl) (pvc (Y6 (V:=k) (n:=32) (off:=0) (hS.blk (i:=3) rfl) Z78 (by decide) (by decide)) (pvc (Y6 (V:=v) (n:=32) (off:=32) (hS.blk (i:=3) rfl) V90 (by decide) (by decide)) pv0)))) (J1u hG.1 hS.ext)) ?_;refine X6 [0,1,3] [0,1,2] ?_;refine TE (fun _ h=>h.pick [0,1,3]) ?_;refine MR 2 ?_;refine X6 [0,1,3] [0,1,2] ?_;refine TZ (fun _ h=>h.pick [0,1,3]) fun W hS=> ?_;have e_:=G.out;subst e_;go_wp2;exact bodyPost_ret (Z7 rfl rfl (hS.blk (i:=2) rfl) (by kernel_rfl) (by rw[J1];kernel_rfl)) rfl ⟨rfl,hS.ext⟩
theorem Z8f {q:Prop}(d:Int)(l r:Nat)(w:World)(hG:GT q w):
  Calls Tryz.prog 198 #[.int .i64 d,.agg (J0 .u8 32 (J7 l)),.agg (J0 .u8 32 (J7 r))] w fun e w' =>K7 (.agg (J0 .u8 32 (J7 (sN d l r)))) w w' e:=by
 have hS:=SH.nil [] w
 go_enter Tryz.func198,Tryz.ntmps198
 go_upto_region 0 with fail;refine RL hS ?_;clear hS;refine MN (z:=J0 .u8 32 (J7 l)) (t:=23) ?_;intro D;refine MN (z:=J0 .u8 32 (J7 r)) (t:=23) ?_;intro G;refine MN (z:=J0 .u8 32 (J7 0)) (t:=23) ?_;intro R;refine MZ fun W hS=> ?_;go_upto_region 1 with fail;refine RTp [1,2] (.q 0 (.q 1 (.q 2 (.q 3 (.q 4 (.q 6 (.q 7 (.e 5 (.e 8 (.e 9 (.e 10 .z))))))))))) hS ?_;clear hS;refine TV ?_;refine TW ?_ (v:=.int .i64 (d / 256)) (hv:=by intro W;exact J0z (n:=8) (by decide) rfl rfl rfl);refine TW ?_ (v:=.int .u8 ((UInt8.ofNat (d / 256 % 256).toNat).toNat:Int)) (hv:=by intro W;rw[←K1o d];exact J2h rfl rfl);refine TV ?_;refine TW ?_ (v:=.int .u8 ((UInt8.ofNat (d % 256).toNat).toNat:Int)) (hv:=by intro W;rw[←K1p d];exact J2h rfl rfl);refine TW ?_ (v:=.slice (some ⟨D,0,none⟩) 32 32);refine TW ?_ (v:=.slice (some ⟨G,0,none⟩) 32 32);refine TE (fun _ h=>h.pick [1,2]) ?_;refine MO (m:=[1,UInt8.ofNat (d / 256 % 256).toNat,UInt8.ofNat (d % 256).toNat]) (n:=3) (z:= #[.int .u8 1,.int .u8 ((UInt8.ofNat (d / 256 % 256).toNat).toNat:Int),.int .u8 ((UInt8.ofNat (d % 256).toNat).toNat:Int)]) ?_;intro M;refine X6 [0,2,3] [1,2] ?_;refine TE (fun _ h=>h.pick [0,2,3]) ?_;refine MB (z:= #[M,.slice (some ⟨D,0,none⟩) 32 32,.slice (some ⟨G,0,none⟩) 32 32]) (t:=22) (n:=3) (c:=3) ?_ (hr:=fun W hS=>K3 [M,.slice (some ⟨D,0,none⟩) 32 32,.slice (some ⟨G,0,none⟩) 32 32] rfl rfl (vsc (J9 (hS.osl (i:=0) rfl)).1 (vsc rfl (vsc rfl vs0))) Tryz.underlying168 (by kernel_rfl) (by kernel_rfl) rfl (by decide) (by decide));intro N;refine X6 [0,1,3,4] [1,2,3] ?_;refine TE (fun _ h=>h.pick [0,1,3,4]) ?_;obtain⟨U1,J⟩:=exh (hs4 ([1,UInt8.ofNat (d / 256 % 256).toNat,UInt8.ofNat (d % 256).toNat]++(lb 32 l)++(lb 32 r)));refine MC (v:=.agg (J0 .u8 32 (J7 U1))) (fun W hS=>J9h J.out [[1,UInt8.ofNat (d / 256 % 256).toNat,UInt8.ofNat (d % 256).toNat],lb 32 l,lb 32 r] (some ⟨N,0,none⟩) 3 (by simp only[List.flatten_cons,List.flatten_nil,List.append_nil,List.nil_append,List.append_assoc,List.cons_append]) (by first|omega|(simp only[List.length_append,List.length_cons,List.length_nil,Q0,dbl];omega)) (by simp) W (J1n (hS.blk (i:=0) rfl) (pvc (hS.osl (i:=1) rfl) (pvc (Y6 (V:=l) (n:=32) (off:=0) (hS.blk (i:=4) rfl) ap0 (by decide) (by decide)) (pvc (Y6 (V:=r) (n:=32) (off:=0) (hS.blk (i:=3) rfl) ap0 (by decide) (by decide)) pv0)))) (J1u hG.1 hS.ext)) ?_;refine X6 [0,1,3,4] [0,1,2,3] ?_;refine TE (fun _ h=>h.pick [0,1,3,4]) ?_;refine MR 2 ?_;refine X6 [0,1,3,4] [0,1,2,3] ?_;refine TZ (fun _ h=>h.pick [0,1,3,4]) fun W hS=> ?_;have e_:=J.out;subst e_;go_wp2;exact bodyPost_ret (Z7 rfl rfl (hS.blk (i:=2) rfl) (by kernel_rfl) (by rw[J1];kernel_rfl)) rfl ⟨rfl,hS.ext⟩
theorem Y0i {q:Prop}(hr:q)(w:World)(hG:GT q w):
  Calls Tryz.prog 79 #[] w fun e w' =>K7 (K6 (lb 32 sE)) w w' e:=by
 have hS:=SH.nil [] w
 go_enter Tryz.func79,Tryz.ntmps79
 go_upto_region 1 with fail;refine RL hS ?_;clear hS;obtain⟨U1,D⟩:=exh (hs4 ([2]));refine MC (v:=K6 (lb 32 U1)) (fun W hS=>Q9j D.out (by first|omega|(simp only[List.length_append,List.length_cons,List.length_nil,Q0,dbl];omega)) W (Q0t (hG.2 hr) hS.ext)) ?_;refine MV ?_;refine MZ fun W hS=> ?_;go_wp2;exact bodyPost_ret (v:=K6 (lb 32 U1)) (by simp only[results,Tryz.results79];go_simp) rfl ⟨(by(try rw[D.out]);rfl),hS.ext⟩
end

section
open S8 (Kn GA)
abbrev kn0:Kn:=⟨True,True,True,False⟩
def GX (w:World):Prop:=GS4 w∧GA kn0 w
abbrev gxF:List Nat:=[14,11,10,13,8,2,0,1,12,3,9]
abbrev gx:As:=.p gxF GX
theorem J8m {w:World}(h:GX w):gx.holds w:=by
  obtain⟨⟨s1,s2⟩,⟨⟨m1,m2⟩,e1,e2,e3,e4,e5⟩,⟨r1,r2⟩,⟨o1,o2,o3,o4,o5⟩,_⟩:=h;replace e1:Rd _ _ _:=e1 trivial;replace e2:=e2 trivial;replace e3:=e3 trivial;replace e4:=e4 trivial;replace e5:=e5 trivial;refine⟨⟨⟨s1,s2⟩,⟨⟨m1,m2⟩,fun _=>e1,fun _=>e2,fun _=>e3,fun _=>e4,fun _=>e5⟩,⟨r1,r2⟩,⟨o1,o2,o3,o4,o5⟩,fun h=>h.elim⟩,fun k hk=> ?_,fun W hs he=> ?_⟩
  · simp only[gxF,List.mem_cons,List.not_mem_nil,or_false] at hk
    rcases hk with rfl|rfl|rfl|rfl|rfl|rfl|rfl|rfl|rfl|rfl|rfl
    · exact s1.2
    · exact s2.2
    · exact m1.2
    · exact e1.2
    · exact e2.2
    · exact e3.2
    · exact e4.2
    · exact e5.2
    · exact r1.2
    · exact r2.2
    exact o5
  have c:∀j v,w.cell? ⟨9,j,none⟩=some v→W.cell? ⟨9,j,none⟩=some v:=fun j v h=>(World.cell?_of_block (w:=w) (he _ (by simp))).trans h;exact⟨⟨J3j s1 hs (he _ (by simp)),J3j s2 hs (he _ (by simp))⟩,⟨⟨J3j m1 hs (he _ (by simp)),trivial⟩,fun _=>J3j e1 hs (he _ (by simp)),fun _=>J3j e2 hs (he _ (by simp)),fun _=>J3j e3 hs (he _ (by simp)),fun _=>J3j e4 hs (he _ (by simp)),fun _=>J3j e5 hs (he _ (by simp))⟩,⟨J3j r1 hs (he _ (by simp)),J3j r2 hs (he _ (by simp))⟩,⟨c _ _ o1,c _ _ o2,c _ _ o3,c _ _ o4,Nat.lt_of_lt_of_le o5 hs⟩,fun h=>h.elim⟩
theorem GX.gt {w:World}(h:GX w):GT False w:=⟨h.1,fun x=>x.elim⟩
theorem GX.ext {w W:World}(h:GX w)(k:Ext w W):GX W:=⟨J1u h.1 k,S8.GA_ext h.2 k⟩
theorem GX.of {kn:Kn}{q:Prop}{w:World}(hd:kn.d)(hb:kn.b)(hc:kn.c)(hG:GT q w)(hA:GA kn w):GX w:=⟨hG.1,⟨hA.1.1,fun _=>hA.1.2.1 hc,fun _=>hA.1.2.2.1 hc,fun _=>hA.1.2.2.2.1 hd,fun _=>hA.1.2.2.2.2.1 hb,fun _=>hA.1.2.2.2.2.2 hb⟩,hA.2.1,hA.2.2.1,fun h=>h.elim⟩
end

section
open Go.ChangeShapes Go.WideShapes Go.ChangeAt Go.RowKit Go.Deep
theorem Z29 {P:Program}{x:String×DataW Unit}{r:List (String×DataW Unit)}{W:World}(h:laidMet P (x::r) W):laidMet P r W:=by
  obtain⟨ps,⟨g,t,cs,G,p,q,_,_,_,_,hv,rfl⟩,hn,hc⟩:=h;exact⟨q,hv,(List.nodup_append.1 hn).2.1,fun b D hb=>hc b D (List.mem_append_right _ hb)⟩
theorem J0n {P:Program}(n:Nat){l:List (String×DataW Unit)}{W:World}(h:laidMet P l W):laidMet P (l.drop n) W:=by
  induction n generalizing l with
  |zero=>exact h
  |succ n ih=>cases l with
    |nil=>exact h
    |cons x r=>exact ih (Z29 h)
theorem J1t {W:World}{name:String}{k:IntKind}{zs:List Int}{g:Nat}(h:Lib.TabIs Tryz.prog W name k zs)(hg:Tryz.prog.globalNamed name=some g)(h0:0<zs.length):Rd W g (zs.map fun z=>Value.int k z).toArray:=by
  refine⟨fun j v hj=> ?_,World.block_lt_of_cell? W ⟨g,0,none⟩ (h.cell hg 0 h0)⟩;rw[List.getElem?_toArray,List.getElem?_map] at hj;cases hz:zs[j]? with
  |none=>rw[hz] at hj;cases hj
  |some z=>
    rw[hz] at hj;obtain rfl:=Option.some.inj hj
    have hl:j<zs.length:=by
      rcases Nat.lt_or_ge j zs.length with h|h
      · exact h
      · rw[List.getElem?_eq_none h] at hz;cases hz
    have:=h.cell hg j hl
    rwa [List.getD_eq_getElem?_getD,hz] at this
theorem V91 : Tryz.prog.globalNamed "custumal/custumalref01.K" = some 7 := by kernel_rfl
theorem V92 {W : World} {r : List (String × DataW Unit)} (h : laidMet Tryz.prog (("custumal/custumalref01.K", Rows.laid_custumal_custumalref01_K) :: r) W) : Rd W 7 (J0 .i64 64 U0) :=
  have e:(kk4.map fun z=>Value.int .i64 z).toArray=J0 .i64 64 U0:=by kernel_rfl
  have t : Lib.TabIs Tryz.prog W "custumal/custumalref01.K" .i64 kk4 := Lib.tabIs_of_head (rest := r) V91 (by kernel_rfl) Tryz.underlying249 Tryz.underlying3 (by kernel_rfl) (by kernel_rfl) h
  e▸J1t t V91 (by decide)
theorem V93 : Tryz.prog.globalNamed "custumal/custumalref01.H" = some 6 := by kernel_rfl
theorem V94 {W : World} {r : List (String × DataW Unit)} (h : laidMet Tryz.prog (("custumal/custumalref01.H", Rows.laid_custumal_custumalref01_H) :: r) W) : Rd W 6 (J0 .i64 8 hf4) :=
  have e:(hh4.map fun z=>Value.int .i64 z).toArray=J0 .i64 8 hf4:=by kernel_rfl
  have t : Lib.TabIs Tryz.prog W "custumal/custumalref01.H" .i64 hh4 := Lib.tabIs_of_head (rest := r) V93 (by kernel_rfl) Tryz.underlying248 Tryz.underlying3 (by kernel_rfl) (by kernel_rfl) h
  e▸J1t t V93 (by decide)
theorem V95 : Tryz.prog.globalNamed "custumal/sha2.start" = some 11 := by kernel_rfl
theorem Y9v {W : World} {r : List (String × DataW Unit)} (h : laidMet Tryz.prog (("custumal/sha2.start", Rows.laid_custumal_sha2_start) :: r) W) : Rd W 11 (J0 .u32 8 hf4) :=
  have e:(hh4.map fun z=>Value.int .u32 z).toArray=J0 .u32 8 hf4:=by kernel_rfl
  have t : Lib.TabIs Tryz.prog W "custumal/sha2.start" .u32 hh4 := Lib.tabIs_of_head (rest := r) V95 (by kernel_rfl) Tryz.underlying271 Tryz.underlying270 (by kernel_rfl) (by kernel_rfl) h
  e▸J1t t V95 (by decide)
theorem V96 : Tryz.prog.globalNamed "custumal/sha2.rounds" = some 14 := by kernel_rfl
theorem Y9w {W : World} {r : List (String × DataW Unit)} (h : laidMet Tryz.prog (("custumal/sha2.rounds", Rows.laid_custumal_sha2_rounds) :: r) W) : Rd W 14 (J0 .u32 64 U0) :=
  have e:(kk4.map fun z=>Value.int .u32 z).toArray=J0 .u32 64 U0:=by kernel_rfl
  have t : Lib.TabIs Tryz.prog W "custumal/sha2.rounds" .u32 kk4 := Lib.tabIs_of_head (rest := r) V96 (by kernel_rfl) Tryz.underlying295 Tryz.underlying270 (by kernel_rfl) (by kernel_rfl) h
  e▸J1t t V96 (by decide)
theorem V97 : Tryz.prog.globalNamed "custumal/sha5.start" = some 3 := by kernel_rfl
theorem V98 {W : World} {r : List (String × DataW Unit)} (h : laidMet Tryz.prog (("custumal/sha5.start", Rows.laid_custumal_sha5_start) :: r) W) : Rd W 3 (J0 .u64 8 hf) :=
  have e:(hh.map fun z=>Value.int .u64 z).toArray=J0 .u64 8 hf:=by kernel_rfl
  have t : Lib.TabIs Tryz.prog W "custumal/sha5.start" .u64 hh := Lib.tabIs_of_head (rest := r) V97 (by kernel_rfl) Tryz.underlying230 Tryz.underlying99 (by kernel_rfl) (by kernel_rfl) h
  e▸J1t t V97 (by decide)
theorem V99 : Tryz.prog.globalNamed "custumal/sha5.rounds" = some 12 := by kernel_rfl
theorem V9a {W : World} {r : List (String × DataW Unit)} (h : laidMet Tryz.prog (("custumal/sha5.rounds", Rows.laid_custumal_sha5_rounds) :: r) W) : Rd W 12 (J0 .u64 80 kf) :=
  have e:(kk.map fun z=>Value.int .u64 z).toArray=J0 .u64 80 kf:=by kernel_rfl
  have t : Lib.TabIs Tryz.prog W "custumal/sha5.rounds" .u64 kk := Lib.tabIs_of_head (rest := r) V99 (by kernel_rfl) Tryz.underlying234 Tryz.underlying99 (by kernel_rfl) (by kernel_rfl) h
  e▸J1t t V99 (by decide)
theorem Y9x : Tryz.prog.globalNamed "custumal/field.modulus" = some 10 := by kernel_rfl
theorem V3q {W : World} {r : List (String × DataW Unit)} (h : laidMet Tryz.prog (("custumal/field.modulus", Rows.laid_custumal_field_modulus) :: r) W) : Rd W 10 (S8.modC) :=
  have t : Lib.TabIs Tryz.prog W "custumal/field.modulus" .u64 [18446744073709551597, 18446744073709551615, 18446744073709551615, 9223372036854775807] := Lib.tabIs_of_head (rest := r) Y9x (by kernel_rfl) Tryz.underlying152 Tryz.underlying99 (by kernel_rfl) (by kernel_rfl) h
  J1t t Y9x (by decide)
theorem Y9y : Tryz.prog.globalNamed "custumal/field.imaginary" = some 13 := by kernel_rfl
theorem V3r {W : World} {r : List (String × DataW Unit)} (h : laidMet Tryz.prog (("custumal/field.imaginary", Rows.laid_custumal_field_imaginary) :: r) W) : Rd W 13 (S8.imaC) :=
  have t : Lib.TabIs Tryz.prog W "custumal/field.imaginary" .u64 [14190309331451158704, 3405592160176694392, 3120150775007532967, 3135389899092516619] := Lib.tabIs_of_head (rest := r) Y9y (by kernel_rfl) Tryz.underlying152 Tryz.underlying99 (by kernel_rfl) (by kernel_rfl) h
  J1t t Y9y (by decide)
theorem Y9z : Tryz.prog.globalNamed "custumal/edwards.curve" = some 8 := by kernel_rfl
theorem V3s {W : World} {r : List (String × DataW Unit)} (h : laidMet Tryz.prog (("custumal/edwards.curve", Rows.laid_custumal_edwards_curve) :: r) W) : Rd W 8 (c4 S8.DD) :=
  have t : Lib.TabIs Tryz.prog W "custumal/edwards.curve" .u64 [8496970652267935907,31536524315187371,10144147576115030168,5909686906226998899] := Lib.tabIs_of_head (rest := r) Y9z (by kernel_rfl) Tryz.underlying152 Tryz.underlying99 (by kernel_rfl) (by kernel_rfl) h
  J1t t Y9z (by decide)
theorem V00 : Tryz.prog.globalNamed "custumal/edwards.double" = some 2 := by kernel_rfl
theorem V3t {W : World} {r : List (String × DataW Unit)} (h : laidMet Tryz.prog (("custumal/edwards.double", Rows.laid_custumal_edwards_double) :: r) W) : Rd W 2 (c4 S8.D2) :=
  have t : Lib.TabIs Tryz.prog W "custumal/edwards.double" .u64 [16993941304535871833,63073048630374742,1841551078520508720,2596001775599221991] := Lib.tabIs_of_head (rest := r) V00 (by kernel_rfl) Tryz.underlying152 Tryz.underlying99 (by kernel_rfl) (by kernel_rfl) h
  J1t t V00 (by decide)
theorem V01 : Tryz.prog.globalNamed "custumal/edwards.baseX" = some 0 := by kernel_rfl
theorem V3u {W : World} {r : List (String × DataW Unit)} (h : laidMet Tryz.prog (("custumal/edwards.baseX", Rows.laid_custumal_edwards_baseX) :: r) W) : Rd W 0 (c4 S8.BX) :=
  have t : Lib.TabIs Tryz.prog W "custumal/edwards.baseX" .u64 [14507833142362363162,7578651490590762930,13881468655802702940,2407515759118799870] := Lib.tabIs_of_head (rest := r) V01 (by kernel_rfl) Tryz.underlying152 Tryz.underlying99 (by kernel_rfl) (by kernel_rfl) h
  J1t t V01 (by decide)
theorem V02 : Tryz.prog.globalNamed "custumal/edwards.baseY" = some 1 := by kernel_rfl
theorem V3v {W : World} {r : List (String × DataW Unit)} (h : laidMet Tryz.prog (("custumal/edwards.baseY", Rows.laid_custumal_edwards_baseY) :: r) W) : Rd W 1 (c4 S8.BY) :=
  have t : Lib.TabIs Tryz.prog W "custumal/edwards.baseY" .u64 [7378697629483820632,7378697629483820646,7378697629483820646,7378697629483820646] := Lib.tabIs_of_head (rest := r) V02 (by kernel_rfl) Tryz.underlying152 Tryz.underlying99 (by kernel_rfl) (by kernel_rfl) h
  J1t t V02 (by decide)
theorem Y1x : Tryz.prog.globalNamed "custumal/scalar.order" = some 9 := by kernel_rfl
theorem V9b {W : World} {r : List (String × DataW Unit)} (h : laidMet Tryz.prog (("custumal/scalar.order", Rows.laid_custumal_scalar_order) :: r) W) : S8.Sc.GL W :=
  have t : Lib.TabIs Tryz.prog W "custumal/scalar.order" .u64 [6346243789798364141, 1503914060200516822, 0, 1152921504606846976] := Lib.tabIs_of_head (rest := r) Y1x (by kernel_rfl) Tryz.underlying157 Tryz.underlying99 (by kernel_rfl) (by kernel_rfl) h
  have h0:=t.cell Y1x 0 (by decide)
  ⟨h0,t.cell Y1x 1 (by decide),t.cell Y1x 2 (by decide),t.cell Y1x 3 (by decide),World.block_lt_of_cell? W _ h0⟩
theorem Q5y {W:World}(h:laidMet Tryz.prog Rows.directPutsRow.laid W):GT True W:=⟨⟨(Y9w (J0n 10 h)),(Y9v (J0n 9 h))⟩,fun _=>⟨(V92 h),(V94 (J0n 1 h))⟩⟩
theorem Q60 {W:World}(h:laidMet Tryz.prog Rows.directPutsRow.laid W):S8.GA ⟨True,True,True,False⟩ W:=⟨⟨⟨(V3q (J0n 2 h)),trivial⟩,fun _=>(V3r (J0n 3 h)),fun _=>(V3s (J0n 4 h)),fun _=>(V3t (J0n 5 h)),fun _=>(V3u (J0n 6 h)),fun _=>(V3v (J0n 7 h))⟩,⟨(V9a (J0n 12 h)),(V98 (J0n 11 h))⟩,(V9b (J0n 8 h)),fun h=>h.elim⟩
theorem Q5z {W:World}(h:laidMet Tryz.prog Rows.directPutsRow.laid W):GX W:=⟨⟨(Y9w (J0n 10 h)),(Y9v (J0n 9 h))⟩,Q60 h⟩
def J1j (cs:Array Value):Obj→Obj
  | .cells _ t frozen=> .cells cs t frozen
  |o=>o
noncomputable def laidWorld (os:Os):World:={World.holding Tryz.prog os ⟨#[],#[],[]⟩ with heap:=((((((((((((((((World.holding Tryz.prog os ⟨#[],#[],[]⟩).heap.modify 7 (J1j (J0 .i64 64 U0))).modify 6 (J1j (J0 .i64 8 hf4))).modify 5 (J1j (J0 .u64 80 kf))).modify 4 (J1j (J0 .u64 8 hf))).modify 11 (J1j (J0 .u32 8 hf4))).modify 14 (J1j (J0 .u32 64 U0))).modify 3 (J1j (J0 .u64 8 hf))).modify 12 (J1j (J0 .u64 80 kf))).modify 10 (J1j (S8.modC))).modify 13 (J1j (S8.imaC))).modify 8 (J1j (c4 S8.DD))).modify 2 (J1j (c4 S8.D2))).modify 0 (J1j (c4 S8.BX))).modify 1 (J1j (c4 S8.BY))).modify 9 (J1j (#[.int .u64 6346243789798364141,.int .u64 1503914060200516822,.int .u64 0,.int .u64 1152921504606846976])))}
end

section
set_option maxHeartbeats 1500000
attribute [local irreducible] wpList Y8 wpX
inductive TR where
 |nil:TR
 |leaf:Nat→Nat→TR
 |node:Nat→TR→TR→TR
def rs:TR→Nat
 | .nil=>sE
 | .leaf k v=>sL k v
 | .node d l r=>sN (d:Int) (rs l) (rs r)
def cnt:TR→Nat
 | .nil=>0
 | .leaf _ _=>1
 | .node _ l r=>cnt l+cnt r
def ndc (k v:Nat)(s0 s1:Value)(sp:Bool)(S n:Nat):Array Value:=lf k v++(#[s0,s1,.bool sp]++(J0 .u8 32 (J7 S)++ #[.int .i64 (n:Int)]))
section
variable {k v S n : Nat} {s0 s1 : Value} {sp : Bool}
theorem Y8v:∀i u,(lf k v)[i]?=some u→(ndc k v s0 s1 sp S n)[0+i]?=some u:=fun i u h=>by rw[Nat.zero_add];exact J2w h
theorem J84:∀i u,(J0 .u8 32 (J7 k))[i]?=some u→(ndc k v s0 s1 sp S n)[0+i]?=some u:=fun i u h=>by have:=Z78 (k:=k) (v:=v) i u h;rw[Nat.zero_add] at this⊢;exact J2w this
theorem V6c:∀i u,(J0 .u8 32 (J7 v))[i]?=some u→(ndc k v s0 s1 sp S n)[32+i]?=some u:=fun i u h=>J2w (V90 i u h)
theorem Y4g {i:Nat}{u:Value}(h:(#[s0,s1,.bool sp]++(J0 .u8 32 (J7 S)++ #[.int .i64 (n:Int)]))[i]?=some u):(ndc k v s0 s1 sp S n)[64+i]?=some u:=J76 J0d h
theorem nd_s0:(ndc k v s0 s1 sp S n)[64]?=some s0:=Y4g (i:=0) (J2w rfl)
theorem nd_s1:(ndc k v s0 s1 sp S n)[65]?=some s1:=Y4g (i:=1) (J2w rfl)
theorem J7i:(ndc k v s0 s1 sp S n)[66]?=some (.bool sp):=Y4g (i:=2) (J2w rfl)
theorem V6d:∀i u,(J0 .u8 32 (J7 S))[i]?=some u→(ndc k v s0 s1 sp S n)[67+i]?=some u:=fun i u h=>by
 have h1:(#[s0,s1,Value.bool sp]++(J0 .u8 32 (J7 S)++ #[.int .i64 (n:Int)]))[3+i]?=some u:=J76 rfl (J2w h);have:=Y4g (k:=k) (v:=v) h1;rw[←Nat.add_assoc] at this;exact this
theorem K45:(ndc k v s0 s1 sp S n)[99]?=some (.int .i64 (n:Int)):=by
 have h1:(#[s0,s1,Value.bool sp]++(J0 .u8 32 (J7 S)++ #[.int .i64 (n:Int)]))[3+(32+0)]?=some (.int .i64 (n:Int)):=J76 rfl (J76 (J1 _ _ _) rfl);rw[show(99:Nat)=64+(3+(32+0)) from rfl];exact Y4g h1
theorem Z16:∀i u,(#[s0,s1]:Array Value)[i]?=some u→(ndc k v s0 s1 sp S n)[64+i]?=some u:=fun i u h=>by
 match i,h with
 |0,h=>exact nd_s0.trans h
 |1,h=>exact nd_s1.trans h
 |i+2,h=>simp at h
end
abbrev ptr (b:Nat):Value:=.pointer (some ⟨b,0,none⟩)
abbrev nlp:Value:=.pointer none
def TA (w:World):TR→Value→Prop
 | .nil,u=>u=nlp
 | .leaf k v,u=> ∃b,u=ptr b∧Blk w b (ndc k v nlp nlp false (sL k v) 1) 181∧k<2^256∧v<2^256
 | .node d l r,u=> ∃b s0 s1,u=ptr b∧Blk w b (ndc 0 0 s0 s1 true (rs (.node d l r)) (cnt l+cnt r)) 181∧TA w l s0∧TA w r s1
theorem Y4h {w:World}{b:Nat}{cs:Array Value}{t:TypeId}(h:Blk w b cs t):Q00 w b=some t:=by unfold Q00;rw[show w.heap[b]?=_ from h]
theorem TA.keep {w W:World}(e:∀k,k<w.heap.size→Q00 w k=some 181→W.heap[k]?=w.heap[k]?):∀{T:TR} {u:Value},TA w T u→TA W T u
 | .nil,_,h=>h
 | .leaf k v,_,⟨b,h1,h2,h3⟩=>⟨b,h1,(e b (Q6 h2) (Y4h h2)).trans h2,h3⟩
 | .node d l r,_,⟨b,s0,s1,h1,h2,h3,h4⟩=>⟨b,s0,s1,h1,(e b (Q6 h2) (Y4h h2)).trans h2,TA.keep e h3,TA.keep e h4⟩
theorem TA.ext {w W:World}{T:TR}{u:Value}(h:TA w T u)(k:Ext w W):TA W T u:=h.keep fun b hb _=>k.block b hb
theorem TA.holds {w:World}{T:TR}{u:Value}(h:TA w T u):(As.t 181 fun W=>TA W T u).holds w:=⟨h,fun _ _ e=>h.keep e⟩
theorem TA.one {w:World}{T:TR}{u:Value}(h:TA w T u):u.cells= #[u]∧u.oneCell' =true:=by
 cases T with
 |nil=>rw[show u=nlp from h];exact⟨rfl,rfl⟩
 |leaf k v=>obtain⟨b,rfl,_⟩:=h;exact⟨rfl,rfl⟩
 |node d l r=>obtain⟨b,s0,s1,rfl,_⟩:=h;exact⟨rfl,rfl⟩
theorem TA.pt {w:World}{T:TR}{u:Value}(h:TA w T u):∃p,u=.pointer p:=by
 cases T with
 |nil=>exact⟨_,h⟩
 |leaf k v=>obtain⟨b,h,_⟩:=h;exact⟨_,h⟩
 |node d l r=>obtain⟨b,s0,s1,h,_⟩:=h;exact⟨_,h⟩
theorem TA.blk {w:World}{T:TR}{u:Value}(h:TA w T u):(T=.nil∧u=nlp)∨∃b k v s0 s1 sp,u=ptr b∧Blk w b (ndc k v s0 s1 sp (rs T) (cnt T)) 181:=by
 cases T with
 |nil=>exact .inl ⟨rfl,h⟩
 |leaf k v=>obtain⟨b,h1,h2,_⟩:=h;exact .inr ⟨b,k,v,_,_,_,h1,h2⟩
 |node d l r=>obtain⟨b,s0,s1,h1,h2,_⟩:=h;exact .inr ⟨b,0,0,s0,s1,_,h1,h2⟩
def Q0q (T:TR)(w w' :World)(e:Ending):Prop:=∃u,e=.returned u∧Ext w w' ∧TA w' T u
theorem J5i {f:FuncId}{args:Array Value}{F:List Nat}{w W:World}{H:List As}{T:TR}(hS:SH F w W H)(hc:Calls Tryz.prog f args W fun e W' =>Q0q T W W' e)(ht:H.all (fun y=>SH.tyOk y (.t 181 fun _=>True))=true):
  Calls Tryz.prog f args W fun e W' => ∃u,e=.returned u∧SH F w W' (.t 181 (fun W=>TA W T u)::H):=
 hc.mono fun e W' ⟨u,h1,h2,h3⟩=>⟨u,h1,(hS.grow h2).fact h3.holds ht⟩
attribute [local irreducible] hs4 sE sL sN

theorem Y4i {q:Prop}(w:World)(hG:GT q w):
  Calls Tryz.prog 46 #[nlp] w fun e w' =>K7 (.agg (J0 .u8 32 (J7 sE))) w w' e:=by
 have hS:=SH.nil [] w
 go_enter Tryz.func46,Tryz.ntmps46
 go_upto_region 0 with fail;refine RL hS ?_;clear hS;refine MN (z:=J0 .u8 32 (J7 0)) (t:=23) ?_;intro V5;refine MZ fun W hS=> ?_;go_upto_region 2 with fail;refine RL hS ?_;clear hS;obtain⟨U1,D⟩:=exh (sE);refine MC (v:=.agg (J0 .u8 32 (J7 U1))) (fun W hS=>(by rw[D.out];exact Y8u W (J05 hG hS.ext))) ?_;refine MR 0 ?_;refine MZ fun W hS=> ?_;have e_:=D.out;subst e_;go_wp2;exact bodyPost_ret (Z7 rfl rfl (hS.blk (i:=0) rfl) (by kernel_rfl) (by rw[J1];kernel_rfl)) rfl ⟨rfl,hS.ext⟩
theorem V6e (w:World){b k v S n:Nat}{s0 s1:Value}{sp:Bool}(hB:Blk w b (ndc k v s0 s1 sp S n) 181):
  Calls Tryz.prog 46 #[ptr b] w fun e w' =>K7 (.agg (J0 .u8 32 (J7 S))) w w' e:=by
 have hS:=SH.nil [] w
 go_enter Tryz.func46,Tryz.ntmps46
 go_upto_region 0 with fail;refine RL hS ?_;clear hS;refine MN (z:=J0 .u8 32 (J7 0)) (t:=23) ?_;intro V5;refine MZ fun W hS=> ?_;go_upto_region 3 with fail;refine RL hS ?_;clear hS;(iterate 3 refine MV ?_);refine MF (v:=.agg (J0 .u8 32 (J7 S))) (fun W hS=>J0g (vs:=(J0 .u8 32 (J7 S)).toList) rfl rfl (fun i v hv=>by rw[J3 (J2 hB hS.ext)];exact V6d i v (by simpa using hv)) (by kernel_rfl) (by first|kernel_rfl|(simp only[Array.length_toList];rw[J1];kernel_rfl))) ?_;refine MR 0 ?_;refine MZ fun W hS=> ?_;go_wp2;exact bodyPost_ret (Z7 rfl rfl (hS.blk (i:=0) rfl) (by kernel_rfl) (by rw[J1];kernel_rfl)) rfl ⟨rfl,hS.ext⟩
theorem J7n {q:Prop}{T:TR}{u:Value}(w:World)(hG:GT q w)(h:TA w T u):Calls Tryz.prog 46 #[u] w fun e w' =>K7 (.agg (J0 .u8 32 (J7 (rs T)))) w w' e:=by
 rcases h.blk with⟨rfl,rfl⟩|⟨b,k,v,s0,s1,sp,rfl,hB⟩
 ·
  exact Y4i w hG
 exact V6e w hB
theorem Y8w (w:World):
  Calls Tryz.prog 199 #[nlp] w fun e w' =>K7 (.int .i64 ((0:Nat):Int)) w w' e:=by
 have hS:=SH.nil [] w
 go_enter Tryz.func199,Tryz.ntmps199
 go_wp2;exact bodyPost_ret (v:=.int .i64 0) (by simp only[results,Tryz.results199];go_simp) rfl ⟨rfl,hS.ext⟩
theorem K1t (w:World){b k v S n:Nat}{s0 s1:Value}{sp:Bool}(hB:Blk w b (ndc k v s0 s1 sp S n) 181):
  Calls Tryz.prog 199 #[ptr b] w fun e w' =>K7 (.int .i64 (n:Int)) w w' e:=by
 have hS:=SH.nil [] w
 go_enter Tryz.func199,Tryz.ntmps199
 go_upto_region 3 with fail;refine RL hS ?_;clear hS;(iterate 3 refine MV ?_);refine MF (v:=.int .i64 (n:Int)) (fun W hS=>Q9 rfl rfl (by rw[J3 (J2 hB hS.ext)];exact K45) (by kernel_rfl)) ?_;refine MV ?_;refine MZ fun W hS=> ?_;go_wp2;exact bodyPost_ret (v:=.int .i64 (n:Int)) (by simp only[results,Tryz.results199];go_simp) rfl ⟨rfl,hS.ext⟩
theorem V11 {T:TR}{u:Value}(w:World)(h:TA w T u):Calls Tryz.prog 199 #[u] w fun e w' =>K7 (.int .i64 (cnt T:Int)) w w' e:=by
 rcases h.blk with⟨rfl,rfl⟩|⟨b,k,v,s0,s1,sp,rfl,hB⟩
 ·
  exact Y8w w
 exact K1t w hB
theorem Y4j {q:Prop}{k v:Nat}(hk:k<2^256)(hv:v<2^256)(w:World)(hG:GT q w):
  Calls Tryz.prog 170 #[.agg (lf k v)] w fun e w' =>Q0q (.leaf k v) w w' e:=by
 have hS:=SH.nil [] w
 go_enter Tryz.func170,Tryz.ntmps170
 go_upto_region 0 with fail;refine RL hS ?_;clear hS;refine MN (z:=lf k v) (t:=44) ?_;intro J;refine MV ?_;refine MZ fun W hS=> ?_;go_upto_region 1 with fail;refine RTh (.q 0 (.q 1 (.e 2 (.q 3 (.e 4 (.q 5 .z)))))) hS ?_;clear hS;refine TL 0 ?_ (hs:=by rw[J0d];kernel_rfl);refine TL 0 ?_ (hs:=by rw[J0d];kernel_rfl);refine TE (fun _ h=>h) ?_;obtain⟨U1,D⟩:=exh (sL k v);refine MC (v:=.agg (J0 .u8 32 (J7 U1))) (fun W hS=>(by rw[D.out];exact Z8e k v W (J05 hG hS.ext))) ?_;refine TNh (fun W hS=>hS) ?_;refine TW ?_ (v:=.agg (ndc k v nlp nlp false U1 1)) (hv:=by intro W;first|rfl|kernel_rfl);refine TE (fun _ h=>h) ?_;refine MN (z:=ndc k v nlp nlp false U1 1) (t:=181) ?_ (hr:=by intro w;kernel_rfl);intro G;refine TNh (fun W hS=>hS.pick [1]) ?_;refine TV ?_;refine TZ (fun _ h=>h) fun W hS=> ?_;have e_:=D.out;subst e_;go_wp2;exact bodyPost_ret (v:=ptr G) (by simp only[results,Tryz.results170];go_simp) rfl ⟨_,rfl,hS.ext,⟨_,rfl,(hS.blk (i:=0) rfl),hk,hv⟩⟩
theorem V6f {q:Prop}{L R:TR}{pa pb:Option Addr}(d:Nat)(hn:cnt L+cnt R<4611686018427387904)(w:World)(hG:GT q w)(hl:TA w L (.pointer pa))(hr_:TA w R (.pointer pb)):
  Calls Tryz.prog 172 #[.int .i64 (d:Int),.pointer pa,.pointer pb] w fun e w' =>Q0q (.node d L R) w w' e:=by
 have hS:=SH.nil [] w
 go_enter Tryz.func172,Tryz.ntmps172
 go_upto_region 1 with fail;refine RL hS ?_;clear hS;refine MV ?_;refine MV ?_;refine MW ?_ (v:=.agg #[.pointer pa,.pointer pb]) (hv:=by intro W;first|rfl|kernel_rfl);refine MV ?_;refine MV ?_;refine MC (v:=.agg (J0 .u8 32 (J7 (rs L)))) (fun W hS=>J7n W (J05 hG hS.ext) (TA.ext hl hS.ext)) ?_;refine MV ?_;refine MC (v:=.agg (J0 .u8 32 (J7 (rs R)))) (fun W hS=>J7n W (J05 hG hS.ext) (TA.ext hr_ hS.ext)) ?_;obtain⟨U1,D⟩:=exh (sN (d:Int) (rs L) (rs R));refine MC (v:=.agg (J0 .u8 32 (J7 U1))) (fun W hS=>(by rw[D.out];exact Z8f (d:Int) (rs L) (rs R) W (J05 hG hS.ext))) ?_;refine MV ?_;refine MC (v:=.int .i64 (cnt L:Int)) (fun W hS=>V11 W (TA.ext hl hS.ext)) ?_;refine MV ?_;refine MC (v:=.int .i64 (cnt R:Int)) (fun W hS=>V11 W (TA.ext hr_ hS.ext)) ?_;refine MW ?_ (v:=.int .i64 ((cnt L+cnt R:Nat):Int)) (hv:=by intro W;go_simp;(try simp only[IntKind.wrap_i64]);omega);refine MW ?_ (v:=.agg (ndc 0 0 (.pointer pa) (.pointer pb) true U1 (cnt L+cnt R))) (hv:=by intro W;first|rfl|kernel_rfl);refine MN (z:=ndc 0 0 (.pointer pa) (.pointer pb) true U1 (cnt L+cnt R)) (t:=181) ?_ (hr:=by intro w;kernel_rfl);intro G;refine MV ?_;refine MZ fun W hS=> ?_;have e_:=D.out;subst e_;go_wp2;exact bodyPost_ret (v:=ptr G) (by simp only[results,Tryz.results172];go_simp) rfl ⟨_,rfl,hS.ext,⟨_,_,_,rfl,(hS.blk (i:=0) rfl),hl.ext hS.ext,hr_.ext hS.ext⟩⟩
theorem J9f {q:Prop}{L R:TR}{a b:Value}(d:Nat)(hn:cnt L+cnt R<4611686018427387904)(w:World)(hG:GT q w)(hl:TA w L a)(hr_:TA w R b):
  Calls Tryz.prog 172 #[.int .i64 (d:Int),a,b] w fun e w' =>Q0q (.node d L R) w w' e:=by
 obtain⟨pa,rfl⟩:=hl.pt;obtain⟨pb,rfl⟩:=hr_.pt;exact V6f d hn w hG hl hr_
end

section
set_option maxHeartbeats 1500000
attribute [local irreducible] wpList
def J5g (f:Nat→Int)(i:Nat):Int:=f (i / 8) / 2^(7-i % 8) % 2
theorem Y4e {x:Int}{n:Nat}(h:0≤x∧x<256):0≤x / 2^n∧x / 2^n<256:=by
  obtain⟨a,rfl⟩:=Int.eq_ofNat_of_zero_le h.1;rw[show((a:Int) / 2^n)=((a / 2^n:Nat):Int) by rw[Int.natCast_ediv,Int.natCast_pow];rfl];have h2:=Nat.div_le_self a (2^n);have h3:=h.2;clear h;generalize a / 2^n=q at*;omega
section
variable {w : World} {o : Oper} {a : Act} {x y : Operand} {t t' : TypeId} {p : Int}
theorem Z8d {P:Program}{k:IntKind}{n:Nat}(hn:n≤8)(ho:o.op=.binOp .shr t x y t')(hx:a.eval x=.int .u8 p)(hy:a.eval y=.int k (n:Int)):(execOp a.eval o).run P w=.ok (.value (.int .u8 (p / 2^n))) w:=by
  have h:min ((n:Int)).toNat IntKind.u8.bits=n:=by rw[Int.toNat_natCast];exact Nat.min_eq_left hn
  simp only[execOp,ho,hx,hy,eqGuard,binOp,Sem.run_bind];simp[Op.shift,h,go_sem,Sem.run_bind]
theorem Y8s (hp:0≤p∧p<256)(ho:o.op=.convert 5 3 x)(hx:a.eval x=.int .u8 p):(execOp a.eval o).run Tryz.prog w=.ok (.value (.int .i64 p)) w:=by
  have hw:IntKind.wrap .i64 p=p:=by rw[IntKind.wrap_i64];omega
  simp[execOp,ho,hx,convert,run_underlying Tryz.underlying5,run_underlying Tryz.underlying3,Sem.run_bind,Conv.intToInt,hw]
theorem Y8t (h:0≤p∧p<256):bits .and .i64 p 1=p % 2:=bits_mask .i64 63 (by decide) Z1c 1 (by decide) p h.1 (by omega)
end

theorem Y4f (i:Nat)(hi:i<256)(w:World):
  Calls Tryz.prog 167 #[.int .i64 (i:Int)] w fun e w' =>K7 (.bool true) w w' e:=by
 have J:(i:Int)<256:=by omega
 have G:(0:Int)≤(i:Int):=by omega
 have D:Off [] w w:=Off.refl _ _
 go_enter Tryz.func167,Tryz.ntmps167
 go_upto_region 1 with fail;refine wp_region_lit ?_;refine Lv ?_;refine Lw ?_ (v:=.bool true) (hv:=by first|(go_simp;done)|(go_simp;omega));refine Lw ?_ (v:=.bool true);refine Lv ?_;refine Lw ?_ (v:=.bool true) (hv:=by first|(go_simp;done)|(go_simp;omega));refine Lw ?_ (v:=.bool true);refine Lw ?_ (v:=.bool true);refine J5 ?_;go_wp2;exact bodyPost_ret (v:=.bool true) (by simp only[results,Tryz.results167];go_simp) rfl ⟨rfl,D.ext⟩
theorem V6b (f:Nat→Int)(hf:∀j,0≤f j∧f j<256)(i:Nat)(hi:i<256)(w:World):
  Calls Tryz.prog 122 #[.agg (J0 .u8 32 f),.int .i64 (i:Int)] w fun e w' =>K7 (.int .i64 (J5g f i)) w w' e:=by
 have M:(i:Int)<256:=by omega
 have N:(0:Int)≤(i:Int):=by omega
 have hD:=Y4e (n:=7-i % 8) (hf (i / 8));have hA:=Y8t hD;clear hf;have D:Off [] w w:=Off.refl _ _
 go_enter Tryz.func122,Tryz.ntmps122
 go_upto_region 0 with fail;refine wp_region_lit ?_;refine Ln ?_ (z:=J0 .u8 32 f) (t:=42);intro V5 W1 J hO h_;replace D:=D.o hO;have G:=h_;clear hO h_ J;refine Lw ?_ (v:=.int .i64 0);refine J5 ?_;go_upto_region 1 with fail;refine wp_region_lit ?_;refine Lv ?_;refine Lr ?_ (Y4f i hi W1);intro W2 hO;replace G:=G.o hO;replace D:=D.o hO;clear hO;refine Lw ?_ (v:=.bool false);refine J5 ?_;go_upto_region 3 with fail;refine wp_region_lit ?_;refine Lv ?_;refine Lw ?_ (v:=.int .i64 (((i / 8:Nat):Int))) (hv:=by go_simp;(try simp only[IntKind.wrap_u64,IntKind.wrap_i64]);(try omega));refine Lw ?_ (v:=.pointer (some ⟨V5,0+(i / 8),none⟩)) (hv:=rxa Tryz.underlying42 (by omega));refine Lg ?_ G (v:=.int .u8 (f (i / 8))) (hj:=ag0 (by omega));refine Lv ?_;refine Lw ?_ (v:=.int .i64 (((i % 8:Nat):Int))) (hv:=by go_simp;(try rw[Int.tmod_eq_emod_of_nonneg (by omega)]);(try omega));refine Lw ?_ (v:=.int .i64 (((7-i % 8:Nat):Int))) (hv:=by go_simp;(try simp only[IntKind.wrap_u64,IntKind.wrap_i64]);(try omega));refine Lw ?_ (v:=.int .u8 (f (i / 8) / 2^(7-i % 8))) (hv:=by exact Z8d (n:=7-i % 8) (by omega) rfl rfl rfl);refine Lw ?_ (v:=.int .i64 (f (i / 8) / 2^(7-i % 8))) (hv:=by exact Y8s hD rfl rfl);refine Lw ?_ (v:=.int .i64 (J5g f i)) (hv:=by unfold J5g;rw[←hA];exact J4l rfl rfl rfl);refine Lv ?_;refine J5 ?_;go_wp2;exact bodyPost_ret (v:=.int .i64 (J5g f i)) (by simp only[results,Tryz.results122];go_simp) rfl ⟨rfl,D.ext⟩
end

section
set_option maxHeartbeats 1500000
attribute [local irreducible] wpList
def Q71 (f g:Nat→Int):Nat→Nat→Nat
  |0,i=>i
  |n+1,i=>if J5g f i=J5g g i then Q71 f g n (i+1) else i
def J3o (f g:Nat→Int):Nat:=Q71 f g 256 0
theorem Q2i {f g:Nat→Int}{i:Nat}(h:i<256):Q71 f g (256-i) i=if J5g f i=J5g g i then Q71 f g (256-(i+1)) (i+1) else i:=by
  rw[show 256-i=(256-(i+1))+1 by omega];rfl

end

section
set_option maxHeartbeats 1500000
attribute [local irreducible] wpList Y8 wpX
theorem Z68 (f:Nat→Int)(i:Nat):0≤J5g f i∧J5g f i<2:=by unfold J5g;omega
def kb (k i:Nat):Nat:=if i<256 then(J5g (J7 k) i).toNat else 0
theorem Y8x {k i:Nat}(h:i<256):((kb k i:Nat):Int)=J5g (J7 k) i:=by unfold kb;rw[if_pos h];have:=(Z68 (J7 k) i).1;omega
theorem K1v {k i:Nat}(h:256≤i):kb k i=0:=by unfold kb;rw[if_neg (by omega)]
theorem V12 (k i:Nat):kb k i<2:=by unfold kb;split;have:=Z68 (J7 k) i;omega;decide
theorem K1w (k:Nat):∀j,0≤J7 k j∧J7 k j<256:=fun j=>J8p k j
theorem Z0i {w:World}{o:Oper}{a:Act}{x y:Operand}{l:List UInt8}{i:Nat}{c:UInt8}(h:l[i]?=some c)(ho:o.op=.index 9 x y)(hx:a.eval x=K6 l){k:IntKind}(hy:a.eval y=.int k (i:Int)):(execOp a.eval o).run Tryz.prog w=.ok (.value (.int .u8 (c.toNat:Int))) w:=by
 have hs:=J9r l;have hi:=(List.getElem?_eq_some_iff.1 h).1;have hg:=(List.getElem?_eq_some_iff.1 h).2
 have D : (⟨l.toArray⟩ : ByteArray)[i]'(by rw [hs]; exact hi) = c := by
  show l.toArray[i]'(by simpa using hi) = c
  simpa using hg
 simp only[execOp,ho,hx,hy,K6,Sem.run_bind];simp[Instr.index,asIntOf,run_underlying Tryz.underlying9,hs,hi,D,Sem.run_bind]
def tb8:List UInt8:=[0,1,2,2,3,3,3,3,4,4,4,4,4,4,4,4,5,5,5,5,5,5,5,5,5,5,5,5,5,5,5,5,6,6,6,6,6,6,6,6,6,6,6,6,6,6,6,6,6,6,6,6,6,6,6,6,6,6,6,6,6,6,6,6,7,7,7,7,7,7,7,7,7,7,7,7,7,7,7,7,7,7,7,7,7,7,7,7,7,7,7,7,7,7,7,7,7,7,7,7,7,7,7,7,7,7,7,7,7,7,7,7,7,7,7,7,7,7,7,7,7,7,7,7,7,7,7,7,8,8,8,8,8,8,8,8,8,8,8,8,8,8,8,8,8,8,8,8,8,8,8,8,8,8,8,8,8,8,8,8,8,8,8,8,8,8,8,8,8,8,8,8,8,8,8,8,8,8,8,8,8,8,8,8,8,8,8,8,8,8,8,8,8,8,8,8,8,8,8,8,8,8,8,8,8,8,8,8,8,8,8,8,8,8,8,8,8,8,8,8,8,8,8,8,8,8,8,8,8,8,8,8,8,8,8,8,8,8,8,8,8,8,8,8,8,8,8,8,8,8,8,8,8,8,8,8]
def l8 (z:Nat):Nat:=(tb8.getD z 0).toNat
theorem Y8y {z:Nat}(h:z<256):tb8[z]?=some (tb8.getD z 0):=by rw[List.getD_eq_getElem?_getD,List.getElem?_eq_getElem (by rw[show tb8.length=256 by decide+kernel];exact h)];rfl
theorem Y4k:∀z:Fin 256,l8 z.val≤8∧(z.val≠0→0<l8 z.val∧z.val / 2^(l8 z.val-1) % 2=1)∧∀i:Fin 8,i.val<8-l8 z.val→z.val / 2^(7-i.val) % 2=0:=by decide+kernel
theorem Y8z (x y n:Nat):(x^^^y) / 2^n % 2=0↔x / 2^n % 2=y / 2^n % 2:=by
 have h:=Nat.testBit_xor x y n;have e:∀z:Nat,z.testBit n=decide (z / 2^n % 2=1):=fun z=>by rw[Nat.testBit_eq_decide_div_mod_eq]
 rw[e,e,e] at h;have h1:(x^^^y) / 2^n % 2<2:=Nat.mod_lt _ (by decide);have h2:x / 2^n % 2<2:=Nat.mod_lt _ (by decide);have h3:y / 2^n % 2<2:=Nat.mod_lt _ (by decide);generalize (x^^^y) / 2^n % 2=a at*;generalize x / 2^n % 2=b at*;generalize y / 2^n % 2=c at*
 match a,b,c,h1,h2,h3 with
 |0,0,0,_,_,_=>simp
 |0,0,1,_,_,_=>simp at h
 |0,1,0,_,_,_=>simp at h
 |0,1,1,_,_,_=>simp
 |1,0,0,_,_,_=>simp at h
 |1,0,1,_,_,_=>simp
 |1,1,0,_,_,_=>simp
 |1,1,1,_,_,_=>simp at h
def kby (k j:Nat):Nat:=k / 2^(8*j) % 256
theorem Q8t (k j:Nat):J7 k j=((kby k j:Nat):Int):=rfl
theorem Q2j (k j:Nat):kby k j<256:=Nat.mod_lt _ (by decide)
theorem Q1p (k i:Nat):J5g (J7 k) i=((kby k (i / 8) / 2^(7-i % 8) % 2:Nat):Int):=by
 unfold J5g;rw[Q8t];rw[Int.natCast_emod,Int.natCast_ediv,Int.natCast_pow];rfl
theorem Z69 {a b i:Nat}:J5g (J7 a) i=J5g (J7 b) i↔(kby a (i / 8)^^^kby b (i / 8)) / 2^(7-i % 8) % 2=0:=by
 rw[Q1p,Q1p,Y8z];omega
theorem Z17 {f g:Nat→Int}{m:Nat}(hm:m≤256)(hlt:∀i,i<m→J5g f i=J5g g i)(he:m<256→J5g f m≠J5g g m):∀n i,n+i=m→Q71 f g (256-i) i=m
 |0,i,h=>by
  obtain rfl:i=m:=by omega
  by_cases h2:i<256
  ·
   rw[Q2i h2,if_neg (he h2)]
  ·
   obtain rfl:i=256:=by omega
   rfl
 |n+1,i,h=>by
  rw[Q2i (by omega),if_pos (hlt i (by omega))];exact Z17 hm hlt he n (i+1) (by omega)
theorem Z6a {f g:Nat→Int}{m:Nat}(hm:m≤256)(hlt:∀i,i<m→J5g f i=J5g g i)(he:m<256→J5g f m≠J5g g m):J3o f g=m:=Z17 hm hlt he m 0 (by omega)
theorem Z8g {a b j:Nat}(hj:j<32)(hlt:∀i,i<j→kby a i=kby b i)(hne:kby a j≠kby b j):J3o (J7 a) (J7 b)=8*j+(8-l8 (kby a j^^^kby b j)):=by
 have hz:kby a j^^^kby b j<256:=Nat.xor_lt_two_pow (n:=8) (Q2j a j) (Q2j b j);have D:kby a j^^^kby b j≠0:=fun h=>hne (by have e:=congrArg (· ^^^kby b j) h;simpa[Nat.xor_assoc] using e);obtain⟨h1,h2,h3⟩:=Y4k ⟨_,hz⟩;obtain⟨h2,h4⟩:=h2 D;simp only at h1 h2 h3 h4;generalize hl:l8 (kby a j^^^kby b j)=L at*;refine Z6a (by omega) (fun i hi=> ?_) fun _=> ?_
 ·
  rw[Z69]
  by_cases hq:i / 8<j
  ·
   rw[hlt _ hq,Nat.xor_self,Nat.zero_div]
  have e:i / 8=j:=by omega
  have h5:=h3 ⟨i % 8,Nat.mod_lt _ (by decide)⟩ (by simp only;omega);rw[e];exact h5
 rw[Ne,Z69];have e1:(8*j+(8-L)) / 8=j:=by omega
 have e2:7-(8*j+(8-L)) % 8=L-1:=by omega
 rw[e1,e2,h4];decide
theorem Y4l {a b:Nat}(h:∀i,i<32→kby a i=kby b i):J3o (J7 a) (J7 b)=256:=
 Z6a (Nat.le_refl _) (fun i hi=>by rw[Q1p,Q1p,h _ (by omega)]) (fun h=>absurd h (by decide))
theorem Z6b (f g:Nat→Int):J3o f g≤256:=by
 have:∀n i,n+i=256→Q71 f g (256-i) i≤256:=by
  intro n
  induction n with
  |zero=>
   intro i h;obtain rfl:i=256:=by omega
   exact Nat.le_refl 256
  |succ n ih=>intro i h;rw[Q2i (by omega)];split;exact ih (i+1) (by omega);omega
 exact this 256 0 rfl

theorem Z8h (i:Nat)(hi:256≤i)(hi2:i<4611686018427387904)(w:World):
  Calls Tryz.prog 167 #[.int .i64 (i:Int)] w fun e w' =>K7 (.bool false) w w' e:=by
 have hS:=SH.nil [] w
 go_enter Tryz.func167,Tryz.ntmps167
 go_upto_region 1 with fail;refine RL hS ?_;clear hS;refine MV ?_;refine MW ?_ (v:=.bool true) (hv:=by intro W;first|(go_simp;done)|(go_simp;omega));refine Wt ?_;refine MV ?_;refine MW ?_ (v:=.bool false) (hv:=by intro W;first|(go_simp;done)|(go_simp;omega));refine Wf ?_;refine Wf ?_;refine MZ fun W hS=> ?_;go_wp2;exact bodyPost_ret (v:=.bool false) (by simp only[results,Tryz.results167];go_simp) rfl ⟨rfl,hS.ext⟩
theorem Y90 (k i:Nat)(hi:256≤i)(hi2:i<4611686018427387904)(w:World):
  Calls Tryz.prog 122 #[.agg (J0 .u8 32 (J7 k)),.int .i64 (i:Int)] w fun e w' =>K7 (.int .i64 0) w w' e:=by
 have hS:=SH.nil [] w
 go_enter Tryz.func122,Tryz.ntmps122
 go_upto_region 0 with fail;refine RL hS ?_;clear hS;refine MN (z:=J0 .u8 32 (J7 k)) (t:=42) ?_;intro V5;refine W0 ?_;refine MZ fun W hS=> ?_;go_upto_region 1 with fail;refine RL hS ?_;clear hS;refine MV ?_;refine MC (v:=.bool false) (fun W hS=>Z8h i hi hi2 W) ?_;refine Wt ?_;refine MZ fun W hS=> ?_;go_wp2;exact bodyPost_ret (v:=.int .i64 0) (by simp only[results,Tryz.results122];go_simp) rfl ⟨rfl,hS.ext⟩
theorem J88 (k i:Nat)(hi:i<4611686018427387904)(w:World):Calls Tryz.prog 122 #[.agg (J0 .u8 32 (J7 k)),.int .i64 (i:Int)] w fun e w' =>K7 (.int .i64 (kb k i:Int)) w w' e:=by
 by_cases h:i<256
 ·
  rw[Y8x h];exact V6b _ (K1w k) i h w
 rw[K1v (by omega)];exact Y90 k i (by omega) hi w
theorem V6g (z:Nat)(hz:z<256)(w:World):
  Calls Tryz.prog 193 #[.int .u8 (z:Int)] w fun e w' =>K7 (.int .i64 (l8 z:Int)) w w' e:=by
 have hS:=SH.nil [] w
 go_enter Tryz.func193,Tryz.ntmps193
 go_upto_region 1 with fail;refine RL hS ?_;clear hS;refine MV ?_;refine MW ?_ (v:=.int .u8 ((tb8.getD z 0).toNat:Int)) (hv:=by intro W;exact Z0i (l:=tb8) (i:=z) (Y8y hz) rfl rfl rfl);refine MW ?_ (v:=.int .i64 (l8 z:Int)) (hv:=by intro W;exact Q1o rfl rfl);refine MV ?_;refine MZ fun W hS=> ?_;go_wp2;exact bodyPost_ret (v:=.int .i64 (l8 z:Int)) (by simp only[results,Tryz.results193];go_simp) rfl ⟨rfl,hS.ext⟩
theorem K1x (z:Nat)(hz:z<256)(w:World):
  Calls Tryz.prog 166 #[.int .u8 (z:Int)] w fun e w' =>K7 (.int .i64 ((8-l8 z:Nat):Int)) w w' e:=by
 have hl:=(Y4k ⟨z,hz⟩).1;simp only at hl;have hS:=SH.nil [] w
 go_enter Tryz.func166,Tryz.ntmps166
 go_upto_region 1 with fail;refine RL hS ?_;clear hS;refine MV ?_;refine MC (v:=.int .i64 (l8 z:Int)) (fun W hS=>V6g z hz W) ?_;refine MW ?_ (v:=.int .i64 ((8-l8 z:Nat):Int)) (hv:=by intro W;go_simp;(try simp only[IntKind.wrap_i64]);omega);refine MV ?_;refine MZ fun W hS=> ?_;go_wp2;exact bodyPost_ret (v:=.int .i64 ((8-l8 z:Nat):Int)) (by simp only[results,Tryz.results166];go_simp) rfl ⟨rfl,hS.ext⟩
theorem V6h {w:World}:(isAgg 5).run Tryz.prog w=.ok false w:=by
 simp[isAgg,run_underlying Tryz.underlying5,Sem.run_bind]
theorem Z91 {a b:Nat}(ha:a<256)(hb:b<256):bits .xor .u8 (a:Int) (b:Int)=((a^^^b:Nat):Int):=J31 .u8 8 (by decide) (fun n h0 h1=>by rw[IntKind.wrap_u8];omega) a b ha hb
theorem Y4m {w:World}{o:Oper}{a:Act}{x y:Operand}{t t' :TypeId}{p q:Int}(ho:o.op=.binOp .xor t x y t')(hx:a.eval x=.int .u8 p)(hy:a.eval y=.int .u8 q):(execOp a.eval o).run Tryz.prog w=.ok (.value (.int .u8 (bits .xor .u8 p q))) w:=by
 simp only[execOp,ho,hx,hy];rfl
theorem Z8i (a b:Nat)(w:World):
  Calls Tryz.prog 119 #[.agg (J0 .u8 32 (J7 a)),.agg (J0 .u8 32 (J7 b))] w fun e w' =>K7 (.int .i64 (J3o (J7 a) (J7 b):Int)) w w' e:=by
 have hS:=SH.nil [] w
 go_enter Tryz.func119,Tryz.ntmps119
 go_upto_region 0 with fail;refine RL hS ?_;clear hS;refine MN (z:=J0 .u8 32 (J7 a)) (t:=42) ?_;intro V5;refine MN (z:=J0 .u8 32 (J7 b)) (t:=42) ?_;intro G;refine W0 ?_;refine MZ fun W hS=> ?_;go_upto_region 1 with fail;refine RL hS ?_;clear hS;refine ML 1 ?_;refine W0 ?_;refine MZ fun W hS=> ?_
 go_wp2_with fail
 go_loopw [8] (fun ii wr=> ∃(j:Nat),(j≤32)∧(∀i,i<j→kby a i=kby b i)∧(ii=.int .i64 (j:Int))∧SH [] w wr [.b G (J0 .u8 32 (J7 b)) 42,.b V5 (J0 .u8 32 (J7 a)) 42])
  (fun ii _=>32-(intOf ii).toNat)
 case atStart=>exact⟨0,Nat.zero_le _,fun i h=>absurd h (Nat.not_lt_zero _),rfl,hS⟩
 clear hS
 case round=>
  obtain⟨j,hj,M,rfl,hS⟩:=hrel
  by_cases J:j<32
  ·
   go_upto_region 2 with fail;refine RL hS ?_;clear hS;refine Wt ?_;refine MZ fun W hS=> ?_;go_upto_region 3 with fail;refine RL hS ?_;clear hS;refine MV ?_;refine MW ?_ (v:=.int .u8 ((kby a j:Nat):Int)) (hv:=fun _=>Q8m (m:=32) (f:=J7 a) J Tryz.underlying42 (by kernel_rfl) V6h rfl rfl rfl);refine MV ?_;refine MV ?_;refine MZ fun W hS=> ?_
   by_cases D:kby a j=kby b j
   ·
    go_upto_region 4 with fail;refine RL hS ?_;clear hS;refine MV ?_;refine MV ?_;refine MW ?_ (v:=.pointer (some ⟨G,0+j,none⟩)) (hv:=fun _=>rxa Tryz.underlying42 (by omega));refine MG 0 ?_ (j:=0+j) (v:=.int .u8 ((J7 b) j)) (hj:=ag0 (by omega));refine MW ?_ (v:=.bool false) (hv:=by intro W;go_simp;(try simp only[Q8t]);(try simp[D]));refine MZ fun W hS=> ?_;go_wp2;go_roundw
    case rel=>exact⟨j+1,by omega,fun i h=>by rcases Nat.lt_succ_iff_lt_or_eq.1 h with h|rfl;exact M i h;exact D,by go_num,hS⟩
    case measure=>simp[intOf];omega
   have N:=D;go_upto_region 4 with fail;refine RL hS ?_;clear hS;refine MV ?_;refine MV ?_;refine MW ?_ (v:=.pointer (some ⟨G,0+j,none⟩)) (hv:=fun _=>rxa Tryz.underlying42 (by omega));refine MG 0 ?_ (j:=0+j) (v:=.int .u8 ((J7 b) j)) (hj:=ag0 (by omega));refine MW ?_ (v:=.bool true) (hv:=by intro W;go_simp;(try simp only[Q8t]);omega);refine MZ fun W hS=> ?_;go_upto_region 5 with fail;refine RL hS ?_;clear hS;refine MV ?_;refine MW ?_ (v:=.int .i64 ((8*j:Nat):Int)) (hv:=by intro W;go_simp;(try simp only[IntKind.wrap_i64]);omega);refine MV ?_;refine MV ?_;refine MW ?_ (v:=.pointer (some ⟨G,0+j,none⟩)) (hv:=fun _=>rxa Tryz.underlying42 (by omega));refine MG 0 ?_ (j:=0+j) (v:=.int .u8 ((J7 b) j)) (hj:=ag0 (by omega));refine MW ?_ (v:=.int .u8 ((kby a j^^^kby b j:Nat):Int)) (hv:=by intro W;rw[←Z91 (Q2j a j) (Q2j b j)];exact Y4m rfl rfl rfl);refine MC (v:=.int .i64 ((8-l8 (kby a j^^^kby b j):Nat):Int)) (fun W hS=>K1x (kby a j^^^kby b j) (Nat.xor_lt_two_pow (n:=8) (Q2j a j) (Q2j b j)) W) ?_;refine MW ?_ (v:=.int .i64 ((8*j+(8-l8 (kby a j^^^kby b j)):Nat):Int)) (hv:=by intro W;go_simp;(try simp only[IntKind.wrap_i64]);omega);refine MV ?_;refine MZ fun W hS=> ?_;go_wp2;exact bodyPost_ret (v:=.int .i64 ((8*j+(8-l8 (kby a j^^^kby b j)):Nat):Int)) (by simp only[results,Tryz.results119];go_simp) rfl ⟨by rw[Z8g J M N],hS.ext⟩
  obtain rfl:j=32:=by omega
  go_upto_region 2 with fail;refine RL hS ?_;clear hS;refine Wf ?_;refine MZ fun W hS=> ?_;go_wp2;exact bodyPost_ret (v:=.int .i64 256) (by simp only[results,Tryz.results119];go_simp) rfl ⟨by rw[Y4l M];rfl,hS.ext⟩
end
end Go.Proofs.YteehbddkcnkhfaaGreatDoor

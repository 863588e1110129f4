/- Contracts and plain laws for directStays_holds. Conditions: the tables hold their numbers. -/
import Derived.Test.YteehbddkcnkhfaaGreatDoorJ32
open Go.RowKit
set_option maxRecDepth 100000
set_option linter.unusedSimpArgs false
set_option linter.unusedVariables false
namespace Go.Proofs.YteehbddkcnkhfaaGreatDoor
section
set_option maxHeartbeats 3000000
attribute [local irreducible] wpList V2 wpX
open S8 (Kn GA kP)
attribute [local irreducible] eI be8 hs4 lb J43 J2v J01 xt hm pbs

theorem Y6f {f:Fnd}{sv tv:Value}(hn:f.ss.length≤1000000)(ha:f.ek<2^256)(hx:f.ev<2^256)(w:World)(hp:RR 32 w sv (f.ss.map J0d))(hr:RR 32 w tv (f.ss.map J0d)):
  Calls Tryz.prog 14 #[.agg (rfF f sv),.agg (rfF f tv)] w fun e w' =>X5 (.bool true) w w' e:=by
 have D:sv.cells= #[sv]∧sv.oneCell' =true:=by obtain⟨A,c,rfl,_⟩:=hp;exact⟨rfl,rfl⟩
 have G:tv.cells= #[tv]∧tv.oneCell' =true:=by obtain⟨A,c,rfl,_⟩:=hr;exact⟨rfl,rfl⟩
 have hS:=SH.nil [] w
 go_enter Tryz.func14,Tryz.ntmps14
 go_upto_region 0 with fail;refine RL hS ?_;clear hS;refine MN (z:=Q5 [.c (.int .i64 (f.ep:Int)),.c (Q9 (lb 32 f.ix)),.c (Q9 (lb 80 f.pf)),.c (.bool f.pres),.c (.int .i64 (f.ver:Int)),.c (Q9 f.x),.c (Q9 (lb 32 f.bd)),.c (Q9 (lb 32 f.op)),.c sv,.c (.bool f.th),.a 32 f.ek,.a 32 f.ev,.c (Q9 (lb 32 f.ro)),.c (Q9 (lb 32 f.li)),.c (Q9 (lb 32 f.ah)),.c (.int .i64 (f.rd:Int))]) (t:=61) ?_;intro K9;refine MN (z:=Q5 [.c (.int .i64 (f.ep:Int)),.c (Q9 (lb 32 f.ix)),.c (Q9 (lb 80 f.pf)),.c (.bool f.pres),.c (.int .i64 (f.ver:Int)),.c (Q9 f.x),.c (Q9 (lb 32 f.bd)),.c (Q9 (lb 32 f.op)),.c tv,.c (.bool f.th),.a 32 f.ek,.a 32 f.ev,.c (Q9 (lb 32 f.ro)),.c (Q9 (lb 32 f.li)),.c (Q9 (lb 32 f.ah)),.c (.int .i64 (f.rd:Int))]) (t:=61) ?_;intro J;refine Wf ?_;refine MZ fun W hS=> ?_;go_upto_region 1 with fail;refine RL hS ?_;clear hS;refine MV ?_;refine MG 1 ?_ (v:=.int .i64 (f.ep:Int)) (hj:=(J4 (off:=0) 0));refine MV ?_;refine MG 0 ?_ (v:=.int .i64 (f.ep:Int)) (hj:=(J4 (off:=0) 0));refine MW ?_ (v:=.bool true) (hv:=by intro W;go_simp;first|done|simp);refine Wt ?_;refine MV ?_;refine MG 1 ?_ (v:=Q9 (lb 32 f.ix)) (hj:=(J4 (off:=1) 1));refine MV ?_;refine MG 0 ?_ (v:=Q9 (lb 32 f.ix)) (hj:=(J4 (off:=1) 1));refine MW ?_ (v:=.bool true) (hv:=fun _=>J2f (l:=(lb 32 f.ix)) (m:=(lb 32 f.ix)) (b:=true) (decide_eq_true rfl) rfl rfl rfl);refine Wt ?_;refine Wt ?_;refine MV ?_;refine MG 1 ?_ (v:=Q9 (lb 80 f.pf)) (hj:=(J4 (off:=2) 2));refine MV ?_;refine MG 0 ?_ (v:=Q9 (lb 80 f.pf)) (hj:=(J4 (off:=2) 2));refine MW ?_ (v:=.bool true) (hv:=fun _=>J2f (l:=(lb 80 f.pf)) (m:=(lb 80 f.pf)) (b:=true) (decide_eq_true rfl) rfl rfl rfl);refine Wt ?_;refine Wt ?_;refine MV ?_;refine MG 1 ?_ (v:=.bool f.pres) (hj:=(J4 (off:=3) 3));refine MV ?_;refine MG 0 ?_ (v:=.bool f.pres) (hj:=(J4 (off:=3) 3));refine MW ?_ (v:=.bool true) (hv:=by intro W;go_simp;first|done|simp);refine Wt ?_;refine Wt ?_;refine MV ?_;refine MG 1 ?_ (v:=.int .i64 (f.ver:Int)) (hj:=(J4 (off:=4) 4));refine MV ?_;refine MG 0 ?_ (v:=.int .i64 (f.ver:Int)) (hj:=(J4 (off:=4) 4));refine MW ?_ (v:=.bool true) (hv:=by intro W;go_simp;first|done|simp);refine Wt ?_;refine Wt ?_;refine MV ?_;refine MG 1 ?_ (v:=Q9 f.x) (hj:=(J4 (off:=5) 5));refine MV ?_;refine MG 0 ?_ (v:=Q9 f.x) (hj:=(J4 (off:=5) 5));refine MW ?_ (v:=.bool true) (hv:=fun _=>J2f (l:=f.x) (m:=f.x) (b:=true) (decide_eq_true rfl) rfl rfl rfl);refine Wt ?_;refine Wt ?_;refine MV ?_;refine MG 1 ?_ (v:=Q9 (lb 32 f.bd)) (hj:=(J4 (off:=6) 6));refine MV ?_;refine MG 0 ?_ (v:=Q9 (lb 32 f.bd)) (hj:=(J4 (off:=6) 6));refine MW ?_ (v:=.bool true) (hv:=fun _=>J2f (l:=(lb 32 f.bd)) (m:=(lb 32 f.bd)) (b:=true) (decide_eq_true rfl) rfl rfl rfl);refine Wt ?_;refine Wt ?_;refine MV ?_;refine MG 1 ?_ (v:=Q9 (lb 32 f.op)) (hj:=(J4 (off:=7) 7));refine MV ?_;refine MG 0 ?_ (v:=Q9 (lb 32 f.op)) (hj:=(J4 (off:=7) 7));refine MW ?_ (v:=.bool true) (hv:=fun _=>J2f (l:=(lb 32 f.op)) (m:=(lb 32 f.op)) (b:=true) (decide_eq_true rfl) rfl rfl rfl);refine Wt ?_;refine Wt ?_;refine MV ?_;refine Mk 1 ?_ (sub:=Q5 [.c sv,.c (.bool f.th),.a 32 f.ek,.a 32 f.ev]) (hs:=(J4w (off:=8) 8 4));refine MV ?_;refine Mk 0 ?_ (sub:=Q5 [.c tv,.c (.bool f.th),.a 32 f.ek,.a 32 f.ev]) (hs:=(J4w (off:=8) 8 4));refine MC (v:=.bool true) (fun W hS=>(by have h_:=Y6g (th:=f.th) hn (fun _=>⟨rfl,rfl⟩) ha hx W (hp.ext hS.ext) (hr.ext hS.ext);rw[Y05,Y05] at h_;exact h_)) ?_;refine Wt ?_;refine Wt ?_;refine MV ?_;refine MG 1 ?_ (v:=Q9 (lb 32 f.ro)) (hj:=(J4 (off:=74) 12));refine MV ?_;refine MG 0 ?_ (v:=Q9 (lb 32 f.ro)) (hj:=(J4 (off:=74) 12));refine MW ?_ (v:=.bool true) (hv:=fun _=>J2f (l:=(lb 32 f.ro)) (m:=(lb 32 f.ro)) (b:=true) (decide_eq_true rfl) rfl rfl rfl);refine Wt ?_;refine Wt ?_;refine MV ?_;refine MG 1 ?_ (v:=Q9 (lb 32 f.li)) (hj:=(J4 (off:=75) 13));refine MV ?_;refine MG 0 ?_ (v:=Q9 (lb 32 f.li)) (hj:=(J4 (off:=75) 13));refine MW ?_ (v:=.bool true) (hv:=fun _=>J2f (l:=(lb 32 f.li)) (m:=(lb 32 f.li)) (b:=true) (decide_eq_true rfl) rfl rfl rfl);refine Wt ?_;refine Wt ?_;refine MV ?_;refine MG 1 ?_ (v:=Q9 (lb 32 f.ah)) (hj:=(J4 (off:=76) 14));refine MV ?_;refine MG 0 ?_ (v:=Q9 (lb 32 f.ah)) (hj:=(J4 (off:=76) 14));refine MW ?_ (v:=.bool true) (hv:=fun _=>J2f (l:=(lb 32 f.ah)) (m:=(lb 32 f.ah)) (b:=true) (decide_eq_true rfl) rfl rfl rfl);refine Wt ?_;refine Wt ?_;refine MV ?_;refine MG 1 ?_ (v:=.int .i64 (f.rd:Int)) (hj:=(J4 (off:=77) 15));refine MV ?_;refine MG 0 ?_ (v:=.int .i64 (f.rd:Int)) (hj:=(J4 (off:=77) 15));refine MW ?_ (v:=.bool true) (hv:=by intro W;go_simp;first|done|simp);refine Wt ?_;refine Wt ?_;refine MZ fun W hS=> ?_;go_wp2;exact bodyPost_ret (v:=.bool true) (by simp only[results,Tryz.results14];go_simp) rfl ⟨rfl,hS.ext⟩
end

section
structure AE where
  wt:Int
  n:Int
  f:Int
  t:Int
  ru:Value
  vu:Value
  raw:List UInt8
  val:List UInt8
abbrev aeF (a:AE):Array Value:=Y6h a.wt a.n a.f a.t a.ru a.vu
def aeC (a:AE):List Value:=fcs [.c (.int .i64 a.wt),.c (.int .i64 a.n),.c a.ru,.c a.vu,.c (.int .i64 a.f),.c (.int .i64 a.t)]
theorem Y6i {qs:List AE}:∀e∈qs.map aeC,e.length=6:=fun e he=>by obtain⟨y,_,rfl⟩:=List.mem_map.1 he;rfl
theorem V8g {a:AE}:∀(i:Nat) (v:Value),(aeF a)[i]?=some v→(aeC a)[i]?=some v:=fun i v h=>by unfold aeC;rw[←J95,Array.getElem?_toList];exact h
def K3q (qs:List AE):List Nat:=qs.flatMap fun a=>(sb a.ru a.raw).toList++(sb a.vu a.val).toList
def aeK (qs:List AE)(W:World):Prop:=∀a∈qs,Sl W a.ru a.raw∧Sl W a.vu a.val
abbrev aeT (qs:List AE):As:=.p (K3q qs) (aeK qs)
theorem Q73 {qs:List AE}{w:World}(h:aeK qs w):(aeT qs).holds w:=by
  refine⟨h,fun k hk=> ?_,fun W' _ e a ha=>⟨J81 (h a ha).1 fun k hk=>e k (List.mem_flatMap.2 ⟨a,ha,List.mem_append.2 (.inl (by rw[hk];simp))⟩),J81 (h a ha).2 fun k hk=>e k (List.mem_flatMap.2 ⟨a,ha,List.mem_append.2 (.inr (by rw[hk];simp))⟩)⟩⟩;obtain⟨a,ha,h1⟩:=List.mem_flatMap.1 hk;rcases List.mem_append.1 h1 with h1|h1
  · exact Sl.lt (h a ha).1 k (As.mem_toList h1)
  exact Sl.lt (h a ha).2 k (As.mem_toList h1)
theorem Y06 {F:List Nat}{w W:World}{R:List As}{D:DD}{y:LD}{qs:List AE}{a:AE}(ha:a∈qs)(hS:SH F w W (ldL D y++[gx]++([aeT qs]++R)))(hL:LOk D y)(hK:DOk D)(hR:tyD ([aeT qs]++R)=true):
    Calls Tryz.prog 10 #[.pointer (some ⟨y.p,0,none⟩),.agg (aeF a)] W fun e W' => ∃z:ZD D y (D.play a.wt a.n a.raw a.val) w,e=.returned (.tuple #[])∧SH F w W' (ldL (D.play a.wt a.n a.raw a.val) z.1++[gx]++([aeT qs]++R)):=by
  have hk:aeK qs W:=(hS.at_ (i:=12) (x:=aeT qs) rfl).1;refine Z2m hS (Q2m (hk a ha).1 (hk a ha).2) (fun k G=>⟨aeT qs,by simp,fun T K e=>(by cases e),List.mem_flatMap.2 ⟨a,ha,G⟩⟩) (fun h_=>V2x W hL hK h_) hR
theorem V0g {W:World}{A:Option Addr}{n c i g o:Nat}{qs:List AE}{y:AE}(h:RR 6 W (.slice A n c) (qs.map aeC))(yh:qs[i]?=some y)(hA:A=some ⟨g,o,none⟩):∀(j:Nat) (v:Value),(aeF y)[j]?=some v→W.cell? ⟨g,o+i*6+j,none⟩=some v:=fun j v hv=>
  RR.cellat h (by rw[List.getElem?_map,yh];rfl) hA j v (V8g j v hv)
end

section
open Go.ChangeShapes Go.WideShapes Go.ChangeAt Go.RowKit Go.Deep
section
variable {H : Type} {enc : TypeId × Value → H} {W : World} {base : Nat} {sp : Nat → Bool} {held : Bool}
theorem Z88 {W:World}{a:Addr}{v:Value}(h:W.cell? a=some v):a.spot=none:=by
  unfold World.cell? at h
  split at h
  · split at h
    · cases h
    rename_i hs;cases hsp:a.spot with
    |none=>rfl
    |some _=>rw[hsp] at hs;exact absurd rfl hs
  cases h
theorem Y2x {t e:TypeId}{k:Nat}{α:Type}[Inhabited α]{f:α→List Value}{Q:α→Prop}(hu:Tryz.prog.underlying t=some (.slice e))(hk:Tryz.prog.cellsOf e=k)(hk0:0<k)(hf:∀x,(f x).length=k)
    (htr:∀{fuel:Nat} {cs:List Value} {x:DataW H×List MemPlace},DataW.trod enc Tryz.prog W base sp held fuel e cs=some x→∃y,Q y∧cs=f y)
    {r:Reach} {b0:Nat} {v:Value} {d:DataW H} {ps:List MemPlace} (hval:Value.okWide Tryz.prog W r b0 t v) (hd:DataW.Trod enc Tryz.prog W base sp held t v d ps):
    ∃ls:List α,(∀y∈ls,Q y)∧RR k W v (ls.map f):=by
  obtain⟨ao,M,Z,rfl⟩:=okWide_slice hu hval;obtain⟨fuel,T⟩:=hd;rcases open_slice hu T with⟨N,_⟩|⟨a,β,γ,m,n,D,Pl,N,δ,hl,hm,U,ε,hi⟩
  · simp[Value.cells] at N
    obtain⟨rfl,rfl,rfl⟩:=N;exact⟨[],fun y hy=>(by cases hy),Z2u k W⟩
  simp[Value.cells] at N;obtain⟨rfl,rfl,rfl⟩:=N;have θ:M≤m:=by rw[U];split<;>omega
  have Y:0<M→a.spot=none:=fun h=>by
    obtain⟨V,h1,h2⟩:=hi 0 (by omega);rw[hk] at h1;obtain⟨_,R,G⟩:=World.cells?_some h1;have h0:=G 0 hk0;rw[List.getElem?_eq_getElem (by rw[R];exact hk0)] at h0;have h4:=Z88 h0
    simpa[Addr.add] using h4
  have S:∀i,i<M→∃x:α,Q x∧a.spot=none∧∀(j:Nat)(u:Value),(f x)[j]?=some u→W.cell? ⟨a.block,a.off+i*k+j,none⟩=some u:=by
    intro i η;obtain⟨V,h1,h2⟩:=hi i (by omega);rw[hk] at h1;obtain⟨_,R,G⟩:=World.cells?_some h1;obtain⟨x,hx,e⟩:=htr h2;rw[e] at R G;have hs:=Y (by omega);refine⟨x,hx,hs,fun j u hj=> ?_⟩
    have hj' :j<k:=by
      have:=(List.getElem?_eq_some_iff.1 hj).1;rw[hf] at this;exact this
    have h3:=G j hj';rw[hj] at h3
    have e2:(a.add (i*k)).add j=⟨a.block,a.off+i*k+j,none⟩:=by
      clear R G h1 h3 hi U T hval;obtain⟨ab,ζ,X⟩:=a;have hs' :X=none:=hs;subst hs';rw[Addr.add_mid,Addr.add_mid]
    rw[e2] at h3;exact h3
  refine⟨(List.range M).map fun i=>if h:i<M then Classical.choose (S i h) else default,fun y hy=> ?_,some a,Z,by simp,by simpa using hl,fun e=>(by cases e),fun j e hj=> ?_⟩
  · obtain⟨i,hi,rfl⟩:=List.mem_map.1 hy
    have J:=List.mem_range.1 hi;rw[dif_pos J];exact(Classical.choose_spec (S i J)).1
  rw[List.map_map] at hj;have J:j<M:=by have:=(List.getElem?_eq_some_iff.1 hj).1;simpa using this
  rw[List.getElem?_map,List.getElem?_range J] at hj;have hj:=Option.some.inj hj;simp only[Function.comp_apply,dif_pos J] at hj;subst hj;obtain⟨_,h2,h3⟩:=Classical.choose_spec (S j J);refine⟨a.block,a.off,?_,h3⟩;rw[←h2]
instance:Inhabited AE:=⟨⟨0,0,0,0,.slice none 0 0,.slice none 0 0,[],[]⟩⟩
theorem Q7k {r:Reach}{b0:Nat}{v:Value}{d:DataW H}{ps:List MemPlace}(hval:Value.okWide Tryz.prog W r b0 30 v)(hd:DataW.Trod enc Tryz.prog W base sp held 30 v d ps):
    ∃ms:List AE,aeK ms W∧RR 6 W v (ms.map aeC):=
  Y2x (Q:=fun y:AE=>Sl W y.ru y.raw∧Sl W y.vu y.val) Tryz.underlying30 (by kernel_rfl) (by decide) (fun x=>Y6i (qs:=[x]) (aeC x) (by simp)) (fun h=>by
    obtain⟨n1,n2,v3,l4,v5,l6,n7,n8,_,_,h0,h1,_,_,e⟩:=J8d h
    exact⟨⟨n1,n2,n7,n8,v3,v5,l4,l6⟩,⟨h0.1,h1.1⟩,e⟩) hval hd
end
end

section
set_option maxHeartbeats 3000000
attribute [local irreducible] wpList V2 wpX
open S8 (Kn GA kP)
theorem Y6j {f:FuncId}{args:Array Value}{F:List Nat}{w W:World}{H:List As}{J:List UInt8}{vk bk L P E:Nat}(hS:SH F w W H)
  (hc:Calls Tryz.prog f args W fun e w' => ∃z:{y:LD // NOk (J5r J vk bk L P E) W y}×Nat×Nat×Nat,e=.returned (.tuple #[.pointer (some ⟨z.1.1.p,0,none⟩),.pointer (some ⟨z.2.1,0,none⟩),.bool true])∧SH [] W w' (ldL (J5r J vk bk L P E) z.1.1++[gx]++[.b z.2.1 (Q5 [.c (Q9 J),.c (Q9 (lb 32 vk)),.c (Q9 (lb 32 bk)),.c (.int .i64 (L:Int)),.c (.int .i64 (P:Int)),.c (.int .i64 (E:Int)),.c (.slice none 0 0),.c (.slice none 0 0),.c (.slice (some ⟨z.2.2.1,0,none⟩) 1 1),.c (.slice (some ⟨z.2.2.2,0,none⟩) 1 1),.c (.slice none 0 0)]) 140,.b z.2.2.1 #[Q9 (lb 32 sE)] 9,.b z.2.2.2 #[Q9 (lb 32 (lk0 J))] 9])) (hR:tyD H=true):
  Calls Tryz.prog f args W fun e W' => ∃z:{y:LD // NOk (J5r J vk bk L P E) w y}×Nat×Nat×Nat,e=.returned (.tuple #[.pointer (some ⟨z.1.1.p,0,none⟩),.pointer (some ⟨z.2.1,0,none⟩),.bool true])∧SH F w W' (ldL (J5r J vk bk L P E) z.1.1++H):=by
 refine hc.mono fun e W' ⟨z,h1,h2⟩=>⟨(⟨z.1.1,z.1.2.1,z.1.2.2.1.back hS.off.size,z.1.2.2.2.back hS.off.size⟩,z.2),h1,?_⟩
 have h3:SH [] W W' (ldL (J5r J vk bk L P E) z.1.1):=h2.less (by rw[List.append_assoc];exact List.sublist_append_left _ _);exact SH.frameQ (L:=[]) hS h3 (Z4v hR z.1.2.2.1 z.1.2.2.2)
attribute [local irreducible] eI be8 hs4 lb J43 J2v J01 xt hm pbs DD.tree DD.link rs S8.kP S8.kN S8.kD ofT ebs lk0 sE sL sN opn bnd ahd bsd ixN pfN erN J0x DD.links DD.trees DD.play DD.putD DD.sealD fnd DD.lk

theorem Y6k {idl J:List UInt8}{vk bk:Nat}{iu:Value}{L P E:Int}{vr vm:Value}(hJ:idl.take 30=J)(hN:¬((1≤J.length∧J.length≤16)∧(1≤L∧L≤64)∧(1≤P∧P≤16)∧(1≤E∧E≤32)))(w:World)(hX:GX w)(hi:Sl w iu idl):
  Calls Tryz.prog 3 #[.agg (Q5 [.c iu,.a 32 vk,.a 32 bk,.c (.int .i64 L),.c (.int .i64 P),.c (.int .i64 E)]),vr,vm] w fun e w' =>X5 (.bool true) w w' e:=by
 have D:=J8 hi;have hS:=SH.nil [] w;have hS:=hS.entp (J96 hX)
 go_enter Tryz.func3,Tryz.ntmps3
 go_upto_region 0 with fail;refine RL hS ?_;clear hS;refine MN (z:=Q5 [.c iu,.a 32 vk,.a 32 bk,.c (.int .i64 L),.c (.int .i64 P),.c (.int .i64 E)]) (t:=29) ?_;intro G;refine Wf ?_;refine MZ fun W hS=> ?_;go_upto_region 1 with fail;refine RL hS ?_;clear hS;refine ML 0 ?_ (hs:=by rw[J7];kernel_rfl);refine MC (v:=.tuple #[.pointer none,.pointer none,.bool true]) (fun W hS=>V2z hJ hN W (hS.pp (i:=1) rfl) (J0c hi hS.ext)) ?_;(iterate 3 refine MV ?_);refine Wt ?_;refine MV ?_;refine MV ?_;refine Wt ?_;refine MZ fun W hS=> ?_;go_upto_region 2 with fail;refine RL hS ?_;clear hS;refine MC (v:=.bool true) (fun W hS=>Q51 W (hS.pp (i:=1) rfl)) ?_;refine Wf ?_;refine Wf ?_;refine Wt ?_;(iterate 3 refine Wf ?_);refine MV ?_;refine Wt ?_;refine Wt ?_;refine MZ fun W hS=> ?_;go_upto_region 3 with fail;refine RL hS ?_;clear hS;refine Wt ?_;refine Wt ?_;refine MC (v:=.bool true) (fun W hS=>Q51 W (hS.pp (i:=1) rfl)) ?_;refine Wt ?_;refine Wt ?_;refine MZ fun W hS=> ?_;go_wp2;exact bodyPost_ret (v:=.bool true) (by simp only[results,Tryz.results3];go_simp) rfl ⟨rfl,hS.ext⟩
end

section
attribute [local irreducible] wpList V2 wpX
attribute [local irreducible] hs4 sE sL sN lb
end

section
attribute [local irreducible] wpList V2 wpX
theorem Y08 {L:List Lf}{k:Nat}(h:J3v L):(J4y (J1d (ofT L) k 0)).1<2^256∧(J4y (J1d (ofT L) k 0)).2.1<2^256:=by
 rcases Q1y (ofT L) k 0 with e|⟨a,x,e⟩
 ·
  rw[e];exact⟨by decide,by decide⟩
 have e2:=e;rw[Z6d h] at e2;obtain⟨h1,h2⟩:=Q5t h;rw[e];exact h1 _ (Q2y 256 0 rfl h2 (Y2u _) e2).1
attribute [local irreducible] hs4 sE sL sN lb

end

section
theorem Q8d (D:DD)(e:Nat):J3v (D.lvs e):=fun x hx=>by
  unfold DD.lvs at hx;obtain⟨m,_,rfl⟩:=List.mem_map.1 hx;exact Y6l D m
theorem V8h (D:DD)(l:List UInt8)(e:Nat):(D.lk l e).ss.length≤1000000:=by
  have h:=Z2o (k:=ixN D.vk l) (Q8d D e);show(bsd (D.tree e) (ixN D.vk l) 0).length≤1000000;unfold DD.tree;omega
theorem V8i (D:DD)(l:List UInt8)(e:Nat):(D.lk l e).ek<2^256:=by
  show(J4y (J1d (D.tree e) (ixN D.vk l) 0)).1<_;unfold DD.tree;exact(Y08 (Q8d D e)).1
theorem V8j (D:DD)(l:List UInt8)(e:Nat):(D.lk l e).ev<2^256:=by
  show(J4y (J1d (D.tree e) (ixN D.vk l) 0)).2.1<_;unfold DD.tree;exact(Y08 (Q8d D e)).2
theorem K3r {D:DD}(hK:DOk D)(l:List UInt8)(e:Nat):(D.lk l e).x.length≤64:=by
  show(D.lastM l e).x.length≤64;unfold DD.lastM;generalize hq:(D.made.filter fun m=>decide (m.l=l)).filter (fun m=>decide (m.ep≤e))=q;cases q with
  |nil=>exact Nat.zero_le _
  |cons a t=>
    have h1:(a::t).getLastD mdZ∈a::t:=by
      rw[List.getLastD_eq_getLast?,List.getLast?_eq_some_getLast (by simp)];exact List.getLast_mem _
    rw[←hq] at h1;have h2:=(List.mem_filter.1 (List.mem_filter.1 h1).1).1;have h3:=hK.val _ (List.mem_append.2 (.inl (DD.made_mem h2).2));rw[←hq];exact h3
def J4x (D:DD)(e:Nat):List (List Value):=(List.range' 0 (e+1-0)).map (mkC D)
theorem Q74 (D:DD)(e:Nat):(J4x D e).length=e+1:=by unfold J4x;rw[List.length_map,List.length_range'];omega
theorem Z0e {D D' :DD}(h:After D D'){e:Nat}(he:e<D.puts.length):J4x D' e=J4x D e:=by
  unfold J4x;refine List.map_congr_left fun j hj=> ?_
  have G:j<D.puts.length:=by
    have:=(List.mem_range'_1.1 hj).2;omega
  unfold mkC;rw[h.tr j G,h.li j G]
theorem Y09 {D:DD}{e j:Nat}(h:j<e+1):(J4x D e)[j]?=some (mkC D j):=by
  unfold J4x;rw[List.getElem?_map,List.getElem?_range' (by omega)];simp
abbrev mkF (j R K:Nat):Array Value:=Q5 [.c (.int .i64 (j:Int)),.a 32 R,.a 32 K]
theorem V8k {j R K:Nat}(i:Nat)(hi:i<32):((mkF j R K).extract 1 (1+32))[i]?=some (.int .u8 (J5 R i)):=by
  rw[Array.getElem?_extract,if_pos (by rw[J7];show i<min (1+32) 65-1;omega)];exact(X9 (off:=1) 1:∀(j_:Nat)(v_:Value),(J0 .u8 32 (J5 R))[j_]?=some v_→(mkF j R K)[1+j_]?=some v_) i _ (V0 _ _ _ _ hi)
theorem V8l {j R K:Nat}(i:Nat)(hi:i<32):((mkF j R K).extract 33 (33+32))[i]?=some (.int .u8 (J5 K i)):=by
  rw[Array.getElem?_extract,if_pos (by rw[J7];show i<min (33+32) 65-33;omega)];exact(X9 (off:=33) 2:∀(j_:Nat)(v_:Value),(J0 .u8 32 (J5 K))[j_]?=some v_→(mkF j R K)[33+j_]?=some v_) i _ (V0 _ _ _ _ hi)
theorem K3s (j R K:Nat)(w:World):(Op.equalIn 10000 64 (.agg (mkF j R K)) (.agg (mkF j R K))).run Tryz.prog w=.ok true w:=by
 have hu:=Tryz.underlying64;have hf:Tryz.prog.fieldsOf 64=(match Tryz.prog.underlying 64 with|some (.struct fs)=>fs|_=> #[]):=rfl;rw[hu] at hf;rw[run_equalIn_struct w 9999 64 _ _ (by rw[hf];exact hu) (by kernel_rfl),hf]
 have p0:(part 3 (mkF j R K) 0).run Tryz.prog w=.ok (.int .i64 (j:Int)) w:=by
  have h1:(isAgg 3).run Tryz.prog w=.ok false w:=by
   unfold isAgg;rw[Sem.run_bind,run_underlying Tryz.underlying3 w];rfl
  have h2:(mkF j R K)[0]?=some (.int .i64 (j:Int)):=J4 (off:=0) 0;simp[part,Sem.run_bind,h1,h2]
 have p1:=Q1h (P:=Tryz.prog) w 23 32 5 (mkF j R K) 1 Tryz.underlying23 (by kernel_rfl) (by rw[J7];show _≤65;decide);have p2:=Q1h (P:=Tryz.prog) w 23 32 5 (mkF j R K) 33 Tryz.underlying23 (by kernel_rfl) (by rw[J7];show _≤65;decide);refine(J4z (by decide) p0 p0 (run_equalIn_int w 9998 3 .i64 .i64 (j:Int) (j:Int) Tryz.underlying3)).trans ?_;rw[if_pos (by simp)];have e1:=J1i (P:=Tryz.prog) w 9997 23 5 32 .u8 _ _ (J5 R) (J5 R) Tryz.underlying23 Tryz.underlying5 (by kernel_rfl) (V8k (j:=j) (K:=K)) (V8k (j:=j) (K:=K));rw[(J3o _ _ _).2 fun _ _=>rfl] at e1;refine(J4z (by decide) p1 p1 e1).trans ?_;rw[if_pos rfl];have e2:=J1i (P:=Tryz.prog) w 9997 23 5 32 .u8 _ _ (J5 K) (J5 K) Tryz.underlying23 Tryz.underlying5 (by kernel_rfl) (V8l (j:=j) (R:=R)) (V8l (j:=j) (R:=R));rw[(J3o _ _ _).2 fun _ _=>rfl] at e2;refine(J4z (by decide) p2 p2 e2).trans ?_;rw[if_pos rfl];simp[Op.eqFields]
end

section
theorem RJf {P:Program}{ops:Array Oper}{id:Nat}{a:Act}{w:World}{Q:Exit→Act→World→Prop}{R:Act→World→Prop}(h:(Code.region id ops false).wp P (Nml R) a w)(hk:∀a' w',R a' w' →Q .normal a' w'):(Code.region id ops false).wp P Q a w:=
  Code.wp_mono (fun e a' w' h' =>by cases e<;>first|exact hk _ _ h' |exact(h' :False).elim) h
def K3t:Fnd:=⟨0,0,0,false,0,[],0,0,[],false,0,0,0,0,0,0⟩
def DD.lkE (D:DD)(l:List UInt8)(e:Nat):Fnd:=if erN D.vk l=0 then D.lk l e else K3t
def Y0b (f:Fnd)(er:Nat)(w w' :World)(e:Ending):Prop:=∃z:Value×Value,e=.returned (.tuple #[.agg (fdF f z.1 z.2),.int .i64 (er:Int)])∧SH [] w w' [.o z.1 f.x,.r 23 32 z.2 (f.ss.map J0d)]
theorem Y0a {D:DD}{y:LD}{l:List UInt8}{v:Value}{n:Int}{e:Nat}(hn:n=(e:Int)∨n= -1∧(e:Int)=((D.puts.length-1:Nat):Int))(he:e<D.puts.length)(w:World)(hX:GX w)(hD:DK D y w)(hL:LOk D y)(hK:DOk D)(hs:Sl w v l)(hl:1≤l.length∧l.length≤32):
    Calls Tryz.prog 12 #[.pointer (some ⟨y.p,0,none⟩),v,.int .i64 n] w fun en w' =>Y0b (D.lkE l e) (erN D.vk l) w w' en:=by
  unfold DD.lkE
  by_cases h0:erN D.vk l=0
  · rw[if_pos h0,h0]
    exact V2r hn he h0 w hX hD hL hK hs hl
  rw[if_neg h0];refine(V2t hn he h0 w hX hD hL hK hs hl).mono fun en w' ⟨h1,h2⟩=>⟨(.slice none 0 0,.slice none 0 0),h1,?_⟩
  have hS:=(SH.nil [] w).next (J08 h2);have hS:=hS.rnil 23 32 rfl;exact hS.onil rfl
theorem V31 (D:DD)(l:List UInt8)(e:Nat):(D.lkE l e).ss.length≤1000000:=by
  unfold DD.lkE;split
  · exact V8h _ _ _
  exact Nat.zero_le _
theorem V32 (D:DD)(l:List UInt8)(e:Nat):(D.lkE l e).ek<2^256:=by
  unfold DD.lkE;split
  · exact V8i _ _ _
  exact Nat.two_pow_pos _
theorem V33 (D:DD)(l:List UInt8)(e:Nat):(D.lkE l e).ev<2^256:=by
  unfold DD.lkE;split
  · exact V8j _ _ _
  exact Nat.two_pow_pos _
theorem V8m {D:DD}(hK:DOk D)(l:List UInt8)(e:Nat):(D.lkE l e).x.length≤64:=by
  unfold DD.lkE;split
  · exact K3r hK _ _
  exact Nat.zero_le _
theorem After.lkE {D D' :DD}(h:After D D'){l:List UInt8}{e:Nat}(he:e<D.puts.length):D'.lkE l e=D.lkE l e:=by
  unfold DD.lkE;rw[h.vk,h.lk l e he]
end
end Go.Proofs.YteehbddkcnkhfaaGreatDoor

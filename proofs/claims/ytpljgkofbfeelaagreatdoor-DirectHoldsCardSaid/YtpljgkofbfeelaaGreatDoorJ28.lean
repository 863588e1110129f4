/- Contracts and plain laws for directHolds_holds. Conditions: the tables hold their numbers. -/
import Derived.Test.YtpljgkofbfeelaaGreatDoorJ27
open Go renaming undef->AP,World->AA,Value->AB,bodyPost_ret->BC,Calls->Az,IntKind->AG
open Go.IntKind renaming wrap_i64->BD
open _root_.List renaming length_append->Ai,length_cons->AV,mem_singleton->Ae,nil_append->BM,append_nil->Aj,append_assoc->Ak,length_nil->Al,mem_cons->AY,getElem?_append_left->BA,getElem?_append_right->BB,map_append->BU
open Go.RowKit
set_option maxRecDepth 100000
set_option linter.unusedSimpArgs false
set_option linter.unusedVariables false
namespace Go.Proofs.YtpljgkofbfeelaaGreatDoor
section
set_option maxHeartbeats 3000000
attribute [local irreducible] wpList Z9 wpX
open S8 (Kn GA kP)
abbrev J56 (id:List UInt8)(vk bk L P E:Nat):DD:=⟨id,vk,bk,L,P,E,[[]],[]⟩
structure NewOk (id:List UInt8)(L P E:Nat):Prop where
 i1:1≤id.length
 i2:id.length≤16
 l1:1≤L
 l2:L≤64
 p1:1≤P
 p2:P≤16
 e1:1≤E
 e2:E≤32
theorem Z3w {id:List UInt8}{vk bk L P E:Nat}(h:NewOk id L P E):DOk (J56 id vk bk L P E) where
 id1:=h.i1
 id2:=h.i2
 l1:=h.l1
 l2:=h.l2
 p1:=h.p1
 p2:=h.p2
 e1:=h.e1
 e2:=h.e2
 ep:=by show 1≤E+1;omega
 zero:=rfl
 pl:=fun ps D=>by rw[Ae.1 D];exact Nat.zero_le _
 wl:=Nat.zero_le _
 ll:=Nat.zero_le _
 lab:=fun l hl=>by cases hl
 val:=fun q hq=>by cases hq
theorem SH.pnil {F:List Nat}{w W:AA}{H:List As}{K:AA→Prop}(h:SH F w W H)(hz:(As.p [] K).holds W):SH F w W (.p [] K::H):=SH.foldF (N:=[]) h hz fun k hk=>by cases hk
theorem Y5a {w W:AA}{p h:Nat}{id:List UInt8}{vk bk L P E:Nat}{u pv tv lv:AB}(hS:SH [] w W [.b p (Q2 [.c u,.a 32 vk,.a 32 bk,.c (.int .i64 (L:Int)),.c (.int .i64 (P:Int)),.c (.int .i64 (E:Int)),.c (.map (some h)),.c (.slice none 0 0),.c pv,.c tv,.c lv]) 81,J24 h [],.o u id,.r 77 1 pv [[.slice none 0 0]],.r 82 1 tv [[.pointer none]],.r 23 32 lv [J0d (lk0 id)]]):
  ∃y:{y:LD // LOk (J56 id vk bk L P E) y∧OldF [] w (Q1t y.bs)∧OldF [] w (Q2y y.pvs)},y.1.p=p∧SH [] w W (ldL (J56 id vk bk L P E) y.1):=by
 refine⟨⟨⟨p,h,u,.slice none 0 0,pv,tv,lv,[],[],[(.slice none 0 0,[])],[.pointer none],[(u,id)]⟩,?_,?_,?_⟩,rfl,?_⟩
 ·
  exact{w:=rfl,p:=rfl,a:=rfl,n:=fun a ha=>(by cases ha),e:=fun a ha=>(by cases ha),i:=(by simp),bw:=fun q hq=>(by cases hq),bp:=fun r hr q hq=>(by rw[Ae.1 hr] at hq;cases hq),be:=fun a ha=>(by cases ha)}
 ·
  intro k hk D;obtain⟨b,hb,h1⟩:=List.mem_flatMap.1 hk;rw[Ae.1 hb] at h1;have:=hS.old (.o u id) (by simp) rfl k (by rw[show(As.o u id).foot=u.ownBlock.toList from rfl,J3d (As.mem_toList h1)];simp) D;cases this
 ·
  intro k hk D;obtain⟨b,hb,h1⟩:=List.mem_flatMap.1 hk;rw[Ae.1 hb] at h1;cases h1
 have h1:SH [] w W [byT [(u,id)],.b p (Q2 [.c u,.a 32 vk,.a 32 bk,.c (.int .i64 (L:Int)),.c (.int .i64 (P:Int)),.c (.int .i64 (E:Int)),.c (.map (some h)),.c (.slice none 0 0),.c pv,.c tv,.c lv]) 81,J24 h [],.r 77 1 pv [[.slice none 0 0]],.r 82 1 tv [[.pointer none]],.r 23 32 lv [J0d (lk0 id)]]:=by
  have h0:=hS.pick [2,0,1,3,4,5];refine SH.foldF (N:=[.o u id]) h0 (Q65 fun b hb=>by rw[Ae.1 hb];exact(h0.own (i:=0) rfl).sl) fun k hk=> ?_;obtain⟨z,hz,h4⟩:=List.mem_flatMap.1 hk;rw[Ae.1 hz] at h4;exact⟨.o u id,by simp,fun T K e=>(by cases e),by rw[show(As.o u id).foot=u.ownBlock.toList from rfl,J3d (As.mem_toList h4)];simp⟩
 have h2:=(h1.mnil (some 94) (J8y (acs:=[]) ⟨fun a ha=>(by cases ha),.nil⟩) rfl).mnil (some 97) (J8z (acs:=[]) ⟨fun a ha=>(by cases ha),.nil⟩) rfl;have h3:=h2.rnil 84 2 rfl;have h4:SH [] w W (rwT [(.slice none 0 0,[])]::_):=h3.pnil (Q66 (rs:=[(.slice none 0 0,[])]) fun r hr=>by rw[Ae.1 hr];exact Z1z 2 W)
 have h5:=h4.fact (Q67 (ts:=[.nil]) (us:=[.pointer none]) ⟨rfl,fun i T v h1 h2=>by
  cases i with
  |zero=>injection h1 with h1;injection h2 with h2;subst h1 h2;rfl
  |succ i=>simp at h1⟩) rfl
 exact h5.pick [6,7,4,3,2,8,9,10,5,1,0]
attribute [local irreducible] eI be8 hs4 lb J33 J25 K3 xt hm pbs DD.tree DD.link rs S8.kP S8.kN S8.kD ofT ebs lk0

theorem J4o:zer Tryz.prog 81=some (some (Q2 [.c (.slice none 0 0),.a 32 0,.a 32 0,.c (.int .i64 0),.c (.int .i64 0),.c (.int .i64 0),.c (.map none),.c (.slice none 0 0),.c (.slice none 0 0),.c (.slice none 0 0),.c (.slice none 0 0)])):=by kernel_rfl
theorem J4p:plc Tryz.prog 81=some [(0,1),(1,64),(65,3),(68,1),(69,1),(70,1),(71,1),(72,1)]:=by kernel_rfl
theorem Z9r {id:List UInt8}{vk bk L P E:Nat}{v:AB}(hN:NewOk id L P E)(w:AA)(hX:GX w)(hs:Sl w v id):
  Az Tryz.prog 35 #[v,.agg (Q2 [.a 32 vk,.a 32 bk]),.agg (Q2 [.c (.int .i64 (L:Int)),.c (.int .i64 (P:Int)),.c (.int .i64 (E:Int))])] w fun e w' => ∃y:{y:LD // LOk (J56 id vk bk L P E) y∧OldF [] w (Q1t y.bs)∧OldF [] w (Q2y y.pvs)},e=.returned (.tuple #[.pointer (some ⟨y.1.p,0,none⟩),.int .i64 0])∧SH [] w w' (ldL (J56 id vk bk L P E) y.1):=by
 have G7:=hN.i2;have hS:=SH.nil [] w
 go_enter Tryz.func35,Tryz.ntmps35
 go_upto_region 0 with fail;refine RL hS ?_;clear hS;refine MN (z:=Q2 [.a 32 vk,.a 32 bk]) (t:=25) ?_;intro α;refine MN (z:=Q2 [.c (.int .i64 (L:Int)),.c (.int .i64 (P:Int)),.c (.int .i64 (E:Int))]) (t:=75) ?_;intro M;refine MV ?_;refine W0 ?_;refine MZ fun W hS=> ?_;go_upto_region 1 with fail;refine RL hS ?_;clear hS;refine MV ?_;refine MF (v:=.int .i64 (id.length:Int)) (fun W hS=>Q8 (K4 hs hS.ext) rfl rfl) ?_;refine MC (v:=.bool true) (fun W hS=>(by have h_:=J10 (id.length:Int) 16 W;rw[show win (id.length:Int) 16=true from decide_eq_true (show(1:Int)≤(id.length:Int)∧(id.length:Int)≤16 by have ε:=hN.i1;have τ:=hN.i2;omega)] at h_;exact h_)) ?_;refine Wf ?_;refine Wf ?_;refine MV ?_;refine MG 0 ?_ (v:=.int .i64 (L:Int)) (hj:=(J5 (off:=0) 0));refine MC (v:=.bool true) (fun W hS=>(by have h_:=J10 (L:Int) 64 W;rw[show win (L:Int) 64=true from decide_eq_true (show(1:Int)≤(L:Int)∧(L:Int)≤64 by have ε:=hN.l1;have τ:=hN.l2;omega)] at h_;exact h_)) ?_;(iterate 3 refine Wf ?_);refine MV ?_;refine MG 0 ?_ (v:=.int .i64 (P:Int)) (hj:=(J5 (off:=1) 1));refine MC (v:=.bool true) (fun W hS=>(by have h_:=J10 (P:Int) 16 W;rw[show win (P:Int) 16=true from decide_eq_true (show(1:Int)≤(P:Int)∧(P:Int)≤16 by have ε:=hN.p1;have τ:=hN.p2;omega)] at h_;exact h_)) ?_;(iterate 3 refine Wf ?_);refine MV ?_;refine MG 0 ?_ (v:=.int .i64 (E:Int)) (hj:=(J5 (off:=2) 2));refine MC (v:=.bool true) (fun W hS=>(by have h_:=J10 (E:Int) 32 W;rw[show win (E:Int) 32=true from decide_eq_true (show(1:Int)≤(E:Int)∧(E:Int)≤32 by have ε:=hN.e1;have τ:=hN.e2;omega)] at h_;exact h_)) ?_;refine Wf ?_;refine Wf ?_;refine MZ fun W hS=> ?_;go_upto_region 3 with fail;refine RJ (R:=fun a_ w_=> ∃(D:Nat),∃(J:AB),∃(G:Nat),a_={tmps:=List.toArray (v::(.agg (Q2 [.a 32 vk,.a 32 bk]))::(.agg (Q2 [.c (.int .i64 (L:Int)),.c (.int .i64 (P:Int)),.c (.int .i64 (E:Int))]))::AP::(.pointer (some ⟨α,0,none⟩))::(.pointer (some ⟨M,0,none⟩))::(.pointer none)::(.int .i64 0)::(.pointer (some ⟨D,0,none⟩))::v::(.int .i64 (id.length:Int))::(.bool true)::(.bool false)::(.bool false)::(.pointer (some ⟨M,0,none⟩))::(.int .i64 (L:Int))::(.bool true)::(.bool false)::(.bool false)::(.bool false)::(.pointer (some ⟨M,1,none⟩))::(.int .i64 (P:Int))::(.bool true)::(.bool false)::(.bool false)::(.bool false)::(.pointer (some ⟨M,2,none⟩))::(.int .i64 (E:Int))::(.bool true)::(.bool false)::(.bool false)::v::J::(.agg (Q2 [.a 32 vk,.a 32 bk]))::(.agg (Q2 [.c (.int .i64 (L:Int)),.c (.int .i64 (P:Int)),.c (.int .i64 (E:Int))]))::(.map (some G))::(.agg (Q2 [.c J,.a 32 vk,.a 32 bk,.c (.int .i64 (L:Int)),.c (.int .i64 (P:Int)),.c (.int .i64 (E:Int)),.c (.map (some G)),.c (.slice none 0 0),.c (.slice none 0 0),.c (.slice none 0 0),.c (.slice none 0 0)]))::(.pointer (some ⟨D,0,none⟩))::AP::AP::AP::AP::AP::AP::AP::AP::AP::AP::AP::AP::AP::AP::AP::AP::AP::AP::AP::AP::AP::AP::AP::AP::AP::AP::AP::AP::AP::AP::[]),defers:=[]}∧SH [] w w_ [.o J id,J24 G [],.b D (Q2 [.c J,.a 32 vk,.a 32 bk,.c (.int .i64 (L:Int)),.c (.int .i64 (P:Int)),.c (.int .i64 (E:Int)),.c (.map (some G)),.c (.slice none 0 0),.c (.slice none 0 0),.c (.slice none 0 0),.c (.slice none 0 0)]) 81,.b α (Q2 [.a 32 vk,.a 32 bk]) 25,.b M (Q2 [.c (.int .i64 (L:Int)),.c (.int .i64 (P:Int)),.c (.int .i64 (E:Int))]) 75]) ?_ ?_
 ·
  refine RTh (.q 0 (.q 2 (.q 3 (.b 1 (.e 4 (.q 5 (.e 6 (.q 7 .z)))) 4 (.e 1 (.q 5 (.e 6 (.q 7 .z)))))))) hS ?_;clear hS;refine TV ?_;refine TL 1 ?_ (hs:=by rw[J9];kernel_rfl);refine TL 0 ?_ (hs:=by rw[J9];kernel_rfl);refine TB (fun _ h=>h) ?_ ?_
  ·
   refine ME (V:=fun v=>v) (fun W hS=>J1y hS (J8x W (K4 hs hS.ext) (by first|omega|(simp only[lA,lM,lT,lD,lC,lN,J7,Y8,Z0,Z5];omega))) (fun _=>⟨rfl,rfl⟩)) ?_;intro μ;refine TNh (fun W hS=>hS.pick [1,2]) ?_;refine TE (fun _ h=>h) ?_;refine MMN ?_;intro U;refine TNh (fun W hS=>hS.pick [1,2,3]) ?_;refine J9l (fun W hS=>(J6 (hS.osl (i:=1) rfl)).2) ?_;intro Ξ;refine TF (v:=.agg (Q2 [.c μ,.a 32 vk,.a 32 bk,.c (.int .i64 (L:Int)),.c (.int .i64 (P:Int)),.c (.int .i64 (E:Int)),.c (.map (some U)),.c (.slice none 0 0),.c (.slice none 0 0),.c (.slice none 0 0),.c (.slice none 0 0)])) rfl (fun W hS=>J21 [(0,[.c μ]),(1,[.a 32 vk,.a 32 bk]),(3,[.c (.int .i64 (L:Int)),.c (.int .i64 (P:Int)),.c (.int .i64 (E:Int))]),(6,[.c (.map (some U))])] rfl rfl J4o J4p (.c ((J6 (hS.osl (i:=1) rfl)).1) (.c rfl (.c rfl (.c rfl .n))))) ?_;refine TE (fun _ h=>h) ?_;refine MN (z:=Q2 [.c μ,.a 32 vk,.a 32 bk,.c (.int .i64 (L:Int)),.c (.int .i64 (P:Int)),.c (.int .i64 (E:Int)),.c (.map (some U)),.c (.slice none 0 0),.c (.slice none 0 0),.c (.slice none 0 0),.c (.slice none 0 0)]) (t:=81) ?_;intro G5;refine TNh (fun W hS=>hS.pick [1,2,3,4]) ?_;refine TV ?_;refine TZ (fun _ h=>h) fun W hS=> ?_;exact⟨G5,μ,U,rfl,hS.pick [2,1,0,4,3]⟩
  refine MMN ?_;intro T;refine TNh (fun W hS=>hS.pick [1,2]) ?_;refine TE (fun _ h=>h) ?_;refine ME (V:=fun v=>v) (fun W hS=>J1y hS (J8x W (K4 hs hS.ext) (by first|omega|(simp only[lA,lM,lT,lD,lC,lN,J7,Y8,Z0,Z5];omega))) (fun _=>⟨rfl,rfl⟩)) ?_;intro κ;refine TNh (fun W hS=>hS.pick [1,2,3]) ?_;refine J9l (fun W hS=>(J6 (hS.osl (i:=0) rfl)).2) ?_;intro D4;refine TF (v:=.agg (Q2 [.c κ,.a 32 vk,.a 32 bk,.c (.int .i64 (L:Int)),.c (.int .i64 (P:Int)),.c (.int .i64 (E:Int)),.c (.map (some T)),.c (.slice none 0 0),.c (.slice none 0 0),.c (.slice none 0 0),.c (.slice none 0 0)])) rfl (fun W hS=>J21 [(0,[.c κ]),(1,[.a 32 vk,.a 32 bk]),(3,[.c (.int .i64 (L:Int)),.c (.int .i64 (P:Int)),.c (.int .i64 (E:Int))]),(6,[.c (.map (some T))])] rfl rfl J4o J4p (.c ((J6 (hS.osl (i:=0) rfl)).1) (.c rfl (.c rfl (.c rfl .n))))) ?_;refine TE (fun _ h=>h) ?_;refine MN (z:=Q2 [.c κ,.a 32 vk,.a 32 bk,.c (.int .i64 (L:Int)),.c (.int .i64 (P:Int)),.c (.int .i64 (E:Int)),.c (.map (some T)),.c (.slice none 0 0),.c (.slice none 0 0),.c (.slice none 0 0),.c (.slice none 0 0)]) (t:=81) ?_;intro D9;refine TNh (fun W hS=>hS.pick [1,2,3,4]) ?_;refine TV ?_;refine TZ (fun _ h=>h) fun W hS=> ?_;exact⟨D9,κ,T,rfl,hS.pick [1,2,0,4,3]⟩
 rintro _ W ⟨D,J,G,rfl,hS⟩;go_upto_region 4 with fail;refine RJ (R:=fun a_ w_=> ∃(X:Nat),∃(N:AB),∃(Z:Nat),∃(S:AB),a_={tmps:=List.toArray (v::(.agg (Q2 [.a 32 vk,.a 32 bk]))::(.agg (Q2 [.c (.int .i64 (L:Int)),.c (.int .i64 (P:Int)),.c (.int .i64 (E:Int))]))::AP::(.pointer (some ⟨α,0,none⟩))::(.pointer (some ⟨M,0,none⟩))::(.pointer none)::(.int .i64 0)::(.pointer (some ⟨D,0,none⟩))::v::(.int .i64 (id.length:Int))::(.bool true)::(.bool false)::(.bool false)::(.pointer (some ⟨M,0,none⟩))::(.int .i64 (L:Int))::(.bool true)::(.bool false)::(.bool false)::(.bool false)::(.pointer (some ⟨M,1,none⟩))::(.int .i64 (P:Int))::(.bool true)::(.bool false)::(.bool false)::(.bool false)::(.pointer (some ⟨M,2,none⟩))::(.int .i64 (E:Int))::(.bool true)::(.bool false)::(.bool false)::v::J::(.agg (Q2 [.a 32 vk,.a 32 bk]))::(.agg (Q2 [.c (.int .i64 (L:Int)),.c (.int .i64 (P:Int)),.c (.int .i64 (E:Int))]))::(.map (some G))::(.agg (Q2 [.c J,.a 32 vk,.a 32 bk,.c (.int .i64 (L:Int)),.c (.int .i64 (P:Int)),.c (.int .i64 (E:Int)),.c (.map (some G)),.c (.slice none 0 0),.c (.slice none 0 0),.c (.slice none 0 0),.c (.slice none 0 0)]))::(.pointer (some ⟨D,0,none⟩))::(.pointer (some ⟨D,0,none⟩))::(.pointer (some ⟨D,0,none⟩))::(.pointer (some ⟨D,0,none⟩))::(.pointer (some ⟨D,0,none⟩))::(.pointer (some ⟨D,71,none⟩))::(.slice none 0 0)::(.slice (some ⟨X,0,none⟩) 1 1)::N::(.pointer (some ⟨D,0,none⟩))::(.pointer (some ⟨D,0,none⟩))::(.pointer (some ⟨D,70,none⟩))::(.slice none 0 0)::(.slice (some ⟨Z,0,none⟩) 1 1)::S::(.pointer (some ⟨D,0,none⟩))::(.pointer (some ⟨D,71,none⟩))::(.pointer (some ⟨D,0,none⟩))::(.pointer (some ⟨D,70,none⟩))::AP::AP::AP::AP::AP::AP::AP::AP::AP::AP::AP::AP::[]),defers:=[]}∧SH [] w w_ [.r 82 1 N ([]++[([.pointer none]:List AB)]),.r 77 1 S ([]++[([.slice none 0 0]:List AB)]),.b X #[.pointer none] 82,.b Z #[.slice none 0 0] 77,.o J id,J24 G [],.b D (Q2 [.c J,.a 32 vk,.a 32 bk,.c (.int .i64 (L:Int)),.c (.int .i64 (P:Int)),.c (.int .i64 (E:Int)),.c (.map (some G)),.c (.slice none 0 0),.c S,.c N,.c (.slice none 0 0)]) 81,.b α (Q2 [.a 32 vk,.a 32 bk]) 25,.b M (Q2 [.c (.int .i64 (L:Int)),.c (.int .i64 (P:Int)),.c (.int .i64 (E:Int))]) 75]) ?_ ?_
 ·
  refine RTh (.q 0 (.vq 1 (.q 2 (.q 3 (.q 4 (.q 5 (.q 8 (.q 9 (.q 10 (.q 11 (.b 6 (.b 7 (.e 12 (.e 13 (.q 14 (.q 15 (.kq 16 (.q 17 (.q 18 (.e 19 .z)))))))) 12 (.e 7 (.e 13 (.q 14 (.q 15 (.kq 16 (.q 17 (.q 18 (.e 19 .z))))))))) 12 (.e 6 (.e 7 (.e 13 (.q 14 (.q 15 (.kq 16 (.q 17 (.q 18 (.e 19 .z)))))))))))))))))))) hS ?_;clear hS;refine TV ?_;refine TvV ?_;(iterate 3 refine TV ?_);refine TG 2 ?_ (v:=.slice none 0 0) (hj:=(J5 (off:=71) 9));(iterate 3 refine TV ?_);refine TG 2 ?_ (v:=.slice none 0 0) (hj:=(J5 (off:=70) 8));refine TB (fun _ h=>h) ?_ ?_
  ·
   refine MB (z:= #[.pointer none]) (t:=82) (n:=1) (c:=1) ?_ (hr:=fun W hS=>Y0 [.pointer none] rfl rfl (vsc rfl vs0) Tryz.underlying79 (by kernel_rfl) (by kernel_rfl) rfl (by decide) (by decide));intro Γ;refine TNh (fun W hS=>hS.pick [1,2,3,4,5]) ?_;refine TB (fun _ h=>h) ?_ ?_
   ·
    refine MT (fun W hS=>hS.rnil 82 1 rfl) ?_;refine MAr 0 1 (tS:=79) (bytes:=8) (es:=[]) (by first|omega|(simp only[lA,lM,lT,lD,lC,lN,J7,Y8,Z0,Z5];omega)) (e:=([.pointer none]:List AB)) ?_;intro ν;refine TNh (fun W hS=>hS.pick [1,2,3,4,5,6]) ?_;refine TE (fun _ h=>h) ?_;refine MB (z:= #[.slice none 0 0]) (t:=77) (n:=1) (c:=1) ?_ (hr:=fun W hS=>Y0 [.slice none 0 0] rfl rfl (vsc rfl vs0) Tryz.underlying78 (by kernel_rfl) (by kernel_rfl) rfl (by decide) (by decide));intro G3;refine TNh (fun W hS=>hS.pick [1,2,3,4,5,6,7]) ?_;refine TE (fun _ h=>h) ?_;refine MT (fun W hS=>hS.rnil 77 1 rfl) ?_;refine MAr 0 1 (tS:=78) (bytes:=24) (es:=[]) (by first|omega|(simp only[lA,lM,lT,lD,lC,lN,J7,Y8,Z0,Z5];omega)) (e:=([.slice none 0 0]:List AB)) ?_;intro ψ;refine TNh (fun W hS=>hS.pick [1,2,3,4,5,6,7,8]) ?_;refine TV ?_;refine TV ?_;refine TK (fun _ h=>h) ?_;refine K8 (fun W hS=>(Row.cells (hS.row (i:=2) rfl)).2) ?_;intro Θ;refine MP 6 (v:=ν) (cs' :=Q2 [.c J,.a 32 vk,.a 32 bk,.c (.int .i64 (L:Int)),.c (.int .i64 (P:Int)),.c (.int .i64 (E:Int)),.c (.map (some G)),.c (.slice none 0 0),.c (.slice none 0 0),.c ν,.c (.slice none 0 0)]) ?_ (hs:=agl) (hc:=K1 (off:=71) 9) (hv:=fun W hS=>Row.cells (hS.row (i:=2) rfl));refine Z9u [0,1,2,3,4,5,7,8] ?_;refine TV ?_;refine TV ?_;refine TE (fun _ h=>h.pick [0,1,2,3,4,5,7,8]) ?_;refine K8 (fun W hS=>(Row.cells (hS.row (i:=0) rfl)).2) ?_;intro D6;refine MP 6 (v:=ψ) (cs' :=Q2 [.c J,.a 32 vk,.a 32 bk,.c (.int .i64 (L:Int)),.c (.int .i64 (P:Int)),.c (.int .i64 (E:Int)),.c (.map (some G)),.c (.slice none 0 0),.c ψ,.c ν,.c (.slice none 0 0)]) ?_ (hs:=agl) (hc:=K1 (off:=70) 8) (hv:=fun W hS=>Row.cells (hS.row (i:=0) rfl));refine Y6 [0,1,2,3,4,5,7,8] [0,1,2,3,4,5,6,7] ?_;refine TZ (fun _ h=>h.pick [0,1,2,3,4,5,7,8]) fun W hS=> ?_;exact⟨Γ,ν,G3,ψ,rfl,hS.pick [2,0,3,1,4,5,6,7,8]⟩
   refine MB (z:= #[.slice none 0 0]) (t:=77) (n:=1) (c:=1) ?_ (hr:=fun W hS=>Y0 [.slice none 0 0] rfl rfl (vsc rfl vs0) Tryz.underlying78 (by kernel_rfl) (by kernel_rfl) rfl (by decide) (by decide));intro D8;refine Y6 [0,1,2,3,4,5,6] [1,2,3,4,5,6] ?_;refine TE (fun _ h=>h) ?_;refine MT (fun W hS=>hS.rnil 82 1 rfl) ?_;refine MAr 0 2 (tS:=79) (bytes:=8) (es:=[]) (by first|omega|(simp only[lA,lM,lT,lD,lC,lN,J7,Y8,Z0,Z5];omega)) (e:=([.pointer none]:List AB)) ?_;intro η;refine Y6 [0,1,2,3,4,5,6,7] [1,2,3,4,5,6,7] ?_;refine TE (fun _ h=>h) ?_;refine MT (fun W hS=>hS.rnil 77 1 rfl) ?_;refine MAr 0 2 (tS:=78) (bytes:=24) (es:=[]) (by first|omega|(simp only[lA,lM,lT,lD,lC,lN,J7,Y8,Z0,Z5];omega)) (e:=([.slice none 0 0]:List AB)) ?_;intro ξ;refine Y6 [0,1,2,3,4,5,6,7,8] [1,2,3,4,5,6,7,8] ?_;refine TV ?_;refine TV ?_;refine TK (fun _ h=>h) ?_;refine K8 (fun W hS=>(Row.cells (hS.row (i:=1) rfl)).2) ?_;intro D1;refine MP 6 (v:=η) (cs' :=Q2 [.c J,.a 32 vk,.a 32 bk,.c (.int .i64 (L:Int)),.c (.int .i64 (P:Int)),.c (.int .i64 (E:Int)),.c (.map (some G)),.c (.slice none 0 0),.c (.slice none 0 0),.c η,.c (.slice none 0 0)]) ?_ (hs:=agl) (hc:=K1 (off:=71) 9) (hv:=fun W hS=>Row.cells (hS.row (i:=1) rfl));refine Z9u [0,1,2,3,4,5,7,8] ?_;refine TV ?_;refine TV ?_;refine TE (fun _ h=>h.pick [0,1,2,3,4,5,7,8]) ?_;refine K8 (fun W hS=>(Row.cells (hS.row (i:=0) rfl)).2) ?_;intro D0;refine MP 6 (v:=ξ) (cs' :=Q2 [.c J,.a 32 vk,.a 32 bk,.c (.int .i64 (L:Int)),.c (.int .i64 (P:Int)),.c (.int .i64 (E:Int)),.c (.map (some G)),.c (.slice none 0 0),.c ξ,.c η,.c (.slice none 0 0)]) ?_ (hs:=agl) (hc:=K1 (off:=70) 8) (hv:=fun W hS=>Row.cells (hS.row (i:=0) rfl));refine Y6 [0,1,2,3,4,5,7,8] [0,1,2,3,4,5,6,7] ?_;refine TZ (fun _ h=>h.pick [0,1,2,3,4,5,7,8]) fun W hS=> ?_;exact⟨Γ,η,D8,ξ,rfl,hS.pick [1,0,3,2,4,5,6,7,8]⟩
  refine MB (z:= #[.slice none 0 0]) (t:=77) (n:=1) (c:=1) ?_ (hr:=fun W hS=>Y0 [.slice none 0 0] rfl rfl (vsc rfl vs0) Tryz.underlying78 (by kernel_rfl) (by kernel_rfl) rfl (by decide) (by decide));intro G0;refine Y6 [0,1,2,3,4,5] [1,2,3,4,5] ?_;refine TE (fun _ h=>h) ?_;refine MB (z:= #[.pointer none]) (t:=82) (n:=1) (c:=1) ?_ (hr:=fun W hS=>Y0 [.pointer none] rfl rfl (vsc rfl vs0) Tryz.underlying79 (by kernel_rfl) (by kernel_rfl) rfl (by decide) (by decide));intro G1;refine Y6 [0,1,2,3,4,5,6] [1,2,3,4,5,6] ?_;refine TE (fun _ h=>h) ?_;refine MT (fun W hS=>hS.rnil 82 1 rfl) ?_;refine MAr 0 1 (tS:=79) (bytes:=8) (es:=[]) (by first|omega|(simp only[lA,lM,lT,lD,lC,lN,J7,Y8,Z0,Z5];omega)) (e:=([.pointer none]:List AB)) ?_;intro θ;refine Y6 [0,1,2,3,4,5,6,7] [1,2,3,4,5,6,7] ?_;refine TE (fun _ h=>h) ?_;refine MT (fun W hS=>hS.rnil 77 1 rfl) ?_;refine MAr 0 3 (tS:=78) (bytes:=24) (es:=[]) (by first|omega|(simp only[lA,lM,lT,lD,lC,lN,J7,Y8,Z0,Z5];omega)) (e:=([.slice none 0 0]:List AB)) ?_;intro φ;refine Y6 [0,1,2,3,4,5,6,7,8] [1,2,3,4,5,6,7,8] ?_;refine TV ?_;refine TV ?_;refine TK (fun _ h=>h) ?_;refine K8 (fun W hS=>(Row.cells (hS.row (i:=1) rfl)).2) ?_;intro D3;refine MP 6 (v:=θ) (cs' :=Q2 [.c J,.a 32 vk,.a 32 bk,.c (.int .i64 (L:Int)),.c (.int .i64 (P:Int)),.c (.int .i64 (E:Int)),.c (.map (some G)),.c (.slice none 0 0),.c (.slice none 0 0),.c θ,.c (.slice none 0 0)]) ?_ (hs:=agl) (hc:=K1 (off:=71) 9) (hv:=fun W hS=>Row.cells (hS.row (i:=1) rfl));refine Z9u [0,1,2,3,4,5,7,8] ?_;refine TV ?_;refine TV ?_;refine TE (fun _ h=>h.pick [0,1,2,3,4,5,7,8]) ?_;refine K8 (fun W hS=>(Row.cells (hS.row (i:=0) rfl)).2) ?_;intro Ψ;refine MP 6 (v:=φ) (cs' :=Q2 [.c J,.a 32 vk,.a 32 bk,.c (.int .i64 (L:Int)),.c (.int .i64 (P:Int)),.c (.int .i64 (E:Int)),.c (.map (some G)),.c (.slice none 0 0),.c φ,.c θ,.c (.slice none 0 0)]) ?_ (hs:=agl) (hc:=K1 (off:=70) 8) (hv:=fun W hS=>Row.cells (hS.row (i:=0) rfl));refine Y6 [0,1,2,3,4,5,7,8] [0,1,2,3,4,5,6,7] ?_;refine TZ (fun _ h=>h.pick [0,1,2,3,4,5,7,8]) fun W hS=> ?_;exact⟨G1,θ,G0,φ,rfl,hS.pick [1,0,2,3,4,5,6,7,8]⟩
 rintro _ W ⟨X,N,Z,S,rfl,hS⟩;go_upto_region 5 with fail;refine RJ (R:=fun a_ w_=> ∃(Y:Nat),∃(ζ:Nat),∃(γ:AB),a_={tmps:=List.toArray (v::(.agg (Q2 [.a 32 vk,.a 32 bk]))::(.agg (Q2 [.c (.int .i64 (L:Int)),.c (.int .i64 (P:Int)),.c (.int .i64 (E:Int))]))::AP::(.pointer (some ⟨α,0,none⟩))::(.pointer (some ⟨M,0,none⟩))::(.pointer none)::(.int .i64 0)::(.pointer (some ⟨D,0,none⟩))::v::(.int .i64 (id.length:Int))::(.bool true)::(.bool false)::(.bool false)::(.pointer (some ⟨M,0,none⟩))::(.int .i64 (L:Int))::(.bool true)::(.bool false)::(.bool false)::(.bool false)::(.pointer (some ⟨M,1,none⟩))::(.int .i64 (P:Int))::(.bool true)::(.bool false)::(.bool false)::(.bool false)::(.pointer (some ⟨M,2,none⟩))::(.int .i64 (E:Int))::(.bool true)::(.bool false)::(.bool false)::v::J::(.agg (Q2 [.a 32 vk,.a 32 bk]))::(.agg (Q2 [.c (.int .i64 (L:Int)),.c (.int .i64 (P:Int)),.c (.int .i64 (E:Int))]))::(.map (some G))::(.agg (Q2 [.c J,.a 32 vk,.a 32 bk,.c (.int .i64 (L:Int)),.c (.int .i64 (P:Int)),.c (.int .i64 (E:Int)),.c (.map (some G)),.c (.slice none 0 0),.c (.slice none 0 0),.c (.slice none 0 0),.c (.slice none 0 0)]))::(.pointer (some ⟨D,0,none⟩))::(.pointer (some ⟨D,0,none⟩))::(.pointer (some ⟨D,0,none⟩))::(.pointer (some ⟨D,0,none⟩))::(.pointer (some ⟨D,0,none⟩))::(.pointer (some ⟨D,71,none⟩))::(.slice none 0 0)::(.slice (some ⟨X,0,none⟩) 1 1)::N::(.pointer (some ⟨D,0,none⟩))::(.pointer (some ⟨D,0,none⟩))::(.pointer (some ⟨D,70,none⟩))::(.slice none 0 0)::(.slice (some ⟨Z,0,none⟩) 1 1)::S::(.pointer (some ⟨D,0,none⟩))::(.pointer (some ⟨D,71,none⟩))::(.pointer (some ⟨D,0,none⟩))::(.pointer (some ⟨D,70,none⟩))::(.pointer (some ⟨D,0,none⟩))::(.pointer (some ⟨D,0,none⟩))::(.pointer (some ⟨D,0,none⟩))::(.pointer (some ⟨D,72,none⟩))::(.slice none 0 0)::v::(.agg (J0 .u8 32 (J2 Y)))::(.slice (some ⟨ζ,0,none⟩) 1 1)::γ::(.pointer (some ⟨D,0,none⟩))::(.pointer (some ⟨D,72,none⟩))::AP::[]),defers:=[]}∧Y=lk0 id∧SH [] w w_ [.r 23 32 γ ([]++[J0d Y]),.b ζ (J0 .u8 32 (J2 Y)) 23,.r 82 1 N ([]++[([.pointer none]:List AB)]),.r 77 1 S ([]++[([.slice none 0 0]:List AB)]),.o J id,J24 G [],.b X #[.pointer none] 82,.b Z #[.slice none 0 0] 77,.b D (Q2 [.c J,.a 32 vk,.a 32 bk,.c (.int .i64 (L:Int)),.c (.int .i64 (P:Int)),.c (.int .i64 (E:Int)),.c (.map (some G)),.c (.slice none 0 0),.c S,.c N,.c γ]) 81,.b α (Q2 [.a 32 vk,.a 32 bk]) 25,.b M (Q2 [.c (.int .i64 (L:Int)),.c (.int .i64 (P:Int)),.c (.int .i64 (E:Int))]) 75]) ?_ ?_
 ·
  refine RTp [0,1,2,3,4,5,7,8] (.q 0 (.q 1 (.q 2 (.q 3 (.q 5 (.b 4 (.e 6 (.e 7 (.e 8 (.q 9 (.q 10 (.e 11 .z)))))) 6 (.b 4 (.e 7 (.e 8 (.q 9 (.q 10 (.e 11 .z))))) 7 (.e 4 (.e 8 (.q 9 (.q 10 (.e 11 .z)))))))))))) hS ?_;clear hS;(iterate 5 refine TV ?_);refine TB (fun _ h=>h.pick [0,1,2,3,4,5,7,8]) ?_ ?_
  ·
   refine MG 6 ?_ (v:=.slice none 0 0) (hj:=(J5 (off:=72) 10));refine Y6 [0,1,2,3,4,5,7,8] [0,1,2,3,4,5,6,7] ?_;refine TE (fun _ h=>h.pick [0,1,2,3,4,5,7,8]) ?_;obtain⟨U1,β⟩:=exh (lk0 id);refine MC (v:=.agg (J0 .u8 32 (J2 U1))) (fun W hS=>Q9e β.out W (hX.ext hS.ext).gt (K4 hs hS.ext) (by omega)) ?_;refine Y6 [0,1,2,3,4,5,7,8] [0,1,2,3,4,5,6,7] ?_;refine TE (fun _ h=>h.pick [0,1,2,3,4,5,7,8]) ?_;refine MB (z:=(J0 .u8 32 (J2 U1))) (t:=23) (n:=1) (c:=1) ?_ (hr:=fun W _=>J2i rfl rfl rfl Tryz.underlying37 (by rw[J1];kernel_rfl) (by rw[J1];kernel_rfl) (by rw[J1];decide) (by rw[J1];decide));intro G6;refine Y6 [0,1,2,3,4,5,6,8,9] [1,2,3,4,5,6,7,8] ?_;refine TE (fun _ h=>h.pick [0,1,2,3,4,5,6,8,9]) ?_;refine MT (fun W hS=>hS.rnil 23 32 rfl) ?_;refine MAr 0 1 (tS:=37) (bytes:=32) (es:=[]) (by first|omega|(simp only[lA,lM,lT,lD,lC,lN,J7,Y8,Z0,Z5];omega)) (e:=J0d U1) (hk:=J1 _ _ _) (h1:=by exact J0b _ _ _) ?_;intro χ;refine Y6 [0,1,2,3,4,5,6,7,9,10] [1,2,3,4,5,6,7,8,9] ?_;refine TV ?_;refine TV ?_;refine TE (fun _ h=>h.pick [0,1,2,3,4,5,6,7,9,10]) ?_;refine K8 (fun W hS=>(Row.cells (hS.row (i:=0) rfl)).2) ?_;intro Ω;refine MP 8 (v:=χ) (cs' :=Q2 [.c J,.a 32 vk,.a 32 bk,.c (.int .i64 (L:Int)),.c (.int .i64 (P:Int)),.c (.int .i64 (E:Int)),.c (.map (some G)),.c (.slice none 0 0),.c S,.c N,.c χ]) ?_ (hs:=agl) (hc:=K1 (off:=72) 10) (hv:=fun W hS=>Row.cells (hS.row (i:=0) rfl));refine Y6 [0,1,2,3,4,5,6,7,9,10] [0,1,2,3,4,5,6,7,8,9] ?_;refine TZ (fun _ h=>h.pick [0,1,2,3,4,5,6,7,9,10]) fun W hS=> ?_;exact⟨U1,G6,χ,rfl,β.out,hS.pick [0,1,2,3,6,7,4,5,8,9,10]⟩
  obtain⟨U1,β⟩:=exh (lk0 id);refine MC (v:=.agg (J0 .u8 32 (J2 U1))) (fun W hS=>Q9e β.out W (hX.ext hS.ext).gt (K4 hs hS.ext) (by omega)) ?_;refine Y6 [0,1,2,3,4,5,7,8] [0,1,2,3,4,5,6,7] ?_;refine TB (fun _ h=>h.pick [0,1,2,3,4,5,7,8]) ?_ ?_
  ·
   refine MG 6 ?_ (v:=.slice none 0 0) (hj:=(J5 (off:=72) 10));refine Y6 [0,1,2,3,4,5,7,8] [0,1,2,3,4,5,6,7] ?_;refine TE (fun _ h=>h.pick [0,1,2,3,4,5,7,8]) ?_;refine MB (z:=(J0 .u8 32 (J2 U1))) (t:=23) (n:=1) (c:=1) ?_ (hr:=fun W _=>J2i rfl rfl rfl Tryz.underlying37 (by rw[J1];kernel_rfl) (by rw[J1];kernel_rfl) (by rw[J1];decide) (by rw[J1];decide));intro G2;refine Y6 [0,1,2,3,4,5,6,8,9] [1,2,3,4,5,6,7,8] ?_;refine TE (fun _ h=>h.pick [0,1,2,3,4,5,6,8,9]) ?_;refine MT (fun W hS=>hS.rnil 23 32 rfl) ?_;refine MAr 0 1 (tS:=37) (bytes:=32) (es:=[]) (by first|omega|(simp only[lA,lM,lT,lD,lC,lN,J7,Y8,Z0,Z5];omega)) (e:=J0d U1) (hk:=J1 _ _ _) (h1:=by exact J0b _ _ _) ?_;intro ρ;refine Y6 [0,1,2,3,4,5,6,7,9,10] [1,2,3,4,5,6,7,8,9] ?_;refine TV ?_;refine TV ?_;refine TE (fun _ h=>h.pick [0,1,2,3,4,5,6,7,9,10]) ?_;refine K8 (fun W hS=>(Row.cells (hS.row (i:=0) rfl)).2) ?_;intro D5;refine MP 8 (v:=ρ) (cs' :=Q2 [.c J,.a 32 vk,.a 32 bk,.c (.int .i64 (L:Int)),.c (.int .i64 (P:Int)),.c (.int .i64 (E:Int)),.c (.map (some G)),.c (.slice none 0 0),.c S,.c N,.c ρ]) ?_ (hs:=agl) (hc:=K1 (off:=72) 10) (hv:=fun W hS=>Row.cells (hS.row (i:=0) rfl));refine Y6 [0,1,2,3,4,5,6,7,9,10] [0,1,2,3,4,5,6,7,8,9] ?_;refine TZ (fun _ h=>h.pick [0,1,2,3,4,5,6,7,9,10]) fun W hS=> ?_;exact⟨U1,G2,ρ,rfl,β.out,hS.pick [0,1,2,3,6,7,4,5,8,9,10]⟩
  refine MB (z:=(J0 .u8 32 (J2 U1))) (t:=23) (n:=1) (c:=1) ?_ (hr:=fun W _=>J2i rfl rfl rfl Tryz.underlying37 (by rw[J1];kernel_rfl) (by rw[J1];kernel_rfl) (by rw[J1];decide) (by rw[J1];decide));intro G4;refine Y6 [0,1,2,3,4,5,6,8,9] [1,2,3,4,5,6,7,8] ?_;refine TE (fun _ h=>h.pick [0,1,2,3,4,5,6,8,9]) ?_;refine MG 7 ?_ (v:=.slice none 0 0) (hj:=(J5 (off:=72) 10));refine Y6 [0,1,2,3,4,5,6,8,9] [0,1,2,3,4,5,6,7,8] ?_;refine TE (fun _ h=>h.pick [0,1,2,3,4,5,6,8,9]) ?_;refine MT (fun W hS=>hS.rnil 23 32 rfl) ?_;refine MAr 0 1 (tS:=37) (bytes:=32) (es:=[]) (by first|omega|(simp only[lA,lM,lT,lD,lC,lN,J7,Y8,Z0,Z5];omega)) (e:=J0d U1) (hk:=J1 _ _ _) (h1:=by exact J0b _ _ _) ?_;intro σ;refine Y6 [0,1,2,3,4,5,6,7,9,10] [1,2,3,4,5,6,7,8,9] ?_;refine TV ?_;refine TV ?_;refine TE (fun _ h=>h.pick [0,1,2,3,4,5,6,7,9,10]) ?_;refine K8 (fun W hS=>(Row.cells (hS.row (i:=0) rfl)).2) ?_;intro D7;refine MP 8 (v:=σ) (cs' :=Q2 [.c J,.a 32 vk,.a 32 bk,.c (.int .i64 (L:Int)),.c (.int .i64 (P:Int)),.c (.int .i64 (E:Int)),.c (.map (some G)),.c (.slice none 0 0),.c S,.c N,.c σ]) ?_ (hs:=agl) (hc:=K1 (off:=72) 10) (hv:=fun W hS=>Row.cells (hS.row (i:=0) rfl));refine Y6 [0,1,2,3,4,5,6,7,9,10] [0,1,2,3,4,5,6,7,8,9] ?_;refine TZ (fun _ h=>h.pick [0,1,2,3,4,5,6,7,9,10]) fun W hS=> ?_;exact⟨U1,G4,σ,rfl,β.out,hS.pick [0,1,2,3,6,7,4,5,8,9,10]⟩
 rintro _ W ⟨Y,ζ,γ,rfl,δ,hS⟩;have ω:=Lib.hid δ;clear δ;have Δ:=hS.pick [8,5,4,3,2,0];rw[BM,BM,BM,ω.out] at Δ;obtain⟨y,hy,ε⟩:=Y5a Δ;go_wp2;exact BC (v:=.tuple #[.pointer (some ⟨D,0,none⟩),.int .i64 0]) (by simp only[results,Tryz.results35];go_simp) rfl ⟨y,by rw[hy],ε⟩
end

section
set_option maxHeartbeats 3000000
attribute [local irreducible] wpList Z9 wpX
def J2l:TR→Nat→Nat→List TR
 | .node e l r,k,d=> .node e l r::(if kb k d=0 then J2l l k (d+1) else J2l r k (d+1))
 |_,_,_=>[]
def J00:TR→Nat→Nat→TR
 | .node _ l r,k,d=>if kb k d=0 then J00 l k (d+1) else J00 r k (d+1)
 |T,_,_=>T
theorem J65:∀(T:TR) (k d:Nat),J00 T k d=.nil∨∃a x,J00 T k d=.leaf a x
 | .nil,_,_=> .inl rfl
 | .leaf a x,_,_=> .inr ⟨a,x,rfl⟩
 | .node _ l r,k,d=>by
  show(if kb k d=0 then J00 l k (d+1) else J00 r k (d+1))=_∨∃a x,(if kb k d=0 then J00 l k (d+1) else J00 r k (d+1))=_
  split
  ·
   exact J65 l k (d+1)
  ·
   exact J65 r k (d+1)
theorem Q5o:∀(T:TR) (k d:Nat),(J2l T k d).length≤tsz T
 | .nil,_,_=>Nat.le_refl _
 | .leaf _ _,_,_=>Nat.zero_le _
 | .node _ l r,k,d=>by
  show(_::(if kb k d=0 then J2l l k (d+1) else J2l r k (d+1))).length≤1+tsz l+tsz r;have h1:=Q5o l k (d+1);have h2:=Q5o r k (d+1);rw[AV]
  split<;>omega
abbrev J6x (u:AB):List AB:=[u]
structure WP (w0:AA)(T:TR)(k:Nat) where
 v:AB
 u:AB
 us:List AB
 hT:TA w0 (J00 T k 0) u
 hl:us.length=(J2l T k 0).length
 hu:∀(j:Nat)(x:AB),us[j]?=some x→∃T',(J2l T k 0)[j]?=some T' ∧TA w0 T' x
def K1t (w0:AA)(T:TR)(k:Nat)(w w' :AA)(e:Ending):Prop:=∃p:WP w0 T k,e=.returned (.tuple #[p.v,p.u])∧SH [] w w' [.r 82 1 p.v (p.us.map J6x)]
theorem V0p {f:FuncId}{args:Array AB}{F:List Nat}{w0 w W:AA}{H:List As}{T:TR}{k:Nat}(hS:SH F w W H)(hc:Az Tryz.prog f args W fun e W' =>K1t w0 T k W W' e)(ht:H.all (SH.tyOk (.r 82 1 AP []))=true):
  Az Tryz.prog f args W fun e W' => ∃p:WP w0 T k,e=.returned (.tuple #[p.v,p.u])∧SH F w W' (.r 82 1 p.v (p.us.map J6x)::H):=
 hc.mono fun e W' ⟨u,h1,h2⟩=>⟨u,h1,SH.frame (L:=[]) (L' :=[.r 82 1 u.v (u.us.map J6x)]) (R:=H) hS h2 ⟨.inr ⟨rfl,ht⟩,trivial⟩⟩
theorem Z6w {w0:AA}{ns:List TR}{us:List AB}{T:TR}{u:AB}(hl:us.length=ns.length)(h:∀(j:Nat) (x:AB),us[j]?=some x→∃T',ns[j]?=some T' ∧TA w0 T' x)(hT:TA w0 T u):
  ∀(j:Nat)(x:AB),(us++[u])[j]?=some x→∃T',(ns++[T])[j]?=some T' ∧TA w0 T' x:=fun j x hj=>by
 rcases Nat.lt_or_ge j us.length with h1|h1
 ·
  rw[BA h1] at hj;obtain⟨T',h2,h3⟩:=h j x hj;exact⟨T',by rw[BA (by omega)];exact h2,h3⟩
 ·
  rw[BB h1] at hj
  have h0:j-us.length=0:=by
   rcases Nat.eq_zero_or_pos (j-us.length) with h|h
   ·
    exact h
   ·
    rw[List.getElem?_eq_none (by simp;omega)] at hj;cases hj
  rw[h0] at hj;obtain rfl:u=x:=by simpa using hj
  exact⟨T,by rw[BB (by omega),show j-ns.length=0 by omega];rfl,hT⟩
attribute [local irreducible] hs4 sE sL sN

theorem Z06 (k i:Nat):kb k i=0∨kb k i=1:=by have:=J9p k i;omega
theorem V0q {T:TR}{u:AB}{k:Nat}(w0 w:AA)(hx:Ext w0 w)(hzT:tsz T≤1099511627775)(h:TA w0 T u):
  Az Tryz.prog 69 #[u,.agg (J0 .u8 32 (J2 k))] w fun e w' =>K1t w0 T k w w' e:=by
 have hS:=SH.nil [] w
 go_enter Tryz.func69,Tryz.ntmps69
 go_upto_region 0 with fail;refine RL hS ?_;clear hS;refine MN (z:=J0 .u8 32 (J2 k)) (t:=38) ?_;intro R;refine MV ?_;refine MV ?_;refine MZ fun W hS=> ?_;have hS:=hS.rnil 82 1 rfl
 go_wp2_with fail
 go_loopw [0,4] (fun u uv wr=> ∃(T1:TR)(ns:List TR)(us:List AB)(nv:AB),(TA w0 T1 u)∧(ns++J2l T1 k ns.length=J2l T k 0)∧(J00 T1 k ns.length=J00 T k 0)∧(us.length=ns.length)∧(∀(j:Nat)(x:AB),us[j]?=some x→∃T',ns[j]?=some T' ∧TA w0 T' x)∧(ns.length+tsz T1≤tsz T)∧(nv=uv)∧SH [] w wr [.r 82 1 nv (List.map J6x us),.b R (J0 .u8 32 (J2 k)) 38])
  (fun u uv _=>hd w0 (tsz T) u)
 case atStart=>exact⟨T,[],[],_,h,rfl,rfl,rfl,(fun j x h=>by simp at h),by rw[Al];omega,rfl,hS⟩
 clear hS
 case round=>
  obtain⟨T1,ns,us,nv,hT,hN,hE,D,J,hz,rfl,hS⟩:=hrel;rcases T1 with _|⟨a,x⟩|⟨e0,l,r⟩
  ·
   obtain rfl:_=nlp:=hT;go_upto_region 1 with fail;refine RL hS ?_;clear hS;refine MV ?_;refine Wf ?_;refine Wf ?_;(iterate 4 refine MS ?_);refine Wf ?_;refine MZ fun W hS=> ?_;go_wp2;exact BC (v:=.tuple #[nv,.pointer none]) (by simp only[results,Tryz.results69];go_simp) rfl ⟨⟨nv,.pointer none,us,by rw[←hE];exact rfl,by rw[←hN,D];simp[J2l],fun j y_ hj=>by rw[←hN,show J2l .nil k ns.length=[] from rfl,Aj];exact J j y_ hj⟩,rfl,hS.pick [0]⟩
  ·
   obtain⟨b1,rfl,M,ha,S⟩:=hT;go_upto_region 1 with fail;refine RL hS ?_;clear hS;refine MV ?_;refine Wt ?_;refine Wt ?_;(iterate 3 refine MV ?_);refine MF (v:=.bool false) (fun W hS=>Q6 rfl rfl (by rw[J3 (J4 (J4 M hx) hS.ext)];exact J73) (by kernel_rfl)) ?_;refine Wf ?_;refine MZ fun W hS=> ?_;go_wp2;exact BC (v:=.tuple #[nv,.pointer (some ⟨b1,0,none⟩)]) (by simp only[results,Tryz.results69];go_simp) rfl ⟨⟨nv,.pointer (some ⟨b1,0,none⟩),us,by rw[←hE];exact⟨b1,rfl,M,ha,S⟩,by rw[←hN,D];simp[J2l],fun j y_ hj=>by rw[←hN,show J2l (.leaf a x) k ns.length=[] from rfl,Aj];exact J j y_ hj⟩,rfl,hS.pick [0]⟩
  have G:=hT;obtain⟨b,s0,s1,rfl,hB,hl,hr⟩:=hT;obtain⟨p0,rfl⟩:=hl.pt;obtain⟨p1,rfl⟩:=hr.pt;have U:ns.length+(1+tsz l+tsz r)≤tsz T:=hz;go_upto_region 1 with fail;refine RL hS ?_;clear hS;refine MV ?_;refine Wt ?_;refine Wt ?_;(iterate 3 refine MV ?_);refine MF (v:=.bool true) (fun W hS=>Q6 rfl rfl (by rw[J3 (J4 (J4 hB hx) hS.ext)];exact J73) (by kernel_rfl)) ?_;refine Wt ?_;refine MZ fun W hS=> ?_;go_upto_region 2 with fail;refine RL hS ?_;clear hS;refine MV ?_;refine MV ?_;refine MB (z:= #[.pointer (some ⟨b,0,none⟩)]) (t:=82) (n:=1) (c:=1) ?_ (hr:=fun W hS=>Y0 [.pointer (some ⟨b,0,none⟩)] rfl rfl (vsc rfl vs0) Tryz.underlying79 (by kernel_rfl) (by kernel_rfl) rfl (by decide) (by decide));intro V;refine MAr 1 0 (tS:=79) (bytes:=8) (es:=(List.map J6x us)) (by first|omega|(simp only[Ai,List.length_map,List.length_take,AV,Al];omega)) (e:=([.pointer (some ⟨b,0,none⟩)]:List AB)) ?_;intro N;refine MV ?_;refine MZ fun W hS=> ?_;rcases Z06 k us.length with hb|hb
  ·
   go_upto_region 3 with fail;refine RTh (.q 0 (.q 1 (.q 2 (.q 3 (.q 4 (.q 6 (.q 7 (.e 5 (.q 8 (.q 9 (.q 10 .z))))))))))) hS ?_;clear hS;refine TV ?_;refine TL 2 ?_;refine TV ?_;refine TF (v:=.int .i64 (((List.map J6x us)++[([.pointer (some ⟨b,0,none⟩)]:List AB)]).length:Int)) rfl (fun W hS=>J1b (hS.row (i:=1) rfl) rfl rfl Tryz.underlying79) ?_;refine TW ?_ (v:=.int .i64 (us.length:Int)) (hv:=by intro W;go_simp;(try simp only[Ai,List.length_singleton]);(try simp only[AG.wrap_i64]);omega);refine TV ?_;refine TV ?_;refine TE (fun _ h=>h) ?_;refine MC (v:=.int .i64 0) (fun W hS=>hb▸J5q k us.length (by omega) W) ?_;refine TNh (fun W hS=>hS) ?_;refine TW ?_ (v:=.pointer (some ⟨b,64,none⟩)) (hv:=fun _=>J05 (m:=2) (k:=1) (j:=0) (off:=64) (by decide) Tryz.underlying161 (by kernel_rfl) rfl rfl rfl);refine TF (v:=.pointer p0) rfl (fun W hS=>Q6 rfl rfl (by rw[J3 (J4 (J4 hB hx) hS.ext)];exact nd_s0) (by kernel_rfl)) ?_;refine TV ?_;refine TZ (fun _ h=>h) fun W hS=> ?_;go_wp2;go_roundw
   case rel=>exact⟨l,(ns++[.node e0 l r]),(us++[ptr b]),N,hl,by rw[←hN,Ak,Ai];show _=ns++(.node e0 l r::(if kb k ns.length=0 then J2l l k (ns.length+1) else J2l r k (ns.length+1)));rw[if_pos (by rw[←D];exact hb)];rfl,by rw[←hE,Ai];show _=if kb k ns.length=0 then J00 l k (ns.length+1) else J00 r k (ns.length+1);rw[if_pos (by rw[←D];exact hb)];rfl,by rw[Ai,Ai,D];rfl,Z6w D J G,by have h_:ns.length+(1+tsz l+tsz r)≤tsz T:=hz;rw[Ai,List.length_singleton];omega,rfl,(by rw[BU];exact(hS.pick [1,2]))⟩
   case measure=>have h_:ns.length+(1+tsz l+tsz r)≤tsz T:=hz;rw[J9r G (by show 1+tsz l+tsz r≤_;omega),J9r hl (by omega)];show _<1+tsz l+tsz r;omega
  go_upto_region 3 with fail;refine RTh (.q 0 (.q 1 (.q 2 (.q 3 (.q 4 (.q 6 (.q 7 (.e 5 (.q 8 (.q 9 (.q 10 .z))))))))))) hS ?_;clear hS;refine TV ?_;refine TL 2 ?_;refine TV ?_;refine TF (v:=.int .i64 (((List.map J6x us)++[([.pointer (some ⟨b,0,none⟩)]:List AB)]).length:Int)) rfl (fun W hS=>J1b (hS.row (i:=1) rfl) rfl rfl Tryz.underlying79) ?_;refine TW ?_ (v:=.int .i64 (us.length:Int)) (hv:=by intro W;go_simp;(try simp only[Ai,List.length_singleton]);(try simp only[AG.wrap_i64]);omega);refine TV ?_;refine TV ?_;refine TE (fun _ h=>h) ?_;refine MC (v:=.int .i64 1) (fun W hS=>hb▸J5q k us.length (by omega) W) ?_;refine TNh (fun W hS=>hS) ?_;refine TW ?_ (v:=.pointer (some ⟨b,65,none⟩)) (hv:=fun _=>J05 (m:=2) (k:=1) (j:=1) (off:=64) (by decide) Tryz.underlying161 (by kernel_rfl) rfl rfl rfl);refine TF (v:=.pointer p1) rfl (fun W hS=>Q6 rfl rfl (by rw[J3 (J4 (J4 hB hx) hS.ext)];exact nd_s1) (by kernel_rfl)) ?_;refine TV ?_;refine TZ (fun _ h=>h) fun W hS=> ?_;go_wp2;go_roundw
  case rel=>exact⟨r,(ns++[.node e0 l r]),(us++[ptr b]),N,hr,by rw[←hN,Ak,Ai];show _=ns++(.node e0 l r::(if kb k ns.length=0 then J2l l k (ns.length+1) else J2l r k (ns.length+1)));rw[if_neg (by rw[←D,hb];decide)];rfl,by rw[←hE,Ai];show _=if kb k ns.length=0 then J00 l k (ns.length+1) else J00 r k (ns.length+1);rw[if_neg (by rw[←D,hb];decide)];rfl,by rw[Ai,Ai,D];rfl,Z6w D J G,by have h_:ns.length+(1+tsz l+tsz r)≤tsz T:=hz;rw[Ai,List.length_singleton];omega,rfl,(by rw[BU];exact(hS.pick [1,2]))⟩
  case measure=>have h_:ns.length+(1+tsz l+tsz r)≤tsz T:=hz;rw[J9r G (by show 1+tsz l+tsz r≤_;omega),J9r hr (by omega)];show _<1+tsz l+tsz r;omega
end

section
theorem Q0l {x z:Lf}:∀{l:List Lf},z∈J57 l x↔z=x∨(z∈l∧z.1≠x.1)
  |[]=>by rw[show J57 [] x=[x] from rfl];simp
  |y::r=>by
    cases hk:kl y.1 x.1 with
    |true=>
      have hne:y.1≠x.1:=fun e=>by rw[e,Q0b] at hk;cases hk
      rw[J6g hk,AY,Q0l,AY];constructor
      · rintro(rfl|h|⟨h1,h2⟩)
        · exact .inr ⟨.inl rfl,hne⟩
        · exact .inl h
        · exact .inr ⟨.inr h1,h2⟩
      · rintro(h|⟨rfl|h1,h2⟩)
        · exact .inr (.inl h)
        · exact .inl rfl
        · exact .inr (.inr ⟨h1,h2⟩)
    |false=>
      rw[J3b hk];simp only[List.cons_append,AY,List.mem_append,List.mem_filter,decide_eq_true_eq]
      by_cases e:y.1=x.1
      · rw[if_pos e]
        constructor
        · rintro(h|h|⟨h1,h2⟩)
          · exact .inl h
          · cases h
          · exact .inr ⟨.inr h1,h2⟩
        · rintro(h|⟨rfl|h1,h2⟩)
          · exact .inl h
          · exact absurd e h2
          · exact .inr (.inr ⟨h1,h2⟩)
      · rw[if_neg e]
        constructor
        · rintro(h|h|⟨h1,h2⟩)
          · exact .inl h
          · rw[Ae.1 h];exact .inr ⟨.inl rfl,e⟩
          · exact .inr ⟨.inr h1,h2⟩
        · rintro(h|⟨rfl|h1,h2⟩)
          · exact .inl h
          · exact .inr (.inl (Ae.2 rfl))
          · exact .inr (.inr ⟨h1,h2⟩)
end

section
set_option maxHeartbeats 3000000
attribute [local irreducible] wpList Z9 wpX
def Q1x (E:TR)(n k:Nat):Nat×Bool×Nat:=match E with
 | .leaf a x=>if a=k then(x,true,n+1) else(0,false,n+1)
 |_=>(0,false,n)
theorem Q79 {k v:Nat}:∀(f d:Nat) {ws:List Lf},f+d=256→Srt ws→Pre ws d→(k,v)∈ws→J00 (can f ws d) k d=.leaf k v
 |f,d,[],_,_,_,h=>by cases h
 |f,d,[x],_,_,_,h=>by rw[J4h,←Ae.1 h];rfl
 |0,d,x::y::r,hd,hs,hp,_=>by
  obtain rfl:d=256:=by omega
  exact(Q4w hs hp).elim
 |f+1,d,x::y::r,hd,hs,hp,h=>by
  rw[J7i (by simp)];show(if kb k d=0 then J00 _ k (d+1) else J00 _ k (d+1))=_;have hb:=J9p k d
  by_cases h0:kb k d=0
  ·
   rw[if_pos h0];exact Q79 f (d+1) (by omega) (J36 hs) (J3u hp) (mem_rside.2 ⟨h,h0⟩)
  ·
   rw[if_neg h0];exact Q79 f (d+1) (by omega) (J36 hs) (J3u hp) (mem_rside.2 ⟨h,by show kb k d=1;omega⟩)
attribute [local irreducible] hs4 sE sL sN

theorem Y4c {T:TR}{k:Nat}{us:List AB}(h:us.length=(J2l T k 0).length)(hz:tsz T≤1099511627775):us.length≤1099511627775:=by have:=Q5o T k 0;omega
theorem Y98 {T:TR}{u:AB}{k:Nat}(hk:k<2^256)(hzT:tsz T≤1099511627775)(w:AA)(h:TA w T u):
  Az Tryz.prog 30 #[u,.agg (J0 .u8 32 (J2 k))] w fun e w' =>V5 (.tuple #[.agg (J0 .u8 32 (J2 (Q1x (J00 T k 0) (J2l T k 0).length k).1)),.bool (Q1x (J00 T k 0) (J2l T k 0).length k).2.1,.int .i64 ((Q1x (J00 T k 0) (J2l T k 0).length k).2.2:Nat)]) w w' e:=by
 have hS:=SH.nil [] w
 go_enter Tryz.func30,Tryz.ntmps30
 go_upto_region 0 with fail;refine RL hS ?_;clear hS;refine MN (z:=J0 .u8 32 (J2 k)) (t:=38) ?_;intro S;refine MN (z:=J0 .u8 32 (J2 0)) (t:=23) ?_;intro R;refine Wf ?_;refine W0 ?_;refine MZ fun W hS=> ?_;go_upto_region 1 with fail;refine RL hS ?_;clear hS;refine MV ?_;refine ML 1 ?_;refine ME (V:=fun p:WP w T k=> .tuple #[p.v,p.u]) (fun W hS=>V0p hS (V0q w W hS.ext hzT h) rfl) ?_;rintro⟨nv,nu,us,J,G,U⟩;dsimp only;(iterate 5 refine MV ?_);refine MZ fun W hS=> ?_;rcases J65 T k 0 with he|⟨a,x,he⟩
 ·
  have N:=Y4c G hzT;rw[he] at J;obtain rfl:_=nlp:=J;go_upto_region 3 with fail;refine RL hS ?_;clear hS;refine MW ?_ (v:=.agg (J0 .u8 32 (J2 0))) (hv:=by intro W;kernel_rfl);refine MV ?_;refine MF (v:=.int .i64 ((List.map J6x us).length:Int)) (fun W hS=>J1b (hS.row (i:=0) rfl) rfl rfl Tryz.underlying79) ?_;refine MR 1 ?_;refine Wf ?_;refine MV ?_;refine MZ fun W hS=> ?_;go_wp2;exact BC (J6l rfl rfl rfl rfl (hS.blk (i:=1) rfl) (by kernel_rfl) (by rw[J1];kernel_rfl)) rfl ⟨by rw[he,←G,show Q1x .nil us.length k=(0,false,us.length) from rfl];rfl,hS.ext⟩
 have N:=Y4c G hzT;rw[he] at J;obtain⟨b1,rfl,M,ha,hx⟩:=J
 by_cases D:a=k
 ·
  go_upto_region 4 with fail;refine RTh (.q 0 (.q 1 (.q 2 (.q 3 (.q 4 (.q 5 (.q 6 (.q 7 .z)))))))) hS ?_;clear hS;(iterate 4 refine TV ?_);refine TF (v:=.agg (J0 .u8 32 (J2 a))) rfl (fun W hS=>V4 rfl rfl (fun i v hv=>by rw[J3 (J4 M hS.ext)];exact J7r i v hv) (by kernel_rfl) (by first|kernel_rfl|(rw[J1];kernel_rfl))) ?_;refine TL 2 ?_;refine TW ?_ (v:=.bool false) (hv:=fun _=>J1a ((fun w=>(Q6k a k ha hk w).trans (by rw[decide_eq_true D])) _) (by kernel_rfl) rfl rfl rfl);refine Tf ?_;refine TZ (fun _ h=>h) fun W hS=> ?_;go_upto_region 6 with fail;refine RL hS ?_;clear hS;(iterate 4 refine MV ?_);refine MF (v:=.agg (J0 .u8 32 (J2 x))) (fun W hS=>V4 rfl rfl (fun i v hv=>by rw[J3 (J4 M hS.ext)];exact V5q i v hv) (by kernel_rfl) (by first|kernel_rfl|(rw[J1];kernel_rfl))) ?_;refine MV ?_;refine MF (v:=.int .i64 ((List.map J6x us).length:Int)) (fun W hS=>J1b (hS.row (i:=0) rfl) rfl rfl Tryz.underlying79) ?_;refine MW ?_ (v:=.int .i64 ((us.length+1:Nat):Int)) (hv:=by intro W;go_simp;(try simp only[AG.wrap_i64]);omega);refine MR 1 ?_;refine Wt ?_;refine MV ?_;refine MZ fun W hS=> ?_;go_wp2;exact BC (J6l rfl rfl rfl rfl (hS.blk (i:=1) rfl) (by kernel_rfl) (by rw[J1];kernel_rfl)) rfl ⟨by rw[he,←G,show Q1x (.leaf a x) us.length k=(x,true,us.length+1) from if_pos D];rfl,hS.ext⟩
 go_upto_region 4 with fail;refine RTh (.q 0 (.q 1 (.q 2 (.q 3 (.q 4 (.q 5 (.q 6 (.q 7 .z)))))))) hS ?_;clear hS;(iterate 4 refine TV ?_);refine TF (v:=.agg (J0 .u8 32 (J2 a))) rfl (fun W hS=>V4 rfl rfl (fun i v hv=>by rw[J3 (J4 M hS.ext)];exact J7r i v hv) (by kernel_rfl) (by first|kernel_rfl|(rw[J1];kernel_rfl))) ?_;refine TL 2 ?_;refine TW ?_ (v:=.bool true) (hv:=fun _=>J1a ((fun w=>(Q6k a k ha hk w).trans (by rw[decide_eq_false D])) _) (by kernel_rfl) rfl rfl rfl);refine Tt ?_;refine TZ (fun _ h=>h) fun W hS=> ?_;go_upto_region 5 with fail;refine RL hS ?_;clear hS;refine MW ?_ (v:=.agg (J0 .u8 32 (J2 0))) (hv:=by intro W;kernel_rfl);refine MV ?_;refine MF (v:=.int .i64 ((List.map J6x us).length:Int)) (fun W hS=>J1b (hS.row (i:=0) rfl) rfl rfl Tryz.underlying79) ?_;refine MW ?_ (v:=.int .i64 ((us.length+1:Nat):Int)) (hv:=by intro W;go_simp;(try simp only[AG.wrap_i64]);omega);refine MR 1 ?_;refine Wf ?_;refine MV ?_;refine MZ fun W hS=> ?_;go_wp2;exact BC (J6l rfl rfl rfl rfl (hS.blk (i:=1) rfl) (by kernel_rfl) (by rw[J1];kernel_rfl)) rfl ⟨by rw[he,←G,show Q1x (.leaf a x) us.length k=(0,false,us.length+1) from if_neg D];rfl,hS.ext⟩
end

section
attribute [local irreducible] wpList Z9 wpX
theorem Y5q {X:List Lf}(h:X.length≤1000):tsz (ofT X)≤1099511627775:=by have:=(Q8w X.length X).1;rw[List.take_length] at this;omega
attribute [local irreducible] hs4 sE sL sN

end
end Go.Proofs.YtpljgkofbfeelaaGreatDoor

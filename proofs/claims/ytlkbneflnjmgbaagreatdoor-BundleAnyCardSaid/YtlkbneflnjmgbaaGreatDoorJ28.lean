/- Contracts and plain laws for bundleAny_holds. Conditions: the tables hold their numbers. -/
import Derived.Test.YtlkbneflnjmgbaaGreatDoorJ27
open Go.RowKit
set_option maxRecDepth 100000
set_option linter.unusedSimpArgs false
set_option linter.unusedVariables false
namespace Go.Proofs.YtlkbneflnjmgbaaGreatDoor
section
set_option maxHeartbeats 3000000
attribute [local irreducible] wpList Z6 wpX
open S8 (Kn GA kP)
abbrev Q99 (id:List UInt8)(vk bk L P E:Nat):DD:=⟨id,vk,bk,L,P,E,[[]],[]⟩
structure NewOk (id:List UInt8)(L P E:Nat):Prop where
 i1:1≤id.length
 i2:id.length≤16
 l1:1≤L
 l2:L≤64
 p1:1≤P
 p2:P≤16
 e1:1≤E
 e2:E≤32
theorem Z3t {id:List UInt8}{vk bk L P E:Nat}(h:NewOk id L P E):DOk (Q99 id vk bk L P E) where
 id1:=h.i1
 id2:=h.i2
 l1:=h.l1
 l2:=h.l2
 p1:=h.p1
 p2:=h.p2
 e1:=h.e1
 e2:=h.e2
 ep:=by show 1≤E+1;omega
 zero:=rfl
 pl:=fun ps D=>by rw[List.mem_singleton.1 D];exact Nat.zero_le _
 wl:=Nat.zero_le _
 ll:=Nat.zero_le _
 lab:=fun l hl=>by cases hl
 val:=fun q hq=>by cases hq
theorem SH.pnil {F:List Nat}{w W:World}{H:List As}{K:World→Prop}(h:SH F w W H)(hz:(As.p [] K).holds W):SH F w W (.p [] K::H):=SH.foldF (N:=[]) h hz fun k hk=>by cases hk
theorem Y6u {w W:World}{p h:Nat}{id:List UInt8}{vk bk L P E:Nat}{u pv tv lv:Value}(hS:SH [] w W [.b p (Q6 [.c u,.a 32 vk,.a 32 bk,.c (.int .i64 (L:Int)),.c (.int .i64 (P:Int)),.c (.int .i64 (E:Int)),.c (.map (some h)),.c (.slice none 0 0),.c pv,.c tv,.c lv]) 112,J3b h [],.o u id,.r 87 1 pv [[.slice none 0 0]],.r 113 1 tv [[.pointer none]],.r 22 32 lv [J46 (lk0 id)]]):
  ∃y:{y:LD // LOk (Q99 id vk bk L P E) y∧OldF [] w (J3v y.bs)∧OldF [] w (J45 y.pvs)},y.1.p=p∧SH [] w W (ldL (Q99 id vk bk L P E) y.1):=by
 refine⟨⟨⟨p,h,u,.slice none 0 0,pv,tv,lv,[],[],[(.slice none 0 0,[])],[.pointer none],[(u,id)]⟩,?_,?_,?_⟩,rfl,?_⟩
 ·
  exact{w:=rfl,p:=rfl,a:=rfl,n:=fun a ha=>(by cases ha),e:=fun a ha=>(by cases ha),i:=(by simp),bw:=fun q hq=>(by cases hq),bp:=fun r hr q hq=>(by rw[List.mem_singleton.1 hr] at hq;cases hq),be:=fun a ha=>(by cases ha)}
 ·
  intro k hk D;obtain⟨b,hb,h1⟩:=List.mem_flatMap.1 hk;rw[List.mem_singleton.1 hb] at h1;have:=hS.old (.o u id) (by simp) rfl k (by rw[show(As.o u id).foot=u.ownBlock.toList from rfl,J2x (As.mem_toList h1)];simp) D;cases this
 ·
  intro k hk D;obtain⟨b,hb,h1⟩:=List.mem_flatMap.1 hk;rw[List.mem_singleton.1 hb] at h1;cases h1
 have h1:SH [] w W [byT [(u,id)],.b p (Q6 [.c u,.a 32 vk,.a 32 bk,.c (.int .i64 (L:Int)),.c (.int .i64 (P:Int)),.c (.int .i64 (E:Int)),.c (.map (some h)),.c (.slice none 0 0),.c pv,.c tv,.c lv]) 112,J3b h [],.r 87 1 pv [[.slice none 0 0]],.r 113 1 tv [[.pointer none]],.r 22 32 lv [J46 (lk0 id)]]:=by
  have h0:=hS.pick [2,0,1,3,4,5];refine SH.foldF (N:=[.o u id]) h0 (Q62 fun b hb=>by rw[List.mem_singleton.1 hb];exact(h0.own (i:=0) rfl).sl) fun k hk=> ?_;obtain⟨z,hz,h4⟩:=List.mem_flatMap.1 hk;rw[List.mem_singleton.1 hz] at h4;exact⟨.o u id,by simp,fun T K e=>(by cases e),by rw[show(As.o u id).foot=u.ownBlock.toList from rfl,J2x (As.mem_toList h4)];simp⟩
 have h2:=(h1.mnil (some 127) (J9m (acs:=[]) ⟨fun a ha=>(by cases ha),.nil⟩) rfl).mnil (some 130) (J9n (acs:=[]) ⟨fun a ha=>(by cases ha),.nil⟩) rfl;have h3:=h2.rnil 115 2 rfl;have h4:SH [] w W (rwT [(.slice none 0 0,[])]::_):=h3.pnil (Q63 (rs:=[(.slice none 0 0,[])]) fun r hr=>by rw[List.mem_singleton.1 hr];exact V2x 2 W)
 have h5:=h4.fact (Q64 (ts:=[.nil]) (us:=[.pointer none]) ⟨rfl,fun i T v h1 h2=>by
  cases i with
  |zero=>injection h1 with h1;injection h2 with h2;subst h1 h2;rfl
  |succ i=>simp at h1⟩) rfl
 exact h5.pick [6,7,4,3,2,8,9,10,5,1,0]
attribute [local irreducible] eI be8 hs4 lb J3e J2f J01 xt hm pbs DD.tree DD.link rs S8.kP S8.kN S8.kD ofT ebs lk0

theorem J4q:zer Tryz.prog 112=some (some (Q6 [.c (.slice none 0 0),.a 32 0,.a 32 0,.c (.int .i64 0),.c (.int .i64 0),.c (.int .i64 0),.c (.map none),.c (.slice none 0 0),.c (.slice none 0 0),.c (.slice none 0 0),.c (.slice none 0 0)])):=by kernel_rfl
theorem J4r:plc Tryz.prog 112=some [(0,1),(1,64),(65,3),(68,1),(69,1),(70,1),(71,1),(72,1)]:=by kernel_rfl
theorem V2e {id:List UInt8}{vk bk L P E:Nat}{v:Value}(hN:NewOk id L P E)(w:World)(hX:GX w)(hs:Sl w v id):
  Calls Tryz.prog 16 #[v,.agg (Q6 [.a 32 vk,.a 32 bk]),.agg (Q6 [.c (.int .i64 (L:Int)),.c (.int .i64 (P:Int)),.c (.int .i64 (E:Int))])] w fun e w' => ∃y:{y:LD // LOk (Q99 id vk bk L P E) y∧OldF [] w (J3v y.bs)∧OldF [] w (J45 y.pvs)},e=.returned (.tuple #[.pointer (some ⟨y.1.p,0,none⟩),.int .i64 0])∧SH [] w w' (ldL (Q99 id vk bk L P E) y.1):=by
 have G7:=hN.i2;have hS:=SH.nil [] w
 go_enter Tryz.func16,Tryz.ntmps16
 go_upto_region 0 with fail;refine RL hS ?_;clear hS;refine MN (z:=Q6 [.a 32 vk,.a 32 bk]) (t:=24) ?_;intro α;refine MN (z:=Q6 [.c (.int .i64 (L:Int)),.c (.int .i64 (P:Int)),.c (.int .i64 (E:Int))]) (t:=67) ?_;intro M;refine MV ?_;refine W0 ?_;refine MZ fun W hS=> ?_;go_upto_region 1 with fail;refine RL hS ?_;clear hS;refine MV ?_;refine MF (v:=.int .i64 (id.length:Int)) (fun W hS=>X5 (J0i hs hS.ext) rfl rfl) ?_;refine MC (v:=.bool true) (fun W hS=>(by have h_:=J0z (id.length:Int) 16 W;rw[show win (id.length:Int) 16=true from decide_eq_true (show(1:Int)≤(id.length:Int)∧(id.length:Int)≤16 by have δ:=hN.i1;have ψ:=hN.i2;omega)] at h_;exact h_)) ?_;refine Wf ?_;refine Wf ?_;refine MV ?_;refine MG 0 ?_ (v:=.int .i64 (L:Int)) (hj:=(J9 (off:=0) 0));refine MC (v:=.bool true) (fun W hS=>(by have h_:=J0z (L:Int) 64 W;rw[show win (L:Int) 64=true from decide_eq_true (show(1:Int)≤(L:Int)∧(L:Int)≤64 by have δ:=hN.l1;have ψ:=hN.l2;omega)] at h_;exact h_)) ?_;(iterate 3 refine Wf ?_);refine MV ?_;refine MG 0 ?_ (v:=.int .i64 (P:Int)) (hj:=(J9 (off:=1) 1));refine MC (v:=.bool true) (fun W hS=>(by have h_:=J0z (P:Int) 16 W;rw[show win (P:Int) 16=true from decide_eq_true (show(1:Int)≤(P:Int)∧(P:Int)≤16 by have δ:=hN.p1;have ψ:=hN.p2;omega)] at h_;exact h_)) ?_;(iterate 3 refine Wf ?_);refine MV ?_;refine MG 0 ?_ (v:=.int .i64 (E:Int)) (hj:=(J9 (off:=2) 2));refine MC (v:=.bool true) (fun W hS=>(by have h_:=J0z (E:Int) 32 W;rw[show win (E:Int) 32=true from decide_eq_true (show(1:Int)≤(E:Int)∧(E:Int)≤32 by have δ:=hN.e1;have ψ:=hN.e2;omega)] at h_;exact h_)) ?_;refine Wf ?_;refine Wf ?_;refine MZ fun W hS=> ?_;go_upto_region 3 with fail;refine RJ (R:=fun a_ w_=> ∃(D:Nat),∃(J:Value),∃(G:Nat),a_={tmps:=List.toArray (v::(.agg (Q6 [.a 32 vk,.a 32 bk]))::(.agg (Q6 [.c (.int .i64 (L:Int)),.c (.int .i64 (P:Int)),.c (.int .i64 (E:Int))]))::undef::(.pointer (some ⟨α,0,none⟩))::(.pointer (some ⟨M,0,none⟩))::(.pointer none)::(.int .i64 0)::(.pointer (some ⟨D,0,none⟩))::v::(.int .i64 (id.length:Int))::(.bool true)::(.bool false)::(.bool false)::(.pointer (some ⟨M,0,none⟩))::(.int .i64 (L:Int))::(.bool true)::(.bool false)::(.bool false)::(.bool false)::(.pointer (some ⟨M,1,none⟩))::(.int .i64 (P:Int))::(.bool true)::(.bool false)::(.bool false)::(.bool false)::(.pointer (some ⟨M,2,none⟩))::(.int .i64 (E:Int))::(.bool true)::(.bool false)::(.bool false)::v::J::(.agg (Q6 [.a 32 vk,.a 32 bk]))::(.agg (Q6 [.c (.int .i64 (L:Int)),.c (.int .i64 (P:Int)),.c (.int .i64 (E:Int))]))::(.map (some G))::(.agg (Q6 [.c J,.a 32 vk,.a 32 bk,.c (.int .i64 (L:Int)),.c (.int .i64 (P:Int)),.c (.int .i64 (E:Int)),.c (.map (some G)),.c (.slice none 0 0),.c (.slice none 0 0),.c (.slice none 0 0),.c (.slice none 0 0)]))::(.pointer (some ⟨D,0,none⟩))::undef::undef::undef::undef::undef::undef::undef::undef::undef::undef::undef::undef::undef::undef::undef::undef::undef::undef::undef::undef::undef::undef::undef::undef::undef::undef::undef::undef::undef::undef::[]),defers:=[]}∧SH [] w w_ [.o J id,J3b G [],.b D (Q6 [.c J,.a 32 vk,.a 32 bk,.c (.int .i64 (L:Int)),.c (.int .i64 (P:Int)),.c (.int .i64 (E:Int)),.c (.map (some G)),.c (.slice none 0 0),.c (.slice none 0 0),.c (.slice none 0 0),.c (.slice none 0 0)]) 112,.b α (Q6 [.a 32 vk,.a 32 bk]) 24,.b M (Q6 [.c (.int .i64 (L:Int)),.c (.int .i64 (P:Int)),.c (.int .i64 (E:Int))]) 67]) ?_ ?_
 ·
  refine RTh (.q 0 (.q 2 (.q 3 (.b 1 (.e 4 (.q 5 (.e 6 (.q 7 .z)))) 4 (.e 1 (.q 5 (.e 6 (.q 7 .z)))))))) hS ?_;clear hS;refine TV ?_;refine TL 1 ?_ (hs:=by rw[J5];kernel_rfl);refine TL 0 ?_ (hs:=by rw[J5];kernel_rfl);refine TB (fun _ h=>h) ?_ ?_
  ·
   refine ME (V:=fun v=>v) (fun W hS=>J47 hS (J5h W (J0i hs hS.ext) (by first|omega|(simp only[lA,lM,lT,lD,lC,lN,J6,K5,V0,V1];omega))) (fun _=>⟨rfl,rfl⟩)) ?_;intro κ;refine TNh (fun W hS=>hS.pick [1,2]) ?_;refine TE (fun _ h=>h) ?_;refine MMN ?_;intro T;refine TNh (fun W hS=>hS.pick [1,2,3]) ?_;refine Z44 (fun W hS=>(Q1 (hS.osl (i:=1) rfl)).2) ?_;intro Θ;refine TF (v:=.agg (Q6 [.c κ,.a 32 vk,.a 32 bk,.c (.int .i64 (L:Int)),.c (.int .i64 (P:Int)),.c (.int .i64 (E:Int)),.c (.map (some T)),.c (.slice none 0 0),.c (.slice none 0 0),.c (.slice none 0 0),.c (.slice none 0 0)])) rfl (fun W hS=>J5q [(0,[.c κ]),(1,[.a 32 vk,.a 32 bk]),(3,[.c (.int .i64 (L:Int)),.c (.int .i64 (P:Int)),.c (.int .i64 (E:Int))]),(6,[.c (.map (some T))])] rfl rfl J4q J4r (.c ((Q1 (hS.osl (i:=1) rfl)).1) (.c rfl (.c rfl (.c rfl .n))))) ?_;refine TE (fun _ h=>h) ?_;refine MN (z:=Q6 [.c κ,.a 32 vk,.a 32 bk,.c (.int .i64 (L:Int)),.c (.int .i64 (P:Int)),.c (.int .i64 (E:Int)),.c (.map (some T)),.c (.slice none 0 0),.c (.slice none 0 0),.c (.slice none 0 0),.c (.slice none 0 0)]) (t:=112) ?_;intro G0;refine TNh (fun W hS=>hS.pick [1,2,3,4]) ?_;refine TV ?_;refine TZ (fun _ h=>h) fun W hS=> ?_;exact⟨G0,κ,T,rfl,hS.pick [2,1,0,4,3]⟩
  refine MMN ?_;intro U;refine TNh (fun W hS=>hS.pick [1,2]) ?_;refine TE (fun _ h=>h) ?_;refine ME (V:=fun v=>v) (fun W hS=>J47 hS (J5h W (J0i hs hS.ext) (by first|omega|(simp only[lA,lM,lT,lD,lC,lN,J6,K5,V0,V1];omega))) (fun _=>⟨rfl,rfl⟩)) ?_;intro μ;refine TNh (fun W hS=>hS.pick [1,2,3]) ?_;refine Z44 (fun W hS=>(Q1 (hS.osl (i:=0) rfl)).2) ?_;intro Ψ;refine TF (v:=.agg (Q6 [.c μ,.a 32 vk,.a 32 bk,.c (.int .i64 (L:Int)),.c (.int .i64 (P:Int)),.c (.int .i64 (E:Int)),.c (.map (some U)),.c (.slice none 0 0),.c (.slice none 0 0),.c (.slice none 0 0),.c (.slice none 0 0)])) rfl (fun W hS=>J5q [(0,[.c μ]),(1,[.a 32 vk,.a 32 bk]),(3,[.c (.int .i64 (L:Int)),.c (.int .i64 (P:Int)),.c (.int .i64 (E:Int))]),(6,[.c (.map (some U))])] rfl rfl J4q J4r (.c ((Q1 (hS.osl (i:=0) rfl)).1) (.c rfl (.c rfl (.c rfl .n))))) ?_;refine TE (fun _ h=>h) ?_;refine MN (z:=Q6 [.c μ,.a 32 vk,.a 32 bk,.c (.int .i64 (L:Int)),.c (.int .i64 (P:Int)),.c (.int .i64 (E:Int)),.c (.map (some U)),.c (.slice none 0 0),.c (.slice none 0 0),.c (.slice none 0 0),.c (.slice none 0 0)]) (t:=112) ?_;intro G5;refine TNh (fun W hS=>hS.pick [1,2,3,4]) ?_;refine TV ?_;refine TZ (fun _ h=>h) fun W hS=> ?_;exact⟨G5,μ,U,rfl,hS.pick [1,2,0,4,3]⟩
 rintro _ W ⟨D,J,G,rfl,hS⟩;go_upto_region 4 with fail;refine RJ (R:=fun a_ w_=> ∃(Y:Nat),∃(N:Value),∃(Z:Nat),∃(S:Value),a_={tmps:=List.toArray (v::(.agg (Q6 [.a 32 vk,.a 32 bk]))::(.agg (Q6 [.c (.int .i64 (L:Int)),.c (.int .i64 (P:Int)),.c (.int .i64 (E:Int))]))::undef::(.pointer (some ⟨α,0,none⟩))::(.pointer (some ⟨M,0,none⟩))::(.pointer none)::(.int .i64 0)::(.pointer (some ⟨D,0,none⟩))::v::(.int .i64 (id.length:Int))::(.bool true)::(.bool false)::(.bool false)::(.pointer (some ⟨M,0,none⟩))::(.int .i64 (L:Int))::(.bool true)::(.bool false)::(.bool false)::(.bool false)::(.pointer (some ⟨M,1,none⟩))::(.int .i64 (P:Int))::(.bool true)::(.bool false)::(.bool false)::(.bool false)::(.pointer (some ⟨M,2,none⟩))::(.int .i64 (E:Int))::(.bool true)::(.bool false)::(.bool false)::v::J::(.agg (Q6 [.a 32 vk,.a 32 bk]))::(.agg (Q6 [.c (.int .i64 (L:Int)),.c (.int .i64 (P:Int)),.c (.int .i64 (E:Int))]))::(.map (some G))::(.agg (Q6 [.c J,.a 32 vk,.a 32 bk,.c (.int .i64 (L:Int)),.c (.int .i64 (P:Int)),.c (.int .i64 (E:Int)),.c (.map (some G)),.c (.slice none 0 0),.c (.slice none 0 0),.c (.slice none 0 0),.c (.slice none 0 0)]))::(.pointer (some ⟨D,0,none⟩))::(.pointer (some ⟨D,0,none⟩))::(.pointer (some ⟨D,0,none⟩))::(.pointer (some ⟨D,0,none⟩))::(.pointer (some ⟨D,0,none⟩))::(.pointer (some ⟨D,71,none⟩))::(.slice none 0 0)::(.slice (some ⟨Y,0,none⟩) 1 1)::N::(.pointer (some ⟨D,0,none⟩))::(.pointer (some ⟨D,0,none⟩))::(.pointer (some ⟨D,70,none⟩))::(.slice none 0 0)::(.slice (some ⟨Z,0,none⟩) 1 1)::S::(.pointer (some ⟨D,0,none⟩))::(.pointer (some ⟨D,71,none⟩))::(.pointer (some ⟨D,0,none⟩))::(.pointer (some ⟨D,70,none⟩))::undef::undef::undef::undef::undef::undef::undef::undef::undef::undef::undef::undef::[]),defers:=[]}∧SH [] w w_ [.r 113 1 N ([]++[([.pointer none]:List Value)]),.r 87 1 S ([]++[([.slice none 0 0]:List Value)]),.b Y #[.pointer none] 113,.b Z #[.slice none 0 0] 87,.o J id,J3b G [],.b D (Q6 [.c J,.a 32 vk,.a 32 bk,.c (.int .i64 (L:Int)),.c (.int .i64 (P:Int)),.c (.int .i64 (E:Int)),.c (.map (some G)),.c (.slice none 0 0),.c S,.c N,.c (.slice none 0 0)]) 112,.b α (Q6 [.a 32 vk,.a 32 bk]) 24,.b M (Q6 [.c (.int .i64 (L:Int)),.c (.int .i64 (P:Int)),.c (.int .i64 (E:Int))]) 67]) ?_ ?_
 ·
  refine RTh (.q 0 (.vq 1 (.q 2 (.q 3 (.q 4 (.q 5 (.q 8 (.q 9 (.q 10 (.q 11 (.b 6 (.b 7 (.e 12 (.e 13 (.q 14 (.q 15 (.kq 16 (.q 17 (.q 18 (.e 19 .z)))))))) 12 (.e 7 (.e 13 (.q 14 (.q 15 (.kq 16 (.q 17 (.q 18 (.e 19 .z))))))))) 12 (.e 6 (.e 7 (.e 13 (.q 14 (.q 15 (.kq 16 (.q 17 (.q 18 (.e 19 .z)))))))))))))))))))) hS ?_;clear hS;refine TV ?_;refine TvV ?_;(iterate 3 refine TV ?_);refine TG 2 ?_ (v:=.slice none 0 0) (hj:=(J9 (off:=71) 9));(iterate 3 refine TV ?_);refine TG 2 ?_ (v:=.slice none 0 0) (hj:=(J9 (off:=70) 8));refine TB (fun _ h=>h) ?_ ?_
  ·
   refine MB (z:= #[.pointer none]) (t:=113) (n:=1) (c:=1) ?_ (hr:=fun W hS=>J0a [.pointer none] rfl rfl (vsc rfl vs0) Tryz.underlying110 (by kernel_rfl) (by kernel_rfl) rfl (by decide) (by decide));intro Γ;refine TNh (fun W hS=>hS.pick [1,2,3,4,5]) ?_;refine TB (fun _ h=>h) ?_ ?_
   ·
    refine MT (fun W hS=>hS.rnil 113 1 rfl) ?_;refine MAr 0 1 (tS:=110) (bytes:=8) (es:=[]) (by first|omega|(simp only[lA,lM,lT,lD,lC,lN,J6,K5,V0,V1];omega)) (e:=([.pointer none]:List Value)) ?_;intro η;refine TNh (fun W hS=>hS.pick [1,2,3,4,5,6]) ?_;refine TE (fun _ h=>h) ?_;refine MB (z:= #[.slice none 0 0]) (t:=87) (n:=1) (c:=1) ?_ (hr:=fun W hS=>J0a [.slice none 0 0] rfl rfl (vsc rfl vs0) Tryz.underlying109 (by kernel_rfl) (by kernel_rfl) rfl (by decide) (by decide));intro D8;refine TNh (fun W hS=>hS.pick [1,2,3,4,5,6,7]) ?_;refine TE (fun _ h=>h) ?_;refine MT (fun W hS=>hS.rnil 87 1 rfl) ?_;refine MAr 0 1 (tS:=109) (bytes:=24) (es:=[]) (by first|omega|(simp only[lA,lM,lT,lD,lC,lN,J6,K5,V0,V1];omega)) (e:=([.slice none 0 0]:List Value)) ?_;intro φ;refine TNh (fun W hS=>hS.pick [1,2,3,4,5,6,7,8]) ?_;refine TV ?_;refine TV ?_;refine TK (fun _ h=>h) ?_;refine J0g (fun W hS=>(Row.cells (hS.row (i:=2) rfl)).2) ?_;intro Ω;refine MP 6 (v:=η) (cs' :=Q6 [.c J,.a 32 vk,.a 32 bk,.c (.int .i64 (L:Int)),.c (.int .i64 (P:Int)),.c (.int .i64 (E:Int)),.c (.map (some G)),.c (.slice none 0 0),.c (.slice none 0 0),.c η,.c (.slice none 0 0)]) ?_ (hs:=agl) (hc:=J0e (off:=71) 9) (hv:=fun W hS=>Row.cells (hS.row (i:=2) rfl));refine Y06 [0,1,2,3,4,5,7,8] ?_;refine TV ?_;refine TV ?_;refine TE (fun _ h=>h.pick [0,1,2,3,4,5,7,8]) ?_;refine J0g (fun W hS=>(Row.cells (hS.row (i:=0) rfl)).2) ?_;intro D7;refine MP 6 (v:=φ) (cs' :=Q6 [.c J,.a 32 vk,.a 32 bk,.c (.int .i64 (L:Int)),.c (.int .i64 (P:Int)),.c (.int .i64 (E:Int)),.c (.map (some G)),.c (.slice none 0 0),.c φ,.c η,.c (.slice none 0 0)]) ?_ (hs:=agl) (hc:=J0e (off:=70) 8) (hv:=fun W hS=>Row.cells (hS.row (i:=0) rfl));refine TNp [0,1,2,3,4,5,7,8] [0,1,2,3,4,5,6,7] ?_;refine TZ (fun _ h=>h.pick [0,1,2,3,4,5,7,8]) fun W hS=> ?_;exact⟨Γ,η,D8,φ,rfl,hS.pick [2,0,3,1,4,5,6,7,8]⟩
   refine MB (z:= #[.slice none 0 0]) (t:=87) (n:=1) (c:=1) ?_ (hr:=fun W hS=>J0a [.slice none 0 0] rfl rfl (vsc rfl vs0) Tryz.underlying109 (by kernel_rfl) (by kernel_rfl) rfl (by decide) (by decide));intro G1;refine TNp [0,1,2,3,4,5,6] [1,2,3,4,5,6] ?_;refine TE (fun _ h=>h) ?_;refine MT (fun W hS=>hS.rnil 113 1 rfl) ?_;refine MAr 0 2 (tS:=110) (bytes:=8) (es:=[]) (by first|omega|(simp only[lA,lM,lT,lD,lC,lN,J6,K5,V0,V1];omega)) (e:=([.pointer none]:List Value)) ?_;intro ν;refine TNp [0,1,2,3,4,5,6,7] [1,2,3,4,5,6,7] ?_;refine TE (fun _ h=>h) ?_;refine MT (fun W hS=>hS.rnil 87 1 rfl) ?_;refine MAr 0 2 (tS:=109) (bytes:=24) (es:=[]) (by first|omega|(simp only[lA,lM,lT,lD,lC,lN,J6,K5,V0,V1];omega)) (e:=([.slice none 0 0]:List Value)) ?_;intro ξ;refine TNp [0,1,2,3,4,5,6,7,8] [1,2,3,4,5,6,7,8] ?_;refine TV ?_;refine TV ?_;refine TK (fun _ h=>h) ?_;refine J0g (fun W hS=>(Row.cells (hS.row (i:=1) rfl)).2) ?_;intro D3;refine MP 6 (v:=ν) (cs' :=Q6 [.c J,.a 32 vk,.a 32 bk,.c (.int .i64 (L:Int)),.c (.int .i64 (P:Int)),.c (.int .i64 (E:Int)),.c (.map (some G)),.c (.slice none 0 0),.c (.slice none 0 0),.c ν,.c (.slice none 0 0)]) ?_ (hs:=agl) (hc:=J0e (off:=71) 9) (hv:=fun W hS=>Row.cells (hS.row (i:=1) rfl));refine Y06 [0,1,2,3,4,5,7,8] ?_;refine TV ?_;refine TV ?_;refine TE (fun _ h=>h.pick [0,1,2,3,4,5,7,8]) ?_;refine J0g (fun W hS=>(Row.cells (hS.row (i:=0) rfl)).2) ?_;intro D0;refine MP 6 (v:=ξ) (cs' :=Q6 [.c J,.a 32 vk,.a 32 bk,.c (.int .i64 (L:Int)),.c (.int .i64 (P:Int)),.c (.int .i64 (E:Int)),.c (.map (some G)),.c (.slice none 0 0),.c ξ,.c ν,.c (.slice none 0 0)]) ?_ (hs:=agl) (hc:=J0e (off:=70) 8) (hv:=fun W hS=>Row.cells (hS.row (i:=0) rfl));refine TNp [0,1,2,3,4,5,7,8] [0,1,2,3,4,5,6,7] ?_;refine TZ (fun _ h=>h.pick [0,1,2,3,4,5,7,8]) fun W hS=> ?_;exact⟨Γ,ν,G1,ξ,rfl,hS.pick [1,0,3,2,4,5,6,7,8]⟩
  refine MB (z:= #[.slice none 0 0]) (t:=87) (n:=1) (c:=1) ?_ (hr:=fun W hS=>J0a [.slice none 0 0] rfl rfl (vsc rfl vs0) Tryz.underlying109 (by kernel_rfl) (by kernel_rfl) rfl (by decide) (by decide));intro G6;refine TNp [0,1,2,3,4,5] [1,2,3,4,5] ?_;refine TE (fun _ h=>h) ?_;refine MB (z:= #[.pointer none]) (t:=113) (n:=1) (c:=1) ?_ (hr:=fun W hS=>J0a [.pointer none] rfl rfl (vsc rfl vs0) Tryz.underlying110 (by kernel_rfl) (by kernel_rfl) rfl (by decide) (by decide));intro D9;refine TNp [0,1,2,3,4,5,6] [1,2,3,4,5,6] ?_;refine TE (fun _ h=>h) ?_;refine MT (fun W hS=>hS.rnil 113 1 rfl) ?_;refine MAr 0 1 (tS:=110) (bytes:=8) (es:=[]) (by first|omega|(simp only[lA,lM,lT,lD,lC,lN,J6,K5,V0,V1];omega)) (e:=([.pointer none]:List Value)) ?_;intro θ;refine TNp [0,1,2,3,4,5,6,7] [1,2,3,4,5,6,7] ?_;refine TE (fun _ h=>h) ?_;refine MT (fun W hS=>hS.rnil 87 1 rfl) ?_;refine MAr 0 3 (tS:=109) (bytes:=24) (es:=[]) (by first|omega|(simp only[lA,lM,lT,lD,lC,lN,J6,K5,V0,V1];omega)) (e:=([.slice none 0 0]:List Value)) ?_;intro σ;refine TNp [0,1,2,3,4,5,6,7,8] [1,2,3,4,5,6,7,8] ?_;refine TV ?_;refine TV ?_;refine TK (fun _ h=>h) ?_;refine J0g (fun W hS=>(Row.cells (hS.row (i:=1) rfl)).2) ?_;intro D1;refine MP 6 (v:=θ) (cs' :=Q6 [.c J,.a 32 vk,.a 32 bk,.c (.int .i64 (L:Int)),.c (.int .i64 (P:Int)),.c (.int .i64 (E:Int)),.c (.map (some G)),.c (.slice none 0 0),.c (.slice none 0 0),.c θ,.c (.slice none 0 0)]) ?_ (hs:=agl) (hc:=J0e (off:=71) 9) (hv:=fun W hS=>Row.cells (hS.row (i:=1) rfl));refine Y06 [0,1,2,3,4,5,7,8] ?_;refine TV ?_;refine TV ?_;refine TE (fun _ h=>h.pick [0,1,2,3,4,5,7,8]) ?_;refine J0g (fun W hS=>(Row.cells (hS.row (i:=0) rfl)).2) ?_;intro D4;refine MP 6 (v:=σ) (cs' :=Q6 [.c J,.a 32 vk,.a 32 bk,.c (.int .i64 (L:Int)),.c (.int .i64 (P:Int)),.c (.int .i64 (E:Int)),.c (.map (some G)),.c (.slice none 0 0),.c σ,.c θ,.c (.slice none 0 0)]) ?_ (hs:=agl) (hc:=J0e (off:=70) 8) (hv:=fun W hS=>Row.cells (hS.row (i:=0) rfl));refine TNp [0,1,2,3,4,5,7,8] [0,1,2,3,4,5,6,7] ?_;refine TZ (fun _ h=>h.pick [0,1,2,3,4,5,7,8]) fun W hS=> ?_;exact⟨D9,θ,G6,σ,rfl,hS.pick [1,0,2,3,4,5,6,7,8]⟩
 rintro _ W ⟨Y,N,Z,S,rfl,hS⟩;go_upto_region 5 with fail;refine RJ (R:=fun a_ w_=> ∃(X:Nat),∃(ζ:Nat),∃(γ:Value),a_={tmps:=List.toArray (v::(.agg (Q6 [.a 32 vk,.a 32 bk]))::(.agg (Q6 [.c (.int .i64 (L:Int)),.c (.int .i64 (P:Int)),.c (.int .i64 (E:Int))]))::undef::(.pointer (some ⟨α,0,none⟩))::(.pointer (some ⟨M,0,none⟩))::(.pointer none)::(.int .i64 0)::(.pointer (some ⟨D,0,none⟩))::v::(.int .i64 (id.length:Int))::(.bool true)::(.bool false)::(.bool false)::(.pointer (some ⟨M,0,none⟩))::(.int .i64 (L:Int))::(.bool true)::(.bool false)::(.bool false)::(.bool false)::(.pointer (some ⟨M,1,none⟩))::(.int .i64 (P:Int))::(.bool true)::(.bool false)::(.bool false)::(.bool false)::(.pointer (some ⟨M,2,none⟩))::(.int .i64 (E:Int))::(.bool true)::(.bool false)::(.bool false)::v::J::(.agg (Q6 [.a 32 vk,.a 32 bk]))::(.agg (Q6 [.c (.int .i64 (L:Int)),.c (.int .i64 (P:Int)),.c (.int .i64 (E:Int))]))::(.map (some G))::(.agg (Q6 [.c J,.a 32 vk,.a 32 bk,.c (.int .i64 (L:Int)),.c (.int .i64 (P:Int)),.c (.int .i64 (E:Int)),.c (.map (some G)),.c (.slice none 0 0),.c (.slice none 0 0),.c (.slice none 0 0),.c (.slice none 0 0)]))::(.pointer (some ⟨D,0,none⟩))::(.pointer (some ⟨D,0,none⟩))::(.pointer (some ⟨D,0,none⟩))::(.pointer (some ⟨D,0,none⟩))::(.pointer (some ⟨D,0,none⟩))::(.pointer (some ⟨D,71,none⟩))::(.slice none 0 0)::(.slice (some ⟨Y,0,none⟩) 1 1)::N::(.pointer (some ⟨D,0,none⟩))::(.pointer (some ⟨D,0,none⟩))::(.pointer (some ⟨D,70,none⟩))::(.slice none 0 0)::(.slice (some ⟨Z,0,none⟩) 1 1)::S::(.pointer (some ⟨D,0,none⟩))::(.pointer (some ⟨D,71,none⟩))::(.pointer (some ⟨D,0,none⟩))::(.pointer (some ⟨D,70,none⟩))::(.pointer (some ⟨D,0,none⟩))::(.pointer (some ⟨D,0,none⟩))::(.pointer (some ⟨D,0,none⟩))::(.pointer (some ⟨D,72,none⟩))::(.slice none 0 0)::v::(.agg (J0 .u8 32 (J7 X)))::(.slice (some ⟨ζ,0,none⟩) 1 1)::γ::(.pointer (some ⟨D,0,none⟩))::(.pointer (some ⟨D,72,none⟩))::undef::[]),defers:=[]}∧X=lk0 id∧SH [] w w_ [.r 22 32 γ ([]++[J46 X]),.b ζ (J0 .u8 32 (J7 X)) 22,.r 113 1 N ([]++[([.pointer none]:List Value)]),.r 87 1 S ([]++[([.slice none 0 0]:List Value)]),.o J id,J3b G [],.b Y #[.pointer none] 113,.b Z #[.slice none 0 0] 87,.b D (Q6 [.c J,.a 32 vk,.a 32 bk,.c (.int .i64 (L:Int)),.c (.int .i64 (P:Int)),.c (.int .i64 (E:Int)),.c (.map (some G)),.c (.slice none 0 0),.c S,.c N,.c γ]) 112,.b α (Q6 [.a 32 vk,.a 32 bk]) 24,.b M (Q6 [.c (.int .i64 (L:Int)),.c (.int .i64 (P:Int)),.c (.int .i64 (E:Int))]) 67]) ?_ ?_
 ·
  refine RTp [0,1,2,3,4,5,7,8] (.q 0 (.q 1 (.q 2 (.q 3 (.q 5 (.b 4 (.e 6 (.e 7 (.e 8 (.q 9 (.q 10 (.e 11 .z)))))) 6 (.b 4 (.e 7 (.e 8 (.q 9 (.q 10 (.e 11 .z))))) 7 (.e 4 (.e 8 (.q 9 (.q 10 (.e 11 .z)))))))))))) hS ?_;clear hS;(iterate 5 refine TV ?_);refine TB (fun _ h=>h.pick [0,1,2,3,4,5,7,8]) ?_ ?_
  ·
   refine MG 6 ?_ (v:=.slice none 0 0) (hj:=(J9 (off:=72) 10));refine TNp [0,1,2,3,4,5,7,8] [0,1,2,3,4,5,6,7] ?_;refine TE (fun _ h=>h.pick [0,1,2,3,4,5,7,8]) ?_;obtain⟨U1,β⟩:=exh (lk0 id);refine MC (v:=.agg (J0 .u8 32 (J7 U1))) (fun W hS=>Q9n β.out W (hX.ext hS.ext).gt (J0i hs hS.ext) (by omega)) ?_;refine TNp [0,1,2,3,4,5,7,8] [0,1,2,3,4,5,6,7] ?_;refine TE (fun _ h=>h.pick [0,1,2,3,4,5,7,8]) ?_;refine MB (z:=(J0 .u8 32 (J7 U1))) (t:=22) (n:=1) (c:=1) ?_ (hr:=fun W _=>J2s rfl rfl rfl Tryz.underlying54 (by rw[J1];kernel_rfl) (by rw[J1];kernel_rfl) (by rw[J1];decide) (by rw[J1];decide));intro G3;refine TNp [0,1,2,3,4,5,6,8,9] [1,2,3,4,5,6,7,8] ?_;refine TE (fun _ h=>h.pick [0,1,2,3,4,5,6,8,9]) ?_;refine MT (fun W hS=>hS.rnil 22 32 rfl) ?_;refine MAr 0 1 (tS:=54) (bytes:=32) (es:=[]) (by first|omega|(simp only[lA,lM,lT,lD,lC,lN,J6,K5,V0,V1];omega)) (e:=J46 U1) (hk:=J1 _ _ _) (h1:=by exact J04 _ _ _) ?_;intro ρ;refine TNp [0,1,2,3,4,5,6,7,9,10] [1,2,3,4,5,6,7,8,9] ?_;refine TV ?_;refine TV ?_;refine TE (fun _ h=>h.pick [0,1,2,3,4,5,6,7,9,10]) ?_;refine J0g (fun W hS=>(Row.cells (hS.row (i:=0) rfl)).2) ?_;intro D6;refine MP 8 (v:=ρ) (cs' :=Q6 [.c J,.a 32 vk,.a 32 bk,.c (.int .i64 (L:Int)),.c (.int .i64 (P:Int)),.c (.int .i64 (E:Int)),.c (.map (some G)),.c (.slice none 0 0),.c S,.c N,.c ρ]) ?_ (hs:=agl) (hc:=J0e (off:=72) 10) (hv:=fun W hS=>Row.cells (hS.row (i:=0) rfl));refine TNp [0,1,2,3,4,5,6,7,9,10] [0,1,2,3,4,5,6,7,8,9] ?_;refine TZ (fun _ h=>h.pick [0,1,2,3,4,5,6,7,9,10]) fun W hS=> ?_;exact⟨U1,G3,ρ,rfl,β.out,hS.pick [0,1,2,3,6,7,4,5,8,9,10]⟩
  obtain⟨U1,β⟩:=exh (lk0 id);refine MC (v:=.agg (J0 .u8 32 (J7 U1))) (fun W hS=>Q9n β.out W (hX.ext hS.ext).gt (J0i hs hS.ext) (by omega)) ?_;refine TNp [0,1,2,3,4,5,7,8] [0,1,2,3,4,5,6,7] ?_;refine TB (fun _ h=>h.pick [0,1,2,3,4,5,7,8]) ?_ ?_
  ·
   refine MG 6 ?_ (v:=.slice none 0 0) (hj:=(J9 (off:=72) 10));refine TNp [0,1,2,3,4,5,7,8] [0,1,2,3,4,5,6,7] ?_;refine TE (fun _ h=>h.pick [0,1,2,3,4,5,7,8]) ?_;refine MB (z:=(J0 .u8 32 (J7 U1))) (t:=22) (n:=1) (c:=1) ?_ (hr:=fun W _=>J2s rfl rfl rfl Tryz.underlying54 (by rw[J1];kernel_rfl) (by rw[J1];kernel_rfl) (by rw[J1];decide) (by rw[J1];decide));intro G2;refine TNp [0,1,2,3,4,5,6,8,9] [1,2,3,4,5,6,7,8] ?_;refine TE (fun _ h=>h.pick [0,1,2,3,4,5,6,8,9]) ?_;refine MT (fun W hS=>hS.rnil 22 32 rfl) ?_;refine MAr 0 1 (tS:=54) (bytes:=32) (es:=[]) (by first|omega|(simp only[lA,lM,lT,lD,lC,lN,J6,K5,V0,V1];omega)) (e:=J46 U1) (hk:=J1 _ _ _) (h1:=by exact J04 _ _ _) ?_;intro τ;refine TNp [0,1,2,3,4,5,6,7,9,10] [1,2,3,4,5,6,7,8,9] ?_;refine TV ?_;refine TV ?_;refine TE (fun _ h=>h.pick [0,1,2,3,4,5,6,7,9,10]) ?_;refine J0g (fun W hS=>(Row.cells (hS.row (i:=0) rfl)).2) ?_;intro Ξ;refine MP 8 (v:=τ) (cs' :=Q6 [.c J,.a 32 vk,.a 32 bk,.c (.int .i64 (L:Int)),.c (.int .i64 (P:Int)),.c (.int .i64 (E:Int)),.c (.map (some G)),.c (.slice none 0 0),.c S,.c N,.c τ]) ?_ (hs:=agl) (hc:=J0e (off:=72) 10) (hv:=fun W hS=>Row.cells (hS.row (i:=0) rfl));refine TNp [0,1,2,3,4,5,6,7,9,10] [0,1,2,3,4,5,6,7,8,9] ?_;refine TZ (fun _ h=>h.pick [0,1,2,3,4,5,6,7,9,10]) fun W hS=> ?_;exact⟨U1,G2,τ,rfl,β.out,hS.pick [0,1,2,3,6,7,4,5,8,9,10]⟩
  refine MB (z:=(J0 .u8 32 (J7 U1))) (t:=22) (n:=1) (c:=1) ?_ (hr:=fun W _=>J2s rfl rfl rfl Tryz.underlying54 (by rw[J1];kernel_rfl) (by rw[J1];kernel_rfl) (by rw[J1];decide) (by rw[J1];decide));intro G4;refine TNp [0,1,2,3,4,5,6,8,9] [1,2,3,4,5,6,7,8] ?_;refine TE (fun _ h=>h.pick [0,1,2,3,4,5,6,8,9]) ?_;refine MG 7 ?_ (v:=.slice none 0 0) (hj:=(J9 (off:=72) 10));refine TNp [0,1,2,3,4,5,6,8,9] [0,1,2,3,4,5,6,7,8] ?_;refine TE (fun _ h=>h.pick [0,1,2,3,4,5,6,8,9]) ?_;refine MT (fun W hS=>hS.rnil 22 32 rfl) ?_;refine MAr 0 1 (tS:=54) (bytes:=32) (es:=[]) (by first|omega|(simp only[lA,lM,lT,lD,lC,lN,J6,K5,V0,V1];omega)) (e:=J46 U1) (hk:=J1 _ _ _) (h1:=by exact J04 _ _ _) ?_;intro χ;refine TNp [0,1,2,3,4,5,6,7,9,10] [1,2,3,4,5,6,7,8,9] ?_;refine TV ?_;refine TV ?_;refine TE (fun _ h=>h.pick [0,1,2,3,4,5,6,7,9,10]) ?_;refine J0g (fun W hS=>(Row.cells (hS.row (i:=0) rfl)).2) ?_;intro D5;refine MP 8 (v:=χ) (cs' :=Q6 [.c J,.a 32 vk,.a 32 bk,.c (.int .i64 (L:Int)),.c (.int .i64 (P:Int)),.c (.int .i64 (E:Int)),.c (.map (some G)),.c (.slice none 0 0),.c S,.c N,.c χ]) ?_ (hs:=agl) (hc:=J0e (off:=72) 10) (hv:=fun W hS=>Row.cells (hS.row (i:=0) rfl));refine TNp [0,1,2,3,4,5,6,7,9,10] [0,1,2,3,4,5,6,7,8,9] ?_;refine TZ (fun _ h=>h.pick [0,1,2,3,4,5,6,7,9,10]) fun W hS=> ?_;exact⟨U1,G4,χ,rfl,β.out,hS.pick [0,1,2,3,6,7,4,5,8,9,10]⟩
 rintro _ W ⟨X,ζ,γ,rfl,ε,hS⟩;have ω:=Lib.hid ε;clear ε;have Δ:=hS.pick [8,5,4,3,2,0];rw[List.nil_append,List.nil_append,List.nil_append,ω.out] at Δ;obtain⟨y,hy,δ⟩:=Y6u Δ;go_wp2;exact bodyPost_ret (v:=.tuple #[.pointer (some ⟨D,0,none⟩),.int .i64 0]) (by simp only[results,Tryz.results16];go_simp) rfl ⟨y,by rw[hy],δ⟩
end

section
set_option maxHeartbeats 3000000
attribute [local irreducible] wpList Z6 wpX
def V3k:TR→Nat→Nat→List TR
 | .node e l r,k,d=> .node e l r::(if kb k d=0 then V3k l k (d+1) else V3k r k (d+1))
 |_,_,_=>[]
def Z74:TR→Nat→Nat→TR
 | .node _ l r,k,d=>if kb k d=0 then Z74 l k (d+1) else Z74 r k (d+1)
 |T,_,_=>T
attribute [local irreducible] hs4 sE sL sN

end

section
end

section
set_option maxHeartbeats 3000000
attribute [local irreducible] wpList Z6 wpX
def K2z (E:TR)(n k:Nat):Nat×Bool×Nat:=match E with
 | .leaf a x=>if a=k then(x,true,n+1) else(0,false,n+1)
 |_=>(0,false,n)
attribute [local irreducible] hs4 sE sL sN

end

section
attribute [local irreducible] wpList Z6 wpX
attribute [local irreducible] hs4 sE sL sN

end

section
set_option maxHeartbeats 3000000
attribute [local irreducible] wpList Z6 wpX
def bsd:TR→Nat→Nat→List Nat
 | .node _ l r,k,d=>if kb k d=0 then rs r::bsd l k (d+1) else rs l::bsd r k (d+1)
 |_,_,_=>[]
attribute [local irreducible] hs4 sE sL sN

def V3j (E:TR):Nat×Nat×Bool:=match E with
 | .leaf a x=>(a,x,true)
 |_=>(0,0,false)
end

section
attribute [local irreducible] wpList Z6 wpX
attribute [local irreducible] hs4 sE sL sN

end

section
def tE (th:Bool)(a x:Nat):List UInt8:=if th then[0]++lb 32 a++lb 32 x else[2]
def tN (d:Int)(b s o:Nat):List UInt8:=if b=0 then[1]++db d++lb 32 s++lb 32 o else[1]++db d++lb 32 o++lb 32 s
def tT (k:Nat):List Nat→Nat→List UInt8→List UInt8
  |[],_,e=>e
  |o::ss,d,e=>tN (d:Int) (kb k d) (hs4 (tT k ss (d+1) e)) o
def chk (R k:Nat)(ss:List Nat)(th:Bool)(a x:Nat):Nat×Bool×Nat:=
  if 256<ss.length∨th=true∧J3j (J7 a) (J7 k)<ss.length then(0,false,17)
  else if hs4 (tT k ss 0 (tE th a x))=R then(if th=true∧a=k then(x,true,0) else(0,false,0))
  else(0,false,17)
attribute [local irreducible] hs4 sN sE sL lb
end

section
attribute [local irreducible] wpList Z6 wpX
attribute [local irreducible] hs4 sE sL sN

end

section
attribute [local irreducible] wpList Z6 wpX
attribute [local irreducible] hs4 sE sL sN

end

section
set_option maxHeartbeats 3000000
attribute [local irreducible] wpList Z6 wpX
attribute [local irreducible] hs4 sE sL sN lb
end

section
attribute [local irreducible] wpList Z6 wpX
attribute [local irreducible] hs4 sE sL sN lb
end

section
end

section
set_option maxHeartbeats 3000000
attribute [local irreducible] wpList Z6 wpX
attribute [local irreducible] hs4 sE sL sN lb
end

section
set_option maxHeartbeats 3000000
attribute [local irreducible] wpList Z6 wpX
open S8 (Kn GA kP)
structure Fnd where
 ep:Nat
 ix:Nat
 pf:Nat
 pres:Bool
 ver:Nat
 x:List UInt8
 bd:Nat
 op:Nat
 ss:List Nat
 th:Bool
 ek:Nat
 ev:Nat
 ro:Nat
 li:Nat
 ah:Nat
 rd:Nat
def ahd (D:DD)(e:Nat):Nat:=if 0<e then D.link (e-1) else 0
def fnd (D:DD)(ix pf e ver:Nat)(x:List UInt8):Fnd where
 ep:=e
 ix:=ix
 pf:=pf
 pres:=decide (0<ver)
 ver:=ver
 x:=x
 bd:=if 0<ver then bnd (opn D.bk ix (ver:Int)) ix (ver:Int) x else 0
 op:=if 0<ver then opn D.bk ix (ver:Int) else 0
 ss:=bsd (D.tree e) ix 0
 th:=(V3j (Z74 (D.tree e) ix 0)).2.2
 ek:=(V3j (Z74 (D.tree e) ix 0)).1
 ev:=(V3j (Z74 (D.tree e) ix 0)).2.1
 ro:=rs (D.tree e)
 li:=D.link e
 ah:=ahd D e
 rd:=(K2z (Z74 (D.tree e) ix 0) (V3k (D.tree e) ix 0).length ix).2.2
theorem Z4j {e:Nat}:∀(ps:List J4a) (ms:List Md),(∀m∈ms,0<m.ver)→∀m∈mdp ms e ps,0<m.ver
 |[],ms,h=>h
 |p::ps,ms,h=>Z4j ps _ fun m hm=>by
  rcases List.mem_append.1 hm with hm|hm
  ·
   exact h m hm
  ·
   rw[List.mem_singleton.1 hm];exact Nat.succ_pos _
theorem Z4k:∀(r:List (List J4a)) (ms:List Md) (e:Nat),(∀m∈ms,0<m.ver)→∀m∈mdS ms e r,0<m.ver
 |[],_,_,h=>h
 |q::r,ms,e,h=>Z4k r _ _ (Z4j q ms h)
theorem LOk.vpos {D:DD}{y:LD}(h:LOk D y){a:Ac}(ha:a∈y.acs){x:En}(hx:x∈a.es):0<x.ver:=by
 have h1:(x.ep,x.ver,x.x)∈(D.made.filter fun m=>decide (m.l=a.l)).map fun m=>(m.ep,m.ver,m.x):=by rw[←h.e a ha];exact List.mem_map.2 ⟨x,hx,rfl⟩
 obtain⟨m,hm,e⟩:=List.mem_map.1 h1;injection e with e1 e2
 injection e2 with e2 e3
 rw[←e2];exact Z4k D.puts [] 0 (fun m hm=>by cases hm) m (List.mem_filter.1 hm).1
theorem LOk.zero {D:DD}{y:LD}(h:LOk D y){a:Ac}(ha:a∈y.acs){n:Int}(hz:¬0<(J5c a.es n).ver):J5c a.es n=enZ:=by
 rcases Z71 (es:=a.es) (e:=n) with h1|h1
 ·
  exact h1
 exact absurd (h.vpos ha h1) hz
attribute [local irreducible] eI be8 hs4 lb J3e J2f J01 xt hm pbs DD.tree DD.link rs S8.kP S8.kN S8.kD ofT ebs lk0 opn bnd ahd bsd ixN pfN erN J5c

end

section
set_option maxHeartbeats 3000000
attribute [local irreducible] wpList Z6 wpX
open S8 (Kn GA kP)
attribute [local irreducible] eI be8 hs4 lb J3e J2f J01 xt hm pbs DD.tree DD.link rs S8.kP S8.kN S8.kD ofT ebs lk0 opn bnd ahd bsd ixN pfN erN J5c

theorem V3l {D:DD}{y:LD}(he:D.E<D.puts.length)(w:World)(hD:DK D y w)(hL:LOk D y)(hK:DOk D):
  Calls Tryz.prog 13 #[.pointer (some ⟨y.p,0,none⟩)] w fun e w' =>Ret (.tuple #[.int .i64 0,.int .i64 6]) w w' e:=by
 have G:=hK.pos;have J:=hK.len;have hS:=SH.nil [] w
 go_enter Tryz.func13,Tryz.ntmps13
 go_upto_region 3 with fail;refine RL hS ?_;clear hS;(iterate 3 refine MV ?_);refine MF (v:=y.lv) (fun W hS=>Z9 rfl rfl (by rw[J4 (J3 hD.d hS.ext)];exact(J9 (off:=72) 10)) (by kernel_rfl)) ?_;refine MF (v:=.int .i64 (D.puts.length:Int)) (fun W hS=>(by rw[show(D.puts.length:Int)=((List.map J46 D.links).length:Int) by rw[List.length_map,DD.links_len]];exact J3f (Row.off hD.lk hS.off0 f0) rfl rfl Tryz.underlying54)) ?_;refine MV ?_;refine MZ fun W hS=> ?_;go_upto_region 4 with fail;refine RL hS ?_;clear hS;(iterate 5 refine MV ?_);refine MF (v:=.int .i64 (D.E:Int)) (fun W hS=>Z9 rfl rfl (by rw[J4 (J3 hD.d hS.ext)];exact(J9 (off:=67) 5)) (by kernel_rfl)) ?_;refine Wto ?_;refine MZ fun W hS=> ?_;go_wp2;exact bodyPost_ret (v:=.tuple #[.int .i64 0,.int .i64 6]) (by simp only[results,Tryz.results13];go_simp) rfl ⟨rfl,hS.ext⟩
theorem V2f {id:List UInt8}{vk bk:Nat}{L P E:Int}{v:Value}(hN:¬((1≤id.length∧id.length≤16)∧(1≤L∧L≤64)∧(1≤P∧P≤16)∧(1≤E∧E≤32)))(w:World)(hs:Sl w v id):
  Calls Tryz.prog 16 #[v,.agg (Q6 [.a 32 vk,.a 32 bk]),.agg (Q6 [.c (.int .i64 L),.c (.int .i64 P),.c (.int .i64 E)])] w fun e w' =>Ret (.tuple #[.pointer none,.int .i64 1]) w w' e:=by
 have hS:=SH.nil [] w
 go_enter Tryz.func16,Tryz.ntmps16
 go_upto_region 0 with fail;refine RL hS ?_;clear hS;refine MN (z:=Q6 [.a 32 vk,.a 32 bk]) (t:=24) ?_;intro N;refine MN (z:=Q6 [.c (.int .i64 L),.c (.int .i64 P),.c (.int .i64 E)]) (t:=67) ?_;intro R;refine MV ?_;refine W0 ?_;refine MZ fun W hS=> ?_
 by_cases G:1≤(id.length:Int)∧(id.length:Int)≤16
 ·
  by_cases D:1≤L∧L≤64
  ·
   by_cases J:1≤P∧P≤16
   ·
    have M:¬(1≤E∧E≤32):=fun M=>hN ⟨by omega,D,J,M⟩;go_upto_region 1 with fail;refine RL hS ?_;clear hS;refine MV ?_;refine MF (v:=.int .i64 (id.length:Int)) (fun W hS=>X5 (J0i hs hS.ext) rfl rfl) ?_;refine MC (v:=.bool true) (fun W hS=>(by have h_:=J0z (id.length:Int) 16 W;rw[show win (id.length:Int) 16=true from decide_eq_true G] at h_;exact h_)) ?_;refine Wf ?_;refine Wf ?_;refine MV ?_;refine MG 0 ?_ (v:=.int .i64 L) (hj:=(J9 (off:=0) 0));refine MC (v:=.bool true) (fun W hS=>(by have h_:=J0z L 64 W;rw[show win L 64=true from decide_eq_true D] at h_;exact h_)) ?_;(iterate 3 refine Wf ?_);refine MV ?_;refine MG 0 ?_ (v:=.int .i64 P) (hj:=(J9 (off:=1) 1));refine MC (v:=.bool true) (fun W hS=>(by have h_:=J0z P 16 W;rw[show win P 16=true from decide_eq_true J] at h_;exact h_)) ?_;(iterate 3 refine Wf ?_);refine MV ?_;refine MG 0 ?_ (v:=.int .i64 E) (hj:=(J9 (off:=2) 2));refine MC (v:=.bool false) (fun W hS=>(by have h_:=J0z E 32 W;rw[show win E 32=false from decide_eq_false M] at h_;exact h_)) ?_;refine Wt ?_;refine Wt ?_;refine MZ fun W hS=> ?_;go_wp2;exact bodyPost_ret (v:=.tuple #[.pointer none,.int .i64 1]) (by simp only[results,Tryz.results16];go_simp) rfl ⟨rfl,hS.ext⟩
   go_upto_region 1 with fail;refine RL hS ?_;clear hS;refine MV ?_;refine MF (v:=.int .i64 (id.length:Int)) (fun W hS=>X5 (J0i hs hS.ext) rfl rfl) ?_;refine MC (v:=.bool true) (fun W hS=>(by have h_:=J0z (id.length:Int) 16 W;rw[show win (id.length:Int) 16=true from decide_eq_true G] at h_;exact h_)) ?_;refine Wf ?_;refine Wf ?_;refine MV ?_;refine MG 0 ?_ (v:=.int .i64 L) (hj:=(J9 (off:=0) 0));refine MC (v:=.bool true) (fun W hS=>(by have h_:=J0z L 64 W;rw[show win L 64=true from decide_eq_true D] at h_;exact h_)) ?_;(iterate 3 refine Wf ?_);refine MV ?_;refine MG 0 ?_ (v:=.int .i64 P) (hj:=(J9 (off:=1) 1));refine MC (v:=.bool false) (fun W hS=>(by have h_:=J0z P 16 W;rw[show win P 16=false from decide_eq_false J] at h_;exact h_)) ?_;(iterate 3 refine Wt ?_);(iterate 4 refine MS ?_);refine Wt ?_;refine MZ fun W hS=> ?_;go_wp2;exact bodyPost_ret (v:=.tuple #[.pointer none,.int .i64 1]) (by simp only[results,Tryz.results16];go_simp) rfl ⟨rfl,hS.ext⟩
  go_upto_region 1 with fail;refine RL hS ?_;clear hS;refine MV ?_;refine MF (v:=.int .i64 (id.length:Int)) (fun W hS=>X5 (J0i hs hS.ext) rfl rfl) ?_;refine MC (v:=.bool true) (fun W hS=>(by have h_:=J0z (id.length:Int) 16 W;rw[show win (id.length:Int) 16=true from decide_eq_true G] at h_;exact h_)) ?_;refine Wf ?_;refine Wf ?_;refine MV ?_;refine MG 0 ?_ (v:=.int .i64 L) (hj:=(J9 (off:=0) 0));refine MC (v:=.bool false) (fun W hS=>(by have h_:=J0z L 64 W;rw[show win L 64=false from decide_eq_false D] at h_;exact h_)) ?_;(iterate 3 refine Wt ?_);(iterate 4 refine MS ?_);refine Wt ?_;refine Wt ?_;(iterate 4 refine MS ?_);refine Wt ?_;refine MZ fun W hS=> ?_;go_wp2;exact bodyPost_ret (v:=.tuple #[.pointer none,.int .i64 1]) (by simp only[results,Tryz.results16];go_simp) rfl ⟨rfl,hS.ext⟩
 go_upto_region 1 with fail;refine RL hS ?_;clear hS;refine MV ?_;refine MF (v:=.int .i64 (id.length:Int)) (fun W hS=>X5 (J0i hs hS.ext) rfl rfl) ?_;refine MC (v:=.bool false) (fun W hS=>(by have h_:=J0z (id.length:Int) 16 W;rw[show win (id.length:Int) 16=false from decide_eq_false G] at h_;exact h_)) ?_;refine Wt ?_;refine Wt ?_;(iterate 4 refine MS ?_);refine Wt ?_;refine Wt ?_;(iterate 4 refine MS ?_);refine Wt ?_;refine Wt ?_;(iterate 4 refine MS ?_);refine Wt ?_;refine MZ fun W hS=> ?_;go_wp2;exact bodyPost_ret (v:=.tuple #[.pointer none,.int .i64 1]) (by simp only[results,Tryz.results16];go_simp) rfl ⟨rfl,hS.ext⟩
end
end Go.Proofs.YtlkbneflnjmgbaaGreatDoor

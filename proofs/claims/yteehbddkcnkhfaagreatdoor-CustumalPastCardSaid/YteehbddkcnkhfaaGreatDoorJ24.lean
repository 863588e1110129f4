/- Contracts and plain laws for custumalPast_holds. Conditions: the tables hold their numbers. -/
import Derived.Test.YteehbddkcnkhfaaGreatDoorJ23
open Go.RowKit
set_option maxRecDepth 100000
set_option linter.unusedSimpArgs false
set_option linter.unusedVariables false
namespace Go.Proofs.YteehbddkcnkhfaaGreatDoor
section
set_option maxHeartbeats 3000000
attribute [local irreducible] wpList Y5 wpX
open S8 (Kn GA kP)
section
variable {F : List Nat} {w W : World} {H : List As} {A0 A1 : List Ac} {a a' : Ac}
theorem SH.acopen (h:SH F w W (acT (A0++a::A1)::H)):SH F w W (.b a.b (acF a) 119::acT (A0++A1)::H):=by
 have h2:acK (A0++a::A1) W:=(h.at_ (i:=0) rfl).1;have hn:=h2.2;rw[List.map_append,List.map_cons] at hn;have D:=(List.perm_middle.nodup_iff).1 hn;rw[List.nodup_cons] at D;have hk:acK (A0++A1) W:=⟨fun z hz=>h2.1 z (by rcases List.mem_append.1 hz with hz|hz<;>simp[hz]),by rw[List.map_append];exact D.2⟩
 refine h.split rfl (x:=.b a.b (acF a) 119) (y:=acT (A0++A1)) (h2.1 a (by simp)) (J8e hk) rfl rfl rfl rfl (fun k hk=> ?_) (fun k hk=> ?_) fun k hk G=> ?_
 ·
  rw[show k=a.b from List.mem_singleton.1 hk];exact List.mem_map.2 ⟨a,by simp,rfl⟩
 ·
  obtain⟨z,hz,rfl⟩:=List.mem_map.1 hk;exact List.mem_map.2 ⟨z,by rcases List.mem_append.1 hz with hz|hz<;>simp[hz],rfl⟩
 rw[show k=a.b from List.mem_singleton.1 hk] at G;have J:a.b∈(A0++A1).map (·.b):=G;rw[List.map_append] at J;exact D.1 J
theorem SH.acclose (h:SH F w W (.b a.b (acF a) 119::acT (A0++A1)::H)):SH F w W (acT (A0++a::A1)::H):=by
 have h1:=h.blk (i:=0) rfl;have h2:acK (A0++A1) W:=(h.at_ (i:=1) rfl).1;have ha:=(h.ap2 (i:=0) (j:=1) rfl rfl (by decide)).1 rfl
 have hk:acK (A0++a::A1) W:=by
  refine⟨fun z hz=> ?_,?_⟩
  ·
   rcases List.mem_append.1 hz with hz|hz
   ·
    exact h2.1 z (by simp[hz])
   rcases List.mem_cons.1 hz with rfl|hz
   ·
    exact h1
   exact h2.1 z (by simp[hz])
  rw[List.map_append,List.map_cons];refine(List.perm_middle.nodup_iff).2 ?_;rw[←List.map_append];exact List.nodup_cons.2 ⟨fun hm=>ha a.b (by simp[As.foot]) hm,h2.2⟩
 refine h.merge rfl rfl rfl (J8e hk) fun k D=> ?_;obtain⟨z,hz,rfl⟩:=List.mem_map.1 D;rcases List.mem_append.1 hz with hz|hz
 ·
  exact .inr (List.mem_map.2 ⟨z,by simp[hz],rfl⟩)
 rcases List.mem_cons.1 hz with rfl|hz
 ·
  exact .inl (by simp[As.foot])
 exact .inr (List.mem_map.2 ⟨z,by simp[hz],rfl⟩)
theorem SH.enopen (h:SH F w W (enT (A0++a::A1)::H)):SH F w W (.r 101 3 a.mv (a.es.map enC)::enT (A0++A1)::H):=by
 have h2:enK (A0++a::A1) W:=(h.at_ (i:=0) rfl).1;have hp:=List.pairwise_append.1 h2.2;have D:=List.pairwise_cons.1 hp.2.1;have hk:enK (A0++A1) W:=⟨fun z hz=>h2.1 z (by rcases List.mem_append.1 hz with hz|hz<;>simp[hz]),List.pairwise_append.2 ⟨hp.1,D.2,fun x hx y hy=>hp.2.2 x hx y (by simp[hy])⟩⟩
 refine h.split rfl (x:=.r 101 3 a.mv (a.es.map enC)) (y:=enT (A0++A1)) (h2.1 a (by simp)) (J8f hk) rfl rfl rfl rfl (fun k hk=> ?_) (fun k hk=> ?_) fun k hk G=> ?_
 ·
  exact List.mem_flatMap.2 ⟨a,by simp,hk⟩
 ·
  obtain⟨z,hz,h3⟩:=List.mem_flatMap.1 hk;exact List.mem_flatMap.2 ⟨z,by rcases List.mem_append.1 hz with hz|hz<;>simp[hz],h3⟩
 obtain⟨z,hz,h3⟩:=List.mem_flatMap.1 G;rcases List.mem_append.1 hz with hz|hz
 ·
  exact hp.2.2 z hz a (by simp) k h3 hk
 exact D.1 z hz k hk h3
theorem SH.enclose (h:SH F w W (.r 101 3 a.mv (a.es.map enC)::enT (A0++A1)::H)):SH F w W (enT (A0++a::A1)::H):=by
 have h1:=h.row (i:=0) rfl;have h2:enK (A0++A1) W:=(h.at_ (i:=1) rfl).1;have ha:=(h.ap2 (i:=0) (j:=1) rfl rfl (by decide)).1 rfl;have hd:∀z∈A0++A1,∀k∈a.mv.ownBlock.toList,k∉z.mv.ownBlock.toList:=fun z hz k hk D=>ha k hk (List.mem_flatMap.2 ⟨z,hz,D⟩);have hp:=List.pairwise_append.1 h2.2
 have hk:enK (A0++a::A1) W:=by
  refine⟨fun z hz=> ?_,List.pairwise_append.2 ⟨hp.1,List.pairwise_cons.2 ⟨fun z hz=>hd z (by simp[hz]),hp.2.1⟩,fun x hx y hy=> ?_⟩⟩
  ·
   rcases List.mem_append.1 hz with hz|hz
   ·
    exact h2.1 z (by simp[hz])
   rcases List.mem_cons.1 hz with rfl|hz
   ·
    exact h1
   exact h2.1 z (by simp[hz])
  rcases List.mem_cons.1 hy with rfl|hy
  ·
   exact fun k hk D=>hd x (by simp[hx]) k D hk
  exact hp.2.2 x hx y hy
 refine h.merge rfl rfl rfl (J8f hk) fun k D=> ?_;obtain⟨z,hz,h3⟩:=List.mem_flatMap.1 D;rcases List.mem_append.1 hz with hz|hz
 ·
  exact .inr (List.mem_flatMap.2 ⟨z,by simp[hz],h3⟩)
 rcases List.mem_cons.1 hz with rfl|hz
 ·
  exact .inl h3
 exact .inr (List.mem_flatMap.2 ⟨z,by simp[hz],h3⟩)
end
attribute [local irreducible] eI be8 hs4 lb J33 J25 K8 xt hm pbs rs S8.kP S8.kN S8.kD ofT ebs lk0 DD.links DD.trees DD.labs DD.made DD.tree DD.link ixN pfN erN opn bnd
abbrev mdL (a:Ac)(D:DD)(y:LD)(m:List (List UInt8×Nat))(T:TR)(u:Value):List As:=[.b a.b (acF a) 119,.r 101 3 a.mv (a.es.map enC),.b y.p (Z7l D y) 110,J2b y.h m,byT y.bs,gx,.t 181 (fun W=>TA W T u)]

theorem Y9w {D:DD}{y:LD}{a:Ac}{m:List (List UInt8×Nat)}{T:TR}{u lu xu:Value}{l x:List UInt8}{e_ R O:Nat}(hO:O=opn D.bk a.ix ((a.es.length+1:Nat):Int))(hR:R=bnd (opn D.bk a.ix ((a.es.length+1:Nat):Int)) a.ix ((a.es.length+1:Nat):Int) x)(hm_:mlk m l=some a.b)(hlb:(lu,l)∈y.bs)(hxb:(xu,x)∈y.bs)(hxl:x.length≤64)(hel:a.es.length≤1000)(hix:a.ix<2^256)(hRl:R<2^256)(hz:tsz T<4611686018427387904)(hc:cnt T<2305843009213693952)(w:World)(h_:SH (SH.feet (mdL a D y m T u)) w w (mdL a D y m T u)):
  Calls Tryz.prog 51 #[.pointer (some ⟨y.p,0,none⟩),u,.agg (Q7 [.c lu,.c xu]),.int .i64 (e_:Int)] w fun e w' => ∃z:Value×Value,e=.returned z.2∧SH (SH.feet (mdL a D y m T u)) w w' [.b a.b (Q7 [.a 32 a.ix,.a 80 a.pf,.c z.1]) 119,.r 101 3 z.1 (a.es.map enC++[enC ⟨e_,a.es.length+1,xu,x⟩]),.b y.p (Z7l D y) 110,J2b y.h m,byT y.bs,gx,.t 181 (fun W=>TA W (J2m a.ix R T 0) z.2)]:=by
 have HO:=Lib.hid hO;have HR:=Lib.hid hR;clear hO hR;have hS:SH (SH.feet (mdL a D y m T u)) w w [.b a.b (Q7 [.a 32 a.ix,.a 80 a.pf,.c a.mv]) 119,.r 101 3 a.mv (List.map enC a.es),.b y.p (Q7 [.c y.uid,.a 32 D.vk,.a 32 D.bk,.c (.int .i64 (D.L:Int)),.c (.int .i64 (D.P:Int)),.c (.int .i64 (D.E:Int)),.c (.map (some y.h)),.c y.wv,.c y.pv,.c y.tv,.c y.lv]) 110,J2b y.h m,byT y.bs,gx,.t 181 (fun W=>TA W T u)]:=h_;clear h_;have G:=Q1 ((hS.pp (i:=4) rfl) _ hxb);have γ:=Q1 ((hS.pp (i:=4) rfl) _ hlb)
 go_enter Tryz.func51,Tryz.ntmps51
 go_upto_region 0 with fail;refine RL hS ?_;clear hS;refine MN (z:=Q7 [.c lu,.c xu]) (t:=88) ?_;intro S;refine MV ?_;refine MZ fun W hS=> ?_;go_upto_region 1 with fail;refine RS hS ?_;clear hS;(iterate 3 refine MV ?_);refine MG 3 ?_ (v:=.map (some y.h)) (hj:=(J9 (off:=68) 6));refine MV ?_;refine MG 0 ?_ (v:=lu) (hj:=(J9 (off:=0) 0));refine MF (v:=str l) (fun W hS=>J21 ((hS.pp (i:=5) rfl) _ hlb) rfl rfl) ?_;refine MF (v:=.pointer (some ⟨a.b,0,none⟩)) (fun W hS=>(by rw[show(.pointer (some ⟨a.b,0,none⟩):Value)=mpt (mlk m l) by rw[hm_];rfl];exact J3h (hS.at_ (i:=4) (x:=J2b y.h m) rfl).1 Tryz.underlying106 Tryz.underlying9 (by kernel_rfl) rfl rfl rfl)) ?_;refine MV ?_;refine MZx fun W hS=> ?_;go_upto_region 2 with fail;refine RXn 10 [⟨10,10,Q7 [.c (.int .i64 0),.c (.int .i64 0),.c (.slice none 0 0)],101⟩] hS ?_ (by simp only[List.forall_mem_cons];exact⟨⟨_,rfl,rfl,rfl,fun _ _=>by kernel_rfl⟩,fun _ h=>by cases h⟩);clear hS;(iterate 4 refine MV ?_);refine MG 1 ?_ (v:=a.mv) (hj:=(J9 (off:=112) 2));refine MF (v:=.int .i64 (a.es.length:Int)) (fun W hS=>(by rw[show(a.es.length:Int)=((List.map enC a.es).length:Int) by rw[List.length_map]];exact J0k (hS.row (i:=2) rfl) rfl rfl Tryz.underlying69)) ?_;refine MW ?_ (v:=.int .i64 ((a.es.length+1:Nat):Int)) (hv:=by intro W;go_simp;(try simp only[IntKind.wrap_i64]);omega);refine MV ?_;refine MG 0 ?_ (v:=xu) (hj:=(J9 (off:=1) 1));refine MF (v:=.agg (Q7 [.c (.int .i64 (e_:Int)),.c (.int .i64 ((a.es.length+1:Nat):Int)),.c xu])) (fun W hS=>J34 [(0,[.c (.int .i64 (e_:Int))]),(1,[.c (.int .i64 ((a.es.length+1:Nat):Int))]),(2,[.c xu])] rfl rfl Q0m Q0n (.c rfl (.c rfl (.c ((G).1) .n)))) ?_;refine MZB fun α=> ?_;refine MRa 0 ?_ (h1:=by exact(K9 ⟨rfl,rfl,G.2,trivial⟩));refine MZn fun W hS=> ?_;go_upto_region 3 with fail;refine RJ (R:=fun a_ w_=> ∃(N:Nat),∃(J:Value),a_={tmps:=List.toArray ((.pointer (some ⟨y.p,0,none⟩))::u::(.agg (Q7 [.c lu,.c xu]))::(.int .i64 (e_:Int))::undef::undef::(.pointer (some ⟨S,0,none⟩))::undef::(.pointer none)::(.pointer (some ⟨a.b,0,none⟩))::(.pointer (some ⟨(α 10),0,none⟩))::undef::undef::(.pointer (some ⟨y.p,0,none⟩))::(.pointer (some ⟨y.p,0,none⟩))::(.pointer (some ⟨y.p,68,none⟩))::(.map (some y.h))::(.pointer (some ⟨S,0,none⟩))::lu::(str l)::(.pointer (some ⟨a.b,0,none⟩))::(.int .i64 (e_:Int))::(.pointer (some ⟨a.b,0,none⟩))::(.pointer (some ⟨a.b,0,none⟩))::(.pointer (some ⟨a.b,112,none⟩))::a.mv::(.int .i64 (a.es.length:Int))::(.int .i64 ((a.es.length+1:Nat):Int))::(.pointer (some ⟨S,1,none⟩))::xu::(.agg (Q7 [.c (.int .i64 (e_:Int)),.c (.int .i64 ((a.es.length+1:Nat):Int)),.c xu]))::(.pointer (some ⟨a.b,0,none⟩))::(.pointer (some ⟨a.b,0,none⟩))::(.pointer (some ⟨a.b,0,none⟩))::(.pointer (some ⟨a.b,112,none⟩))::a.mv::(.agg (Q7 [.c (.int .i64 (e_:Int)),.c (.int .i64 ((a.es.length+1:Nat):Int)),.c xu]))::(.slice (some ⟨N,0,none⟩) 1 1)::J::(.pointer (some ⟨a.b,0,none⟩))::(.pointer (some ⟨a.b,112,none⟩))::undef::undef::undef::undef::undef::undef::undef::undef::undef::undef::undef::undef::undef::undef::undef::undef::undef::undef::undef::undef::undef::undef::undef::undef::undef::[]),defers:=[]}∧SH (SH.feet (mdL a D y m T u)) w w_ [.r 101 3 J ((List.map enC a.es)++[enC (⟨e_,a.es.length+1,xu,x⟩:En)]),.b N (Q7 [.c (.int .i64 (e_:Int)),.c (.int .i64 ((a.es.length+1:Nat):Int)),.c xu]) 101,byT y.bs,.b y.p (Q7 [.c y.uid,.a 32 D.vk,.a 32 D.bk,.c (.int .i64 (D.L:Int)),.c (.int .i64 (D.P:Int)),.c (.int .i64 (D.E:Int)),.c (.map (some y.h)),.c y.wv,.c y.pv,.c y.tv,.c y.lv]) 110,.b a.b (Q7 [.a 32 a.ix,.a 80 a.pf,.c J]) 119,gx,J2b y.h m,.b (α 10) (Q7 [.c (.int .i64 (e_:Int)),.c (.int .i64 ((a.es.length+1:Nat):Int)),.c xu]) 101,.b S (Q7 [.c lu,.c xu]) 88,.t 181 (fun W=>TA W T u)]) ?_ ?_
 ·
  refine RTp [0,1,4,5,6,7,8] (.q 0 (.q 1 (.q 2 (.q 3 (.q 5 (.b 4 (.e 6 (.e 7 (.q 8 (.q 9 (.e 10 .z))))) 6 (.e 4 (.e 7 (.q 8 (.q 9 (.e 10 .z))))))))))) hS ?_;clear hS;(iterate 4 refine TV ?_);refine TL 0 ?_ (hs:=by rw[J7];kernel_rfl);refine TB (fun _ h=>h.pick [0,1,4,5,6,7,8]) ?_ ?_
  ·
   refine MG 2 ?_ (v:=a.mv) (hj:=(J9 (off:=112) 2));refine V8 [0,1,4,5,6,7,8] [0,1,2,3,4,5,6] ?_;refine TE (fun _ h=>h.pick [0,1,4,5,6,7,8]) ?_;refine MB (z:=(Q7 [.c (.int .i64 (e_:Int)),.c (.int .i64 ((a.es.length+1:Nat):Int)),.c xu])) (t:=101) (n:=1) (c:=1) ?_ (hr:=fun W _=>J0v rfl rfl rfl Tryz.underlying69 (by rw[J7];kernel_rfl) (by rw[J7];kernel_rfl) (by rw[J7];exact Nat.le_of_ble_eq_true (by kernel_rfl)) (by rw[J7];exact Nat.le_of_ble_eq_true (by kernel_rfl)));intro β;refine V8 [0,1,2,5,6,7,8,9] [1,2,3,4,5,6,7] ?_;refine TE (fun _ h=>h.pick [0,1,2,5,6,7,8,9]) ?_;refine MAr 4 0 (tS:=69) (bytes:=40) (es:=(List.map enC a.es)) (by first|omega|(simp only[lA,lM,lT,lD,lC,lN,J8,Y9,Z0,Z5];omega)) (e:=enC (⟨e_,a.es.length+1,xu,x⟩:En)) (hk:=by rw[J7];kernel_rfl) (h1:=by exact(K9 ⟨rfl,rfl,G.2,trivial⟩)) (cs:=(Q7 [.c (.int .i64 (e_:Int)),.c (.int .i64 ((a.es.length+1:Nat):Int)),.c xu])) ?_;intro U;refine V8 [0,1,2,4,5,6,7,8,9] [0,1,2,4,5,6,7,8] ?_;refine TV ?_;refine TV ?_;refine TE (fun _ h=>h.pick [0,1,2,4,5,6,7,8,9]) ?_;refine J06 (fun W hS=>(Row.cells (hS.row (i:=4) rfl)).2) ?_;intro Y;refine MP 3 (v:=U) (cs' :=Q7 [.a 32 a.ix,.a 80 a.pf,.c U]) ?_ (hs:=agl) (hc:=K2 (off:=112) 2) (hv:=fun W hS=>Row.cells (hS.row (i:=4) rfl));refine V8 [0,1,2,4,5,6,7,8,9] [0,1,2,3,4,5,6,7,8] ?_;refine TZ (fun _ h=>h.pick [0,1,2,4,5,6,7,8,9]) fun W hS=> ?_;exact⟨β,U,rfl,hS.pick [4,0,7,5,3,8,6,1,2,9]⟩
  refine MB (z:=(Q7 [.c (.int .i64 (e_:Int)),.c (.int .i64 ((a.es.length+1:Nat):Int)),.c xu])) (t:=101) (n:=1) (c:=1) ?_ (hr:=fun W _=>J0v rfl rfl rfl Tryz.underlying69 (by rw[J7];kernel_rfl) (by rw[J7];kernel_rfl) (by rw[J7];exact Nat.le_of_ble_eq_true (by kernel_rfl)) (by rw[J7];exact Nat.le_of_ble_eq_true (by kernel_rfl)));intro Z;refine V8 [0,1,2,5,6,7,8,9] [1,2,3,4,5,6,7] ?_;refine TE (fun _ h=>h.pick [0,1,2,5,6,7,8,9]) ?_;refine MG 3 ?_ (v:=a.mv) (hj:=(J9 (off:=112) 2));refine V8 [0,1,2,5,6,7,8,9] [0,1,2,3,4,5,6,7] ?_;refine TE (fun _ h=>h.pick [0,1,2,5,6,7,8,9]) ?_;refine MAr 4 0 (tS:=69) (bytes:=40) (es:=(List.map enC a.es)) (by first|omega|(simp only[lA,lM,lT,lD,lC,lN,J8,Y9,Z0,Z5];omega)) (e:=enC (⟨e_,a.es.length+1,xu,x⟩:En)) (hk:=by rw[J7];kernel_rfl) (h1:=by exact(K9 ⟨rfl,rfl,G.2,trivial⟩)) (cs:=(Q7 [.c (.int .i64 (e_:Int)),.c (.int .i64 ((a.es.length+1:Nat):Int)),.c xu])) ?_;intro V;refine V8 [0,1,2,4,5,6,7,8,9] [0,1,2,4,5,6,7,8] ?_;refine TV ?_;refine TV ?_;refine TE (fun _ h=>h.pick [0,1,2,4,5,6,7,8,9]) ?_;refine J06 (fun W hS=>(Row.cells (hS.row (i:=4) rfl)).2) ?_;intro X;refine MP 3 (v:=V) (cs' :=Q7 [.a 32 a.ix,.a 80 a.pf,.c V]) ?_ (hs:=agl) (hc:=K2 (off:=112) 2) (hv:=fun W hS=>Row.cells (hS.row (i:=4) rfl));refine V8 [0,1,2,4,5,6,7,8,9] [0,1,2,3,4,5,6,7,8] ?_;refine TZ (fun _ h=>h.pick [0,1,2,4,5,6,7,8,9]) fun W hS=> ?_;exact⟨Z,V,rfl,hS.pick [4,0,7,5,3,8,6,1,2,9]⟩
 rintro _ W ⟨N,J,rfl,hS⟩;go_upto_region 4 with fail;refine RXn 17 [⟨17,11,J1 .u8 32 (J4 0),23⟩,⟨18,12,J1 .u8 32 (J4 0),23⟩] hS ?_ (by simp only[List.forall_mem_cons];exact⟨⟨_,rfl,rfl,rfl,fun _ _=>by kernel_rfl⟩,⟨_,rfl,rfl,rfl,fun _ _=>by kernel_rfl⟩,fun _ h=>by cases h⟩);clear hS;(iterate 4 refine MV ?_);refine Mk 3 ?_ (sub:=J1 .u8 32 (J4 D.bk)) (hs:=(J03 (off:=33) 2));(iterate 3 refine MV ?_);refine Mk 4 ?_ (sub:=J1 .u8 32 (J4 a.ix)) (hs:=(J03 (off:=0) 0));refine MV ?_;refine MG 7 ?_ (v:=.int .i64 ((a.es.length+1:Nat):Int)) (hj:=(J9 (off:=1) 1));refine MV ?_;refine MG 7 ?_ (v:=xu) (hj:=(J9 (off:=2) 2));refine MC (v:=.tuple #[.agg (J1 .u8 32 (J4 R)),.agg (J1 .u8 32 (J4 O))]) (fun W hS=>Q5o (b:=D.bk) (i:=a.ix) (n:=((a.es.length+1:Nat):Int)) (x:=x) HO.out HR.out W (hS.pp (i:=5) rfl).gt ((hS.pp (i:=2) rfl) _ hxb) (by omega)) ?_;(iterate 3 refine MV ?_);refine MZB fun δ=> ?_;refine MR 0 ?_;refine MR 1 ?_;refine MZn fun W hS=> ?_;go_upto_region 5 with fail;refine RTh (.q 0 (.q 1 (.q 2 (.q 3 (.q 4 (.q 5 (.q 6 (.e 7 (.q 8 .z))))))))) hS ?_;clear hS;(iterate 4 refine TV ?_);refine Tk 6 ?_ (sub:=J1 .u8 32 (J4 a.ix)) (hs:=(J03 (off:=0) 0));refine TL 0 ?_;refine TW ?_ (v:=.agg (lf a.ix R)) (hv:=by intro W;first|rfl|kernel_rfl);refine TE (fun _ h=>h) ?_;refine ME (fun W hS=>J4r (T:=(J2m a.ix R T 0)) hS (V4v hix hRl hz hc W (hS.pp (i:=7) rfl).gt (hS.tt (i:=11) rfl)) rfl) ?_;intro M;refine TNh (fun W hS=>hS.pick [1,2,3,4,5,6,7,8,9,10,11,12]) ?_;refine TV ?_;refine TZ (fun _ h=>h) fun W hS=> ?_;go_wp2;exact bodyPost_ret (v:=M) (by simp only[results,Tryz.results51];go_simp) rfl ⟨J,M,rfl,hS.pick [7,3,6,9,5,8,0]⟩
end

section
attribute [local irreducible] wpList Y5 wpX
theorem RR.op {w:World}{u:Value}{ls:List Lf}(h:RR 64 w u (ls.map lfl)):∃A c,u=.slice A ls.length c∧ls.length≤c∧Hid (∀(j:Nat) (x:Lf),ls[j]?=some x→∃g o,A=some ⟨g,o,none⟩∧∀(i:Nat) (v:Value),(lfl x)[i]?=some v→w.cell? ⟨g,o+j*64+i,none⟩=some v):=by
 obtain⟨A,c,h1,h2,_,h3⟩:=h;rw[List.length_map] at h1 h2;exact⟨A,c,h1,h2,Lib.hid fun j x hj=>h3 j (lfl x) (by rw[List.getElem?_map,hj];rfl)⟩
end

section
set_option maxHeartbeats 3000000
attribute [local irreducible] wpList Y5 wpX
end

section
attribute [local irreducible] wpList Y5 wpX

end

section
set_option maxHeartbeats 3000000
attribute [local irreducible] wpList Y5 wpX
attribute [local irreducible] hs4 sE sL sN

end

section
attribute [local irreducible] wpList Y5 wpX
attribute [local irreducible] hs4 sE sL sN

end

section
attribute [local irreducible] wpList Y5 wpX
theorem V03 {ls:List Lf}(h:ls.length≤1000):tsz (ofT ls)<4611686018427387904:=by have:=(Q79 ls.length ls).1;rw[List.take_length] at this;omega
theorem V04 {ls:List Lf}(h:ls.length≤1000):cnt (ofT ls)<2305843009213693952:=by have:=(Q79 ls.length ls).2;rw[List.take_length] at this;omega
attribute [local irreducible] hs4 sE sL sN

end

section
attribute [local irreducible] eI be8 hs4 lb J33 J25 K8 xt hm pbs rs S8.kP S8.kN S8.kD ofT ebs lk0 ixN pfN erN opn bnd
def mdP (m:Md):Nat×Nat×List UInt8:=(m.ep,m.ver,m.x)
abbrev mdK (D:DD)(k:Nat):List Md:=mdp D.made D.puts.length (D.waits.take k)
structure Mid (D:DD)(y:LD)(k:Nat)(acs:List Ac):Prop where
  am:J0j acs=J0j y.acs
  n:∀a∈acs,a.ix=ixN D.vk a.l∧a.pf=pfN D.vk a.l
  e:∀a∈acs,a.es.map enP=((mdK D k).filter fun m=>decide (m.l=a.l)).map mdP
  be:∀a∈acs,∀q∈a.es,(q.u,q.x)∈y.bs
theorem Mid.start {D:DD}{y:LD}(h:LOk D y):Mid D y 0 y.acs:=⟨rfl,h.n,h.e,h.be⟩
theorem Y9x {a b:List Ac}(h:J0j a=J0j b):a.map (·.l)=b.map (·.l):=by
  have:=congrArg (List.map Prod.fst) h;unfold J0j at this
  rwa [List.map_map,List.map_map] at this
theorem Mid.labs {D:DD}{y:LD}{k:Nat}{acs:List Ac}(h:Mid D y k acs)(hL:LOk D y):acs.map (·.l)=D.labs:=(Y9x h.am).trans hL.a
theorem Mid.acc {D:DD}{y:LD}{k:Nat}{acs:List Ac}(h:Mid D y k acs)(hL:LOk D y){l:List UInt8}(hl:l∈D.labs):∃a∈acs,a.l=l:=by
  rw[←h.labs hL] at hl;exact List.mem_map.1 hl
theorem Mid.mlk {D:DD}{y:LD}{k:Nat}{acs:List Ac}(h:Mid D y k acs)(hL:LOk D y){a:Ac}(ha:a∈acs):mlk (J0j y.acs) a.l=some a.b:=by
  rw[←h.am];exact Q7r ha (by rw[h.labs hL];exact D.labs_nodup)
theorem Mid.len {D:DD}{y:LD}{k:Nat}{acs:List Ac}(h:Mid D y k acs){a:Ac}(ha:a∈acs):a.es.length=vct (mdK D k) a.l:=by
  have:=congrArg List.length (h.e a ha);rwa [List.length_map,List.length_map] at this
theorem Q7u {D:DD}{k:Nat}{p:J4u}(hp:D.waits[k]?=some p):mdK D (k+1)=mdK D k++[⟨p.1,p.2,D.puts.length,vct (mdK D k) p.1+1⟩]:=by
  unfold mdK;rw[List.take_add_one,hp];exact Z7p _ _ _ _
theorem Y3t (D:DD)(k:Nat):(mdK D k).length≤D.made.length+D.waits.length:=by
  unfold mdK;rw[Q5s,List.length_take];omega
theorem DOk.mdK {D:DD}(h:DOk D)(k:Nat):(mdK D k).length≤544:=by
  have:=Y3t D k;have:=h.made;have:=h.wl;have:=h.p2;omega
theorem Mid.step {D:DD}{y:LD}{k:Nat}{A0 A1:List Ac}{a:Ac}{p:Pv}{mv:Value}(h:Mid D y k (A0++a::A1))(hL:LOk D y)(hp:y.wps[k]?=some p)(hal:a.l=p.l):
    Mid D y (k+1) (A0++⟨a.b,a.l,a.ix,a.pf,mv,a.es++[⟨D.puts.length,a.es.length+1,p.xu,p.x⟩]⟩::A1):=by
  have hw:D.waits[k]?=some (pvP p):=by rw[←hL.w,List.getElem?_map,hp];rfl
  have N:((A0++a::A1).map (·.l)).Nodup:=by rw[h.labs hL];exact D.labs_nodup
  rw[List.map_append,List.map_cons] at N;have R:=List.nodup_cons.1 ((List.perm_middle.nodup_iff).1 N);have S:∀z∈A0++A1,z.l≠a.l:=fun z hz e=>R.1 (by rw[←List.map_append,←e];exact List.mem_map.2 ⟨z,hz,rfl⟩);have M:=Q7u hw
  have T:∀z:Ac,z.l≠a.l→((mdK D (k+1)).filter fun m=>decide (m.l=z.l))=(mdK D k).filter fun m=>decide (m.l=z.l):=fun z hz=>by
    rw[M,List.filter_append]
    have:List.filter (fun m=>decide (m.l=z.l)) [(⟨(pvP p).1,(pvP p).2,D.puts.length,vct (mdK D k) (pvP p).1+1⟩:Md)]=[]:=by
      rw[List.filter_cons_of_neg,List.filter_nil];simp only[decide_eq_true_eq];exact fun e=>hz (by rw[hal];exact e.symm)
    rw[this,List.append_nil]
  have J:∀z∈A0++A1,z∈A0++a::A1:=fun z hz=>by rcases List.mem_append.1 hz with hz|hz<;>simp[hz]
  have G:∀z∈A0++(⟨a.b,a.l,a.ix,a.pf,mv,a.es++[⟨D.puts.length,a.es.length+1,p.xu,p.x⟩]⟩:Ac)::A1,z∈A0++A1∨z=⟨a.b,a.l,a.ix,a.pf,mv,a.es++[⟨D.puts.length,a.es.length+1,p.xu,p.x⟩]⟩:=fun z hz=>by
    rcases List.mem_append.1 hz with hz|hz
    · exact .inl (by simp[hz])
    rcases List.mem_cons.1 hz with hz|hz
    · exact .inr hz
    exact .inl (by simp[hz])
  refine⟨?_,fun z hz=> ?_,fun z hz=> ?_,fun z hz q hq=> ?_⟩
  · rw[←h.am];unfold J0j;rw[List.map_append,List.map_append];rfl
  · rcases G z hz with hz|rfl
    · exact h.n z (J z hz)
    exact h.n a (by simp)
  · rcases G z hz with hz|rfl
    · rw[T z (S z hz)];exact h.e z (J z hz)
    show List.map enP (a.es++_)=_;rw[List.map_append,h.e a (by simp),M,List.filter_append,List.map_append]
    congr 1
    rw[h.len (a:=a) (by simp)];show[(D.puts.length,vct (mdK D k) a.l+1,p.x)]=_;rw[List.filter_cons_of_pos (by show decide ((pvP p).1=a.l)=true;rw[hal];exact decide_eq_true rfl),List.filter_nil,hal];rfl
  rcases G z hz with hz|rfl
  · exact h.be z (J z hz) q hq
  rcases List.mem_append.1 hq with hq|hq
  · exact h.be a (by simp) q hq
  rw[List.mem_singleton.1 hq];exact(hL.bw p (List.mem_of_getElem? hp)).2
abbrev trK (D:DD)(k:Nat):TR:=ofT ((mdK D k).map D.leaf)
theorem V4w {D:DD}(h:DOk D):D.tree (D.puts.length-1)=trK D 0:=by
  have:=h.pos;unfold DD.tree DD.lvs;rw[DD.upto_all (by omega)];rfl
theorem Z7q {D:DD}{k:Nat}{p:J4u}(hp:D.waits[k]?=some p){ix:Nat}{ver:Nat}(hi:ix=ixN D.vk p.1)(hv:ver=vct (mdK D k) p.1){R:Nat}(hR:R=bnd (opn D.bk ix ((ver+1:Nat):Int)) ix ((ver+1:Nat):Int) p.2):J2m ix R (trK D k) 0=trK D (k+1):=by
  unfold trK;rw[Q7u hp,List.map_append,List.map_cons,List.map_nil,Q7v];subst hi hv;rw[hR];rfl
theorem Z26 {D:DD}:D.nxt.tree D.puts.length=trK D D.waits.length:=by
  unfold DD.tree DD.lvs trK;rw[DD.upto_all (D:=D.nxt) (by rw[DD.nxt_len];exact Nat.le_refl _),DD.made_nxt];unfold mdK;rw[List.take_length];rfl
theorem Z7r {D:DD}(h:DOk D):D.nxt.link D.puts.length=lkn D.id (D.puts.length:Int) (rs (trK D D.waits.length)) (D.link (D.puts.length-1)):=by
  have hp:=h.pos;obtain⟨n,hn⟩:∃n,D.puts.length=n+1:=⟨D.puts.length-1,by omega⟩
  rw[←Z26,hn];show lkn D.nxt.id ((n+1:Nat):Int) (rs (D.nxt.tree (n+1))) (D.nxt.link n)=_;rw[DD.link_nxt (by omega)];rfl
def LD.nxt (y:LD)(acs:List Ac)(pv tv lv u:Value):LD:={y with acs:=acs,wv:=.slice none 0 0,pv:=pv,tv:=tv,lv:=lv,wps:=[],pvs:=y.pvs++[(y.wv,y.wps)],tus:=y.tus++[u]}
theorem Mid.done {D:DD}{y:LD}{acs:List Ac}{pv tv lv u:Value}(h:Mid D y D.waits.length acs)(hL:LOk D y):LOk D.nxt (y.nxt acs pv tv lv u) where
  w:=rfl
  p:=by show List.map _ (y.pvs++[_])=D.puts++[D.waits];rw[List.map_append,hL.p,←hL.w];rfl
  a:=by rw[DD.labs_nxt];exact h.labs hL
  n:=h.n
  e:=fun a ha=>by
    have h1:=h.e a ha;unfold mdK at h1;rw[List.take_length,←DD.made_nxt] at h1;exact h1
  i:=hL.i
  bw:=fun q hq=>by cases hq
  bp:=fun r hr q hq=>by
    rcases List.mem_append.1 hr with hr|hr
    · exact hL.bp r hr q hq
    · rw[List.mem_singleton.1 hr] at hq;exact hL.bw q hq
  be:=h.be
theorem DOk.nxt {D:DD}(h:DOk D)(he:D.puts.length≤D.E):DOk D.nxt where
  id1:=h.id1
  id2:=h.id2
  l1:=h.l1
  l2:=h.l2
  p1:=h.p1
  p2:=h.p2
  e1:=h.e1
  e2:=h.e2
  ep:=by rw[DD.nxt_len];show D.puts.length+1≤D.E+1;omega
  zero:=by
    have:=h.pos;show(D.puts++[D.waits])[0]?=_;rw[List.getElem?_append_left (by omega)];exact h.zero
  pl:=fun ps G=>by
    rcases List.mem_append.1 G with G|G
    · exact h.pl ps G
    rw[List.mem_singleton.1 G];exact h.wl
  wl:=Nat.zero_le _
  ll:=by rw[DD.labs_nxt];exact h.ll
  lab:=fun l hl=>h.lab l (by rw[DD.labs_nxt] at hl;exact hl)
  val:=fun q hq=>by
    refine h.val q ?_;have h1:q∈(D.puts++[D.waits]).flatten++[]:=hq
    rwa [List.append_nil,List.flatten_append,List.flatten_cons,List.flatten_nil,List.append_nil] at h1
end

section
set_option maxHeartbeats 3000000
attribute [local irreducible] wpList Y5 wpX
open S8 (Kn GA kP)
theorem Y9y (o i:Nat)(v:Int)(x:List UInt8):bnd o i v x<2^256:=V3w _ _
attribute [local irreducible] eI be8 hs4 lb J33 J25 K8 xt hm pbs rs S8.kP S8.kN S8.kD ofT ebs lk0 DD.links DD.trees DD.labs DD.made DD.tree DD.link ixN pfN erN opn bnd mdp lkn
theorem Y3v {D:DD}{y:LD}{acs:List Ac}{pv tv lv u:Value}(ha:J0j acs=J0j y.acs):ldL D.nxt (y.nxt acs pv tv lv u)=[.b y.p (Q7 [.c y.uid,.a 32 D.vk,.a 32 D.bk,.c (.int .i64 (D.L:Int)),.c (.int .i64 (D.P:Int)),.c (.int .i64 (D.E:Int)),.c (.map (some y.h)),.c (.slice none 0 0),.c pv,.c tv,.c lv]) 110,J2b y.h (J0j y.acs),acT acs,enT acs,.r 88 2 (.slice none 0 0) [],.r 83 1 pv (y.pvs.map J6q++[J6q (y.wv,y.wps)]),.r 115 1 tv (y.tus.map J2u++[J2u u]),.r 23 32 lv (D.links.map X6++[X6 (D.nxt.link D.puts.length)]),byT y.bs,rwT (y.pvs++[(y.wv,y.wps)]),taT (D.trees++[D.nxt.tree D.puts.length]) (y.tus++[u])]:=by
 unfold ldL;rw[DD.links_nxt,DD.trees_nxt];unfold LD.nxt;simp only[List.map_append,List.map_cons,List.map_nil,ha];rfl
theorem Z7s {ts:List TR}{us:List Value}{T:TR}{u:Value}{W:World}(h:taK ts us W)(hu:TA W T u):taK (ts++[T]) (us++[u]) W:=by
 refine⟨by rw[List.length_append,List.length_append,h.1];rfl,fun i T' u' h1 h2=> ?_⟩
 by_cases hi:i<ts.length
 ·
  rw[List.getElem?_append_left hi] at h1;rw[List.getElem?_append_left (by rw[←h.1];exact hi)] at h2;exact h.2 i T' u' h1 h2
 rw[List.getElem?_append_right (by omega)] at h1;rw[List.getElem?_append_right (by rw[←h.1];omega),←h.1] at h2;cases hj:i-ts.length with
 |zero=>rw[hj] at h1 h2;injection h1 with h1;injection h2 with h2;subst h1 h2;exact hu
 |succ j=>rw[hj] at h1;simp at h1
theorem SH.rwadd {F:List Nat}{w W:World}{H:List As}{y:LD}(h:SH F w W (.r 88 2 y.wv (y.wps.map pvC)::rwT y.pvs::H)):SH F w W (rwT (y.pvs++[(y.wv,y.wps)])::H):=by
 have h1:=h.row (i:=0) rfl;have h2:rwK y.pvs W:=(h.at_ (i:=1) rfl).1;refine SH.foldF (N:=[.r 88 2 y.wv (y.wps.map pvC),rwT y.pvs]) h (Q4m fun r hr=> ?_) fun k hk=> ?_
 ·
  rcases List.mem_append.1 hr with hr|hr
  ·
   exact h2 r hr
  rw[List.mem_singleton.1 hr];exact h1.rr
 obtain⟨r,hr,h4⟩:=List.mem_flatMap.1 hk;rcases List.mem_append.1 hr with hr|hr
 ·
  exact⟨rwT y.pvs,by simp,fun T K e=>(by cases e),List.mem_flatMap.2 ⟨r,hr,h4⟩⟩
 rw[List.mem_singleton.1 hr] at h4;exact⟨.r 88 2 y.wv (y.wps.map pvC),by simp,fun T K e=>(by cases e),Z2a h1 k h4⟩
theorem Y9z {D:DD}{y:LD}{w:World}(h1:Row 88 2 w y.wv (y.wps.map pvC)):OldF (ldL D y) w (J9l (y.pvs++[(y.wv,y.wps)])):=fun k hk=>by
 obtain⟨r,hr,h4⟩:=List.mem_flatMap.1 hk;rcases List.mem_append.1 hr with hr|hr
 ·
  exact OldF.mem (x:=rwT y.pvs) (by simp) (fun T K e=>(by cases e)) (fun k hk=>hk) k (List.mem_flatMap.2 ⟨r,hr,h4⟩)
 ·
  rw[List.mem_singleton.1 hr] at h4;exact OldF.mem (x:=.r 88 2 y.wv (y.wps.map pvC)) (by simp) (fun T K e=>(by cases e)) (fun k hk=>hk) k (Z2a h1 k h4)
theorem V00 {D:DD}{y:LD}{w:World}:OldF (ldL D y) w (J90 y.bs):=OldF.mem (x:=byT y.bs) (by simp) (fun T K e=>(by cases e)) (fun k hk=>hk)
theorem Z03 {α β:Type}(f:α→β)(l:List α)(x:α):(l++[x]).map f=l.map f++[f x]:=by rw[List.map_append];rfl
theorem SH.encl19 {F:List Nat}{w W:World}{H:List As}{A0 A1:List Ac}{b ix pf:Nat}{l:List UInt8}{mv:Value}{es:List En}{x:En}(h:SH F w W (.r 101 3 mv (es.map enC++[enC x])::enT (A0++A1)::H)):SH F w W (enT (A0++⟨b,l,ix,pf,mv,es++[x]⟩::A1)::H):=by
 rw[←Z03 enC es x] at h;exact SH.enclose (a:=⟨b,l,ix,pf,mv,es++[x]⟩) h
theorem Z7t {D:DD}{k:Nat}(h:DOk D):((mdK D k).map D.leaf).length≤1000:=by rw[List.length_map];have:=h.mdK k;omega
theorem V01 {D:DD}{k:Nat}{l:List UInt8}(h:DOk D):vct (mdK D k) l≤1000:=by unfold vct;have:=List.length_filter_le (fun m:Md=>decide (m.l=l)) (mdK D k);have:=h.mdK k;omega

theorem V02 {D:DD}{y:LD}(he:D.puts.length≤D.E)(w:World)(hL:LOk D y)(hK:DOk D)(h_:SH (SH.feet (ldL D y++[gx])) w w (ldL D y++[gx])):
  Calls Tryz.prog 17 #[.pointer (some ⟨y.p,0,none⟩)] w fun e w' =>Z7g D y (.tuple #[.int .i64 (D.puts.length:Int),.int .i64 0]) D.nxt [gx] (SH.feet (ldL D y++[gx])) w w' e:=by
 have M4:=hK.pos;have M0:=hK.len;have M1:=hL.wn hK;have G8:y.pvs.length=D.puts.length:=by rw[←hL.p,List.length_map]
 have G7:=DD.trees_len D;have G9:=DD.links_len D;have hS:SH (SH.feet (ldL D y++[gx])) w w [.b y.p (Q7 [.c y.uid,.a 32 D.vk,.a 32 D.bk,.c (.int .i64 (D.L:Int)),.c (.int .i64 (D.P:Int)),.c (.int .i64 (D.E:Int)),.c (.map (some y.h)),.c y.wv,.c y.pv,.c y.tv,.c y.lv]) 110,J2b y.h (J0j y.acs),acT y.acs,enT y.acs,.r 88 2 y.wv (List.map pvC y.wps),.r 83 1 y.pv (List.map J6q y.pvs),.r 115 1 y.tv (List.map J2u y.tus),.r 23 32 y.lv (List.map X6 D.links),byT y.bs,rwT y.pvs,taT D.trees y.tus,gx]:=h_;clear h_;have μ:Row 88 2 w y.wv (y.wps.map pvC):=hS.row (i:=4) rfl;obtain⟨Aw,cw,ew,_,D4⟩:=RR.opf μ.rr;obtain⟨G0,D6,θ,_,ω⟩:=RR.opf (hS.row (i:=6) rfl).rr;obtain⟨D7,G2,ν,_,Γ⟩:=RR.opf (hS.row (i:=7) rfl).rr;obtain⟨u0,S,M6⟩:=(DK.of (D:=D) (y:=y) (R:=[gx]) hS).tree (e:=D.puts.length-1) (by omega);have G1:=(DK.of (D:=D) (y:=y) (R:=[gx]) hS).ta.1;have G6:y.tus.length=D.puts.length:=by rw[←G1,DD.trees_len]
 obtain⟨D3,D9,β,_⟩:=ω.out (D.puts.length-1) u0 S;obtain⟨G5,G3,α,_⟩:=Γ.out (D.puts.length-1) _ (DD.links_at (by omega))
 go_enter Tryz.func17,Tryz.ntmps17
 go_upto_region 3 with fail;refine RL hS ?_;clear hS;(iterate 3 refine MV ?_);refine MG 0 ?_ (v:=y.lv) (hj:=(J9 (off:=72) 10));refine MF (v:=.int .i64 (D.puts.length:Int)) (fun W hS=>(by rw[show(D.puts.length:Int)=((List.map X6 D.links).length:Int) by rw[List.length_map,DD.links_len]];exact J0k (hS.row (i:=7) rfl) rfl rfl Tryz.underlying41)) ?_;refine MV ?_;refine MZ fun W hS=> ?_;go_upto_region 4 with fail;refine RL hS ?_;clear hS;(iterate 5 refine MV ?_);refine MG 0 ?_ (v:=.int .i64 (D.E:Int)) (hj:=(J9 (off:=67) 5));refine Wfo ?_;refine MZ fun W hS=> ?_;go_upto_region 6 with fail;refine RL hS ?_;clear hS;(iterate 3 refine MV ?_);refine MG 0 ?_ (v:=y.tv) (hj:=(J9 (off:=71) 9));refine MV ?_;refine MW ?_ (v:=.int .i64 ((D.puts.length-1:Nat):Int)) (hv:=by intro W;go_simp;(try simp only[IntKind.wrap_i64]);omega);refine MW ?_ (v:=.pointer (some ⟨D3,D9+(D.puts.length-1)*1,none⟩)) (hv:=fun _=>K0 β (List.getElem?_eq_some_iff.1 S).1 rfl (by exact θ) rfl Tryz.underlying108 (by kernel_rfl));refine MF (v:=u0) (fun W hS=>Q5 rfl rfl ((RR.cellat (A:=G0) (n:=y.tus.length) (c:=D6) (by have h_:=(hS.row (i:=6) rfl).rr;rw[θ] at h_;exact h_) (e:=J2u u0) (by rw[List.getElem?_map,S];rfl) β) 0 _ rfl) (by kernel_rfl)) ?_;refine MV ?_;refine MZ fun W hS=> ?_;go_upto_region 7 with fail;refine RL hS ?_;clear hS;(iterate 3 refine MV ?_);refine MG 0 ?_ (v:=y.wv) (hj:=(J9 (off:=69) 7));refine MF (v:=.int .i64 (y.wps.length:Int)) (fun W hS=>(by rw[show(y.wps.length:Int)=((List.map pvC y.wps).length:Int) by rw[List.length_map]];exact J0k (hS.row (i:=4) rfl) rfl rfl Tryz.underlying83)) ?_;refine W0 ?_;refine MZ fun W hS=> ?_;have hS:=hS.fact (TA.holds (T:=trK D 0) (u:=u0) (by rw[←V4w hK];exact(hS.at_ (i:=10) (x:=taT D.trees y.tus) rfl).1.2 (D.puts.length-1) _ _ (DD.trees_at (by omega)) S)) rfl
 go_wp2_with fail
 go_loopw [5,35] (fun uv jj wr=> ∃(k:Nat)(acs:List Ac)(u:Value),(k≤y.wps.length)∧(Mid D y k acs)∧(u=uv)∧(jj=.int .i64 (k:Int))∧SH (SH.feet (ldL D y++[gx])) w wr [.t 181 (fun W=>TA W (trK D k) u),.b y.p (Q7 [.c y.uid,.a 32 D.vk,.a 32 D.bk,.c (.int .i64 (D.L:Int)),.c (.int .i64 (D.P:Int)),.c (.int .i64 (D.E:Int)),.c (.map (some y.h)),.c y.wv,.c y.pv,.c y.tv,.c y.lv]) 110,J2b y.h (J0j y.acs),acT acs,enT acs,.r 88 2 y.wv (List.map pvC y.wps),.r 83 1 y.pv (List.map J6q y.pvs),.r 115 1 y.tv (List.map J2u y.tus),.r 23 32 y.lv (List.map X6 D.links),byT y.bs,rwT y.pvs,taT D.trees y.tus,gx])
  (fun uv jj _=>y.wps.length-(intOf jj).toNat)
 case atStart=>exact⟨0,y.acs,u0,Nat.zero_le _,Mid.start hL,rfl,rfl,hS⟩
 clear hS
 case round=>
  obtain⟨k,acs,u,hk,hM,rfl,rfl,hS⟩:=hrel
  by_cases N:k<y.wps.length
  ·
   obtain⟨p,ph⟩:∃x,y.wps[k]?=some x:=⟨_,List.getElem?_eq_getElem N⟩
   obtain⟨gw,ow,τ,_⟩:=D4.out k p ph;have γ:=List.mem_of_getElem? ph;have ψ:=(hL.bw p γ).1;have φ:=(hL.bw p γ).2;have D0:=hL.wl hK p γ;have χ:D.waits[k]?=some (pvP p):=by rw[←hL.w,List.getElem?_map,ph];rfl
   have Δ:p.l∈D.labs:=DD.mem_labs.2 ⟨pvP p,List.mem_append.2 (.inr (List.mem_of_getElem? χ)),rfl⟩;obtain⟨a,ha,J⟩:=hM.acc hL Δ;have G4:=hM.mlk hL ha;have ρ:=(hM.n a ha).1;have Y:=hM.len ha;obtain⟨A0,A1,rfl⟩:=List.append_of_mem ha;have ε:=Q1 ((hS.pp (i:=9) rfl) _ ψ);have δ:=Q1 ((hS.pp (i:=9) rfl) _ φ);go_upto_region 8 with fail;refine RL hS ?_;clear hS;refine Wto ?_;refine MZ fun W hS=> ?_;go_upto_region 9 with fail;refine RL hS ?_;clear hS;refine MW ?_ (v:=.pointer (some ⟨gw,ow+k*2,none⟩)) (hv:=fun _=>K0 τ N rfl (by exact ew) rfl Tryz.underlying83 (by kernel_rfl));refine MF (v:=.agg (Q7 [.c p.lu,.c p.xu])) (fun W hS=>V2 rfl rfl (fun i_ v hv=>(V4i (A:=Aw) (n:=y.wps.length) (c:=cw) (by have h_:=(hS.row (i:=5) rfl).rr;rw[ew] at h_;exact h_) ph τ) i_ v (by simpa using hv)) (by kernel_rfl) (by rw[J7];kernel_rfl)) ?_;refine MN (z:=Q7 [.c (.slice none 0 0),.c (.slice none 0 0)]) (t:=88) ?_;intro M5;refine MRa 0 ?_ (h1:=by exact(K9 ⟨ε.2,δ.2,trivial⟩));refine MZ fun W hS=> ?_;go_upto_region 10 with fail;refine RL hS ?_;clear hS;refine MV ?_;refine MV ?_;refine ML 0 ?_ (hs:=by rw[J7];kernel_rfl);refine MV ?_;refine MT (fun W hS=>hS.pick [4,0,1,2,3,5,6,7,8,9,10,11,12,13]) ?_;refine MT (fun W hS=>hS.acopen) ?_;refine MT (fun W hS=>hS.pick [6,0,1,2,3,4,5,7,8,9,10,11,12,13,14]) ?_;refine MT (fun W hS=>hS.enopen) ?_;obtain⟨O,hO⟩:=exn (opn D.bk a.ix ((a.es.length+1:Nat):Int));obtain⟨R,hR⟩:=exn (bnd (opn D.bk a.ix ((a.es.length+1:Nat):Int)) a.ix ((a.es.length+1:Nat):Int) p.x);refine ME (V:=fun z:Value×Value=>z.2) (fun W hS=>V4x [2,0,6,7,12,15,5] [1,3,4,8,9,10,11,13,14] hS (fun hT=>Y9w (l:=p.l) hO hR (by rw[←J];exact G4) ψ φ D0.2 (by rw[Y];exact V01 hK) (by rw[ρ];exact Z02 _ _) (by rw[hR];exact Y9y _ _ _ _) (V03 (Z7t hK)) (V04 (Z7t hK)) W hT) (fun _=>⟨.inr (.inl ⟨rfl,rfl⟩),.inr (.inl ⟨rfl,rfl⟩),.inl (by simp),.inl (by simp),.inl (by simp),.inl (by simp),.inr (.inr ⟨_,_,rfl,rfl⟩),trivial⟩)) ?_;rintro⟨U,u2⟩;dsimp only[List.cons_append,List.nil_append];have D5:=hM.step (mv:=U) hL ph J;refine MT (fun W hS=>hS.pick [0,8,1,2,3,4,5,6,7,9,10,11,12,13,14,15]) ?_;refine MT (fun W hS=>SH.acclose (a:=⟨a.b,a.l,a.ix,a.pf,U,a.es++[⟨D.puts.length,a.es.length+1,p.xu,p.x⟩]⟩) hS) ?_;refine MT (fun W hS=>hS.pick [1,7,0,2,3,4,5,6,8,9,10,11,12,13,14]) ?_;refine MT (fun W hS=>SH.encl19 (b:=a.b) (l:=a.l) (ix:=a.ix) (pf:=a.pf) hS) ?_;have Ξ:J2m a.ix R (trK D k) 0=trK D (k+1):=Z7q (p:=pvP p) (ver:=a.es.length) χ (by rw[ρ,J]) (by rw[Y,J]) hR;clear hR hO;refine MT (fun W hS=>by rw[Ξ] at hS;exact hS) ?_;refine MV ?_;refine MZ fun W hS=> ?_;go_wp2;go_roundw
   case rel=>exact⟨(k+1),(A0++⟨a.b,a.l,a.ix,a.pf,U,a.es++[⟨D.puts.length,a.es.length+1,p.xu,p.x⟩]⟩::A1),u2,by omega,D5,rfl,by go_num,(hS.pick [6,2,3,1,0,8,9,10,11,4,12,13,5])⟩
   case measure=>simp[intOf];omega
  obtain rfl:k=y.wps.length:=by omega
  go_upto_region 8 with fail;refine RL hS ?_;clear hS;refine Wfo ?_;refine MZ fun W hS=> ?_;go_upto_region 12 with fail;refine RTh (.vq 0 (.q 1 (.q 2 (.q 3 (.q 4 (.q 5 (.q 6 (.q 7 (.q 8 (.e 9 (.kq 10 (.q 11 (.q 12 (.e 13 .z)))))))))))))) hS ?_;clear hS;refine TvV ?_;(iterate 3 refine TV ?_);refine TG 1 ?_ (v:=y.pv) (hj:=(J9 (off:=70) 8));(iterate 3 refine TV ?_);refine TG 1 ?_ (v:=y.wv) (hj:=(J9 (off:=69) 7));refine TE (fun _ h=>h) ?_;refine MB (z:= #[y.wv]) (t:=83) (n:=1) (c:=1) ?_ (hr:=fun W hS=>X7 [y.wv] rfl rfl (vsc (Row.cells (hS.row (i:=5) rfl)).1 vs0) Tryz.underlying107 (by kernel_rfl) (by kernel_rfl) rfl (by decide) (by decide));intro M2;refine TNh (fun W hS=>hS.pick [1,2,3,4,5,6,7,8,9,10,11,12,13]) ?_;refine TK (fun _ h=>h) ?_;refine J06 (fun W hS=>(Row.cells (hS.row (i:=6) rfl)).2) ?_;intro η;refine MAr 7 0 (tS:=107) (bytes:=24) (es:=(List.map J6q y.pvs)) (by first|omega|(simp only[lA,lM,lT,lD,lC,lN,J8,Y9,Z0,Z5];omega)) (e:=([y.wv]:List Value)) (h1:=Y3w η) ?_;intro G;refine Z7e [0,1,3,4,5,6,7,8,9,10,11,12,13] ?_;refine TV ?_;refine TV ?_;refine TE (fun _ h=>h.pick [0,1,3,4,5,6,7,8,9,10,11,12,13]) ?_;refine J06 (fun W hS=>(Row.cells (hS.row (i:=7) rfl)).2) ?_;intro Ω;refine MP 2 (v:=G) (cs' :=Q7 [.c y.uid,.a 32 D.vk,.a 32 D.bk,.c (.int .i64 (D.L:Int)),.c (.int .i64 (D.P:Int)),.c (.int .i64 (D.E:Int)),.c (.map (some y.h)),.c y.wv,.c G,.c y.tv,.c y.lv]) ?_ (hs:=agl) (hc:=K2 (off:=70) 8) (hv:=fun W hS=>Row.cells (hS.row (i:=7) rfl));refine V8 [0,1,3,4,5,6,7,8,9,10,11,12,13] [0,1,2,3,4,5,6,7,8,9,10,11,12] ?_;refine TZ (fun _ h=>h.pick [0,1,3,4,5,6,7,8,9,10,11,12,13]) fun W hS=> ?_;go_upto_region 13 with fail;refine RL hS ?_;clear hS;(iterate 3 refine MV ?_);refine MP 2 (v:=.slice none 0 0) (cs' :=Q7 [.c y.uid,.a 32 D.vk,.a 32 D.bk,.c (.int .i64 (D.L:Int)),.c (.int .i64 (D.P:Int)),.c (.int .i64 (D.E:Int)),.c (.map (some y.h)),.c (.slice none 0 0),.c G,.c y.tv,.c y.lv]) ?_ (hs:=agl) (hc:=K2 (off:=69) 7);refine MZ fun W hS=> ?_;go_upto_region 14 with fail;refine RL hS ?_;clear hS;(iterate 4 refine MV ?_);refine MG 2 ?_ (v:=y.tv) (hj:=(J9 (off:=71) 9));refine MV ?_;refine MB (z:= #[u]) (t:=115) (n:=1) (c:=1) ?_ (hr:=fun W hS=>X7 [u] rfl rfl (vsc (TA.one (hS.tt (i:=1) rfl)).1 vs0) Tryz.underlying108 (by kernel_rfl) (by kernel_rfl) rfl (by decide) (by decide));intro M7;refine J06 (fun W hS=>(TA.one (hS.tt (i:=2) rfl)).2) ?_;intro ζ;refine MAr 9 0 (tS:=108) (bytes:=8) (es:=(List.map J2u y.tus)) (by first|omega|(simp only[lA,lM,lT,lD,lC,lN,J8,Y9,Z0,Z5];omega)) (e:=([u]:List Value)) (h1:=Y3w ζ) ?_;intro M;refine MV ?_;refine MV ?_;refine J06 (fun W hS=>(Row.cells (hS.row (i:=9) rfl)).2) ?_;intro Ψ;refine MP 3 (v:=M) (cs' :=Q7 [.c y.uid,.a 32 D.vk,.a 32 D.bk,.c (.int .i64 (D.L:Int)),.c (.int .i64 (D.P:Int)),.c (.int .i64 (D.E:Int)),.c (.map (some y.h)),.c (.slice none 0 0),.c G,.c M,.c y.lv]) ?_ (hs:=agl) (hc:=K2 (off:=71) 9) (hv:=fun W hS=>Row.cells (hS.row (i:=9) rfl));refine MZ fun W hS=> ?_;go_upto_region 15 with fail;refine RTh (.vq 0 (.q 1 (.q 2 (.q 3 (.q 4 (.q 5 (.q 6 (.q 7 (.q 8 (.q 9 (.q 10 (.q 12 (.q 13 (.q 14 (.q 15 (.q 16 (.q 17 (.q 18 (.q 19 (.e 11 (.e 20 (.e 21 (.kq 22 (.q 23 (.q 24 (.e 25 .z)))))))))))))))))))))))))) hS ?_;clear hS;refine TvV ?_;(iterate 3 refine TV ?_);refine TG 3 ?_ (v:=y.lv) (hj:=(J9 (off:=72) 10));(iterate 3 refine TV ?_);refine TG 3 ?_ (v:=y.uid) (hj:=(J9 (off:=0) 0));(iterate 5 refine TV ?_);refine TG 3 ?_ (v:=y.lv) (hj:=(J9 (off:=72) 10));refine TV ?_;refine TW ?_ (v:=.int .i64 ((D.puts.length-1:Nat):Int)) (hv:=by intro W;go_simp;(try simp only[IntKind.wrap_i64]);omega);refine TW ?_ (v:=.pointer (some ⟨G5,G3+(D.puts.length-1)*32,none⟩)) (hv:=fun _=>K0 α (show D.puts.length-1<D.links.length by rw[DD.links_len];omega) rfl (by exact ν) rfl Tryz.underlying41 (by kernel_rfl));refine TF (v:=.agg (J1 .u8 32 (J4 (D.link (D.puts.length-1))))) rfl (fun W hS=>V2 rfl rfl (fun i_ v hv=>(RR.cellat (A:=D7) (n:=D.links.length) (c:=G2) (by have h_:=(hS.row (i:=10) rfl).rr;rw[ν] at h_;exact h_) (e:=X6 (D.link (D.puts.length-1))) (by rw[List.getElem?_map,DD.links_at (by omega)];rfl) α) i_ v (by simpa using hv)) (by kernel_rfl) (by rw[J0];kernel_rfl)) ?_;refine TE (fun _ h=>h) ?_;obtain⟨U1,ξ⟩:=exh (rs (trK D y.wps.length));refine MC (v:=.agg (J1 .u8 32 (J4 U1))) (fun W hS=>(by rw[ξ.out];exact J4k W (hS.pp (i:=14) rfl).gt (hS.tt (i:=2) rfl))) ?_;refine TNh (fun W hS=>hS) ?_;refine TE (fun _ h=>h) ?_;obtain⟨U2,κ⟩:=exh (lkn D.id (D.puts.length:Int) U1 (D.link (D.puts.length-1)));refine MC (v:=.agg (J1 .u8 32 (J4 U2))) (fun W hS=>Z1m κ.out W (hS.pp (i:=14) rfl).gt ((hS.pp (i:=11) rfl) _ hL.i) (by have h_:=hK.id2;omega)) ?_;refine TNh (fun W hS=>hS) ?_;refine TE (fun _ h=>h) ?_;refine MB (z:=(J1 .u8 32 (J4 U2))) (t:=23) (n:=1) (c:=1) ?_ (hr:=fun W _=>J0v rfl rfl rfl Tryz.underlying41 (by rw[J0];kernel_rfl) (by rw[J0];kernel_rfl) (by rw[J0];decide) (by rw[J0];decide));intro M3;refine TNh (fun W hS=>hS.pick [1,2,3,4,5,6,7,8,9,10,11,12,13,14,15]) ?_;refine TK (fun _ h=>h) ?_;refine MAr 11 0 (tS:=41) (bytes:=32) (es:=(List.map X6 D.links)) (by first|omega|(simp only[lA,lM,lT,lD,lC,lN,J8,Y9,Z0,Z5];omega)) (e:=X6 U2) (hk:=J0 _ _ _) (h1:=by exact Y6 _ _ _) ?_;intro Z;refine Z7e [0,1,2,3,5,6,7,8,9,10,11,12,13,14,15] ?_;refine TV ?_;refine TV ?_;refine TE (fun _ h=>h.pick [0,1,2,3,5,6,7,8,9,10,11,12,13,14,15]) ?_;refine J06 (fun W hS=>(Row.cells (hS.row (i:=11) rfl)).2) ?_;intro Θ;refine MP 4 (v:=Z) (cs' :=Q7 [.c y.uid,.a 32 D.vk,.a 32 D.bk,.c (.int .i64 (D.L:Int)),.c (.int .i64 (D.P:Int)),.c (.int .i64 (D.E:Int)),.c (.map (some y.h)),.c (.slice none 0 0),.c G,.c M,.c Z]) ?_ (hs:=agl) (hc:=K2 (off:=72) 10) (hv:=fun W hS=>Row.cells (hS.row (i:=11) rfl));refine V8 [0,1,2,3,5,6,7,8,9,10,11,12,13,14,15] [0,1,2,3,4,5,6,7,8,9,10,11,12,13,14] ?_;refine TZ (fun _ h=>h.pick [0,1,2,3,5,6,7,8,9,10,11,12,13,14,15]) fun W hS=> ?_;have hA:=hS.pick [8,13,0,1,2,3,4,5,6,7,9,10,11,12,14,15];have hB:=hA.rwadd;have X:y.wps.length=D.waits.length:=by rw[←hL.w,List.length_map]
  have D1:U2=D.nxt.link D.puts.length:=by rw[Z7r hK,κ.out,ξ.out,X]
  have hT:=hB.tt (i:=4) rfl;rw[X,←Z26] at hT;have hC:=hB.rnil 88 2 rfl;have D8:=hC.fact (Q4n (Z7s (hC.at_ (i:=14) (x:=taT D.trees y.tus) rfl).1 hT)) rfl;have hE:=D8.pick [7,8,9,10,1,11,12,13,14,2,0,16];rw[D1] at hE;have σ:Mid D y D.waits.length acs:=by rw[←X];exact hM
  go_wp2;exact bodyPost_ret (v:=.tuple #[.int .i64 (D.puts.length:Int),.int .i64 0]) (by simp only[results,Tryz.results17];go_simp) rfl ⟨y.nxt acs G M Z u,rfl,σ.done hL,rfl,by rw[Y3v σ.am];exact hE,V00,Y9z μ⟩
end

section
attribute [local irreducible] wpList Y5 wpX
section
variable {P : Program} {ops : Array Oper} {md : Region.Mode}
end
section
variable {P : Program} {ops : Array Oper} {Q : Exit → Act → World → Prop} {E : Act → World → Prop} {F : List Nat} {w : World} {H : List As} {l : List Oper} {o : Oper} {a a' : Act} {b : Bool} {bs : List Bool}
end
end
end Go.Proofs.YteehbddkcnkhfaaGreatDoor

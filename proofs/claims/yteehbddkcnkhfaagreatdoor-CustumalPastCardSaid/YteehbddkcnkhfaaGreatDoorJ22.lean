/- Contracts and plain laws for custumalPast_holds. Conditions: the tables hold their numbers. -/
import Derived.Test.YteehbddkcnkhfaaGreatDoorJ21
open Go.RowKit
set_option maxRecDepth 100000
set_option linter.unusedSimpArgs false
set_option linter.unusedVariables false
namespace Go.Proofs.YteehbddkcnkhfaaGreatDoor
section
set_option maxHeartbeats 3000000
attribute [local irreducible] wpList Y5 wpX
open S8 (Kn GA kP)
theorem DK.tree {D:DD}{y:LD}{w:World}(h:DK D y w){e:Nat}(he:e<D.puts.length):∃u,y.tus[e]?=some u∧TA w (D.tree e) u:=by
 have h1:=h.ta;have hl:e<y.tus.length:=by rw[←h1.1,DD.trees_len];exact he
 exact⟨_,List.getElem?_eq_getElem hl,h1.2 e _ _ (DD.trees_at he) (List.getElem?_eq_getElem hl)⟩
def enP (e:En):Nat×Nat×List UInt8:=(e.ep,e.ver,e.x)
def ebs (es:List En):List (Value×List UInt8):=es.map fun e=>(e.u,e.x)
theorem Z7a (es:List En)(e:En):ebs (es++[e])=ebs es++[(e.u,e.x)]:=by unfold ebs;rw[List.map_append];rfl
attribute [local irreducible] eI be8 hs4 lb J33 J25 K8 xt hm pbs DD.tree DD.link rs S8.kP S8.kN S8.kD ofT ebs

theorem Z73 {f t:Nat}{D:DD}{y:LD}(w:World)(hX:GX w)(hD:DK D y w)(hL:LOk D y)(hK:DOk D)(hft:f≤t)(ht:t<D.puts.length):
  Calls Tryz.prog 13 #[.pointer (some ⟨y.p,0,none⟩),.int .i64 (f:Int),.int .i64 (t:Int)] w fun e w' => ∃u,e=.returned (.tuple #[u,.int .i64 0])∧SH [] w w' [.r 64 65 u ((List.range' f (t+1-f)).map (mkC D))]:=by
 have τ:=hK.pos;have ν:=hK.len;obtain⟨ξ,σ,ζ,_,U⟩:=RR.opf hD.tr.rr;obtain⟨φ,ρ,η,_,Y⟩:=RR.opf hD.lk.rr;have hS:=SH.nil [] w
 go_enter Tryz.func13,Tryz.ntmps13
 go_upto_region 3 with fail;refine RL hS ?_;clear hS;refine MV ?_;refine Wfo ?_;refine Wf ?_;refine MV ?_;refine MV ?_;refine Wfo ?_;refine Wf ?_;refine Wf ?_;refine MV ?_;refine MV ?_;refine MC (v:=.int .i64 ((D.puts.length-1:Nat):Int)) (fun W hS=>J3z W (hD.ext hS.ext) hL hK) ?_;refine Wfo ?_;refine Wf ?_;refine Wf ?_;refine MZ fun W hS=> ?_;have hS:=hS.rnil 64 65 rfl
 go_wp2_with fail
 go_loopw [8,9] (fun uv jj wr=> ∃(j:Nat)(sv:Value),(f≤j)∧(j≤t+1)∧(sv=uv)∧(jj=.int .i64 (j:Int))∧SH [] w wr [.r 64 65 sv (List.map (mkC D) (List.range' f (j-f)))])
  (fun uv jj _=>t+1-(intOf jj).toNat)
 case atStart=>exact⟨f,_,Nat.le_refl _,by omega,rfl,rfl,(by rw[Nat.sub_self];exact hS)⟩
 clear hS
 case round=>
  obtain⟨j,sv,χ,hk,rfl,rfl,hS⟩:=hrel;have κ:(List.range' f (j-f)).length=j-f:=List.length_range' ..
  by_cases N:j≤t
  ·
   have G:j<D.puts.length:=by omega
   obtain⟨M,J,β⟩:=hD.tree G;obtain⟨α,γ,V,X⟩:=U.out j M J;obtain⟨θ,δ,S,T⟩:=Y.out j _ (DD.links_at G);go_upto_region 7 with fail;refine RL hS ?_;clear hS;refine MV ?_;refine MV ?_;refine Wto ?_;refine MZ fun W hS=> ?_;go_upto_region 9 with fail;refine RTp [] (.q 0 (.q 1 (.q 2 (.q 3 (.q 4 (.q 5 (.q 6 (.q 7 (.q 8 (.q 10 (.q 11 (.q 12 (.q 13 (.q 14 (.q 15 (.q 16 (.e 9 (.q 17 (.e 18 (.e 19 (.q 20 .z))))))))))))))))))))) hS ?_;clear hS;(iterate 5 refine TV ?_);refine TF (v:=y.tv) rfl (fun W hS=>Q5 rfl rfl (by rw[J3 (J2 hD.d hS.ext)];exact(J9 (off:=71) 9)) (by kernel_rfl)) ?_;refine TV ?_;refine TW ?_ (v:=.pointer (some ⟨α,γ+j*1,none⟩)) (hv:=fun _=>K0 V (List.getElem?_eq_some_iff.1 J).1 rfl (by exact ζ) rfl Tryz.underlying108 (by kernel_rfl));refine TF (v:=M) rfl (fun W hS=>Q5 rfl rfl (J0e (X 0 _ rfl) hS.ext) (by kernel_rfl)) ?_;(iterate 3 refine TV ?_);refine TF (v:=y.lv) rfl (fun W hS=>Q5 rfl rfl (by rw[J3 (J2 hD.d hS.ext)];exact(J9 (off:=72) 10)) (by kernel_rfl)) ?_;refine TV ?_;refine TW ?_ (v:=.pointer (some ⟨θ,δ+j*32,none⟩)) (hv:=fun _=>K0 S (show j<D.links.length by rw[DD.links_len];exact G) rfl (by exact η) rfl Tryz.underlying41 (by kernel_rfl));refine TF (v:=.agg (J1 .u8 32 (J4 (D.link j)))) rfl (fun W hS=>V2 rfl rfl (fun i_ v hv=>J0e (T i_ v (by simpa using hv)) hS.ext) (by kernel_rfl) (by rw[J0];kernel_rfl)) ?_;refine TE (fun _ h=>h.pick []) ?_;obtain⟨U1,R⟩:=exh (rs (D.tree j));refine MC (v:=.agg (J1 .u8 32 (J4 U1))) (fun W hS=>(by rw[R.out];exact J4k W (hX.ext hS.ext).gt (β.ext hS.ext))) ?_;refine V8 [] [] ?_;refine TF (v:=.agg (Q7 [.c (.int .i64 (j:Int)),.a 32 U1,.a 32 (D.link j)])) rfl (fun W hS=>J34 [(0,[.c (.int .i64 (j:Int))]),(1,[.a 32 U1]),(2,[.a 32 (D.link j)])] rfl rfl Q1i Q1j (.c rfl (.c ((J1g _ _).symm) (.c ((J1g _ _).symm) .n)))) ?_;refine TE (fun _ h=>h.pick []) ?_;refine MB (z:=(Q7 [.c (.int .i64 (j:Int)),.a 32 U1,.a 32 (D.link j)])) (t:=64) (n:=1) (c:=1) ?_ (hr:=fun W _=>J0v rfl rfl rfl Tryz.underlying52 (by rw[J7];kernel_rfl) (by rw[J7];kernel_rfl) (by rw[J7];exact Nat.le_of_ble_eq_true (by kernel_rfl)) (by rw[J7];exact Nat.le_of_ble_eq_true (by kernel_rfl)));intro μ;refine V8 [0] [] ?_;refine TE (fun _ h=>h.pick [0]) ?_;refine MAr 1 0 (tS:=52) (bytes:=72) (es:=(List.map (mkC D) (List.range' f (j-f)))) (by first|omega|(simp only[lA,lM,lT,lD,lC,lN,J8,Y9,Z0,Z5];omega)) (e:=fcs [.c (.int .i64 (j:Int)),.a 32 U1,.a 32 (D.link j)]) (hk:=by rw[J7];kernel_rfl) (h1:=by exact(K9 ⟨rfl,trivial⟩)) (cs:=(Q7 [.c (.int .i64 (j:Int)),.a 32 U1,.a 32 (D.link j)])) ?_;intro ε;refine V8 [0,1] [0] ?_;refine TV ?_;refine TZ (fun _ h=>h) fun W hS=> ?_;have Z:mkC D j=fcs [.c (.int .i64 (j:Int)),.a 32 U1,.a 32 (D.link j)]:=by unfold mkC;rw[R.out]
   go_wp2;go_roundw
   case rel=>exact⟨(j+1),ε,by omega,by omega,rfl,by go_num,(by rw[show j+1-f=(j-f)+1 by omega,J92,show f+(j-f)=j by omega,List.map_append,List.map_cons,List.map_nil,Z];exact(hS.pick [1]))⟩
   case measure=>simp[intOf];omega
  go_upto_region 7 with fail;refine RL hS ?_;clear hS;refine MV ?_;refine MV ?_;refine Wfo ?_;refine MZ fun W hS=> ?_;go_wp2;exact bodyPost_ret (v:=.tuple #[sv,.int .i64 0]) (by simp only[results,Tryz.results13];go_simp) rfl ⟨_,rfl,by rw[show t+1-f=j-f by omega];exact hS.pick [0]⟩
theorem LOk.xl {D:DD}{y:LD}(h:LOk D y)(hK:DOk D){a:Ac}(ha:a∈y.acs){x:En}(hx:x∈a.es):x.x.length≤64:=by
 have h1:(x.ep,x.ver,x.x)∈(D.made.filter fun m=>decide (m.l=a.l)).map fun m=>(m.ep,m.ver,m.x):=by rw[←h.e a ha];exact List.mem_map.2 ⟨x,hx,rfl⟩
 obtain⟨m,hm,e⟩:=List.mem_map.1 h1;injection e with e1 e2
 injection e2 with e2 e3
 have h2:=(DD.made_mem (List.mem_filter.1 hm).1).2;rw[←e3];exact hK.val _ (List.mem_append.2 (.inl h2))
theorem LOk.en {D:DD}{y:LD}(h:LOk D y){a:Ac}(ha:a∈y.acs):a.es.length=(D.made.filter fun m=>decide (m.l=a.l)).length:=by
 have:=congrArg List.length (h.e a ha);rwa [List.length_map,List.length_map] at this
theorem Q5s {e:Nat}:∀(ps:List J4u) (ms:List Md),(mdp ms e ps).length=ms.length+ps.length
 |[],ms=>rfl
 |p::ps,ms=>by
  show(mdp (ms++_) e ps).length=_;rw[Q5s ps,List.length_append];simp;omega
theorem Z1z:∀(r:List (List J4u)) (ms:List Md) (e:Nat),(mdS ms e r).length=ms.length+r.flatten.length
 |[],ms,e=>by simp[mdS]
 |q::r,ms,e=>by
  show(mdS (mdp ms e q) (e+1) r).length=_;rw[Z1z r,Q5s,List.flatten_cons,List.length_append];omega
theorem DD.made_len (D:DD):D.made.length=D.puts.flatten.length:=by unfold DD.made;rw[Z1z];simp
theorem Z20 {α:Type}{n:Nat}:∀{ls:List (List α)},(∀l∈ls,l.length≤n)→ls.flatten.length≤ls.length*n
 |[],_=>by simp
 |l::ls,h=>by
  rw[List.flatten_cons,List.length_append,List.length_cons,Nat.add_mul,Nat.one_mul];have:=Z20 (ls:=ls) fun l hl=>h l (List.mem_cons_of_mem _ hl);have:=h l (by simp);omega
theorem DOk.made {D:DD}(h:DOk D):D.made.length≤528:=by
 rw[DD.made_len];have h1:=Z20 h.pl;have h2:D.puts.length*D.P≤33*16:=Nat.mul_le_mul (h.len) h.p2;omega
theorem LOk.el {D:DD}{y:LD}(h:LOk D y)(hK:DOk D){a:Ac}(ha:a∈y.acs):a.es.length≤528:=by
 rw[h.en ha];exact Nat.le_trans (List.length_filter_le _ _) hK.made
theorem Z7b {D:DD}{y:LD}(h:LOk D y)(hK:DOk D){a:Ac}(ha:a∈y.acs):1≤a.l.length∧a.l.length≤32:=by
 have:=hK.lab a.l (by rw[←h.a];exact List.mem_map.2 ⟨a,ha,rfl⟩);exact⟨this.1,this.2.1⟩
theorem Y3a {a:Ac}{v:Value}{D:DD}{y:LD}(w:World)(hD:DK D y w)(hL:LOk D y)(hK:DOk D)(hs:Sl w v a.l)(ha:a∈y.acs)(hpos:0<a.es.length):
  Calls Tryz.prog 18 #[.pointer (some ⟨y.p,0,none⟩),v] w fun e w' => ∃x:{x:Value×List En // x.2.map enP=a.es.map enP},e=.returned (.tuple #[x.1.1,.int .i64 0])∧SH [] w w' [.r 101 3 x.1.1 (x.1.2.map enC),obT (ebs x.1.2)]:=by
 have η:=hK.pos;have δ:=hK.len;have ε:=Z7b hL hK ha;have Z:1≤(a.l.length:Int)∧(a.l.length:Int)≤32:=by omega
 have κ:=hL.el hK ha;have S:a.es≠[]:=fun h=>by rw[h] at hpos;cases hpos
 obtain⟨Am,cm,T,_,β⟩:=RR.opf (hD.en.1 a ha).rr;have hS:=SH.nil [] w
 go_enter Tryz.func18,Tryz.ntmps18
 go_upto_region 1 with fail;refine RL hS ?_;clear hS;refine MV ?_;refine Wf ?_;refine Wf ?_;refine MV ?_;refine MC (v:=.bool true) (fun W hS=>(by have h_:=J2l W (J08 hs hS.ext);rw[show win _ 32=true from decide_eq_true Z] at h_;exact h_)) ?_;refine Wf ?_;refine Wf ?_;refine MZ fun W hS=> ?_;go_upto_region 3 with fail;refine RTh (.q 0 (.q 1 (.q 2 (.q 3 (.q 4 (.q 5 (.q 6 (.q 7 .z)))))))) hS ?_;clear hS;(iterate 3 refine TV ?_);refine TF (v:=.map (some y.h)) rfl (fun W hS=>Q5 rfl rfl (by rw[J3 (J2 hD.d hS.ext)];exact(J9 (off:=68) 6)) (by kernel_rfl)) ?_;refine TV ?_;refine TF (v:=str a.l) rfl (fun W hS=>J21 (J08 hs hS.ext) rfl rfl) ?_;refine TF (v:=.pointer (some ⟨a.b,0,none⟩)) rfl (fun W hS=>(by rw[show(.pointer (some ⟨a.b,0,none⟩):Value)=mpt (mlk (J0j y.acs) a.l) by rw[hL.mlk_s ha];rfl];exact J3h (J2y hD.m hS.ext) Tryz.underlying106 Tryz.underlying9 (by kernel_rfl) rfl rfl rfl)) ?_;refine TV ?_;refine TZ (fun _ h=>h) fun W hS=> ?_;go_upto_region 4 with fail;refine RL hS ?_;clear hS;refine MV ?_;refine MW ?_ (v:=.bool false) (hv:=by intro W;go_simp;first|done|rfl);refine Wf ?_;(iterate 3 refine MV ?_);refine MF (v:=a.mv) (fun W hS=>Q5 rfl rfl (by rw[J3 (J2 (hD.ac.1 a ha) hS.ext)];exact(J9 (off:=112) 2)) (by kernel_rfl)) ?_;refine MF (v:=.int .i64 (a.es.length:Int)) (fun W hS=>(by rw[show(a.es.length:Int)=((List.map enC a.es).length:Int) by rw[List.length_map]];exact J0k (Row.off (hD.en.1 a ha) hS.off0 f0) rfl rfl Tryz.underlying69)) ?_;refine MW ?_ (v:=.bool false) (hv:=by intro W;go_simp;first|done|omega|exact S|simp[S]);refine Wf ?_;refine MZ fun W hS=> ?_;go_upto_region 7 with fail;refine RL hS ?_;clear hS;(iterate 3 refine MV ?_);refine MF (v:=a.mv) (fun W hS=>Q5 rfl rfl (by rw[J3 (J2 (hD.ac.1 a ha) hS.ext)];exact(J9 (off:=112) 2)) (by kernel_rfl)) ?_;refine MF (v:=.int .i64 (a.es.length:Int)) (fun W hS=>(by rw[show(a.es.length:Int)=((List.map enC a.es).length:Int) by rw[List.length_map]];exact J0k (Row.off (hD.en.1 a ha) hS.off0 f0) rfl rfl Tryz.underlying69)) ?_;refine W0 ?_;refine MZ fun W hS=> ?_;have hS:=hS.rnil 101 3 rfl;have hS:=hS.obnil rfl
 go_wp2_with fail
 go_loopw [7,39] (fun uv jj wr=> ∃(k:Nat)(qs:List En)(sv:Value),(k≤a.es.length)∧(RowKit.Hid (qs.map enP=(a.es.take k).map enP))∧(sv=uv)∧(jj=.int .i64 (k:Int))∧SH [] w wr [obT (ebs qs),.r 101 3 sv (List.map enC qs)])
  (fun uv jj _=>a.es.length-(intOf jj).toNat)
 case atStart=>exact⟨0,[],_,Nat.zero_le _,Lib.hid rfl,rfl,rfl,(by have h_:=hS;unfold ebs;exact h_)⟩
 clear hS
 case round=>
  obtain⟨k,qs,sv,hk,hq,rfl,rfl,hS⟩:=hrel;have γ:qs.length=k:=by have h_:=congrArg List.length hq.out;rw[List.length_map,List.length_map,List.length_take] at h_;omega
  by_cases M:k<a.es.length
  ·
   obtain⟨x,xh⟩:∃x,a.es[k]?=some x:=⟨_,List.getElem?_eq_getElem M⟩
   obtain⟨gm,om,Y,_⟩:=β.out k x xh;have U:=Lib.hid Y;clear Y;have R:=List.mem_of_getElem? xh;have X:Sl w x.u x.x:=hD.by _ (hL.be a ha x R);have N:=Q1 X;have μ:x.x.length≤64:=hL.xl hK ha R;go_upto_region 8 with fail;refine RL hS ?_;clear hS;refine Wto ?_;refine MZ fun W hS=> ?_;go_upto_region 9 with fail;refine RL hS ?_;clear hS;refine MW ?_ (v:=.pointer (some ⟨gm,om+k*3,none⟩)) (hv:=fun _=>K0 U.out M rfl (by exact T) rfl Tryz.underlying69 (by kernel_rfl));refine MF (v:=.agg (Q7 [.c (.int .i64 (x.ep:Int)),.c (.int .i64 (x.ver:Int)),.c x.u])) (fun W hS=>V2 rfl rfl (fun i_ v hv=>(Y70 (A:=Am) (n:=a.es.length) (c:=cm) (by have h_:=(hD.en.1 a ha).rr.ext hS.ext;rw[T] at h_;exact h_) xh U.out) i_ v (by simpa using hv)) (by kernel_rfl) (by rw[J7];kernel_rfl)) ?_;refine MN (z:=Q7 [.c (.int .i64 0),.c (.int .i64 0),.c (.slice none 0 0)]) (t:=101) ?_;intro ζ;refine MRa 0 ?_ (h1:=by exact(K9 ⟨rfl,rfl,N.2,trivial⟩));refine MZ fun W hS=> ?_;go_upto_region 10 with fail;refine RL hS ?_;clear hS;refine MV ?_;refine MG 0 ?_ (v:=x.u) (hj:=(J9 (off:=2) 2));refine ME (V:=fun v=>v) (fun W hS=>J3f hS (J6r W (J08 X hS.ext) (by first|omega|(simp only[lA,lM,lT,lD,lC,lN,J8,Y9,Z0,Z5];omega))) (fun _=>⟨rfl,rfl⟩)) ?_;intro G;refine MV ?_;refine J06 (fun W hS=>(Q1 (hS.osl (i:=0) rfl)).2) ?_;intro J;refine MP 1 (v:=G) (cs' :=Q7 [.c (.int .i64 (x.ep:Int)),.c (.int .i64 (x.ver:Int)),.c G]) ?_ (hs:=agl) (hc:=K2 (off:=2) 2) (hv:=fun W hS=>Q1 (hS.osl (i:=0) rfl));refine MZ fun W hS=> ?_;go_upto_region 11 with fail;refine RL hS ?_;clear hS;refine MV ?_;refine ML 1 ?_ (hs:=by rw[J7];kernel_rfl);refine MB (z:=(Q7 [.c (.int .i64 (x.ep:Int)),.c (.int .i64 (x.ver:Int)),.c G])) (t:=101) (n:=1) (c:=1) ?_ (hr:=fun W _=>J0v rfl rfl rfl Tryz.underlying69 (by rw[J7];kernel_rfl) (by rw[J7];kernel_rfl) (by rw[J7];exact Nat.le_of_ble_eq_true (by kernel_rfl)) (by rw[J7];exact Nat.le_of_ble_eq_true (by kernel_rfl)));intro θ;refine MAr 4 0 (tS:=69) (bytes:=40) (es:=(List.map enC qs)) (by first|omega|(simp only[lA,lM,lT,lD,lC,lN,J8,Y9,Z0,Z5];omega)) (e:=enC (⟨x.ep,x.ver,G,x.x⟩:En)) (hk:=by rw[J7];kernel_rfl) (h1:=by exact(K9 ⟨rfl,rfl,J,trivial⟩)) (cs:=(Q7 [.c (.int .i64 (x.ep:Int)),.c (.int .i64 (x.ver:Int)),.c G])) ?_;intro α;refine MV ?_;refine MZ fun W hS=> ?_;go_wp2;go_roundw
   case rel=>exact⟨(k+1),(qs++[(⟨x.ep,x.ver,G,x.x⟩:En)]),α,by omega,Lib.hid (by rw[List.map_append,hq.out,Q7s xh];rfl),rfl,by go_num,(by have h_:=hS.pick [1,3,4];have h_:=h_.obadd;rw[Z7a,List.map_append];exact h_)⟩
   case measure=>simp[intOf];omega
  obtain rfl:k=a.es.length:=by omega
  rw[List.take_length] at hq;go_upto_region 8 with fail;refine RL hS ?_;clear hS;refine Wfo ?_;refine MZ fun W hS=> ?_;go_wp2;exact bodyPost_ret (v:=.tuple #[sv,.int .i64 0]) (by simp only[results,Tryz.results18];go_simp) rfl ⟨⟨(sv,qs),hq.out⟩,rfl,hS.pick [1,0]⟩
theorem Y39 {a:Ac}{v:Value}{D:DD}{y:LD}(w:World)(hD:DK D y w)(hL:LOk D y)(hK:DOk D)(hs:Sl w v a.l)(ha:a∈y.acs)(hz:a.es.length=0):
  Calls Tryz.prog 18 #[.pointer (some ⟨y.p,0,none⟩),v] w fun e w' =>X5 (.tuple #[.slice none 0 0,.int .i64 10]) w w' e:=by
 have J:=hK.pos;have N:=hK.len;have M:=Z7b hL hK ha;have G:1≤(a.l.length:Int)∧(a.l.length:Int)≤32:=by omega
 have Hz:=Lib.hid hz;clear hz;have hS:=SH.nil [] w
 go_enter Tryz.func18,Tryz.ntmps18
 go_upto_region 1 with fail;refine RL hS ?_;clear hS;refine MV ?_;refine Wf ?_;refine Wf ?_;refine MV ?_;refine MC (v:=.bool true) (fun W hS=>(by have h_:=J2l W (J08 hs hS.ext);rw[show win _ 32=true from decide_eq_true G] at h_;exact h_)) ?_;refine Wf ?_;refine Wf ?_;refine MZ fun W hS=> ?_;go_upto_region 3 with fail;refine RTh (.q 0 (.q 1 (.q 2 (.q 3 (.q 4 (.q 5 (.q 6 (.q 7 .z)))))))) hS ?_;clear hS;(iterate 3 refine TV ?_);refine TF (v:=.map (some y.h)) rfl (fun W hS=>Q5 rfl rfl (by rw[J3 (J2 hD.d hS.ext)];exact(J9 (off:=68) 6)) (by kernel_rfl)) ?_;refine TV ?_;refine TF (v:=str a.l) rfl (fun W hS=>J21 (J08 hs hS.ext) rfl rfl) ?_;refine TF (v:=.pointer (some ⟨a.b,0,none⟩)) rfl (fun W hS=>(by rw[show(.pointer (some ⟨a.b,0,none⟩):Value)=mpt (mlk (J0j y.acs) a.l) by rw[hL.mlk_s ha];rfl];exact J3h (J2y hD.m hS.ext) Tryz.underlying106 Tryz.underlying9 (by kernel_rfl) rfl rfl rfl)) ?_;refine TV ?_;refine TZ (fun _ h=>h) fun W hS=> ?_;go_upto_region 4 with fail;refine RL hS ?_;clear hS;refine MV ?_;refine MW ?_ (v:=.bool false) (hv:=by intro W;go_simp;first|done|rfl);refine Wf ?_;(iterate 3 refine MV ?_);refine MF (v:=a.mv) (fun W hS=>Q5 rfl rfl (by rw[J3 (J2 (hD.ac.1 a ha) hS.ext)];exact(J9 (off:=112) 2)) (by kernel_rfl)) ?_;refine MF (v:=.int .i64 0) (fun W hS=>(by rw[show(0:Int)=((List.map enC a.es).length:Int) by rw[List.length_map,Hz.out];rfl];exact J0k (Row.off (hD.en.1 a ha) hS.off0 f0) rfl rfl Tryz.underlying69)) ?_;refine Wto ?_;refine Wt ?_;refine MZ fun W hS=> ?_;go_wp2;exact bodyPost_ret (v:=.tuple #[.slice none 0 0,.int .i64 10]) (by simp only[results,Tryz.results18];go_simp) rfl ⟨rfl,hS.ext⟩
theorem Y3b {l:List UInt8}{v:Value}{D:DD}{y:LD}(w:World)(hD:DK D y w)(hL:LOk D y)(hK:DOk D)(hs:Sl w v l)(hn:l∉D.labs)(hla:1≤l.length∧l.length≤32):
  Calls Tryz.prog 18 #[.pointer (some ⟨y.p,0,none⟩),v] w fun e w' =>X5 (.tuple #[.slice none 0 0,.int .i64 10]) w w' e:=by
 have J:=hK.pos;have M:=hK.len;have G:1≤(l.length:Int)∧(l.length:Int)≤32:=by omega
 have hS:=SH.nil [] w
 go_enter Tryz.func18,Tryz.ntmps18
 go_upto_region 1 with fail;refine RL hS ?_;clear hS;refine MV ?_;refine Wf ?_;refine Wf ?_;refine MV ?_;refine MC (v:=.bool true) (fun W hS=>(by have h_:=J2l W (J08 hs hS.ext);rw[show win _ 32=true from decide_eq_true G] at h_;exact h_)) ?_;refine Wf ?_;refine Wf ?_;refine MZ fun W hS=> ?_;go_upto_region 3 with fail;refine RTh (.q 0 (.q 1 (.q 2 (.q 3 (.q 4 (.q 5 (.q 6 (.q 7 .z)))))))) hS ?_;clear hS;(iterate 3 refine TV ?_);refine TF (v:=.map (some y.h)) rfl (fun W hS=>Q5 rfl rfl (by rw[J3 (J2 hD.d hS.ext)];exact(J9 (off:=68) 6)) (by kernel_rfl)) ?_;refine TV ?_;refine TF (v:=str l) rfl (fun W hS=>J21 (J08 hs hS.ext) rfl rfl) ?_;refine TF (v:=.pointer none) rfl (fun W hS=>(by rw[show(.pointer none:Value)=mpt (mlk (J0j y.acs) l) by rw[hL.mlk_n hn];rfl];exact J3h (J2y hD.m hS.ext) Tryz.underlying106 Tryz.underlying9 (by kernel_rfl) rfl rfl rfl)) ?_;refine TV ?_;refine TZ (fun _ h=>h) fun W hS=> ?_;go_upto_region 4 with fail;refine RL hS ?_;clear hS;refine MV ?_;refine MW ?_ (v:=.bool true) (hv:=by intro W;go_simp;first|done|rfl);refine Wt ?_;(iterate 6 refine MS ?_);refine Wt ?_;refine MZ fun W hS=> ?_;go_wp2;exact bodyPost_ret (v:=.tuple #[.slice none 0 0,.int .i64 10]) (by simp only[results,Tryz.results18];go_simp) rfl ⟨rfl,hS.ext⟩
end

section
set_option maxHeartbeats 3000000
attribute [local irreducible] wpList Y5 wpX
open S8 (Kn GA kP)
def ahl (a:Nat)(ls:List Nat):Nat→Nat
 |0=>a
 |i+1=>ls.getD i 0
theorem Z6s {a i x:Nat}{ls:List Nat}(h:ls[i]?=some x):x=ahl a ls (i+1):=by
 show x=ls.getD i 0;rw[List.getD_eq_getElem?_getD,h];rfl
theorem V49 {a:Nat}{ls:List Nat}:a=ahl a ls 0:=rfl
def Z6t (id:List UInt8)(n a:Nat)(rs ls:List Nat):Prop:=rs.length=ls.length∧∀(i x y:Nat),ls[i]?=some x→rs[i]?=some y→x=lkn id ((n+i:Nat):Int) y (ahl a ls i)
attribute [local irreducible] eI be8 hs4 lb lkn lk0 hm ahl

theorem Z6u {id:List UInt8}{n a:Nat}{rs_ ls:List Nat}{vi vr vl:Value}(hn:n+ls.length≤1000000)(hst:Z6t id n a rs_ ls){q:Prop}(w:World)(hG:GT q w)(hi_:Sl w vi id)(hil:id.length≤100000000)(hr:RR 32 w vr (rs_.map X6))(hl:RR 32 w vl (ls.map X6)):
  Calls Tryz.prog 38 #[vi,.int .i64 (n:Int),.agg (J1 .u8 32 (J4 a)),vr,vl] w fun e w' =>X5 (.int .i64 0) w w' e:=by
 obtain⟨Ar,cr,rfl,κ,ε⟩:=RR.opf hr;obtain⟨Al,cl,rfl,θ,V⟩:=RR.opf hl;have Z:=Lib.hid hst.1;have hS:=SH.nil [] w
 go_enter Tryz.func38,Tryz.ntmps38
 go_upto_region 0 with fail;refine RL hS ?_;clear hS;refine MN (z:=J1 .u8 32 (J4 a)) (t:=23) ?_;intro γ;refine W0 ?_;refine MZ fun W hS=> ?_;go_upto_region 1 with fail;refine RL hS ?_;clear hS;(iterate 4 refine MV ?_);refine MW ?_ (v:=.bool false) (hv:=by intro W;have h_:=Z.out;go_simp;first|done|omega);refine MZ fun W hS=> ?_;go_upto_region 3 with fail;refine RL hS ?_;clear hS;refine MV ?_;refine MV ?_;refine W0 ?_;refine MZ fun W hS=> ?_
 go_wp2_with fail
 go_loopw [20] (fun ii wr=> ∃(i:Nat)(ah:Nat),(i≤ls.length)∧(RowKit.Hid (ah=ahl a ls i))∧(ii=.int .i64 (i:Int))∧SH [] w wr [.b γ (J1 .u8 32 (J4 ah)) 23])
  (fun ii _=>ls.length-(intOf ii).toNat)
 case atStart=>exact⟨0,a,Nat.zero_le _,Lib.hid V49,rfl,hS⟩
 clear hS
 case round=>
  obtain⟨i,ah,hi,δ,rfl,hS⟩:=hrel
  by_cases D:i<ls.length
  ·
   obtain⟨X,xh⟩:∃x,ls[i]?=some x:=⟨_,List.getElem?_eq_getElem D⟩
   have G:i<rs_.length:=by rw[hst.1];exact D
   obtain⟨Y,yh⟩:∃y,rs_[i]?=some y:=⟨_,List.getElem?_eq_getElem G⟩
   have T:RowKit.Hid (X=lkn id ((n+i:Nat):Int) Y ah):=Lib.hid (by rw[δ.out];exact hst.2 i X Y xh yh);obtain⟨β,α,M,N⟩:=V.out i X xh;have U:=Lib.hid M;clear M;obtain⟨ζ,η,J,R⟩:=ε.out i Y yh;have S:=Lib.hid J;clear J;go_upto_region 4 with fail;refine RL hS ?_;clear hS;refine Wto ?_;refine MZ fun W hS=> ?_;go_upto_region 5 with fail;refine RL hS ?_;clear hS;refine MV ?_;refine MW ?_ (v:=.pointer (some ⟨β,α+i*32,none⟩)) (hv:=fun _=>K0 U.out D rfl rfl rfl Tryz.underlying41 (by kernel_rfl));refine MF (v:=.agg (J1 .u8 32 (J4 X))) (fun W hS=>V2 rfl rfl (fun i_ v hv=>J0e ((fun j v hv=>N j v (by rw[Array.getElem?_toList];exact hv)) i_ v (by simpa using hv)) hS.ext) (by kernel_rfl) (by rw[J0];kernel_rfl)) ?_;refine MN (z:=J1 .u8 32 (J4 0)) (t:=23) ?_;intro μ;refine MV ?_;refine MR 0 ?_;refine MZ fun W hS=> ?_;go_upto_region 6 with fail;refine RTh (.q 0 (.q 1 (.q 2 (.q 3 (.q 4 (.q 5 (.q 6 (.q 7 (.q 8 (.q 9 (.q 10 (.q 11 (.q 12 (.e 13 (.q 14 .z))))))))))))))) hS ?_;clear hS;refine TL 0 ?_;refine TV ?_;refine TV ?_;refine TW ?_ (v:=.int .u64 (n:Int)) (hv:=by intro W;go_simp;(try simp only[IntKind.wrap_u64,IntKind.wrap_i64]);(try omega));refine TV ?_;refine TW ?_ (v:=.int .u64 (i:Int)) (hv:=by intro W;go_simp;(try simp only[IntKind.wrap_u64,IntKind.wrap_i64]);(try omega));refine TW ?_ (v:=.int .u64 ((n+i:Nat):Int)) (hv:=by intro W;go_simp;(try simp only[IntKind.wrap_u64,IntKind.wrap_i64]);(try omega));refine TW ?_ (v:=.int .i64 ((n+i:Nat):Int)) (hv:=by intro W;go_simp;(try simp only[IntKind.wrap_u64,IntKind.wrap_i64]);(try omega));refine TV ?_;refine TV ?_;refine TW ?_ (v:=.pointer (some ⟨ζ,η+i*32,none⟩)) (hv:=fun _=>K0 S.out G rfl rfl rfl Tryz.underlying41 (by kernel_rfl));refine TF (v:=.agg (J1 .u8 32 (J4 Y))) rfl (fun W hS=>V2 rfl rfl (fun i_ v hv=>J0e ((fun j v hv=>R j v (by rw[Array.getElem?_toList];exact hv)) i_ v (by simpa using hv)) hS.ext) (by kernel_rfl) (by rw[J0];kernel_rfl)) ?_;refine TL 1 ?_;refine TE (fun _ h=>h) ?_;refine MC (v:=.agg (J1 .u8 32 (J4 X))) (fun W hS=>Z1m (n:=((n+i:Nat):Int)) T.out W (J0f hG hS.ext) (J08 hi_ hS.ext) hil) ?_;refine TNh (fun W hS=>hS) ?_;refine TW ?_ (v:=.bool false) (hv:=fun _=>J2g ((fun w=>Z6v rfl w) _) (by kernel_rfl) rfl rfl rfl);refine TZ (fun _ h=>h) fun W hS=> ?_;go_upto_region 8 with fail;refine RL hS ?_;clear hS;refine ML 0 ?_;refine MR 1 ?_;refine MZ fun W hS=> ?_;go_wp2;go_roundw
   case rel=>exact⟨(i+1),X,by omega,Lib.hid (Z6s xh),by go_num,(hS.pick [1])⟩
   case measure=>simp[intOf];omega
  go_upto_region 4 with fail;refine RL hS ?_;clear hS;refine Wfo ?_;refine MZ fun W hS=> ?_;go_wp2;exact bodyPost_ret (v:=.int .i64 0) (by simp only[results,Tryz.results38];go_simp) rfl ⟨rfl,hS.ext⟩
end

section
def n32:Nat:=4294967296
theorem Z3z (n:Int)(h0:0≤n)(h1:n<2^32):IntKind.u32.wrap n=n:=by rw[IntKind.wrap_u32];omega
theorem Q9a (k:IntKind)(j:Nat)(hj:j≤k.bits)(hk:∀n:Int,0≤n→n<2^j→k.wrap n=n)(a b:Nat)(ha:a<2^j)(hb:b<2^j):bits .xor k a b=((a^^^b:Nat):Int):=by
  have hp:2^j≤2^k.bits:=Nat.pow_le_pow_right (by decide) hj;have ha' :a % 2^k.bits=a:=Nat.mod_eq_of_lt (Nat.lt_of_lt_of_le ha hp);have hb' :b % 2^k.bits=b:=Nat.mod_eq_of_lt (Nat.lt_of_lt_of_le hb hp);simp only[bits,BitVec.ofInt_natCast,BitVec.toNat_xor,BitVec.toNat_ofNat,ha',hb'];exact hk _ (Int.natCast_nonneg _) (by exact_mod_cast Nat.xor_lt_two_pow ha hb)
def Wn4 (x:Int)(a:Nat):Prop:=x=(a:Int)∧a<2^32
section
variable {x y : Int} {a b : Nat}
theorem Wn4.xo (h:Wn4 x a)(k:Wn4 y b):Wn4 (xo4 x y) (a^^^b):=⟨by rw[h.1,k.1];exact Q9a .u32 32 (by decide) Z3z a b h.2 k.2,Nat.xor_lt_two_pow h.2 k.2⟩
theorem Wn4.an (h:Wn4 x a)(k:Wn4 y b):Wn4 (an4 x y) (a &&& b):=⟨by rw[h.1,k.1];exact(bits_nat .u32 32 (by decide) Z3z a b h.2 k.2).1,Nat.and_lt_two_pow _ k.2⟩
theorem Wn4.oo (h:Wn4 x a)(k:Wn4 y b):Wn4 (oo4 x y) (a |||b):=⟨by rw[h.1,k.1];exact(bits_nat .u32 32 (by decide) Z3z a b h.2 k.2).2,Nat.or_lt_two_pow h.2 k.2⟩
theorem Wn4.nt (h:Wn4 x a):Wn4 (nt4 x) (4294967295^^^a):=⟨by rw[h.1];exact Q9a .u32 32 (by decide) Z3z _ a (by decide) h.2,Nat.xor_lt_two_pow (by decide) h.2⟩
theorem Wn4.ad (h:Wn4 x a)(k:Wn4 y b):Wn4 (ad4 x y) ((a+b) % n32):=⟨by rw[h.1,k.1];show IntKind.wrap .u32 ((a:Int)+b)=_;unfold n32;rw[IntKind.wrap_u32];omega,Nat.mod_lt _ (by decide)⟩
theorem Wn4.sl (h:Wn4 x a)(n:Nat):Wn4 (sl4 x n) (a*2^n % n32):=⟨by
  rw[h.1];show IntKind.wrap .u32 ((a:Int)*2^n)=_;unfold n32
  rw[IntKind.wrap_u32,Int.natCast_emod,Int.natCast_mul,Int.natCast_pow];rfl,Nat.mod_lt _ (by decide)⟩
theorem Wn4.sr (h:Wn4 x a)(n:Nat):Wn4 (sr4 x n) (a / 2^n):=⟨by
  rw[h.1];show(a:Int) / 2^n=_
  rw[Int.natCast_ediv,Int.natCast_pow];rfl,Nat.lt_of_le_of_lt (Nat.div_le_self _ _) h.2⟩
end
def Q45 (a n:Nat):Nat:=a / 2^n |||a*2^(32-n) % n32
theorem Wn4.rt {x:Int}{a:Nat}(h:Wn4 x a)(n:Nat):Wn4 (rt4 x n) (Q45 a n):=(h.sr n).oo (h.sl (32-n))
/-! ### The words of a block -/
def Y1y (b:Nat→Nat)(i:Nat):Nat→Nat
  |0=>0
  |k+1=>Y1y b i k*2^8 % n32 |||b (4*i+k)
def bN4 (l:List UInt8)(j:Nat):Nat:=(l.getD j 0).toNat
theorem V38 (l:List UInt8)(j:Nat):Wn4 (bt l j) (bN4 l j):=⟨rfl,Nat.lt_trans (l.getD j 0).toNat_lt (by decide)⟩
theorem Z40 (l:List UInt8)(i:Nat):∀k,Wn4 (J86 (bt l) i k) (Y1y (bN4 l) i k)
  |0=>⟨rfl,Nat.two_pow_pos 32⟩
  |k+1=>((Z40 l i k).sl 8).oo (V38 l _)
def K0m (l:List Nat):Nat:=
  let p:=l.getD 14 0
  let q:=l.getD 1 0
  (((l.getD 15 0+(Q45 p 7^^^Q45 p 18^^^p / 2^3)) % n32+l.getD 6 0) % n32+(Q45 q 17^^^Q45 q 19^^^q / 2^10)) % n32
def Q1g (b:Nat→Nat):Nat→List Nat
  |0=>[]
  |i+1=>(if i<16 then Y1y b i 4 else K0m (Q1g b i))::Q1g b i
theorem Z41 (l:List UInt8):∀i,∀j,j<i→Wn4 (Q9 (bt l) i j) ((Q1g (bN4 l) i).getD (i-1-j) 0)
  |0,_,h=>by omega
  |i+1,j,h=>by
    have ih:=Z41 l i;show Wn4 (upd (Q9 (bt l) i) i (if i<16 then J86 (bt l) i 4 else sg4 (Q9 (bt l) i) i) j) _;unfold upd Q1g
    by_cases e:j=i
    · subst e
      rw[if_pos rfl,show j+1-1-j=0 by omega,List.getD_cons_zero]
      by_cases h16:j<16
      · rw[if_pos h16,if_pos h16];exact Z40 l j 4
      · rw[if_neg h16,if_neg h16]
        have g:∀m,m<16→Wn4 (Q9 (bt l) j (j-(m+1))) ((Q1g (bN4 l) j).getD m 0):=fun m hm=>by
          have:=ih (j-(m+1)) (by omega)
          rwa [show j-1-(j-(m+1))=m by omega] at this
        have D:=g 14 (by decide);have g1:=g 1 (by decide);exact(((g 15 (by decide)).ad (((D.rt 7).xo (D.rt 18)).xo (D.sr 3))).ad (g 6 (by decide))).ad (((g1.rt 17).xo (g1.rt 19)).xo (g1.sr 10))
    · rw[if_neg e,show i+1-1-j=(i-1-j)+1 by omega,List.getD_cons_succ]
      exact ih j (by omega)
/-! ### The rounds -/
abbrev E8:=Nat×Nat×Nat×Nat×Nat×Nat×Nat×Nat
def Y8f (k w:Nat):E8→E8
  |(a,b,c,d,e,f,g,h)=>
    let t:=((((h+(Q45 e 6^^^Q45 e 11^^^Q45 e 25)) % n32+((e &&& f)^^^((4294967295^^^e) &&& g))) % n32+k) % n32+w) % n32
    let u:=((Q45 a 2^^^Q45 a 13^^^Q45 a 22)+((a &&& b)^^^(a &&& c)^^^(b &&& c))) % n32
    ((t+u) % n32,a,b,c,(d+t) % n32,e,f,g)
def Q9b (v:Nat→Int):E8→Prop
  |(a,b,c,d,e,f,g,h)=>Wn4 (v 0) a∧Wn4 (v 1) b∧Wn4 (v 2) c∧Wn4 (v 3) d∧Wn4 (v 4) e∧Wn4 (v 5) f∧Wn4 (v 6) g∧Wn4 (v 7) h
theorem Y6a {k w v:Nat→Int}{i kn wn:Nat}{s:E8}(hk:Wn4 (k i) kn)(hw:Wn4 (w i) wn)(h:Q9b v s):Q9b (V7p k w i v) (Y8f kn wn s):=by
  obtain⟨a,b,c,d,e,f,g,h'⟩:=s;obtain⟨h0,h1,h2,h3,h4,h5,h6,h7⟩:=h;have hT:Wn4 (rT4 k w i v) _:=(((h7.ad (((h4.rt 6).xo (h4.rt 11)).xo (h4.rt 25))).ad ((h4.an h5).xo (h4.nt.an h6))).ad hk).ad hw;have hU:Wn4 (rU4 v) _:=(((h0.rt 2).xo (h0.rt 13)).xo (h0.rt 22)).ad (((h0.an h1).xo (h0.an h2)).xo (h1.an h2));exact⟨hT.ad hU,h0,h1,h2,h3.ad hT,h4,h5,h6⟩
def Y6b (i:Nat):Nat:=(kk4.getD i 0).toNat
theorem V39 (i:Nat)(h:i<64):Wn4 (kf4 i) (Y6b i):=by
  have D:((List.range 64).all fun i=>decide (kf4 i=(Y6b i:Int)) && decide (Y6b i<2^32))=true:=by decide+kernel
  have:=List.all_eq_true.1 D i (List.mem_range.2 h);simp only[Bool.and_eq_true,decide_eq_true_eq] at this;exact this
def Q76 (W:List Nat)(s:E8):Nat→E8
  |0=>s
  |i+1=>Y8f (Y6b i) (W.getD (63-i) 0) (Q76 W s i)
theorem Q9c {l:List UInt8}{v:Nat→Int}{s:E8}(h:Q9b v s):∀i,i≤64→Q9b (Z6 kf4 (Q9 (bt l) 64) v i) (Q76 (Q1g (bN4 l) 64) s i)
  |0,_=>h
  |i+1,hi=>Y6a (V39 i (by omega)) (by have:=Z41 l 64 i (by omega);rwa [show 64-1-i=63-i by omega] at this) (Q9c h i (by omega))
def Y1z (l:List UInt8)(s:E8):E8:=
  match s,Q76 (Q1g (bN4 l) 64) s 64 with
  |(a,b,c,d,e,f,g,h),(a',b',c',d',e',f',g',h')=>((a+a') % n32,(b+b') % n32,(c+c') % n32,(d+d') % n32,(e+e') % n32,(f+f') % n32,(g+g') % n32,(h+h') % n32)
theorem Y6c {l:List UInt8}{v:Nat→Int}{s:E8}(h:Q9b v s):Q9b (J6j v (bt l)) (Y1z l s):=by
  have h2:=Q9c (l:=l) h 64 (Nat.le_refl _);unfold Y1z;generalize Q76 (Q1g (bN4 l) 64) s 64=s2 at*;obtain⟨a,b,c,d,e,f,g,h'⟩:=s;obtain⟨a2,b2,c2,d2,e2,f2,g2,k2⟩:=s2;obtain⟨h0,h1,D,h3,h4,h5,h6,h7⟩:=h;obtain⟨k0,k1,G,k3,k4,k5,k6,k7⟩:=h2;exact⟨h0.ad k0,h1.ad k1,D.ad G,h3.ad k3,h4.ad k4,h5.ad k5,h6.ad k6,h7.ad k7⟩
def V7t:E8:=(1779033703,3144134277,1013904242,2773480762,1359893119,2600822924,528734635,1541459225)
theorem V3a:Q9b hf4 V7t:=by refine⟨⟨?_,?_⟩,⟨?_,?_⟩,⟨?_,?_⟩,⟨?_,?_⟩,⟨?_,?_⟩,⟨?_,?_⟩,⟨?_,?_⟩,⟨?_,?_⟩⟩<;>decide+kernel
def Y20 (P:List UInt8):Nat→E8
  |0=>V7t
  |j+1=>Y1z (P.drop (64*j)) (Y20 P j)
theorem Y21 (P:List UInt8):∀j,Q9b (Hs4 P j) (Y20 P j)
  |0=>V3a
  |j+1=>Y6c (Y21 P j)
theorem Y22 {H:Nat→Int}{i a:Nat}(h:Wn4 (H i) a)(k:Nat)(hk:k<4):ob4 H (4*i+k)=((a / 2^(8*(3-k)) % 256:Nat):Int):=by
  unfold ob4;rw[show(4*i+k) / 4=i by omega,show(4*i+k) % 4=k by omega,(h.sr (8*(3-k))).1];unfold w8;rw[IntKind.wrap_u8];omega
theorem V8w:sm4 [97,98,99] 0=186∧sm4 [97,98,99] 31=173:=by
  have D:(Y20 (J1t [97,98,99]) (nb4 3)).1 / 2^(8*(3-0)) % 256=186∧(Y20 (J1t [97,98,99]) (nb4 3)).2.2.2.2.2.2.2 / 2^(8*(3-3)) % 256=173:=by decide+kernel
  have h:=Y21 (J1t [97,98,99]) (nb4 3);have e:sm4 [97,98,99]=ob4 (Hs4 (J1t [97,98,99]) (nb4 3)):=rfl;rw[e];generalize Hs4 (J1t [97,98,99]) (nb4 3)=H at*;generalize Y20 (J1t [97,98,99]) (nb4 3)=s at*;obtain⟨a,b,c,d,e,f,g,k⟩:=s;obtain⟨h0,_,_,_,_,_,_,h7⟩:=h;refine⟨?_,?_⟩
  · have:=Y22 (i:=0) h0 0 (by decide);rw[D.1] at this;exact this
  have:=Y22 (i:=7) h7 3 (by decide);rw[D.2] at this;exact this
end

section
set_option maxHeartbeats 3000000
attribute [local irreducible] wpList Y5 wpX
theorem abcB:J4 (hs4 [97,98,99]) 0=186∧J4 (hs4 [97,98,99]) 31=173:=by
 have h:=Q9m [97,98,99]
 have D:∀j,j<32→J4 (hs4 [97,98,99]) j=sm4 [97,98,99] j:=fun j hj=>by
  have h1:(J1 .u8 32 (sm4 [97,98,99]))[j]?=(J1 .u8 32 (J4 (hs4 [97,98,99])))[j]?:=by rw[h]
  rw[V3 _ _ _ _ hj,V3 _ _ _ _ hj] at h1;injection h1 with h1
  injection h1 with _ h1
  exact h1.symm
 rw[D 0 (by decide),D 31 (by decide)];exact V8w

theorem Z6w (w:World)(hG:GS4 w):
  Calls Tryz.prog 37 #[] w fun e w' =>X5 (.bool true) w w' e:=by
 obtain⟨H_,hH⟩:=exn (hs4 [97,98,99]);have M:RowKit.Hid (J4 H_ 0=186):=Lib.hid (by rw[hH];exact abcB.1);have J:RowKit.Hid (J4 H_ 31=173):=Lib.hid (by rw[hH];exact abcB.2);have HH:=Lib.hid hH;clear hH;have hS:=SH.nil [] w
 go_enter Tryz.func37,Tryz.ntmps37
 go_upto_region 1 with fail;refine RL hS ?_;clear hS;refine MO (m:=[97,98,99]) (n:=3) (z:= #[.int .u8 97,.int .u8 98,.int .u8 99]) ?_;intro D;refine MSm 0 (l:=[97,98,99]) (by first|decide|(simp only[List.length_append,List.length_cons,List.length_nil];omega)) ?_;refine MB (z:= #[D]) (t:=22) (n:=1) (c:=1) ?_ (hr:=fun W hS=>X7 [D] rfl rfl (vsc (Q1 (hS.sl (i:=0) rfl)).1 vs0) Tryz.underlying168 (by kernel_rfl) (by kernel_rfl) rfl (by decide) (by decide));intro N;refine MC (v:=.agg (J1 .u8 32 (J4 H_))) (fun W hS=>J6o HH.out [[97,98,99]] (some ⟨N,0,none⟩) 1 (by simp only[List.flatten_cons,List.flatten_nil,List.append_nil,List.nil_append,List.append_assoc,List.cons_append]) (by decide) (by simp) W (J15 (hS.blk (i:=0) rfl) (pvc (hS.sl (i:=1) rfl) pv0)) (J1e hG hS.ext)) ?_;refine MN (z:=J1 .u8 32 (J4 0)) (t:=23) ?_;intro G;refine MR 0 ?_;refine MZ fun W hS=> ?_;go_upto_region 2 with fail;refine RL hS ?_;clear hS;refine MW ?_ (v:=.pointer (some ⟨G,0+0,none⟩)) (hv:=fun _=>rxa Tryz.underlying23 (by decide));refine MG 0 ?_ (j:=0+0) (v:=.int .u8 ((J4 H_) 0)) (hj:=ag0 (by decide));refine MW ?_ (v:=.bool true) (hv:=by intro W;have h_:=M.out;go_simp;first|done|(simp only[h_];done)|(rw[h_];rfl)|omega);refine Wt ?_;refine MW ?_ (v:=.pointer (some ⟨G,0+31,none⟩)) (hv:=fun _=>rxa Tryz.underlying23 (by decide));refine MG 0 ?_ (j:=0+31) (v:=.int .u8 ((J4 H_) 31)) (hj:=ag0 (by decide));refine MW ?_ (v:=.bool true) (hv:=by intro W;have h_:=J.out;go_simp;first|done|(simp only[h_];done)|(rw[h_];rfl)|omega);refine Wt ?_;refine Wt ?_;refine MZ fun W hS=> ?_;go_wp2;exact bodyPost_ret (v:=.bool true) (by simp only[results,Tryz.results37];go_simp) rfl ⟨rfl,hS.ext⟩
end
end Go.Proofs.YteehbddkcnkhfaaGreatDoor

namespace Go.Proofs.YteehbddkcnkhfaaGreatDoor.S8
open Sc (LL J0p)
end Go.Proofs.YteehbddkcnkhfaaGreatDoor.S8
namespace Go.Proofs.YteehbddkcnkhfaaGreatDoor
section
end

section
set_option maxHeartbeats 3000000
attribute [local irreducible] wpList Y5 wpX
open S8 (Kn GA kP)
theorem DD.links_put (D:DD)(l x:List UInt8):(D.put l x).links=D.links:=by
 unfold DD.links;exact List.map_congr_left fun e _=>DD.link_put D l x e
theorem DD.trees_put (D:DD)(l x:List UInt8):(D.put l x).trees=D.trees:=rfl
def svK (vl:Value)(l:List UInt8)(vx:Value)(x:List UInt8)(W:World):Prop:=Sl W vl l∧Sl W vx x
abbrev svT (vl:Value)(l:List UInt8)(vx:Value)(x:List UInt8):As:=.p ((sb vl l).toList++(sb vx x).toList) (svK vl l vx x)
theorem Q4o {vl vx:Value}{l x:List UInt8}{w:World}(h1:Sl w vl l)(h2:Sl w vx x):(svT vl l vx x).holds w:=
 ⟨⟨h1,h2⟩,fun k hk=>(List.mem_append.1 hk).elim (fun h=>Sl.lt h1 k (As.mem_toList h)) (fun h=>Sl.lt h2 k (As.mem_toList h)),fun W' _ e=>⟨J8d h1 fun b hb=>e b (List.mem_append.2 (.inl (by rw[hb];simp))),J8d h2 fun b hb=>e b (List.mem_append.2 (.inr (by rw[hb];simp)))⟩⟩
attribute [local irreducible] ixN pfN erN
def LD.put (y:LD)(acs:List Ac)(wv c1 c2:Value)(l x:List UInt8):LD:={y with acs:=acs,wv:=wv,wps:=y.wps++[⟨c1,c2,l,x⟩],bs:=y.bs++[(c1,l),(c2,x)]}
theorem LOk.put {D:DD}{y:LD}(h:LOk D y){acs:List Ac}{wv c1 c2:Value}{l x:List UInt8}(ha:(acs=y.acs∧l∈D.labs)∨∃b,l∉D.labs∧acs=y.acs++[⟨b,l,ixN D.vk l,pfN D.vk l,.slice none 0 0,[]⟩]):LOk (D.put l x) (y.put acs wv c1 c2 l x) where
 w:=by show List.map pvP (y.wps++[_])=D.waits++[(l,x)];rw[List.map_append,h.w];rfl
 p:=h.p
 a:=by
  rw[DD.labs_put];rcases ha with⟨rfl,hl⟩|⟨b,hl,rfl⟩
  ·
   rw[if_pos hl];exact h.a
  ·
   rw[if_neg hl];show List.map _ (y.acs++[_])=_;rw[List.map_append,h.a];rfl
 n:=fun a hm=>by
  rcases ha with⟨rfl,hl⟩|⟨b,hl,rfl⟩
  ·
   exact h.n a hm
  rcases List.mem_append.1 hm with hm|hm
  ·
   exact h.n a hm
  rw[List.mem_singleton.1 hm];exact⟨(rfl:ixN D.vk l=ixN D.vk l),(rfl:pfN D.vk l=pfN D.vk l)⟩
 e:=fun a hm=>by
  rcases ha with⟨rfl,hl⟩|⟨b,hl,rfl⟩
  ·
   exact h.e a hm
  rcases List.mem_append.1 hm with hm|hm
  ·
   exact h.e a hm
  rw[List.mem_singleton.1 hm]
  have e0:(D.made.filter fun m=>decide (m.l=l))=[]:=List.filter_eq_nil_iff.2 fun m G=>by
   have h2:=(DD.made_mem G).2;simp only[decide_eq_true_eq];exact fun e=>hl (DD.mem_labs.2 ⟨(m.l,m.x),List.mem_append.2 (.inl h2),e⟩)
  show[]=List.map _ ((D.put l x).made.filter fun m=>decide (m.l=l));rw[DD.made_put,e0];rfl
 i:=List.mem_append.2 (.inl h.i)
 bw:=fun q hq=>by
  rcases List.mem_append.1 hq with hq|hq
  ·
   exact⟨List.mem_append.2 (.inl (h.bw q hq).1),List.mem_append.2 (.inl (h.bw q hq).2)⟩
  rw[List.mem_singleton.1 hq];exact⟨List.mem_append.2 (.inr (by simp)),List.mem_append.2 (.inr (by simp))⟩
 bp:=fun r hr q hq=>⟨List.mem_append.2 (.inl (h.bp r hr q hq).1),List.mem_append.2 (.inl (h.bp r hr q hq).2)⟩
 be:=fun a hm q hq=>by
  rcases ha with⟨rfl,hl⟩|⟨b,hl,rfl⟩
  ·
   exact List.mem_append.2 (.inl (h.be a hm q hq))
  rcases List.mem_append.1 hm with hm|hm
  ·
   exact List.mem_append.2 (.inl (h.be a hm q hq))
  rw[List.mem_singleton.1 hm] at hq;cases hq
structure PutOk (D:DD)(l x:List UInt8):Prop where
 l1:1≤l.length
 l2:l.length≤32
 x2:x.length≤64
 w:D.waits.length<D.P
 e:erN D.vk l=0
 n:l∉D.labs→D.labs.length<D.L
theorem DOk.put {D:DD}(h:DOk D){l x:List UInt8}(hp:PutOk D l x):DOk (D.put l x) where
 id1:=h.id1
 id2:=h.id2
 l1:=h.l1
 l2:=h.l2
 p1:=h.p1
 p2:=h.p2
 e1:=h.e1
 e2:=h.e2
 ep:=h.ep
 zero:=h.zero
 pl:=h.pl
 wl:=by show(D.waits++[_]).length≤D.P;rw[List.length_append];exact hp.w
 ll:=by
  rw[DD.labs_put]
  split
  ·
   exact h.ll
  ·
   rename_i hl;rw[List.length_append];exact hp.n hl
 lab:=fun m hm=>by
  rw[DD.labs_put] at hm
  split at hm
  ·
   exact h.lab m hm
  rcases List.mem_append.1 hm with hm|hm
  ·
   exact h.lab m hm
  rw[List.mem_singleton.1 hm];exact⟨hp.l1,hp.l2,hp.e⟩
 val:=fun q hq=>by
  rcases List.mem_append.1 hq with hq|hq
  ·
   exact h.val q (List.mem_append.2 (.inl hq))
  rcases List.mem_append.1 hq with hq|hq
  ·
   exact h.val q (List.mem_append.2 (.inr hq))
  rw[List.mem_singleton.1 hq];exact hp.x2
theorem Y3n {acs:List Ac}{l:List UInt8}{b:Nat}(h:mlk (J0j acs) l=some b):mst (J0j acs) l b=J0j acs:=by unfold mst;rw[h]
theorem Y3o {acs:List Ac}{l:List UInt8}{b ix pf:Nat}{v:Value}(h:mlk (J0j acs) l=none):mst (J0j acs) l b=J0j (acs++[⟨b,l,ix,pf,v,[]⟩]):=by unfold mst;rw[h];unfold J0j;rw[List.map_append];rfl
theorem SH.acadd {F:List Nat}{w W:World}{H:List As}{acs:List Ac}{a:Ac}(h:SH F w W (.b a.b (acF a) 119::acT acs::H)):SH F w W (acT (acs++[a])::H):=by
 have h1:=h.blk (i:=0) rfl;have h2:acK acs W:=(h.at_ (i:=1) rfl).1;have ha:=(h.ap2 (i:=0) (j:=1) rfl rfl (by decide)).1 rfl
 have hk:acK (acs++[a]) W:=by
  refine⟨fun z hz=> ?_,?_⟩
  ·
   rcases List.mem_append.1 hz with hz|hz
   ·
    exact h2.1 z hz
   rw[List.mem_singleton.1 hz];exact h1
  rw[List.map_append];refine List.nodup_append.2 ⟨h2.2,List.nodup_cons.2 ⟨by simp,.nil⟩,fun k hk j hj e=> ?_⟩;rw[List.map_cons,List.map_nil,List.mem_singleton] at hj;exact ha a.b (by simp[As.foot]) (by rw[←hj,←e];exact hk)
 refine h.merge rfl rfl rfl (J8e hk) fun k D=> ?_;rw[List.map_append] at D;rcases List.mem_append.1 D with D|D
 ·
  exact .inr D
 exact .inl D
theorem SH.ennil {F:List Nat}{w W:World}{H:List As}{acs:List Ac}{b ix pf:Nat}{l:List UInt8}(h:SH F w W (enT acs::H)):SH F w W (enT (acs++[⟨b,l,ix,pf,.slice none 0 0,[]⟩])::H):=by
 have h2:enK acs W:=(h.at_ (i:=0) rfl).1
 have hk:enK (acs++[⟨b,l,ix,pf,.slice none 0 0,[]⟩]) W:=by
  refine⟨fun z hz=> ?_,List.pairwise_append.2 ⟨h2.2,List.pairwise_singleton ..,fun a ha c hc k J D=> ?_⟩⟩
  ·
   rcases List.mem_append.1 hz with hz|hz
   ·
    exact h2.1 z hz
   rw[List.mem_singleton.1 hz];exact Z23 _ _ _
  rw[List.mem_singleton.1 hc] at D;cases D
 refine h.asM rfl rfl rfl (J8f hk) fun k G=> ?_;obtain⟨z,hz,h3⟩:=List.mem_flatMap.1 G;rcases List.mem_append.1 hz with hz|hz
 ·
  exact List.mem_flatMap.2 ⟨z,hz,h3⟩
 rw[List.mem_singleton.1 hz] at h3;cases h3
attribute [local irreducible] eI be8 hs4 lb J33 J25 K8 xt hm pbs rs S8.kP S8.kN S8.kD ofT ebs lk0 DD.links DD.trees DD.labs DD.made DD.tree DD.link

theorem Y9u {l x:List UInt8}{vl vx:Value}{D:DD}{y:LD}(w:World)(hX:GX w)(hD:DK D y w)(hL:LOk D y)(hK:DOk D)(hsl:Sl w vl l)(hsx:Sl w vx x)(hla:¬(1≤l.length∧l.length≤32)):
  Calls Tryz.prog 19 #[.pointer (some ⟨y.p,0,none⟩),vl,vx] w fun e w' =>X5 (.int .i64 1) w w' e:=by
 have J:=hK.pos;have M:=hK.len;have G:¬(1≤(l.length:Int)∧(l.length:Int)≤32):=by omega
 have hS:=SH.nil [] w
 go_enter Tryz.func19,Tryz.ntmps19
 go_upto_region 1 with fail;refine RL hS ?_;clear hS;refine MV ?_;refine Wf ?_;refine Wf ?_;refine MV ?_;refine MC (v:=.bool false) (fun W hS=>(by have h_:=J2l W (J08 hsl hS.ext);rw[show win _ 32=false from decide_eq_false G] at h_;exact h_)) ?_;(iterate 3 refine Wt ?_);(iterate 3 refine MS ?_);refine Wt ?_;refine Wt ?_;refine MZ fun W hS=> ?_;go_wp2;exact bodyPost_ret (v:=.int .i64 1) (by simp only[results,Tryz.results19];go_simp) rfl ⟨rfl,hS.ext⟩
theorem Y9v {l x:List UInt8}{vl vx:Value}{D:DD}{y:LD}(w:World)(hX:GX w)(hD:DK D y w)(hL:LOk D y)(hK:DOk D)(hsl:Sl w vl l)(hsx:Sl w vx x)(hla:1≤l.length∧l.length≤32)(hx2:64<x.length):
  Calls Tryz.prog 19 #[.pointer (some ⟨y.p,0,none⟩),vl,vx] w fun e w' =>X5 (.int .i64 1) w w' e:=by
 have J:=hK.pos;have M:=hK.len;have G:1≤(l.length:Int)∧(l.length:Int)≤32:=by omega
 have hS:=SH.nil [] w
 go_enter Tryz.func19,Tryz.ntmps19
 go_upto_region 1 with fail;refine RL hS ?_;clear hS;refine MV ?_;refine Wf ?_;refine Wf ?_;refine MV ?_;refine MC (v:=.bool true) (fun W hS=>(by have h_:=J2l W (J08 hsl hS.ext);rw[show win _ 32=true from decide_eq_true G] at h_;exact h_)) ?_;(iterate 3 refine Wf ?_);refine MV ?_;refine MF (v:=.int .i64 (x.length:Int)) (fun W hS=>J05 (J08 hsx hS.ext) rfl rfl) ?_;refine Wto ?_;refine Wt ?_;refine Wt ?_;refine MZ fun W hS=> ?_;go_wp2;exact bodyPost_ret (v:=.int .i64 1) (by simp only[results,Tryz.results19];go_simp) rfl ⟨rfl,hS.ext⟩
theorem V4m {l x:List UInt8}{vl vx:Value}{D:DD}{y:LD}(w:World)(hX:GX w)(hD:DK D y w)(hL:LOk D y)(hK:DOk D)(hsl:Sl w vl l)(hsx:Sl w vx x)(hla:1≤l.length∧l.length≤32)(hx2:x.length≤64)(hf:D.P≤D.waits.length):
  Calls Tryz.prog 19 #[.pointer (some ⟨y.p,0,none⟩),vl,vx] w fun e w' =>X5 (.int .i64 6) w w' e:=by
 have J:=hK.pos;have M:=hK.len;have G:1≤(l.length:Int)∧(l.length:Int)≤32:=by omega
 have hS:=SH.nil [] w
 go_enter Tryz.func19,Tryz.ntmps19
 go_upto_region 1 with fail;refine RL hS ?_;clear hS;refine MV ?_;refine Wf ?_;refine Wf ?_;refine MV ?_;refine MC (v:=.bool true) (fun W hS=>(by have h_:=J2l W (J08 hsl hS.ext);rw[show win _ 32=true from decide_eq_true G] at h_;exact h_)) ?_;(iterate 3 refine Wf ?_);refine MV ?_;refine MF (v:=.int .i64 (x.length:Int)) (fun W hS=>J05 (J08 hsx hS.ext) rfl rfl) ?_;refine Wfo ?_;refine Wf ?_;refine Wf ?_;refine MZ fun W hS=> ?_;go_upto_region 3 with fail;refine RTh (.q 0 (.q 1 (.q 2 (.q 3 (.q 4 (.q 5 (.q 6 (.q 7 (.q 8 (.q 9 (.q 10 (.q 11 .z)))))))))))) hS ?_;clear hS;(iterate 3 refine TV ?_);refine TF (v:=y.wv) rfl (fun W hS=>Q5 rfl rfl (by rw[J3 (J2 hD.d hS.ext)];exact(J9 (off:=69) 7)) (by kernel_rfl)) ?_;refine TF (v:=.int .i64 (D.waits.length:Int)) rfl (fun W hS=>(by rw[show(D.waits.length:Int)=((List.map pvC y.wps).length:Int) by rw[List.length_map,←hL.w,List.length_map]];exact J0k (Row.off hD.wt hS.off0 f0) rfl rfl Tryz.underlying83)) ?_;(iterate 4 refine TV ?_);refine TF (v:=.int .i64 (D.P:Int)) rfl (fun W hS=>Q5 rfl rfl (by rw[J3 (J2 hD.d hS.ext)];exact(J9 (off:=66) 4)) (by kernel_rfl)) ?_;refine Tto ?_;refine Tt ?_;refine TZ (fun _ h=>h) fun W hS=> ?_;go_wp2;exact bodyPost_ret (v:=.int .i64 6) (by simp only[results,Tryz.results19];go_simp) rfl ⟨rfl,hS.ext⟩
theorem V4n {l x:List UInt8}{vl vx:Value}{D:DD}{y:LD}(w:World)(hX:GX w)(hD:DK D y w)(hL:LOk D y)(hK:DOk D)(hsl:Sl w vl l)(hsx:Sl w vx x)(hla:1≤l.length∧l.length≤32)(hx2:x.length≤64)(hf:D.waits.length<D.P)(hn:l∉D.labs)(hm_:D.L≤D.labs.length):
  Calls Tryz.prog 19 #[.pointer (some ⟨y.p,0,none⟩),vl,vx] w fun e w' =>X5 (.int .i64 6) w w' e:=by
 have J:=hK.pos;have M:=hK.len;have G:1≤(l.length:Int)∧(l.length:Int)≤32:=by omega
 have hS:=SH.nil [] w
 go_enter Tryz.func19,Tryz.ntmps19
 go_upto_region 1 with fail;refine RL hS ?_;clear hS;refine MV ?_;refine Wf ?_;refine Wf ?_;refine MV ?_;refine MC (v:=.bool true) (fun W hS=>(by have h_:=J2l W (J08 hsl hS.ext);rw[show win _ 32=true from decide_eq_true G] at h_;exact h_)) ?_;(iterate 3 refine Wf ?_);refine MV ?_;refine MF (v:=.int .i64 (x.length:Int)) (fun W hS=>J05 (J08 hsx hS.ext) rfl rfl) ?_;refine Wfo ?_;refine Wf ?_;refine Wf ?_;refine MZ fun W hS=> ?_;go_upto_region 3 with fail;refine RTh (.q 0 (.q 1 (.q 2 (.q 3 (.q 4 (.q 5 (.q 6 (.q 7 (.q 8 (.q 9 (.q 10 (.q 11 .z)))))))))))) hS ?_;clear hS;(iterate 3 refine TV ?_);refine TF (v:=y.wv) rfl (fun W hS=>Q5 rfl rfl (by rw[J3 (J2 hD.d hS.ext)];exact(J9 (off:=69) 7)) (by kernel_rfl)) ?_;refine TF (v:=.int .i64 (D.waits.length:Int)) rfl (fun W hS=>(by rw[show(D.waits.length:Int)=((List.map pvC y.wps).length:Int) by rw[List.length_map,←hL.w,List.length_map]];exact J0k (Row.off hD.wt hS.off0 f0) rfl rfl Tryz.underlying83)) ?_;(iterate 4 refine TV ?_);refine TF (v:=.int .i64 (D.P:Int)) rfl (fun W hS=>Q5 rfl rfl (by rw[J3 (J2 hD.d hS.ext)];exact(J9 (off:=66) 4)) (by kernel_rfl)) ?_;refine Tfo ?_;refine Tf ?_;refine TZ (fun _ h=>h) fun W hS=> ?_;go_upto_region 5 with fail;refine RTh (.q 0 (.q 1 (.q 2 (.q 3 (.q 4 (.q 5 (.q 6 (.q 7 (.q 8 (.q 9 (.q 10 (.q 11 (.q 12 (.q 13 (.q 14 (.q 15 (.q 16 (.q 17 (.q 18 (.q 19 (.q 20 (.q 21 .z)))))))))))))))))))))) hS ?_;clear hS;(iterate 3 refine TV ?_);refine TF (v:=.map (some y.h)) rfl (fun W hS=>Q5 rfl rfl (by rw[J3 (J2 hD.d hS.ext)];exact(J9 (off:=68) 6)) (by kernel_rfl)) ?_;refine TV ?_;refine TF (v:=str l) rfl (fun W hS=>J21 (J08 hsl hS.ext) rfl rfl) ?_;refine TF (v:=.pointer none) rfl (fun W hS=>(by rw[show(.pointer none:Value)=mpt (mlk (J0j y.acs) l) by rw[hL.mlk_n hn];rfl];exact J3h (J2y hD.m hS.ext) Tryz.underlying106 Tryz.underlying9 (by kernel_rfl) rfl rfl rfl)) ?_;refine TW ?_ (v:=.bool true) (hv:=by intro W;go_simp;first|done|rfl);refine Tt ?_;(iterate 3 refine TV ?_);refine TF (v:=.map (some y.h)) rfl (fun W hS=>Q5 rfl rfl (by rw[J3 (J2 hD.d hS.ext)];exact(J9 (off:=68) 6)) (by kernel_rfl)) ?_;refine TF (v:=.int .i64 (D.labs.length:Int)) rfl (fun W hS=>(by rw[show(D.labs.length:Int)=((J0j y.acs).length:Int) by unfold J0j;rw[List.length_map,←hL.a,List.length_map]];exact Q2r (J2y hD.m hS.ext) Tryz.underlying106 rfl rfl rfl)) ?_;(iterate 4 refine TV ?_);refine TF (v:=.int .i64 (D.L:Int)) rfl (fun W hS=>Q5 rfl rfl (by rw[J3 (J2 hD.d hS.ext)];exact(J9 (off:=65) 3)) (by kernel_rfl)) ?_;refine Tto ?_;refine Tt ?_;refine Tt ?_;refine TZ (fun _ h=>h) fun W hS=> ?_;go_wp2;exact bodyPost_ret (v:=.int .i64 6) (by simp only[results,Tryz.results19];go_simp) rfl ⟨rfl,hS.ext⟩
theorem V4o {l x:List UInt8}{vl vx:Value}{D:DD}{y:LD}(w:World)(hX:GX w)(hD:DK D y w)(hL:LOk D y)(hK:DOk D)(hsl:Sl w vl l)(hsx:Sl w vx x)(hla:1≤l.length∧l.length≤32)(hx2:x.length≤64)(hf:D.waits.length<D.P)(hn:l∉D.labs)(hm_:D.labs.length<D.L){E:Nat}(hE:E=erN D.vk l)(hz:E≠0):
  Calls Tryz.prog 19 #[.pointer (some ⟨y.p,0,none⟩),vl,vx] w fun e w' =>X5 (.int .i64 (E:Int)) w w' e:=by
 have J:=hK.pos;have M:=hK.len;have G:1≤(l.length:Int)∧(l.length:Int)≤32:=by omega
 have hS:=SH.nil [] w
 go_enter Tryz.func19,Tryz.ntmps19
 go_upto_region 1 with fail;refine RL hS ?_;clear hS;refine MV ?_;refine Wf ?_;refine Wf ?_;refine MV ?_;refine MC (v:=.bool true) (fun W hS=>(by have h_:=J2l W (J08 hsl hS.ext);rw[show win _ 32=true from decide_eq_true G] at h_;exact h_)) ?_;(iterate 3 refine Wf ?_);refine MV ?_;refine MF (v:=.int .i64 (x.length:Int)) (fun W hS=>J05 (J08 hsx hS.ext) rfl rfl) ?_;refine Wfo ?_;refine Wf ?_;refine Wf ?_;refine MZ fun W hS=> ?_;go_upto_region 3 with fail;refine RTh (.q 0 (.q 1 (.q 2 (.q 3 (.q 4 (.q 5 (.q 6 (.q 7 (.q 8 (.q 9 (.q 10 (.q 11 .z)))))))))))) hS ?_;clear hS;(iterate 3 refine TV ?_);refine TF (v:=y.wv) rfl (fun W hS=>Q5 rfl rfl (by rw[J3 (J2 hD.d hS.ext)];exact(J9 (off:=69) 7)) (by kernel_rfl)) ?_;refine TF (v:=.int .i64 (D.waits.length:Int)) rfl (fun W hS=>(by rw[show(D.waits.length:Int)=((List.map pvC y.wps).length:Int) by rw[List.length_map,←hL.w,List.length_map]];exact J0k (Row.off hD.wt hS.off0 f0) rfl rfl Tryz.underlying83)) ?_;(iterate 4 refine TV ?_);refine TF (v:=.int .i64 (D.P:Int)) rfl (fun W hS=>Q5 rfl rfl (by rw[J3 (J2 hD.d hS.ext)];exact(J9 (off:=66) 4)) (by kernel_rfl)) ?_;refine Tfo ?_;refine Tf ?_;refine TZ (fun _ h=>h) fun W hS=> ?_;go_upto_region 5 with fail;refine RTh (.q 0 (.q 1 (.q 2 (.q 3 (.q 4 (.q 5 (.q 6 (.q 7 (.q 8 (.q 9 (.q 10 (.q 11 (.q 12 (.q 13 (.q 14 (.q 15 (.q 16 (.q 17 (.q 18 (.q 19 (.q 20 (.q 21 .z)))))))))))))))))))))) hS ?_;clear hS;(iterate 3 refine TV ?_);refine TF (v:=.map (some y.h)) rfl (fun W hS=>Q5 rfl rfl (by rw[J3 (J2 hD.d hS.ext)];exact(J9 (off:=68) 6)) (by kernel_rfl)) ?_;refine TV ?_;refine TF (v:=str l) rfl (fun W hS=>J21 (J08 hsl hS.ext) rfl rfl) ?_;refine TF (v:=.pointer none) rfl (fun W hS=>(by rw[show(.pointer none:Value)=mpt (mlk (J0j y.acs) l) by rw[hL.mlk_n hn];rfl];exact J3h (J2y hD.m hS.ext) Tryz.underlying106 Tryz.underlying9 (by kernel_rfl) rfl rfl rfl)) ?_;refine TW ?_ (v:=.bool true) (hv:=by intro W;go_simp;first|done|rfl);refine Tt ?_;(iterate 3 refine TV ?_);refine TF (v:=.map (some y.h)) rfl (fun W hS=>Q5 rfl rfl (by rw[J3 (J2 hD.d hS.ext)];exact(J9 (off:=68) 6)) (by kernel_rfl)) ?_;refine TF (v:=.int .i64 (D.labs.length:Int)) rfl (fun W hS=>(by rw[show(D.labs.length:Int)=((J0j y.acs).length:Int) by unfold J0j;rw[List.length_map,←hL.a,List.length_map]];exact Q2r (J2y hD.m hS.ext) Tryz.underlying106 rfl rfl rfl)) ?_;(iterate 4 refine TV ?_);refine TF (v:=.int .i64 (D.L:Int)) rfl (fun W hS=>Q5 rfl rfl (by rw[J3 (J2 hD.d hS.ext)];exact(J9 (off:=65) 3)) (by kernel_rfl)) ?_;refine Tfo ?_;refine Tf ?_;refine Tf ?_;refine TZ (fun _ h=>h) fun W hS=> ?_;go_upto_region 7 with fail;refine RL hS ?_;clear hS;refine MV ?_;refine MV ?_;refine MC (v:=.tuple #[.pointer none,.int .i64 (E:Int)]) (fun W hS=>Z1y hE hn hz W (hX.ext hS.ext) (hD.ext hS.ext) hL (J08 hsl hS.ext) hla.2) ?_;(iterate 5 refine MV ?_);refine MZ fun W hS=> ?_;go_upto_region 8 with fail;refine RL hS ?_;clear hS;refine MV ?_;refine Wto ?_;refine MZ fun W hS=> ?_;go_wp2;exact bodyPost_ret (v:=.int .i64 (E:Int)) (by simp only[results,Tryz.results19];go_simp) rfl ⟨rfl,hS.ext⟩
end
end Go.Proofs.YteehbddkcnkhfaaGreatDoor

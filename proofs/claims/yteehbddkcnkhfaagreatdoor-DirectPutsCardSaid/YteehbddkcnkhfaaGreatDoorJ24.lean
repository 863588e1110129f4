/- Contracts and plain laws for directPuts_holds. Conditions: the tables hold their numbers. -/
import Derived.Test.YteehbddkcnkhfaaGreatDoorJ23
open Go.RowKit
set_option maxRecDepth 100000
set_option linter.unusedSimpArgs false
set_option linter.unusedVariables false
namespace Go.Proofs.YteehbddkcnkhfaaGreatDoor
section
set_option maxHeartbeats 3000000
attribute [local irreducible] wpList Y8 wpX
theorem J58 {P:Program}{α:Type}{f:FuncId}{args:Array Value}{F:List Nat}{w W:World}{H:List As}{V:α→Value}{X:α→List As}(hS:SH F w W H)(hc:Calls P f args W fun e W' => ∃x,e=.returned (V x)∧SH [] W W' (X x))(ht:∀x,(X x).all (fun y=>y.mv &&(match y with| .t _ _=>false|_=>true) && H.all (SH.tyOk y))=true):
  Calls P f args W fun e W' => ∃x,e=.returned (V x)∧SH F w W' (X x++H):=by
 refine V23 hS (hc.mono fun e W' ⟨x,h1,h2⟩=>⟨x,h1,h2,fun y hy hm=> ?_⟩) fun x=> ?_
 ·
  have:=List.all_eq_true.1 (ht x) y hy;rw[hm] at this;simp at this
 refine List.all_eq_true.2 fun y hy=> ?_;have:=List.all_eq_true.1 (ht x) y hy;simp only[Bool.and_eq_true] at this⊢;exact⟨this.1.2,this.2⟩
theorem Q10 {W:World}{A:Option Addr}{n c i g o:Nat}{ps:List Pv}{y:Pv}(h:RR 2 W (.slice A n c) (ps.map pvC))(yh:ps[i]?=some y)(hA:A=some ⟨g,o,none⟩):∀(j:Nat) (v:Value),(pvF y)[j]?=some v→W.cell? ⟨g,o+i*2+j,none⟩=some v:=fun j v hv=>
 RR.cellat h (by rw[List.getElem?_map,yh];rfl) hA j v (V7p j v hv)
theorem Q9l {α β:Type}{l:List α}{i:Nat}{x:α}(h:l[i]?=some x)(f:α→β):List.map f (l.take (i+1))=List.map f (l.take i)++[f x]:=by rw[List.take_add_one,h,List.map_append];rfl
def pbs (ps:List Pv):List (Value×List UInt8):=ps.flatMap fun p=>[(p.lu,p.l),(p.xu,p.x)]
theorem Z9k (ps:List Pv)(p:Pv):pbs (ps++[p])=pbs ps++[(p.lu,p.l)]++[(p.xu,p.x)]:=by unfold pbs;rw[List.flatMap_append,List.append_assoc];rfl
def pvk (ps:List Pv)(W:World):Prop:=∀p∈ps,(Sl W p.lu p.l∧p.l.length≤100)∧Sl W p.xu p.x∧p.x.length≤100
attribute [local irreducible] eI be8 hs4 lb J3k J2i X5 xt hm pbs

theorem J8o {p:Pv}(w:World)(h1:Sl w p.lu p.l)(h2:Sl w p.xu p.x)(hl1:p.l.length≤100)(hl2:p.x.length≤100):
  Calls Tryz.prog 53 #[.agg (pvF p)] w fun e w' => ∃x:Value×Value,e=.returned (.agg (Q5 [.c x.1,.c x.2]))∧SH [] w w' [.o x.1 p.l,.o x.2 p.x]:=by
 have N:=J9 h1;have R:=J9 h2;have hS:=SH.nil [] w
 go_enter Tryz.func53,Tryz.ntmps53
 go_upto_region 0 with fail;refine RL hS ?_;clear hS;refine MN (z:=Q5 [.c p.lu,.c p.xu]) (t:=88) ?_;intro T;refine MN (z:=Q5 [.c (.slice none 0 0),.c (.slice none 0 0)]) (t:=88) ?_;intro S;refine MZ fun W hS=> ?_;go_upto_region 1 with fail;refine RTp [1] (.q 0 (.q 1 (.q 3 (.q 4 (.e 2 (.e 5 (.q 6 (.e 7 .z)))))))) hS ?_;clear hS;refine TV ?_;refine TG 0 ?_ (v:=p.lu) (hj:=(J4 (off:=0) 0));refine TV ?_;refine TG 0 ?_ (v:=p.xu) (hj:=(J4 (off:=1) 1));refine TE (fun _ h=>h.pick [1]) ?_;refine ME (V:=fun v=>v) (fun W hS=>J3f hS (J9i W (J0a h1 hS.ext) (by first|omega|(simp only[lA,lM,lT,lD,lC,lN,Q0,V1,Z5,Z6];omega))) (fun _=>⟨rfl,rfl⟩)) ?_;intro M;refine X6 [0,2] [1] ?_;refine TE (fun _ h=>h.pick [0,2]) ?_;refine ME (V:=fun v=>v) (fun W hS=>J3f hS (J9i W (J0a h2 hS.ext) (by first|omega|(simp only[lA,lM,lT,lD,lC,lN,Q0,V1,Z5,Z6];omega))) (fun _=>⟨rfl,rfl⟩)) ?_;intro J;refine X6 [0,1,3] [1,2] ?_;refine Q4c (fun W hS=>(J9 (hS.osl (i:=1) rfl)).2) ?_;intro D;refine Q4c (fun W hS=>(J9 (hS.osl (i:=0) rfl)).2) ?_;intro G;refine TF (v:=.agg (Q5 [.c M,.c J])) rfl (fun W hS=>J2m [(0,[.c M]),(1,[.c J])] rfl rfl J59 J5a (.c ((J9 (hS.osl (i:=1) rfl)).1) (.c ((J9 (hS.osl (i:=0) rfl)).1) .n))) ?_;refine TE (fun _ h=>h.pick [0,1,3]) ?_;refine MRa 2 ?_ (h1:=by exact(X7 ⟨D,G,trivial⟩));refine X6 [0,1,3] [0,1,2] ?_;refine TZ (fun _ h=>h.pick [0,1,3]) fun W hS=> ?_;go_wp2;exact bodyPost_ret (Z7 rfl rfl (hS.blk (i:=2) rfl) (by kernel_rfl) (by rw[J6];kernel_rfl)) rfl ⟨(M,J),rfl,hS.pick [1,0]⟩
theorem Q9m {ps:List Pv}{v:Value}(hn:ps.length≤1000)(w:World)(hr:RR 2 w v (ps.map pvC))(hs:pvk ps w):
  Calls Tryz.prog 63 #[v] w fun e w' => ∃x:{x:Value×List Pv // x.2.map pvP=ps.map pvP},e=.returned x.1.1∧SH [] w w' [.r 88 2 x.1.1 (x.1.2.map pvC),obT (pbs x.1.2)]:=by
 obtain⟨Am,cm,rfl,β,Z⟩:=RR.opf hr;have hS:=SH.nil [] w
 go_enter Tryz.func63,Tryz.ntmps63
 go_upto_region 2 with fail;refine RL hS ?_;clear hS;refine MV ?_;refine MV ?_;refine W0 ?_;refine MZ fun W hS=> ?_;have hS:=hS.rnil 88 2 rfl;have hS:=hS.obnil rfl
 go_wp2_with fail
 go_loopw [3,8] (fun uv jj wr=> ∃(k:Nat)(qs:List Pv)(sv:Value),(k≤ps.length)∧(RowKit.Hid (qs.map pvP=(ps.take k).map pvP))∧(sv=uv)∧(jj=.int .i64 (k:Int))∧SH [] w wr [obT (pbs qs),.r 88 2 sv (List.map pvC qs)])
  (fun uv jj _=>ps.length-(intOf jj).toNat)
 case atStart=>exact⟨0,[],_,Nat.zero_le _,Lib.hid rfl,rfl,rfl,(by have h_:=hS;unfold pbs;exact h_)⟩
 clear hS
 case round=>
  obtain⟨k,qs,sv,hk,hq,rfl,rfl,hS⟩:=hrel;have γ:qs.length=k:=by have h_:=congrArg List.length hq.out;rw[List.length_map,List.length_map,List.length_take] at h_;omega
  by_cases J:k<ps.length
  ·
   obtain⟨p,ph⟩:∃x,ps[k]?=some x:=⟨_,List.getElem?_eq_getElem J⟩
   obtain⟨gm,om,T,_⟩:=Z.out k p ph;have U:=Lib.hid T;clear T;obtain⟨⟨h1,X⟩,h2,Y⟩:=hs p (List.mem_of_getElem? ph);have R:=J9 h1;have S:=J9 h2;go_upto_region 3 with fail;refine RL hS ?_;clear hS;refine Wto ?_;refine MZ fun W hS=> ?_;go_upto_region 4 with fail;refine RL hS ?_;clear hS;refine MW ?_ (v:=.pointer (some ⟨gm,om+k*2,none⟩)) (hv:=fun _=>J0b U.out J rfl rfl rfl Tryz.underlying83 (by kernel_rfl));refine MF (v:=.agg (Q5 [.c p.lu,.c p.xu])) (fun W hS=>K2 rfl rfl (fun i_ v hv=>(Q10 (hr.ext hS.ext) ph U.out) i_ v (by simpa using hv)) (by kernel_rfl) (by rw[J6];kernel_rfl)) ?_;refine MN (z:=Q5 [.c (.slice none 0 0),.c (.slice none 0 0)]) (t:=88) ?_;intro δ;refine MRa 0 ?_ (h1:=by exact(X7 ⟨R.2,S.2,trivial⟩));refine MZ fun W hS=> ?_;go_upto_region 5 with fail;refine RL hS ?_;clear hS;refine MV ?_;refine ML 0 ?_ (hs:=by rw[J6];kernel_rfl);refine ME (V:=fun x:Value×Value=> .agg (Q5 [.c x.1,.c x.2])) (fun W hS=>J58 hS (J8o (p:=p) W (J0a h1 hS.ext) (J0a h2 hS.ext) X Y) (fun _=>rfl)) ?_;rintro⟨D,G⟩;dsimp only;refine J06 (fun W hS=>(J9 (hS.osl (i:=0) rfl)).2) ?_;intro N;refine J06 (fun W hS=>(J9 (hS.osl (i:=1) rfl)).2) ?_;intro M;refine MB (z:=(Q5 [.c D,.c G])) (t:=88) (n:=1) (c:=1) ?_ (hr:=fun W _=>J28 rfl rfl rfl Tryz.underlying83 (by rw[J6];kernel_rfl) (by rw[J6];kernel_rfl) (by rw[J6];exact Nat.le_of_ble_eq_true (by kernel_rfl)) (by rw[J6];exact Nat.le_of_ble_eq_true (by kernel_rfl)));intro ε;refine MAr 5 0 (tS:=83) (bytes:=48) (es:=(List.map pvC qs)) (by first|omega|(simp only[lA,lM,lT,lD,lC,lN,Q0,V1,Z5,Z6];omega)) (e:=pvC (⟨D,G,p.l,p.x⟩:Pv)) (hk:=by rw[J6];kernel_rfl) (h1:=by exact(X7 ⟨N,M,trivial⟩)) (cs:=(Q5 [.c D,.c G])) ?_;intro α;refine MV ?_;refine MZ fun W hS=> ?_;go_wp2;go_roundw
   case rel=>exact⟨(k+1),(qs++[(⟨D,G,p.l,p.x⟩:Pv)]),α,by omega,Lib.hid (by rw[List.map_append,hq.out,Q9l ph];rfl),rfl,by go_num,(by have h_:=hS.pick [1,4,2,5];have h_:=h_.obadd;have h_:=(h_.pick [1,0,2]).obadd;rw[Z9k,List.map_append];exact h_)⟩
   case measure=>simp[intOf];omega
  obtain rfl:k=ps.length:=by omega
  rw[List.take_length] at hq;go_upto_region 3 with fail;refine RL hS ?_;clear hS;refine Wfo ?_;refine MZ fun W hS=> ?_;go_wp2;exact bodyPost_ret (v:=sv) (by simp only[results,Tryz.results63];go_simp) rfl ⟨⟨(sv,qs),hq.out⟩,rfl,hS.pick [1,0]⟩
end

section
set_option maxHeartbeats 3000000
attribute [local irreducible] wpList Y8 wpX
open S8 (Kn GA kP)
theorem Z9l {bs:List (Value×List UInt8)}{W:World}{ps:List Pv}(h:byK bs W)(hb:∀q∈ps,(q.lu,q.l)∈bs∧(q.xu,q.x)∈bs)(hl:∀q∈ps,q.l.length≤32∧q.x.length≤64):pvk ps W:=fun q hq=>⟨⟨h _ (hb q hq).1,by have:=(hl q hq).1;omega⟩,h _ (hb q hq).2,by have:=(hl q hq).2;omega⟩
theorem DOk.put_l {D:DD}(h:DOk D){q:J5u}(hq:q∈D.puts.flatten++D.waits):q.1.length≤32∧q.2.length≤64:=⟨(h.lab q.1 (DD.mem_labs.2 ⟨q,hq,rfl⟩)).2.1,h.val q hq⟩
theorem LOk.wl {D:DD}{y:LD}(h:LOk D y)(hK:DOk D):∀q∈y.wps,q.l.length≤32∧q.x.length≤64:=fun q hq=>hK.put_l (q:=pvP q) (List.mem_append.2 (.inr (by rw[←h.w];exact List.mem_map.2 ⟨q,hq,rfl⟩)))
theorem LOk.pl {D:DD}{y:LD}(h:LOk D y)(hK:DOk D){r:Value×List Pv}(hr:r∈y.pvs):∀q∈r.2,q.l.length≤32∧q.x.length≤64:=fun q hq=>hK.put_l (q:=pvP q) (List.mem_append.2 (.inl (List.mem_flatten.2 ⟨r.2.map pvP,by rw[←h.p];exact List.mem_map.2 ⟨r,hr,rfl⟩,List.mem_map.2 ⟨q,hq,rfl⟩⟩)))
theorem LOk.wn {D:DD}{y:LD}(h:LOk D y)(hK:DOk D):y.wps.length≤16:=by have h1:=congrArg List.length h.w;rw[List.length_map] at h1;have:=hK.wl;have:=hK.p2;omega
theorem LOk.pn {D:DD}{y:LD}(h:LOk D y)(hK:DOk D){r:Value×List Pv}(hr:r∈y.pvs):r.2.length≤16:=by
 have h1:=hK.pl (r.2.map pvP) (by rw[←h.p];exact List.mem_map.2 ⟨r,hr,rfl⟩);rw[List.length_map] at h1;have:=hK.p2;omega
theorem LOk.pat {D:DD}{y:LD}(h:LOk D y){e:Nat}(he:e<D.puts.length):∃r,y.pvs[e]?=some r∧D.puts[e]?=some (r.2.map pvP):=by
 have hl:y.pvs.length=D.puts.length:=by rw[←h.p,List.length_map]
 refine⟨_,List.getElem?_eq_getElem (by omega),?_⟩;rw[←h.p,List.getElem?_map,List.getElem?_eq_getElem (by omega)];rfl
def mkC (D:DD)(e:Nat):List Value:=fcs [.c (.int .i64 (e:Int)),.a 32 (rs (D.tree e)),.a 32 (D.link e)]
theorem Z1p (f n:Nat):List.range' f (n+1)=List.range' f n++[f+n]:=by rw[List.range'_concat];simp
attribute [local irreducible] eI be8 hs4 lb J3k J2i X5 xt hm pbs DD.tree DD.link rs S8.kP S8.kN S8.kD ofT

theorem Q31:zer Tryz.prog 64=some (some (Q5 [.c (.int .i64 0),.a 32 0,.a 32 0])):=by kernel_rfl
theorem Q32:plc Tryz.prog 64=some [(0,1),(1,32),(33,32)]:=by kernel_rfl
theorem J56:zer Tryz.prog 25=some (some (Q5 [.a 32 0,.a 32 0])):=by kernel_rfl
theorem J57:plc Tryz.prog 25=some [(0,32),(32,32)]:=by kernel_rfl
theorem J1x:zer Tryz.prog 81=some (some (Q5 [.c (.int .i64 0),.c (.int .i64 0),.c (.int .i64 0)])):=by kernel_rfl
theorem J1y:plc Tryz.prog 81=some [(0,1),(1,1),(2,1)]:=by kernel_rfl
theorem V7i {D:DD}{y:LD}(w:World)(hD:DK D y w)(hL:LOk D y)(hK:DOk D):
  Calls Tryz.prog 26 #[.pointer (some ⟨y.p,0,none⟩)] w fun e w' => ∃u,e=.returned u∧SH [] w w' [.o u D.id]:=by
 have N:=hK.pos;have M:=hK.len;have J:=hK.id2;have hS:=SH.nil [] w
 go_enter Tryz.func26,Tryz.ntmps26
 go_upto_region 3 with fail;refine RL hS ?_;clear hS;(iterate 3 refine MV ?_);refine MF (v:=y.uid) (fun W hS=>Q9 rfl rfl (by rw[J3 (J2 hD.d hS.ext)];exact(J4 (off:=0) 0)) (by kernel_rfl)) ?_;refine ME (V:=fun v=>v) (fun W hS=>J3f hS (J9i W (J0a (hD.by _ hL.i) hS.ext) (by first|omega|(simp only[lA,lM,lT,lD,lC,lN,Q0,V1,Z5,Z6];omega))) (fun _=>⟨rfl,rfl⟩)) ?_;intro G;refine MV ?_;refine MZ fun W hS=> ?_;go_wp2;exact bodyPost_ret (v:=G) (by simp only[results,Tryz.results26];go_simp) rfl ⟨_,rfl,(hS.pick [0])⟩
theorem Y5g {D:DD}{y:LD}(w:World)(hD:DK D y w)(hL:LOk D y)(hK:DOk D):
  Calls Tryz.prog 27 #[.pointer (some ⟨y.p,0,none⟩)] w fun e w' =>K7 (.agg (Q5 [.a 32 D.vk,.a 32 D.bk])) w w' e:=by
 have hS:=SH.nil [] w
 go_enter Tryz.func27,Tryz.ntmps27
 go_upto_region 0 with fail;refine RL hS ?_;clear hS;refine MN (z:=Q5 [.a 32 0,.a 32 0]) (t:=25) ?_;intro V5;refine MZ fun W hS=> ?_;go_upto_region 3 with fail;refine RL hS ?_;clear hS;(iterate 3 refine MV ?_);refine MF (v:=.agg (Q5 [.a 32 D.vk,.a 32 D.bk])) (fun W hS=>K2 rfl rfl (fun i v hv=>by rw[J3 (J2 hD.d hS.ext)];exact(J4t (off:=1) 1 2) i v hv) (by kernel_rfl) (by first|kernel_rfl|(rw[J6];kernel_rfl))) ?_;refine MRa 0 ?_ (h1:=by exact(X7 trivial));refine MZ fun W hS=> ?_;go_wp2;exact bodyPost_ret (Z7 rfl rfl (hS.blk (i:=0) rfl) (by kernel_rfl) (by rw[J6];kernel_rfl)) rfl ⟨rfl,hS.ext⟩
theorem Z6p {D:DD}{y:LD}(w:World)(hD:DK D y w)(hL:LOk D y)(hK:DOk D):
  Calls Tryz.prog 28 #[.pointer (some ⟨y.p,0,none⟩)] w fun e w' =>K7 (.agg (Q5 [.c (.int .i64 (D.L:Int)),.c (.int .i64 (D.P:Int)),.c (.int .i64 (D.E:Int))])) w w' e:=by
 have hS:=SH.nil [] w
 go_enter Tryz.func28,Tryz.ntmps28
 go_upto_region 0 with fail;refine RL hS ?_;clear hS;refine MN (z:=Q5 [.c (.int .i64 0),.c (.int .i64 0),.c (.int .i64 0)]) (t:=81) ?_;intro V5;refine MZ fun W hS=> ?_;go_upto_region 3 with fail;refine RL hS ?_;clear hS;(iterate 3 refine MV ?_);refine MF (v:=.agg (Q5 [.c (.int .i64 (D.L:Int)),.c (.int .i64 (D.P:Int)),.c (.int .i64 (D.E:Int))])) (fun W hS=>K2 rfl rfl (fun i v hv=>by rw[J3 (J2 hD.d hS.ext)];exact(J4t (off:=65) 3 3) i v hv) (by kernel_rfl) (by first|kernel_rfl|(rw[J6];kernel_rfl))) ?_;refine MRa 0 ?_ (h1:=by exact(X7 ⟨rfl,rfl,rfl,trivial⟩));refine MZ fun W hS=> ?_;go_wp2;exact bodyPost_ret (Z7 rfl rfl (hS.blk (i:=0) rfl) (by kernel_rfl) (by rw[J6];kernel_rfl)) rfl ⟨rfl,hS.ext⟩
theorem Y5h (w:World):
  Calls Tryz.prog 26 #[.pointer none] w fun e w' =>K7 (.slice none 0 0) w w' e:=by
 have hS:=SH.nil [] w
 go_enter Tryz.func26,Tryz.ntmps26
 go_wp2;exact bodyPost_ret (v:=.slice none 0 0) (by simp only[results,Tryz.results26];go_simp) rfl ⟨rfl,hS.ext⟩
theorem Z6q (w:World):
  Calls Tryz.prog 27 #[.pointer none] w fun e w' =>K7 (.agg (Q5 [.a 32 0,.a 32 0])) w w' e:=by
 have hS:=SH.nil [] w
 go_enter Tryz.func27,Tryz.ntmps27
 go_upto_region 0 with fail;refine RL hS ?_;clear hS;refine MN (z:=Q5 [.a 32 0,.a 32 0]) (t:=25) ?_;intro V5;refine MZ fun W hS=> ?_;go_upto_region 2 with fail;refine RL hS ?_;clear hS;refine MF (v:=.agg (Q5 [.a 32 0,.a 32 0])) (fun W hS=>Q0z rfl rfl J56 J57 Q7a) ?_;refine MRa 0 ?_ (h1:=by exact(X7 trivial));refine MZ fun W hS=> ?_;go_wp2;exact bodyPost_ret (Z7 rfl rfl (hS.blk (i:=0) rfl) (by kernel_rfl) (by rw[J6];kernel_rfl)) rfl ⟨rfl,hS.ext⟩
theorem Q9d (w:World):
  Calls Tryz.prog 28 #[.pointer none] w fun e w' =>K7 (.agg (Q5 [.c (.int .i64 0),.c (.int .i64 0),.c (.int .i64 0)])) w w' e:=by
 have hS:=SH.nil [] w
 go_enter Tryz.func28,Tryz.ntmps28
 go_upto_region 0 with fail;refine RL hS ?_;clear hS;refine MN (z:=Q5 [.c (.int .i64 0),.c (.int .i64 0),.c (.int .i64 0)]) (t:=81) ?_;intro V5;refine MZ fun W hS=> ?_;go_upto_region 2 with fail;refine RL hS ?_;clear hS;refine MF (v:=.agg (Q5 [.c (.int .i64 0),.c (.int .i64 0),.c (.int .i64 0)])) (fun W hS=>Q0z rfl rfl J1x J1y Q7a) ?_;refine MRa 0 ?_ (h1:=by exact(X7 ⟨rfl,rfl,rfl,trivial⟩));refine MZ fun W hS=> ?_;go_wp2;exact bodyPost_ret (Z7 rfl rfl (hS.blk (i:=0) rfl) (by kernel_rfl) (by rw[J6];kernel_rfl)) rfl ⟨rfl,hS.ext⟩
theorem Z1k (w:World):
  Calls Tryz.prog 29 #[.pointer none] w fun e w' =>K7 (.slice none 0 0) w w' e:=by
 have hS:=SH.nil [] w
 go_enter Tryz.func29,Tryz.ntmps29
 go_wp2;exact bodyPost_ret (v:=.slice none 0 0) (by simp only[results,Tryz.results29];go_simp) rfl ⟨rfl,hS.ext⟩
theorem Z9c {D:DD}{y:LD}(w:World)(hD:DK D y w)(hL:LOk D y)(hK:DOk D):
  Calls Tryz.prog 29 #[.pointer (some ⟨y.p,0,none⟩)] w fun e w' => ∃x:{x:Value×List Pv // x.2.map pvP=D.waits},e=.returned x.1.1∧SH [] w w' [.r 88 2 x.1.1 (x.1.2.map pvC),obT (pbs x.1.2)]:=by
 have hS:=SH.nil [] w
 go_enter Tryz.func29,Tryz.ntmps29
 go_upto_region 3 with fail;refine RL hS ?_;clear hS;(iterate 3 refine MV ?_);refine MF (v:=y.wv) (fun W hS=>Q9 rfl rfl (by rw[J3 (J2 hD.d hS.ext)];exact(J4 (off:=69) 7)) (by kernel_rfl)) ?_;refine ME (V:=fun x:{x:Value×List Pv // x.2.map pvP=y.wps.map pvP}=>x.1.1) (fun W hS=>J58 hS (Q9m (ps:=y.wps) (Nat.le_trans (hL.wn hK) (by decide)) W ((Row.off hD.wt hS.off0 f0).rr) (Z9l (fun b hb=>J0a (hD.by b hb) hS.ext) hL.bw (hL.wl hK))) (fun _=>rfl)) ?_;rintro⟨⟨uc,qs⟩,G⟩;dsimp only at G⊢;refine MV ?_;refine MZ fun W hS=> ?_;go_wp2;exact bodyPost_ret (v:=uc) (by simp only[results,Tryz.results29];go_simp) rfl ⟨⟨(uc,qs),by rw[G];exact hL.w⟩,rfl,hS.pick [0,1]⟩
theorem DK.ext {D:DD}{y:LD}{w W:World}(h:DK D y w)(q:Ext w W):DK D y W:=fun x hx=>As.keep0 (J08 q) (h x hx)
theorem Y5i {e_:Nat}{D:DD}{y:LD}(w:World)(hD:DK D y w)(hL:LOk D y)(hK:DOk D)(he:e_<D.puts.length):
  Calls Tryz.prog 30 #[.pointer (some ⟨y.p,0,none⟩),.int .i64 (e_:Int)] w fun e w' => ∃x:{x:Value×List Pv // x.2.map pvP=(D.puts[e_]?).getD []},e=.returned (.tuple #[x.1.1,.int .i64 0])∧SH [] w w' [.r 88 2 x.1.1 (x.1.2.map pvC),obT (pbs x.1.2)]:=by
 have Z:=hK.pos;have α:=hK.len;obtain⟨r,rh,T⟩:=hL.pat he;obtain⟨Y,β,X,_,M⟩:=RR.opf hD.pu.rr;obtain⟨S,U,R,N⟩:=M.out e_ r rh;have G:=List.mem_of_getElem? rh;have hS:=SH.nil [] w
 go_enter Tryz.func30,Tryz.ntmps30
 go_upto_region 3 with fail;refine RL hS ?_;clear hS;refine MV ?_;refine Wfo ?_;refine Wf ?_;refine MV ?_;refine MV ?_;refine MC (v:=.int .i64 ((D.puts.length-1:Nat):Int)) (fun W hS=>J4m W (hD.ext hS.ext) hL hK) ?_;refine Wfo ?_;refine Wf ?_;refine Wf ?_;refine MZ fun W hS=> ?_;go_upto_region 5 with fail;refine RL hS ?_;clear hS;(iterate 3 refine MV ?_);refine MF (v:=y.pv) (fun W hS=>Q9 rfl rfl (by rw[J3 (J2 hD.d hS.ext)];exact(J4 (off:=70) 8)) (by kernel_rfl)) ?_;refine MV ?_;refine MW ?_ (v:=.pointer (some ⟨S,U+e_*1,none⟩)) (hv:=fun _=>J0b R (List.getElem?_eq_some_iff.1 rh).1 rfl X rfl Tryz.underlying107 (by kernel_rfl));refine MF (v:=r.1) (fun W hS=>Q9 rfl rfl (J12 (N 0 _ rfl) hS.ext) (by kernel_rfl)) ?_;refine ME (V:=fun x:{x:Value×List Pv // x.2.map pvP=r.2.map pvP}=>x.1.1) (fun W hS=>J58 hS (Q9m (ps:=r.2) (Nat.le_trans (hL.pn hK G) (by decide)) W ((hD.rw r G).ext hS.ext) (Z9l (fun b hb=>J0a (hD.by b hb) hS.ext) (hL.bp r G) (hL.pl hK G))) (fun _=>rfl)) ?_;rintro⟨⟨uc,qs⟩,J⟩;dsimp only at J⊢;refine MV ?_;refine W0 ?_;refine MZ fun W hS=> ?_;go_wp2;exact bodyPost_ret (v:=.tuple #[uc,.int .i64 0]) (by simp only[results,Tryz.results30];go_simp) rfl ⟨⟨(uc,qs),by rw[J,T];rfl⟩,rfl,hS.pick [0,1]⟩
theorem Y5j {D:DD}{y:LD}(w:World)(hD:DK D y w)(hL:LOk D y)(hK:DOk D){n:Int}(hn:n<0∨(D.puts.length:Int)≤n):
  Calls Tryz.prog 30 #[.pointer (some ⟨y.p,0,none⟩),.int .i64 n] w fun e w' =>K7 (.tuple #[.slice none 0 0,.int .i64 10]) w w' e:=by
 have M:=hK.pos;have J:=hK.len;have hS:=SH.nil [] w
 go_enter Tryz.func30,Tryz.ntmps30
 by_cases G:n<0
 ·
  go_upto_region 3 with fail;refine RL hS ?_;clear hS;refine MV ?_;refine Wto ?_;refine Wt ?_;(iterate 4 refine MS ?_);refine Wt ?_;refine Wt ?_;refine MZ fun W hS=> ?_;go_wp2;exact bodyPost_ret (v:=.tuple #[.slice none 0 0,.int .i64 10]) (by simp only[results,Tryz.results30];go_simp) rfl ⟨rfl,hS.ext⟩
 go_upto_region 3 with fail;refine RL hS ?_;clear hS;refine MV ?_;refine Wfo ?_;refine Wf ?_;refine MV ?_;refine MV ?_;refine MC (v:=.int .i64 ((D.puts.length-1:Nat):Int)) (fun W hS=>J4m W (hD.ext hS.ext) hL hK) ?_;refine Wto ?_;refine Wt ?_;refine Wt ?_;refine MZ fun W hS=> ?_;go_wp2;exact bodyPost_ret (v:=.tuple #[.slice none 0 0,.int .i64 10]) (by simp only[results,Tryz.results30];go_simp) rfl ⟨rfl,hS.ext⟩
end

section
set_option maxHeartbeats 3000000
attribute [local irreducible] wpList Y8 wpX
open S8 (Kn GA kP)
theorem DK.tree {D:DD}{y:LD}{w:World}(h:DK D y w){e:Nat}(he:e<D.puts.length):∃u,y.tus[e]?=some u∧TA w (D.tree e) u:=by
 have h1:=h.ta;have hl:e<y.tus.length:=by rw[←h1.1,DD.trees_len];exact he
 exact⟨_,List.getElem?_eq_getElem hl,h1.2 e _ _ (DD.trees_at he) (List.getElem?_eq_getElem hl)⟩
def enP (e:En):Nat×Nat×List UInt8:=(e.ep,e.ver,e.x)
def ebs (es:List En):List (Value×List UInt8):=es.map fun e=>(e.u,e.x)
attribute [local irreducible] eI be8 hs4 lb J3k J2i X5 xt hm pbs DD.tree DD.link rs S8.kP S8.kN S8.kD ofT ebs

theorem Q9e {f t:Nat}{D:DD}{y:LD}(w:World)(hX:GX w)(hD:DK D y w)(hL:LOk D y)(hK:DOk D)(hft:f≤t)(ht:t<D.puts.length):
  Calls Tryz.prog 13 #[.pointer (some ⟨y.p,0,none⟩),.int .i64 (f:Int),.int .i64 (t:Int)] w fun e w' => ∃u,e=.returned (.tuple #[u,.int .i64 0])∧SH [] w w' [.r 64 65 u ((List.range' f (t+1-f)).map (mkC D))]:=by
 have ξ:=hK.pos;have σ:=hK.len;obtain⟨μ,χ,α,_,Z⟩:=RR.opf hD.tr.rr;obtain⟨ρ,ν,ε,_,Y⟩:=RR.opf hD.lk.rr;have hS:=SH.nil [] w
 go_enter Tryz.func13,Tryz.ntmps13
 go_upto_region 3 with fail;refine RL hS ?_;clear hS;refine MV ?_;refine Wfo ?_;refine Wf ?_;refine MV ?_;refine MV ?_;refine Wfo ?_;refine Wf ?_;refine Wf ?_;refine MV ?_;refine MV ?_;refine MC (v:=.int .i64 ((D.puts.length-1:Nat):Int)) (fun W hS=>J4m W (hD.ext hS.ext) hL hK) ?_;refine Wfo ?_;refine Wf ?_;refine Wf ?_;refine MZ fun W hS=> ?_;have hS:=hS.rnil 64 65 rfl
 go_wp2_with fail
 go_loopw [8,9] (fun uv jj wr=> ∃(j:Nat)(sv:Value),(f≤j)∧(j≤t+1)∧(sv=uv)∧(jj=.int .i64 (j:Int))∧SH [] w wr [.r 64 65 sv (List.map (mkC D) (List.range' f (j-f)))])
  (fun uv jj _=>t+1-(intOf jj).toNat)
 case atStart=>exact⟨f,_,Nat.le_refl _,by omega,rfl,rfl,(by rw[Nat.sub_self];exact hS)⟩
 clear hS
 case round=>
  obtain⟨j,sv,φ,hk,rfl,rfl,hS⟩:=hrel;have κ:(List.range' f (j-f)).length=j-f:=List.length_range' ..
  by_cases J:j≤t
  ·
   have G:j<D.puts.length:=by omega
   obtain⟨M,N,η⟩:=hD.tree G;obtain⟨γ,ζ,S,V⟩:=Z.out j M N;obtain⟨δ,θ,T,X⟩:=Y.out j _ (DD.links_at G);go_upto_region 7 with fail;refine RL hS ?_;clear hS;refine MV ?_;refine MV ?_;refine Wto ?_;refine MZ fun W hS=> ?_;go_upto_region 9 with fail;refine RTp [] (.q 0 (.q 1 (.q 2 (.q 3 (.q 4 (.q 5 (.q 6 (.q 7 (.q 8 (.q 10 (.q 11 (.q 12 (.q 13 (.q 14 (.q 15 (.q 16 (.e 9 (.q 17 (.e 18 (.e 19 (.q 20 .z))))))))))))))))))))) hS ?_;clear hS;(iterate 5 refine TV ?_);refine TF (v:=y.tv) rfl (fun W hS=>Q9 rfl rfl (by rw[J3 (J2 hD.d hS.ext)];exact(J4 (off:=71) 9)) (by kernel_rfl)) ?_;refine TV ?_;refine TW ?_ (v:=.pointer (some ⟨γ,ζ+j*1,none⟩)) (hv:=fun _=>J0b S (List.getElem?_eq_some_iff.1 N).1 rfl (by exact α) rfl Tryz.underlying108 (by kernel_rfl));refine TF (v:=M) rfl (fun W hS=>Q9 rfl rfl (J12 (V 0 _ rfl) hS.ext) (by kernel_rfl)) ?_;(iterate 3 refine TV ?_);refine TF (v:=y.lv) rfl (fun W hS=>Q9 rfl rfl (by rw[J3 (J2 hD.d hS.ext)];exact(J4 (off:=72) 10)) (by kernel_rfl)) ?_;refine TV ?_;refine TW ?_ (v:=.pointer (some ⟨δ,θ+j*32,none⟩)) (hv:=fun _=>J0b T (show j<D.links.length by rw[DD.links_len];exact G) rfl (by exact ε) rfl Tryz.underlying41 (by kernel_rfl));refine TF (v:=.agg (J0 .u8 32 (J7 (D.link j)))) rfl (fun W hS=>K2 rfl rfl (fun i_ v hv=>J12 (X i_ v (by simpa using hv)) hS.ext) (by kernel_rfl) (by rw[J1];kernel_rfl)) ?_;refine TE (fun _ h=>h.pick []) ?_;obtain⟨U1,R⟩:=exh (rs (D.tree j));refine MC (v:=.agg (J0 .u8 32 (J7 U1))) (fun W hS=>(by rw[R.out];exact J7n W (hX.ext hS.ext).gt (η.ext hS.ext))) ?_;refine X6 [] [] ?_;refine TF (v:=.agg (Q5 [.c (.int .i64 (j:Int)),.a 32 U1,.a 32 (D.link j)])) rfl (fun W hS=>J2m [(0,[.c (.int .i64 (j:Int))]),(1,[.a 32 U1]),(2,[.a 32 (D.link j)])] rfl rfl Q31 Q32 (.c rfl (.c ((J3t _ _).symm) (.c ((J3t _ _).symm) .n)))) ?_;refine TE (fun _ h=>h.pick []) ?_;refine MB (z:=(Q5 [.c (.int .i64 (j:Int)),.a 32 U1,.a 32 (D.link j)])) (t:=64) (n:=1) (c:=1) ?_ (hr:=fun W _=>J28 rfl rfl rfl Tryz.underlying52 (by rw[J6];kernel_rfl) (by rw[J6];kernel_rfl) (by rw[J6];exact Nat.le_of_ble_eq_true (by kernel_rfl)) (by rw[J6];exact Nat.le_of_ble_eq_true (by kernel_rfl)));intro τ;refine X6 [0] [] ?_;refine TE (fun _ h=>h.pick [0]) ?_;refine MAr 1 0 (tS:=52) (bytes:=72) (es:=(List.map (mkC D) (List.range' f (j-f)))) (by first|omega|(simp only[lA,lM,lT,lD,lC,lN,Q0,V1,Z5,Z6];omega)) (e:=fcs [.c (.int .i64 (j:Int)),.a 32 U1,.a 32 (D.link j)]) (hk:=by rw[J6];kernel_rfl) (h1:=by exact(X7 ⟨rfl,trivial⟩)) (cs:=(Q5 [.c (.int .i64 (j:Int)),.a 32 U1,.a 32 (D.link j)])) ?_;intro β;refine X6 [0,1] [0] ?_;refine TV ?_;refine TZ (fun _ h=>h) fun W hS=> ?_;have U:mkC D j=fcs [.c (.int .i64 (j:Int)),.a 32 U1,.a 32 (D.link j)]:=by unfold mkC;rw[R.out]
   go_wp2;go_roundw
   case rel=>exact⟨(j+1),β,by omega,by omega,rfl,by go_num,(by rw[show j+1-f=(j-f)+1 by omega,Z1p,show f+(j-f)=j by omega,List.map_append,List.map_cons,List.map_nil,U];exact(hS.pick [1]))⟩
   case measure=>simp[intOf];omega
  go_upto_region 7 with fail;refine RL hS ?_;clear hS;refine MV ?_;refine MV ?_;refine Wfo ?_;refine MZ fun W hS=> ?_;go_wp2;exact bodyPost_ret (v:=.tuple #[sv,.int .i64 0]) (by simp only[results,Tryz.results13];go_simp) rfl ⟨_,rfl,by rw[show t+1-f=j-f by omega];exact hS.pick [0]⟩
theorem LOk.xl {D:DD}{y:LD}(h:LOk D y)(hK:DOk D){a:Ac}(ha:a∈y.acs){x:En}(hx:x∈a.es):x.x.length≤64:=by
 have h1:(x.ep,x.ver,x.x)∈(D.made.filter fun m=>decide (m.l=a.l)).map fun m=>(m.ep,m.ver,m.x):=by rw[←h.e a ha];exact List.mem_map.2 ⟨x,hx,rfl⟩
 obtain⟨m,hm,e⟩:=List.mem_map.1 h1;injection e with e1 e2
 injection e2 with e2 e3
 have h2:=(DD.made_mem (List.mem_filter.1 hm).1).2;rw[←e3];exact hK.val _ (List.mem_append.2 (.inl h2))
theorem LOk.en {D:DD}{y:LD}(h:LOk D y){a:Ac}(ha:a∈y.acs):a.es.length=(D.made.filter fun m=>decide (m.l=a.l)).length:=by
 have:=congrArg List.length (h.e a ha);rwa [List.length_map,List.length_map] at this
theorem Q7g {e:Nat}:∀(ps:List J5u) (ms:List Md),(mdp ms e ps).length=ms.length+ps.length
 |[],ms=>rfl
 |p::ps,ms=>by
  show(mdp (ms++_) e ps).length=_;rw[Q7g ps,List.length_append];simp;omega
theorem Z3y:∀(r:List (List J5u)) (ms:List Md) (e:Nat),(mdS ms e r).length=ms.length+r.flatten.length
 |[],ms,e=>by simp[mdS]
 |q::r,ms,e=>by
  show(mdS (mdp ms e q) (e+1) r).length=_;rw[Z3y r,Q7g,List.flatten_cons,List.length_append];omega
theorem DD.made_len (D:DD):D.made.length=D.puts.flatten.length:=by unfold DD.made;rw[Z3y];simp
theorem Z3z {α:Type}{n:Nat}:∀{ls:List (List α)},(∀l∈ls,l.length≤n)→ls.flatten.length≤ls.length*n
 |[],_=>by simp
 |l::ls,h=>by
  rw[List.flatten_cons,List.length_append,List.length_cons,Nat.add_mul,Nat.one_mul];have:=Z3z (ls:=ls) fun l hl=>h l (List.mem_cons_of_mem _ hl);have:=h l (by simp);omega
theorem DOk.made {D:DD}(h:DOk D):D.made.length≤528:=by
 rw[DD.made_len];have h1:=Z3z h.pl;have h2:D.puts.length*D.P≤33*16:=Nat.mul_le_mul (h.len) h.p2;omega
theorem LOk.el {D:DD}{y:LD}(h:LOk D y)(hK:DOk D){a:Ac}(ha:a∈y.acs):a.es.length≤528:=by
 rw[h.en ha];exact Nat.le_trans (List.length_filter_le _ _) hK.made
end

section
set_option maxHeartbeats 3000000
attribute [local irreducible] wpList Y8 wpX
open S8 (Kn GA kP)
theorem DD.links_put (D:DD)(l x:List UInt8):(D.put l x).links=D.links:=by
 unfold DD.links;exact List.map_congr_left fun e _=>DD.link_put D l x e
theorem DD.trees_put (D:DD)(l x:List UInt8):(D.put l x).trees=D.trees:=rfl
def svK (vl:Value)(l:List UInt8)(vx:Value)(x:List UInt8)(W:World):Prop:=Sl W vl l∧Sl W vx x
abbrev svT (vl:Value)(l:List UInt8)(vx:Value)(x:List UInt8):As:=.p ((sb vl l).toList++(sb vx x).toList) (svK vl l vx x)
theorem Q1u {vl vx:Value}{l x:List UInt8}{w:World}(h1:Sl w vl l)(h2:Sl w vx x):(svT vl l vx x).holds w:=
 ⟨⟨h1,h2⟩,fun k hk=>(List.mem_append.1 hk).elim (fun h=>Sl.lt h1 k (As.mem_toList h)) (fun h=>Sl.lt h2 k (As.mem_toList h)),fun W' _ e=>⟨J7m h1 fun b hb=>e b (List.mem_append.2 (.inl (by rw[hb];simp))),J7m h2 fun b hb=>e b (List.mem_append.2 (.inr (by rw[hb];simp)))⟩⟩
attribute [local irreducible] ixN pfN erN
def LD.put (y:LD)(acs:List Ac)(wv c1 c2:Value)(l x:List UInt8):LD:={y with acs:=acs,wv:=wv,wps:=y.wps++[⟨c1,c2,l,x⟩],bs:=y.bs++[(c1,l),(c2,x)]}
theorem LOk.put {D:DD}{y:LD}(h:LOk D y){acs:List Ac}{wv c1 c2:Value}{l x:List UInt8}(ha:(acs=y.acs∧l∈D.labs)∨∃b,l∉D.labs∧acs=y.acs++[⟨b,l,ixN D.vk l,pfN D.vk l,.slice none 0 0,[]⟩]):LOk (D.put l x) (y.put acs wv c1 c2 l x) where
 w:=by show List.map pvP (y.wps++[_])=D.waits++[(l,x)];rw[List.map_append,h.w];rfl
 p:=h.p
 a:=by
  rw[DD.labs_put];rcases ha with⟨rfl,hl⟩|⟨b,hl,rfl⟩
  ·
   rw[if_pos hl];exact h.a
  ·
   rw[if_neg hl];show List.map _ (y.acs++[_])=_;rw[List.map_append,h.a];rfl
 n:=fun a hm=>by
  rcases ha with⟨rfl,hl⟩|⟨b,hl,rfl⟩
  ·
   exact h.n a hm
  rcases List.mem_append.1 hm with hm|hm
  ·
   exact h.n a hm
  rw[List.mem_singleton.1 hm];exact⟨(rfl:ixN D.vk l=ixN D.vk l),(rfl:pfN D.vk l=pfN D.vk l)⟩
 e:=fun a hm=>by
  rcases ha with⟨rfl,hl⟩|⟨b,hl,rfl⟩
  ·
   exact h.e a hm
  rcases List.mem_append.1 hm with hm|hm
  ·
   exact h.e a hm
  rw[List.mem_singleton.1 hm]
  have e0:(D.made.filter fun m=>decide (m.l=l))=[]:=List.filter_eq_nil_iff.2 fun m G=>by
   have h2:=(DD.made_mem G).2;simp only[decide_eq_true_eq];exact fun e=>hl (DD.mem_labs.2 ⟨(m.l,m.x),List.mem_append.2 (.inl h2),e⟩)
  show[]=List.map _ ((D.put l x).made.filter fun m=>decide (m.l=l));rw[DD.made_put,e0];rfl
 i:=List.mem_append.2 (.inl h.i)
 bw:=fun q hq=>by
  rcases List.mem_append.1 hq with hq|hq
  ·
   exact⟨List.mem_append.2 (.inl (h.bw q hq).1),List.mem_append.2 (.inl (h.bw q hq).2)⟩
  rw[List.mem_singleton.1 hq];exact⟨List.mem_append.2 (.inr (by simp)),List.mem_append.2 (.inr (by simp))⟩
 bp:=fun r hr q hq=>⟨List.mem_append.2 (.inl (h.bp r hr q hq).1),List.mem_append.2 (.inl (h.bp r hr q hq).2)⟩
 be:=fun a hm q hq=>by
  rcases ha with⟨rfl,hl⟩|⟨b,hl,rfl⟩
  ·
   exact List.mem_append.2 (.inl (h.be a hm q hq))
  rcases List.mem_append.1 hm with hm|hm
  ·
   exact List.mem_append.2 (.inl (h.be a hm q hq))
  rw[List.mem_singleton.1 hm] at hq;cases hq
structure PutOk (D:DD)(l x:List UInt8):Prop where
 l1:1≤l.length
 l2:l.length≤32
 x2:x.length≤64
 w:D.waits.length<D.P
 e:erN D.vk l=0
 n:l∉D.labs→D.labs.length<D.L
theorem DOk.put {D:DD}(h:DOk D){l x:List UInt8}(hp:PutOk D l x):DOk (D.put l x) where
 id1:=h.id1
 id2:=h.id2
 l1:=h.l1
 l2:=h.l2
 p1:=h.p1
 p2:=h.p2
 e1:=h.e1
 e2:=h.e2
 ep:=h.ep
 zero:=h.zero
 pl:=h.pl
 wl:=by show(D.waits++[_]).length≤D.P;rw[List.length_append];exact hp.w
 ll:=by
  rw[DD.labs_put]
  split
  ·
   exact h.ll
  ·
   rename_i hl;rw[List.length_append];exact hp.n hl
 lab:=fun m hm=>by
  rw[DD.labs_put] at hm
  split at hm
  ·
   exact h.lab m hm
  rcases List.mem_append.1 hm with hm|hm
  ·
   exact h.lab m hm
  rw[List.mem_singleton.1 hm];exact⟨hp.l1,hp.l2,hp.e⟩
 val:=fun q hq=>by
  rcases List.mem_append.1 hq with hq|hq
  ·
   exact h.val q (List.mem_append.2 (.inl hq))
  rcases List.mem_append.1 hq with hq|hq
  ·
   exact h.val q (List.mem_append.2 (.inr hq))
  rw[List.mem_singleton.1 hq];exact hp.x2
theorem Y5t {acs:List Ac}{l:List UInt8}{b:Nat}(h:mlk (J07 acs) l=some b):mst (J07 acs) l b=J07 acs:=by unfold mst;rw[h]
theorem Y5u {acs:List Ac}{l:List UInt8}{b ix pf:Nat}{v:Value}(h:mlk (J07 acs) l=none):mst (J07 acs) l b=J07 (acs++[⟨b,l,ix,pf,v,[]⟩]):=by unfold mst;rw[h];unfold J07;rw[List.map_append];rfl
theorem SH.acadd {F:List Nat}{w W:World}{H:List As}{acs:List Ac}{a:Ac}(h:SH F w W (.b a.b (acF a) 119::acT acs::H)):SH F w W (acT (acs++[a])::H):=by
 have h1:=h.blk (i:=0) rfl;have h2:acK acs W:=(h.at_ (i:=1) rfl).1;have ha:=(h.ap2 (i:=0) (j:=1) rfl rfl (by decide)).1 rfl
 have hk:acK (acs++[a]) W:=by
  refine⟨fun z hz=> ?_,?_⟩
  ·
   rcases List.mem_append.1 hz with hz|hz
   ·
    exact h2.1 z hz
   rw[List.mem_singleton.1 hz];exact h1
  rw[List.map_append];refine List.nodup_append.2 ⟨h2.2,List.nodup_cons.2 ⟨by simp,.nil⟩,fun k hk j hj e=> ?_⟩;rw[List.map_cons,List.map_nil,List.mem_singleton] at hj;exact ha a.b (by simp[As.foot]) (by rw[←hj,←e];exact hk)
 refine h.merge rfl rfl rfl (J9j hk) fun k D=> ?_;rw[List.map_append] at D;rcases List.mem_append.1 D with D|D
 ·
  exact .inr D
 exact .inl D
theorem SH.ennil {F:List Nat}{w W:World}{H:List As}{acs:List Ac}{b ix pf:Nat}{l:List UInt8}(h:SH F w W (enT acs::H)):SH F w W (enT (acs++[⟨b,l,ix,pf,.slice none 0 0,[]⟩])::H):=by
 have h2:enK acs W:=(h.at_ (i:=0) rfl).1
 have hk:enK (acs++[⟨b,l,ix,pf,.slice none 0 0,[]⟩]) W:=by
  refine⟨fun z hz=> ?_,List.pairwise_append.2 ⟨h2.2,List.pairwise_singleton ..,fun a ha c hc k J D=> ?_⟩⟩
  ·
   rcases List.mem_append.1 hz with hz|hz
   ·
    exact h2.1 z hz
   rw[List.mem_singleton.1 hz];exact Z42 _ _ _
  rw[List.mem_singleton.1 hc] at D;cases D
 refine h.asM rfl rfl rfl (J9k hk) fun k G=> ?_;obtain⟨z,hz,h3⟩:=List.mem_flatMap.1 G;rcases List.mem_append.1 hz with hz|hz
 ·
  exact List.mem_flatMap.2 ⟨z,hz,h3⟩
 rw[List.mem_singleton.1 hz] at h3;cases h3
attribute [local irreducible] eI be8 hs4 lb J3k J2i X5 xt hm pbs rs S8.kP S8.kN S8.kD ofT ebs lk0 DD.links DD.trees DD.labs DD.made DD.tree DD.link

theorem V2f {l x:List UInt8}{vl vx:Value}{D:DD}{y:LD}(w:World)(hX:GX w)(hD:DK D y w)(hL:LOk D y)(hK:DOk D)(hsl:Sl w vl l)(hsx:Sl w vx x)(hla:¬(1≤l.length∧l.length≤32)):
  Calls Tryz.prog 19 #[.pointer (some ⟨y.p,0,none⟩),vl,vx] w fun e w' =>K7 (.int .i64 1) w w' e:=by
 have M:=hK.pos;have J:=hK.len;have G:¬(1≤(l.length:Int)∧(l.length:Int)≤32):=by omega
 have hS:=SH.nil [] w
 go_enter Tryz.func19,Tryz.ntmps19
 go_upto_region 1 with fail;refine RL hS ?_;clear hS;refine MV ?_;refine Wf ?_;refine Wf ?_;refine MV ?_;refine MC (v:=.bool false) (fun W hS=>(by have h_:=J6f W (J0a hsl hS.ext);rw[show win _ 32=false from decide_eq_false G] at h_;exact h_)) ?_;(iterate 3 refine Wt ?_);(iterate 3 refine MS ?_);refine Wt ?_;refine Wt ?_;refine MZ fun W hS=> ?_;go_wp2;exact bodyPost_ret (v:=.int .i64 1) (by simp only[results,Tryz.results19];go_simp) rfl ⟨rfl,hS.ext⟩
theorem V2g {l x:List UInt8}{vl vx:Value}{D:DD}{y:LD}(w:World)(hX:GX w)(hD:DK D y w)(hL:LOk D y)(hK:DOk D)(hsl:Sl w vl l)(hsx:Sl w vx x)(hla:1≤l.length∧l.length≤32)(hx2:64<x.length):
  Calls Tryz.prog 19 #[.pointer (some ⟨y.p,0,none⟩),vl,vx] w fun e w' =>K7 (.int .i64 1) w w' e:=by
 have M:=hK.pos;have J:=hK.len;have G:1≤(l.length:Int)∧(l.length:Int)≤32:=by omega
 have hS:=SH.nil [] w
 go_enter Tryz.func19,Tryz.ntmps19
 go_upto_region 1 with fail;refine RL hS ?_;clear hS;refine MV ?_;refine Wf ?_;refine Wf ?_;refine MV ?_;refine MC (v:=.bool true) (fun W hS=>(by have h_:=J6f W (J0a hsl hS.ext);rw[show win _ 32=true from decide_eq_true G] at h_;exact h_)) ?_;(iterate 3 refine Wf ?_);refine MV ?_;refine MF (v:=.int .i64 (x.length:Int)) (fun W hS=>Z9 (J0a hsx hS.ext) rfl rfl) ?_;refine Wto ?_;refine Wt ?_;refine Wt ?_;refine MZ fun W hS=> ?_;go_wp2;exact bodyPost_ret (v:=.int .i64 1) (by simp only[results,Tryz.results19];go_simp) rfl ⟨rfl,hS.ext⟩
theorem V7t {l x:List UInt8}{vl vx:Value}{D:DD}{y:LD}(w:World)(hX:GX w)(hD:DK D y w)(hL:LOk D y)(hK:DOk D)(hsl:Sl w vl l)(hsx:Sl w vx x)(hla:1≤l.length∧l.length≤32)(hx2:x.length≤64)(hf:D.P≤D.waits.length):
  Calls Tryz.prog 19 #[.pointer (some ⟨y.p,0,none⟩),vl,vx] w fun e w' =>K7 (.int .i64 6) w w' e:=by
 have M:=hK.pos;have J:=hK.len;have G:1≤(l.length:Int)∧(l.length:Int)≤32:=by omega
 have hS:=SH.nil [] w
 go_enter Tryz.func19,Tryz.ntmps19
 go_upto_region 1 with fail;refine RL hS ?_;clear hS;refine MV ?_;refine Wf ?_;refine Wf ?_;refine MV ?_;refine MC (v:=.bool true) (fun W hS=>(by have h_:=J6f W (J0a hsl hS.ext);rw[show win _ 32=true from decide_eq_true G] at h_;exact h_)) ?_;(iterate 3 refine Wf ?_);refine MV ?_;refine MF (v:=.int .i64 (x.length:Int)) (fun W hS=>Z9 (J0a hsx hS.ext) rfl rfl) ?_;refine Wfo ?_;refine Wf ?_;refine Wf ?_;refine MZ fun W hS=> ?_;go_upto_region 3 with fail;refine RTh (.q 0 (.q 1 (.q 2 (.q 3 (.q 4 (.q 5 (.q 6 (.q 7 (.q 8 (.q 9 (.q 10 (.q 11 .z)))))))))))) hS ?_;clear hS;(iterate 3 refine TV ?_);refine TF (v:=y.wv) rfl (fun W hS=>Q9 rfl rfl (by rw[J3 (J2 hD.d hS.ext)];exact(J4 (off:=69) 7)) (by kernel_rfl)) ?_;refine TF (v:=.int .i64 (D.waits.length:Int)) rfl (fun W hS=>(by rw[show(D.waits.length:Int)=((List.map pvC y.wps).length:Int) by rw[List.length_map,←hL.w,List.length_map]];exact J13 (Row.off hD.wt hS.off0 f0) rfl rfl Tryz.underlying83)) ?_;(iterate 4 refine TV ?_);refine TF (v:=.int .i64 (D.P:Int)) rfl (fun W hS=>Q9 rfl rfl (by rw[J3 (J2 hD.d hS.ext)];exact(J4 (off:=66) 4)) (by kernel_rfl)) ?_;refine Tto ?_;refine Tt ?_;refine TZ (fun _ h=>h) fun W hS=> ?_;go_wp2;exact bodyPost_ret (v:=.int .i64 6) (by simp only[results,Tryz.results19];go_simp) rfl ⟨rfl,hS.ext⟩
theorem V7u {l x:List UInt8}{vl vx:Value}{D:DD}{y:LD}(w:World)(hX:GX w)(hD:DK D y w)(hL:LOk D y)(hK:DOk D)(hsl:Sl w vl l)(hsx:Sl w vx x)(hla:1≤l.length∧l.length≤32)(hx2:x.length≤64)(hf:D.waits.length<D.P)(hn:l∉D.labs)(hm_:D.L≤D.labs.length):
  Calls Tryz.prog 19 #[.pointer (some ⟨y.p,0,none⟩),vl,vx] w fun e w' =>K7 (.int .i64 6) w w' e:=by
 have M:=hK.pos;have J:=hK.len;have G:1≤(l.length:Int)∧(l.length:Int)≤32:=by omega
 have hS:=SH.nil [] w
 go_enter Tryz.func19,Tryz.ntmps19
 go_upto_region 1 with fail;refine RL hS ?_;clear hS;refine MV ?_;refine Wf ?_;refine Wf ?_;refine MV ?_;refine MC (v:=.bool true) (fun W hS=>(by have h_:=J6f W (J0a hsl hS.ext);rw[show win _ 32=true from decide_eq_true G] at h_;exact h_)) ?_;(iterate 3 refine Wf ?_);refine MV ?_;refine MF (v:=.int .i64 (x.length:Int)) (fun W hS=>Z9 (J0a hsx hS.ext) rfl rfl) ?_;refine Wfo ?_;refine Wf ?_;refine Wf ?_;refine MZ fun W hS=> ?_;go_upto_region 3 with fail;refine RTh (.q 0 (.q 1 (.q 2 (.q 3 (.q 4 (.q 5 (.q 6 (.q 7 (.q 8 (.q 9 (.q 10 (.q 11 .z)))))))))))) hS ?_;clear hS;(iterate 3 refine TV ?_);refine TF (v:=y.wv) rfl (fun W hS=>Q9 rfl rfl (by rw[J3 (J2 hD.d hS.ext)];exact(J4 (off:=69) 7)) (by kernel_rfl)) ?_;refine TF (v:=.int .i64 (D.waits.length:Int)) rfl (fun W hS=>(by rw[show(D.waits.length:Int)=((List.map pvC y.wps).length:Int) by rw[List.length_map,←hL.w,List.length_map]];exact J13 (Row.off hD.wt hS.off0 f0) rfl rfl Tryz.underlying83)) ?_;(iterate 4 refine TV ?_);refine TF (v:=.int .i64 (D.P:Int)) rfl (fun W hS=>Q9 rfl rfl (by rw[J3 (J2 hD.d hS.ext)];exact(J4 (off:=66) 4)) (by kernel_rfl)) ?_;refine Tfo ?_;refine Tf ?_;refine TZ (fun _ h=>h) fun W hS=> ?_;go_upto_region 5 with fail;refine RTh (.q 0 (.q 1 (.q 2 (.q 3 (.q 4 (.q 5 (.q 6 (.q 7 (.q 8 (.q 9 (.q 10 (.q 11 (.q 12 (.q 13 (.q 14 (.q 15 (.q 16 (.q 17 (.q 18 (.q 19 (.q 20 (.q 21 .z)))))))))))))))))))))) hS ?_;clear hS;(iterate 3 refine TV ?_);refine TF (v:=.map (some y.h)) rfl (fun W hS=>Q9 rfl rfl (by rw[J3 (J2 hD.d hS.ext)];exact(J4 (off:=68) 6)) (by kernel_rfl)) ?_;refine TV ?_;refine TF (v:=K6 l) rfl (fun W hS=>J1z (J0a hsl hS.ext) rfl rfl) ?_;refine TF (v:=.pointer none) rfl (fun W hS=>(by rw[show(.pointer none:Value)=mpt (mlk (J07 y.acs) l) by rw[hL.mlk_n hn];rfl];exact J6g (J4s hD.m hS.ext) Tryz.underlying106 Tryz.underlying9 (by kernel_rfl) rfl rfl rfl)) ?_;refine TW ?_ (v:=.bool true) (hv:=by intro W;go_simp;first|done|rfl);refine Tt ?_;(iterate 3 refine TV ?_);refine TF (v:=.map (some y.h)) rfl (fun W hS=>Q9 rfl rfl (by rw[J3 (J2 hD.d hS.ext)];exact(J4 (off:=68) 6)) (by kernel_rfl)) ?_;refine TF (v:=.int .i64 (D.labs.length:Int)) rfl (fun W hS=>(by rw[show(D.labs.length:Int)=((J07 y.acs).length:Int) by unfold J07;rw[List.length_map,←hL.a,List.length_map]];exact Q12 (J4s hD.m hS.ext) Tryz.underlying106 rfl rfl rfl)) ?_;(iterate 4 refine TV ?_);refine TF (v:=.int .i64 (D.L:Int)) rfl (fun W hS=>Q9 rfl rfl (by rw[J3 (J2 hD.d hS.ext)];exact(J4 (off:=65) 3)) (by kernel_rfl)) ?_;refine Tto ?_;refine Tt ?_;refine Tt ?_;refine TZ (fun _ h=>h) fun W hS=> ?_;go_wp2;exact bodyPost_ret (v:=.int .i64 6) (by simp only[results,Tryz.results19];go_simp) rfl ⟨rfl,hS.ext⟩
theorem V7v {l x:List UInt8}{vl vx:Value}{D:DD}{y:LD}(w:World)(hX:GX w)(hD:DK D y w)(hL:LOk D y)(hK:DOk D)(hsl:Sl w vl l)(hsx:Sl w vx x)(hla:1≤l.length∧l.length≤32)(hx2:x.length≤64)(hf:D.waits.length<D.P)(hn:l∉D.labs)(hm_:D.labs.length<D.L){E:Nat}(hE:E=erN D.vk l)(hz:E≠0):
  Calls Tryz.prog 19 #[.pointer (some ⟨y.p,0,none⟩),vl,vx] w fun e w' =>K7 (.int .i64 (E:Int)) w w' e:=by
 have M:=hK.pos;have J:=hK.len;have G:1≤(l.length:Int)∧(l.length:Int)≤32:=by omega
 have hS:=SH.nil [] w
 go_enter Tryz.func19,Tryz.ntmps19
 go_upto_region 1 with fail;refine RL hS ?_;clear hS;refine MV ?_;refine Wf ?_;refine Wf ?_;refine MV ?_;refine MC (v:=.bool true) (fun W hS=>(by have h_:=J6f W (J0a hsl hS.ext);rw[show win _ 32=true from decide_eq_true G] at h_;exact h_)) ?_;(iterate 3 refine Wf ?_);refine MV ?_;refine MF (v:=.int .i64 (x.length:Int)) (fun W hS=>Z9 (J0a hsx hS.ext) rfl rfl) ?_;refine Wfo ?_;refine Wf ?_;refine Wf ?_;refine MZ fun W hS=> ?_;go_upto_region 3 with fail;refine RTh (.q 0 (.q 1 (.q 2 (.q 3 (.q 4 (.q 5 (.q 6 (.q 7 (.q 8 (.q 9 (.q 10 (.q 11 .z)))))))))))) hS ?_;clear hS;(iterate 3 refine TV ?_);refine TF (v:=y.wv) rfl (fun W hS=>Q9 rfl rfl (by rw[J3 (J2 hD.d hS.ext)];exact(J4 (off:=69) 7)) (by kernel_rfl)) ?_;refine TF (v:=.int .i64 (D.waits.length:Int)) rfl (fun W hS=>(by rw[show(D.waits.length:Int)=((List.map pvC y.wps).length:Int) by rw[List.length_map,←hL.w,List.length_map]];exact J13 (Row.off hD.wt hS.off0 f0) rfl rfl Tryz.underlying83)) ?_;(iterate 4 refine TV ?_);refine TF (v:=.int .i64 (D.P:Int)) rfl (fun W hS=>Q9 rfl rfl (by rw[J3 (J2 hD.d hS.ext)];exact(J4 (off:=66) 4)) (by kernel_rfl)) ?_;refine Tfo ?_;refine Tf ?_;refine TZ (fun _ h=>h) fun W hS=> ?_;go_upto_region 5 with fail;refine RTh (.q 0 (.q 1 (.q 2 (.q 3 (.q 4 (.q 5 (.q 6 (.q 7 (.q 8 (.q 9 (.q 10 (.q 11 (.q 12 (.q 13 (.q 14 (.q 15 (.q 16 (.q 17 (.q 18 (.q 19 (.q 20 (.q 21 .z)))))))))))))))))))))) hS ?_;clear hS;(iterate 3 refine TV ?_);refine TF (v:=.map (some y.h)) rfl (fun W hS=>Q9 rfl rfl (by rw[J3 (J2 hD.d hS.ext)];exact(J4 (off:=68) 6)) (by kernel_rfl)) ?_;refine TV ?_;refine TF (v:=K6 l) rfl (fun W hS=>J1z (J0a hsl hS.ext) rfl rfl) ?_;refine TF (v:=.pointer none) rfl (fun W hS=>(by rw[show(.pointer none:Value)=mpt (mlk (J07 y.acs) l) by rw[hL.mlk_n hn];rfl];exact J6g (J4s hD.m hS.ext) Tryz.underlying106 Tryz.underlying9 (by kernel_rfl) rfl rfl rfl)) ?_;refine TW ?_ (v:=.bool true) (hv:=by intro W;go_simp;first|done|rfl);refine Tt ?_;(iterate 3 refine TV ?_);refine TF (v:=.map (some y.h)) rfl (fun W hS=>Q9 rfl rfl (by rw[J3 (J2 hD.d hS.ext)];exact(J4 (off:=68) 6)) (by kernel_rfl)) ?_;refine TF (v:=.int .i64 (D.labs.length:Int)) rfl (fun W hS=>(by rw[show(D.labs.length:Int)=((J07 y.acs).length:Int) by unfold J07;rw[List.length_map,←hL.a,List.length_map]];exact Q12 (J4s hD.m hS.ext) Tryz.underlying106 rfl rfl rfl)) ?_;(iterate 4 refine TV ?_);refine TF (v:=.int .i64 (D.L:Int)) rfl (fun W hS=>Q9 rfl rfl (by rw[J3 (J2 hD.d hS.ext)];exact(J4 (off:=65) 3)) (by kernel_rfl)) ?_;refine Tfo ?_;refine Tf ?_;refine Tf ?_;refine TZ (fun _ h=>h) fun W hS=> ?_;go_upto_region 7 with fail;refine RL hS ?_;clear hS;refine MV ?_;refine MV ?_;refine MC (v:=.tuple #[.pointer none,.int .i64 (E:Int)]) (fun W hS=>Y5r hE hn hz W (hX.ext hS.ext) (hD.ext hS.ext) hL (J0a hsl hS.ext) hla.2) ?_;(iterate 5 refine MV ?_);refine MZ fun W hS=> ?_;go_upto_region 8 with fail;refine RL hS ?_;clear hS;refine MV ?_;refine Wto ?_;refine MZ fun W hS=> ?_;go_wp2;exact bodyPost_ret (v:=.int .i64 (E:Int)) (by simp only[results,Tryz.results19];go_simp) rfl ⟨rfl,hS.ext⟩
end

section
def OldF (L:List As)(W:World)(f:List Nat):Prop:=∀k∈f,k<W.heap.size→∃x∈L,(∀T K,x≠ .t T K)∧k∈x.foot
theorem OldF.mem {L:List As}{W:World}{x:As}{f:List Nat}(hx:x∈L)(ht:∀T K,x≠ .t T K)(hf:∀k∈f,k∈x.foot):OldF L W f:=fun k hk _=>⟨x,hx,ht,hf k hk⟩
namespace SH
variable {F : List Nat} {w W W' : World} {H H' L L' N R : List As} {x y : As}
def okQ (L R:List As)(W:World):List As→Prop
  |[]=>True
  |y::l=>(y∈L∨(y.mv=true∧R.all (tyOk y)=true)∨(∃T K,y=.t T K∧R.all (fun z=>tyOk z y)=true)∨∃f K,y=.p f K∧OldF L W f)∧okQ L R W l
theorem Q80:∀{l:List As},okQ L R W l→∀y∈l,y∈L∨(y.mv=true∧R.all (tyOk y)=true)∨(∃T K,y=.t T K∧R.all (fun z=>tyOk z y)=true)∨∃f K,y=.p f K∧OldF L W f
  |_::_,h,y,hy=>by
    rcases List.mem_cons.1 hy with rfl|hy
    · exact h.1
    · exact Q80 h.2 y hy
theorem frameQ (h:SH F w W (L++R))(h' :SH (feet L) W W' L')(ok:okQ L R W L'):SH F w W' (L' ++R):=by
  have hp:=List.pairwise_append.1 h.ap;have hR:∀z∈R,z.holds W:=fun z hz=>h.all z (by simp[hz]);have hL:∀x∈L,x.holds W:=fun x hx=>h.all x (by simp[hx])
  have hf:∀k,k∈feet L→∀z∈R,(∀T K,z≠ .t T K)→k∉z.foot:=fun k hk z hz hT=>by
    obtain⟨x,hx,hm,hk⟩:=mem_feet.1 hk;have:=(hp.2.2 x hx z hz).1 hm;cases z with
    |t T K=>exact absurd rfl (hT T K)
    |_=>exact this k hk
  have hl:∀y∈L',y.mv=true→∀z∈R,(∀T K,z≠ .t T K)→∀k∈y.foot,k∉z.foot:=fun y hy hm z hz hT k hk D=>
    hf k (h'.old y hy hm k hk (As.lt (hR z hz) k D)) z hz hT D
  refine⟨h.off.step h'.off fun k hk G=> ?_,fun z hz=> ?_,List.pairwise_append.2 ⟨h'.ap,hp.2.1,fun y hy z hz=>⟨fun hm=> ?_,fun hm=> ?_⟩⟩,fun z hz hm k hk G=> ?_⟩
  · obtain⟨x,hx,hm,hk⟩:=mem_feet.1 hk
    exact h.old x (by simp[hx]) hm k hk G
  · rcases List.mem_append.1 hz with hz|hz
    · exact h'.all z hz
    refine As.keep h'.off (hR z hz) (fun k hk M=> ?_) fun T K e k M G ht=> ?_
    · cases z with
      |t T K=>cases hk
      |_=>exact hf k M _ hz (fun _ _ e=>by cases e) hk
    obtain⟨x,hx,hm,hk⟩:=mem_feet.1 M;have h1:=(hp.2.2 x hx z hz).1 hm;subst e;exact h1 ((As.tyOf (hL x hx) hm k hk).symm.trans ht)
  · rcases Q80 ok y hy with J|⟨_,N⟩|⟨T,K,e,_⟩|⟨f,K,e,_⟩
    · exact(hp.2.2 y J z hz).1 hm
    · cases z with
      |t T K=>have:=List.all_eq_true.1 N _ hz;simpa[tyOk,hm] using this
      |_=>exact hl y hy hm _ hz (fun _ _ e=>by cases e)
    · subst e;cases hm
    subst e;cases hm
  · rcases Q80 ok y hy with J|⟨S,_⟩|⟨T,K,e,N⟩|⟨f,K,e,ho⟩
    · exact(hp.2.2 y J z hz).2 hm
    · cases y with
      |t T K=>cases S
      |_=>exact fun k hk D=>hl _ hy S z hz (fun T K e=>by subst e;cases hm) k D hk
    · subst e;have:=List.all_eq_true.1 N _ hz;simpa[tyOk,hm] using this
    subst e;intro k hk D;obtain⟨x,hx,ht,X⟩:=ho k D (As.lt (hR z hz) k hk);have h2:=(hp.2.2 x hx z hz).2 hm;cases x with
    |t T K=>exact ht T K rfl
    |_=>exact h2 k hk X
  rcases List.mem_append.1 hz with hz|hz
  · by_cases U:k<W.heap.size
    · obtain⟨x,hx,V,D⟩:=mem_feet.1 (h'.old z hz hm k hk U)
      exact h.old x (by simp[hx]) V k D G
    have:=h.size;omega
  exact h.old z (by simp[hz]) hm k hk G
theorem OldF.less {f:List Nat}{g:List Nat}{K:World→Prop}(h:OldF (L++[.p g K]) W f)(hg:InF N g):OldF (L++N) W f:=fun k hk G=>by
  obtain⟨x,hx,ht,D⟩:=h k hk G;rcases List.mem_append.1 hx with hx|hx
  · exact⟨x,List.mem_append.2 (.inl hx),ht,D⟩
  · rw[List.mem_singleton.1 hx] at D
    obtain⟨z,hz,h1,h2⟩:=hg k D;exact⟨z,List.mem_append.2 (.inr hz),h1,h2⟩
end SH
end

section
def Z6u (D:DD)(y:LD)(val:Value)(D' :DD)(R:List As)(F:List Nat)(w w' :World)(e:Ending):Prop:=∃z:LD,e=.returned val∧LOk D' z∧z.p=y.p∧SH F w w' (ldL D' z++R)∧OldF (ldL D y) w (Q23 z.bs)∧OldF (ldL D y) w (Q33 z.pvs)
def tyD (R:List As):Bool:=R.all fun z=>(match z with
  | .t T _=>T !=110 &&(T !=119 &&(T !=101 &&(T !=88 &&(T !=83 &&(T !=115 && T !=23)))))
  |_=>true) &&(!z.mv ||z.ty !=some 181)
theorem J3c {R:List As}{y:As}(h:tyD R=true)(hy:∀T,y.ty=some T→T=110∨T=119∨T=101∨T=88∨T=83∨T=115∨T=23):R.all (SH.tyOk y)=true:=by
  refine List.all_eq_true.2 fun z hz=> ?_;have h1:=List.all_eq_true.1 h z hz;cases z with
  |t T K=>
    simp only[Bool.and_eq_true,bne_iff_ne] at h1;show(!y.mv ||y.ty !=some T)=true;rw[Bool.or_eq_true,bne_iff_ne];refine .inr fun e=> ?_;rcases hy T e with rfl|rfl|rfl|rfl|rfl|rfl|rfl
    · exact h1.1.1 rfl
    · exact h1.1.2.1 rfl
    · exact h1.1.2.2.1 rfl
    · exact h1.1.2.2.2.1 rfl
    · exact h1.1.2.2.2.2.1 rfl
    · exact h1.1.2.2.2.2.2.1 rfl
    · exact h1.1.2.2.2.2.2.2 rfl
  |_=>rfl
theorem Y9m {R:List As}{K:World→Prop}(h:tyD R=true):R.all (fun z=>SH.tyOk z (.t 181 K))=true:=by
  refine List.all_eq_true.2 fun z hz=> ?_;have h1:=List.all_eq_true.1 h z hz;rw[Bool.and_eq_true] at h1;exact h1.2
theorem Z44 {D D' :DD}{y z:LD}{W:World}{R:List As}(hR:tyD R=true)(h1:OldF (ldL D y) W (Q23 z.bs))(h2:OldF (ldL D y) W (Q33 z.pvs)):SH.okQ (ldL D y++[gx]) R W (ldL D' z++[gx]):=by
  have hm:∀{f:List Nat},OldF (ldL D y) W f→OldF (ldL D y++[gx]) W f:=fun h k hk G=>by
    obtain⟨x,hx,h3⟩:=h k hk G;exact⟨x,List.mem_append.2 (.inl hx),h3⟩
  refine⟨.inr (.inl ⟨rfl,J3c hR fun T e=> ?_⟩),.inr (.inl ⟨rfl,J3c hR fun T e=> ?_⟩),.inr (.inl ⟨rfl,J3c hR fun T e=> ?_⟩),.inr (.inl ⟨rfl,J3c hR fun T e=> ?_⟩),.inr (.inl ⟨rfl,J3c hR fun T e=> ?_⟩),.inr (.inl ⟨rfl,J3c hR fun T e=> ?_⟩),.inr (.inl ⟨rfl,J3c hR fun T e=> ?_⟩),.inr (.inl ⟨rfl,J3c hR fun T e=> ?_⟩),.inr (.inr (.inr ⟨_,_,rfl,hm h1⟩)),.inr (.inr (.inr ⟨_,_,rfl,hm h2⟩)),.inr (.inr (.inl ⟨_,_,rfl,Y9m hR⟩)),.inl (List.mem_append.2 (.inr (by simp))),trivial⟩
  · injection e with e;exact .inl e.symm
  · cases e
  · injection e with e;exact .inr (.inl e.symm)
  · injection e with e;exact .inr (.inr (.inl e.symm))
  · injection e with e;exact .inr (.inr (.inr (.inl e.symm)))
  · injection e with e;exact .inr (.inr (.inr (.inr (.inl e.symm))))
  · injection e with e;exact .inr (.inr (.inr (.inr (.inr (.inl e.symm)))))
  injection e with e;exact .inr (.inr (.inr (.inr (.inr (.inr e.symm)))))
section
variable {P : Program} {g : FuncId} {args : Array Value} {F : List Nat} {w W : World} {N R : List As} {D D' : DD} {y : LD} {val : Value}
end
theorem SH.oldD {D:DD}{y:LD}{w W:World}{R H:List As}{x:As}(h:SH (feet (ldL D y++R)) w W H)(hR:R.all (fun z=> !z.mv)=true)(hx:x∈H)(hm:x.mv=true):OldF (ldL D y) w x.foot:=fun k hk M=>by
  obtain⟨z,hz,G,J⟩:=mem_feet.1 (h.old x hx hm k hk M);rcases List.mem_append.1 hz with hz|hz
  · exact⟨z,hz,fun T K e=>(by subst e;cases G),J⟩
  · have:=List.all_eq_true.1 hR z hz
    rw[G] at this;cases this
end
end Go.Proofs.YteehbddkcnkhfaaGreatDoor

/- Contracts and plain laws for directPuts_holds. Conditions: the tables hold their numbers. -/
import Derived.Test.YteehbddkcnkhfaaGreatDoorJ27
open Go.RowKit
set_option maxRecDepth 100000
set_option linter.unusedSimpArgs false
set_option linter.unusedVariables false
namespace Go.Proofs.YteehbddkcnkhfaaGreatDoor
section
set_option maxHeartbeats 3000000
attribute [local irreducible] wpList Y8 wpX
def bsd:TR→Nat→Nat→List Nat
 | .node _ l r,k,d=>if kb k d=0 then rs r::bsd l k (d+1) else rs l::bsd r k (d+1)
 |_,_,_=>[]
theorem Q8w:∀(T:TR) (k d:Nat),(bsd T k d).length=(J3d T k d).length
 | .nil,_,_=>rfl
 | .leaf _ _,_,_=>rfl
 | .node e l r,k,d=>by
  show(if kb k d=0 then rs r::bsd l k (d+1) else rs l::bsd r k (d+1)).length=(_::(if kb k d=0 then J3d l k (d+1) else J3d r k (d+1))).length
  split
  ·
   simp[Q8w l k (d+1)]
  ·
   simp[Q8w r k (d+1)]
theorem Z3f:∀{T:TR} {k d j:Nat} {T' :TR},(J3d T k d)[j]?=some T' →∃e l r,T' =.node e l r∧(bsd T k d)[j]?=some (if kb k (d+j)=0 then rs r else rs l)
 | .nil,_,_,_,_,h=>by simp[J3d] at h
 | .leaf _ _,_,_,_,_,h=>by simp[J3d] at h
 | .node e l r,k,d,0,T',h=>by
  have h:some (TR.node e l r)=some T' :=h;refine⟨e,l,r,(Option.some.inj h).symm,?_⟩;show(if kb k d=0 then rs r::bsd l k (d+1) else rs l::bsd r k (d+1))[0]?=some (if kb k d=0 then rs r else rs l)
  split<;>rfl
 | .node e l r,k,d,j+1,T',h=>by
  have h:(if kb k d=0 then J3d l k (d+1) else J3d r k (d+1))[j]?=some T' :=h;show ∃e' l' r',T' =TR.node e' l' r' ∧(if kb k d=0 then rs r::bsd l k (d+1) else rs l::bsd r k (d+1))[j+1]?=_
  split at h
  ·
   rename_i hb;rw[if_pos hb];obtain⟨e',l',r',h1,h2⟩:=Z3f h;exact⟨e',l',r',h1,by rw[show d+(j+1)=d+1+j by omega];exact h2⟩
  ·
   rename_i hb;rw[if_neg hb];obtain⟨e',l',r',h1,h2⟩:=Z3f h;exact⟨e',l',r',h1,by rw[show d+(j+1)=d+1+j by omega];exact h2⟩
theorem Z6g {bs:List Nat}{i:Nat}{x:Nat}(h:bs[i]?=some x):List.map J0l (bs.take i)++[J0l x]=List.map J0l (bs.take (i+1)):=by rw[List.take_add_one,h,List.map_append];rfl
attribute [local irreducible] hs4 sE sL sN

def J6m (E:TR):Nat×Nat×Bool:=match E with
 | .leaf a x=>(a,x,true)
 |_=>(0,0,false)
theorem Y1t {q:Prop}{T:TR}{u:Value}{k:Nat}(hzT:tsz T≤1099511627775)(w:World)(hG:GT q w)(h:TA w T u):
  Calls Tryz.prog 83 #[u,.agg (J0 .u8 32 (J7 k))] w fun e w' => ∃v,e=.returned (.tuple #[v,.agg (lf (J6m (J23 T k 0)).1 (J6m (J23 T k 0)).2.1),.bool (J6m (J23 T k 0)).2.2])∧SH [] w w' [.r 23 32 v ((bsd T k 0).map J0l)]:=by
 have hS:=SH.nil [] w
 go_enter Tryz.func83,Tryz.ntmps83
 go_upto_region 0 with fail;refine RL hS ?_;clear hS;refine MN (z:=J0 .u8 32 (J7 k)) (t:=42) ?_;intro U;refine MV ?_;refine MN (z:=lf 0 0) (t:=44) ?_;intro Z;refine Wf ?_;refine MZ fun W hS=> ?_;go_upto_region 1 with fail;refine RL hS ?_;clear hS;refine MV ?_;refine ML 1 ?_;refine ME (V:=fun p:WP w T k=> .tuple #[p.v,p.u]) (fun W hS=>V13 hS (V15 w W hS.ext hzT h) rfl) ?_;rintro⟨nv,nu,us,G,S,γ⟩;dsimp only;(iterate 5 refine MV ?_);refine MZ fun W hS=> ?_;go_upto_region 2 with fail;refine RL hS ?_;clear hS;refine MV ?_;refine MF (v:=.int .i64 ((List.map Q2l us).length:Int)) (fun W hS=>J13 (hS.row (i:=0) rfl) rfl rfl Tryz.underlying108) ?_;refine W0 ?_;refine MZ fun W hS=> ?_;have ζ:=Y4p S hzT;have hS:=hS.rnil 23 32 rfl
 go_wp2_with fail
 go_loopw [4,9,10,19] (fun uu x1 x2 ii wr=> ∃(i:Nat)(sv:Value),(i≤us.length)∧(sv=uu)∧(ii=.int .i64 (i:Int))∧SH [] w wr [.r 23 32 sv (List.map J0l (List.take i (bsd T k 0))),.r 115 1 nv (List.map Q2l us),.b Z (lf 0 0) 44,.b U (J0 .u8 32 (J7 k)) 42])
  (fun uu x1 x2 ii _=>us.length-(intOf ii).toNat)
 case atStart=>exact⟨0,_,Nat.zero_le _,rfl,rfl,hS⟩
 clear hS
 case round=>
  obtain⟨i,sv,hi,rfl,rfl,hS⟩:=hrel
  by_cases J:i<us.length
  ·
   obtain⟨y,yh⟩:∃y,us[i]?=some y:=⟨_,List.getElem?_eq_getElem J⟩
   obtain⟨T1,β,ε⟩:=γ i y yh;obtain⟨e0,l,r,rfl,N⟩:=Z3f β;obtain⟨b,s0,s1,rfl,hB,hl,hr⟩:=ε;obtain⟨p0,rfl⟩:=hl.pt;obtain⟨p1,rfl⟩:=hr.pt;rw[Nat.zero_add] at N;go_upto_region 3 with fail;refine RL hS ?_;clear hS;refine Wt ?_;refine MZ fun W hS=> ?_;go_upto_region 4 with fail;refine RL hS ?_;clear hS;refine MV ?_;refine MI 1 i (e:=(Q2l (ptr b))) (by rw[List.getElem?_map,yh];rfl) ?_;intro δ _ M;refine MF (v:=.pointer (some ⟨b,0,none⟩)) (fun W hS=>Q9 rfl rfl (Y1n (hS.row (i:=1) rfl) M.out (by rw[List.getElem?_map,yh];rfl) 0 _ (rfl)) (by kernel_rfl)) ?_;refine MV ?_;refine MV ?_;refine MZ fun W hS=> ?_;rcases V14 k i with hb|hb
   ·
    have R:(bsd T k 0)[i]?=some (rs r):=by rw[N,if_pos hb]
    go_upto_region 5 with fail;refine RTp [1,2,3] (.q 0 (.q 1 (.q 2 (.q 3 (.q 6 (.q 7 (.e 4 (.q 5 (.q 8 (.q 9 (.e 10 (.e 11 (.e 12 (.q 13 .z)))))))))))))) hS ?_;clear hS;refine TV ?_;refine TV ?_;refine TL 2 ?_;(iterate 3 refine TV ?_);refine TE (fun _ h=>h.pick [1,2,3]) ?_;refine MC (v:=.int .i64 0) (fun W hS=>(by have h_:=J88 k i (by omega) W;rw[hb] at h_;exact h_)) ?_;refine X6 [1,2,3] [0,1,2] ?_;refine TW ?_ (v:=.int .i64 1);refine TW ?_ (v:=.pointer (some ⟨b,65,none⟩)) (hv:=fun _=>J0c (m:=2) (k:=1) (j:=1) (off:=64) (by decide) Tryz.underlying179 (by kernel_rfl) rfl rfl rfl);refine TF (v:=.pointer p1) rfl (fun W hS=>Q9 rfl rfl (by rw[J3 (J2 hB hS.ext)];exact nd_s1) (by kernel_rfl)) ?_;refine TE (fun _ h=>h.pick [1,2,3]) ?_;obtain⟨U1,D⟩:=exh (rs r);refine MC (v:=.agg (J0 .u8 32 (J7 U1))) (fun W hS=>(by rw[D.out];exact J7n W (J05 hG hS.ext) (TA.ext hr hS.ext))) ?_;refine X6 [1,2,3] [0,1,2] ?_;refine TE (fun _ h=>h.pick [1,2,3]) ?_;refine MB (z:=(J0 .u8 32 (J7 U1))) (t:=23) (n:=1) (c:=1) ?_ (hr:=fun W _=>J28 rfl rfl rfl Tryz.underlying41 (by rw[J1];kernel_rfl) (by rw[J1];kernel_rfl) (by rw[J1];decide) (by rw[J1];decide));intro θ;refine X6 [0,2,3,4] [1,2,3] ?_;refine TE (fun _ h=>h.pick [0,2,3,4]) ?_;refine MAr 1 0 (tS:=41) (bytes:=32) (es:=(List.map J0l (List.take i (bsd T k 0)))) (by first|omega|(simp only[List.length_append,List.length_map,List.length_take,List.length_drop,List.length_reverse,List.length_cons,List.length_nil];omega)) (e:=J0l U1) (hk:=J1 _ _ _) (h1:=V7 _ _ _) ?_;intro X;refine X6 [0,1,2,3,4] [0,2,3,4] ?_;refine TV ?_;refine TZ (fun _ h=>h) fun W hS=> ?_;go_wp2;go_roundw
    case rel=>exact⟨i+1,X,by omega,rfl,by go_num,(by have e_:=D.out;subst e_;rw[←Z6g R];exact(hS.pick [1,2,3,4]))⟩
    case measure=>simp[intOf];omega
   have R:(bsd T k 0)[i]?=some (rs l):=by rw[N,if_neg (by rw[hb];decide)]
   go_upto_region 5 with fail;refine RTp [1,2,3] (.q 0 (.q 1 (.q 2 (.q 3 (.q 6 (.q 7 (.e 4 (.q 5 (.q 8 (.q 9 (.e 10 (.e 11 (.e 12 (.q 13 .z)))))))))))))) hS ?_;clear hS;refine TV ?_;refine TV ?_;refine TL 2 ?_;(iterate 3 refine TV ?_);refine TE (fun _ h=>h.pick [1,2,3]) ?_;refine MC (v:=.int .i64 1) (fun W hS=>(by have h_:=J88 k i (by omega) W;rw[hb] at h_;exact h_)) ?_;refine X6 [1,2,3] [0,1,2] ?_;refine T0 ?_;refine TW ?_ (v:=.pointer (some ⟨b,64,none⟩)) (hv:=fun _=>J0c (m:=2) (k:=1) (j:=0) (off:=64) (by decide) Tryz.underlying179 (by kernel_rfl) rfl rfl rfl);refine TF (v:=.pointer p0) rfl (fun W hS=>Q9 rfl rfl (by rw[J3 (J2 hB hS.ext)];exact nd_s0) (by kernel_rfl)) ?_;refine TE (fun _ h=>h.pick [1,2,3]) ?_;obtain⟨U1,D⟩:=exh (rs l);refine MC (v:=.agg (J0 .u8 32 (J7 U1))) (fun W hS=>(by rw[D.out];exact J7n W (J05 hG hS.ext) (TA.ext hl hS.ext))) ?_;refine X6 [1,2,3] [0,1,2] ?_;refine TE (fun _ h=>h.pick [1,2,3]) ?_;refine MB (z:=(J0 .u8 32 (J7 U1))) (t:=23) (n:=1) (c:=1) ?_ (hr:=fun W _=>J28 rfl rfl rfl Tryz.underlying41 (by rw[J1];kernel_rfl) (by rw[J1];kernel_rfl) (by rw[J1];decide) (by rw[J1];decide));intro η;refine X6 [0,2,3,4] [1,2,3] ?_;refine TE (fun _ h=>h.pick [0,2,3,4]) ?_;refine MAr 1 0 (tS:=41) (bytes:=32) (es:=(List.map J0l (List.take i (bsd T k 0)))) (by first|omega|(simp only[List.length_append,List.length_map,List.length_take,List.length_drop,List.length_reverse,List.length_cons,List.length_nil];omega)) (e:=J0l U1) (hk:=J1 _ _ _) (h1:=V7 _ _ _) ?_;intro Y;refine X6 [0,1,2,3,4] [0,2,3,4] ?_;refine TV ?_;refine TZ (fun _ h=>h) fun W hS=> ?_;go_wp2;go_roundw
   case rel=>exact⟨i+1,Y,by omega,rfl,by go_num,(by have e_:=D.out;subst e_;rw[←Z6g R];exact(hS.pick [1,2,3,4]))⟩
   case measure=>simp[intOf];omega
  obtain rfl:i=us.length:=by omega
  rw[S,←Q8w T k 0,List.take_length] at hS;go_upto_region 3 with fail;refine RL hS ?_;clear hS;refine Wf ?_;refine MZ fun W hS=> ?_;rcases Q3z T k 0 with he|⟨a,x,he⟩
  ·
   rw[he] at G;obtain rfl:_=nlp:=G;go_upto_region 8 with fail;refine RL hS ?_;clear hS;refine MV ?_;refine MW ?_ (v:=.agg (lf 0 0)) (hv:=by intro W;first|rfl|kernel_rfl);refine MV ?_;refine MR 2 ?_ (hz:=by rw[J0d];kernel_rfl) (hs:=by first|rw[J0d,J0d]|rw[J0d]|kernel_rfl) (h1:=Q82);refine Wf ?_;refine MZ fun W hS=> ?_;go_wp2;exact bodyPost_ret (Y1q rfl rfl rfl rfl (hS.blk (i:=2) rfl) (by kernel_rfl) (by rw[J0d];kernel_rfl)) rfl ⟨_,by rw[he];rfl,hS.pick [0]⟩
  rw[he] at G;obtain⟨b1,rfl,α,ha,hx⟩:=G;go_upto_region 9 with fail;refine RTp [0,1,3] (.q 0 (.q 1 (.q 2 (.q 3 (.q 4 (.q 5 (.e 6 (.q 7 .z)))))))) hS ?_;clear hS;(iterate 4 refine TV ?_);refine TF (v:=.agg (lf a x)) rfl (fun W hS=>K2 rfl rfl (fun i v hv=>by rw[J3 (J2 α hS.ext)];exact Y8v i v hv) (by kernel_rfl) (by first|kernel_rfl|(rw[J0d];kernel_rfl))) ?_;refine TV ?_;refine TE (fun _ h=>h.pick [0,1,3]) ?_;refine MR 2 ?_ (hz:=by rw[J0d];kernel_rfl) (hs:=by first|rw[J0d,J0d]|rw[J0d]|kernel_rfl) (h1:=Q82);refine X6 [0,1,3] [0,1,2] ?_;refine Tt ?_;refine TZ (fun _ h=>h.pick [0,1,3]) fun W hS=> ?_;go_wp2;exact bodyPost_ret (Y1q rfl rfl rfl rfl (hS.blk (i:=2) rfl) (by kernel_rfl) (by rw[J0d];kernel_rfl)) rfl ⟨_,by rw[he];rfl,hS.pick [0]⟩
end

section
set_option maxHeartbeats 3000000
attribute [local irreducible] wpList Y8 wpX
attribute [local irreducible] hs4 sE sL sN

end

section
def tE (th:Bool)(a x:Nat):List UInt8:=if th then[0]++lb 32 a++lb 32 x else[2]
def tN (d:Int)(b s o:Nat):List UInt8:=if b=0 then[1]++db d++lb 32 s++lb 32 o else[1]++db d++lb 32 o++lb 32 s
def tT (k:Nat):List Nat→Nat→List UInt8→List UInt8
  |[],_,e=>e
  |o::ss,d,e=>tN (d:Int) (kb k d) (hs4 (tT k ss (d+1) e)) o
def chk (R k:Nat)(ss:List Nat)(th:Bool)(a x:Nat):Nat×Bool×Nat:=
  if 256<ss.length∨th=true∧J3o (J7 a) (J7 k)<ss.length then(0,false,17)
  else if hs4 (tT k ss 0 (tE th a x))=R then(if th=true∧a=k then(x,true,0) else(0,false,0))
  else(0,false,17)
attribute [local irreducible] hs4 sN sE sL lb
end

section
attribute [local irreducible] wpList Y8 wpX
attribute [local irreducible] hs4 sE sL sN

end

section
set_option maxHeartbeats 3000000
attribute [local irreducible] wpList Y8 wpX
attribute [local irreducible] hs4 sE sL sN

end

section
set_option maxHeartbeats 3000000
attribute [local irreducible] wpList Y8 wpX
attribute [local irreducible] hs4 sE sL sN lb
end

section
set_option maxHeartbeats 3000000
attribute [local irreducible] wpList Y8 wpX
attribute [local irreducible] hs4 sE sL sN lb
end

section
end

section
set_option maxHeartbeats 3000000
attribute [local irreducible] wpList Y8 wpX
attribute [local irreducible] hs4 sE sL sN lb
def V2u (ss:List Nat)(th:Bool)(a x:Nat)(w w' :World)(e:Ending):Prop:=∃v,e=.returned (.agg (pfc v th a x))∧SH [] w w' [.r 23 32 v (ss.map J0l)]
theorem V8a {f:FuncId}{args:Array Value}{F:List Nat}{w W:World}{H:List As}{ss:List Nat}{th:Bool}{a x:Nat}(hS:SH F w W H)(hc:Calls Tryz.prog f args W fun e W' =>V2u ss th a x W W' e)(ht:H.all (SH.tyOk (.r 23 32 undef []))=true):
  Calls Tryz.prog f args W fun e W' => ∃v,e=.returned (.agg (pfc v th a x))∧SH F w W' (.r 23 32 v (ss.map J0l)::H):=J3f hS hc (fun _=>⟨rfl,ht⟩)

theorem Z4i {q:Prop}{T:TR}{u:Value}{k:Nat}(hzT:tsz T≤1099511627775)(w:World)(hG:GT q w)(h:TA w T u):
  Calls Tryz.prog 45 #[u,.agg (J0 .u8 32 (J7 k))] w fun e w' =>V2u (bsd T k 0) (J6m (J23 T k 0)).2.2 (J6m (J23 T k 0)).1 (J6m (J23 T k 0)).2.1 w w' e:=by
 have hS:=SH.nil [] w
 go_enter Tryz.func45,Tryz.ntmps45
 go_upto_region 0 with fail;refine RL hS ?_;clear hS;refine MN (z:=J0 .u8 32 (J7 k)) (t:=42) ?_;intro J;refine MN (z:=pfc (.slice none 0 0) false 0 0) (t:=46) ?_;intro M;refine MZ fun W hS=> ?_;go_upto_region 1 with fail;refine RL hS ?_;clear hS;refine MV ?_;refine ML 1 ?_;refine ME (V:=fun v=> .tuple #[v,.agg (lf (J6m (J23 T k 0)).1 (J6m (J23 T k 0)).2.1),.bool (J6m (J23 T k 0)).2.2]) (fun W hS=>J3f hS (Y1t (k:=k) hzT W (J05 hG hS.ext) (TA.ext h hS.ext)) (fun _=>⟨rfl,rfl⟩)) ?_;intro so;refine J06 (fun W hS=>Row.form (ls:=(bsd T k 0)) (f:=J0l) (hS.row (i:=0) rfl)) ?_;rintro⟨G,D,rfl⟩;(iterate 3 refine MV ?_);refine MW ?_ (v:=.bool (J6m (J23 T k 0)).2.2);refine MN (z:=lf 0 0) (t:=44) ?_;intro N;refine MV ?_;refine MR 0 ?_ (hz:=by rw[J0d];kernel_rfl) (hs:=by first|rw[J0d,J0d]|rw[J0d]|kernel_rfl) (h1:=Q82);refine MW ?_ (v:=.bool (J6m (J23 T k 0)).2.2);refine MZ fun W hS=> ?_;go_upto_region 2 with fail;refine RL hS ?_;clear hS;refine MV ?_;refine MW ?_ (v:=.bool (J6m (J23 T k 0)).2.2);refine ML 0 ?_ (hs:=by rw[J0d];kernel_rfl);refine MW ?_ (v:=.agg (pfc (.slice G (bsd T k 0).length D) (J6m (J23 T k 0)).2.2 ((J6m (J23 T k 0)).1) ((J6m (J23 T k 0)).2.1))) (hv:=by intro W;first|rfl|kernel_rfl);refine MR 2 ?_ (hz:=by rw[Q1e];kernel_rfl) (hs:=by first|rw[Q1e,Q1e]|rw[Q1e]|kernel_rfl) (h1:=(V3o rfl));refine MZ fun W hS=> ?_;go_wp2;exact bodyPost_ret (Z7 rfl rfl (hS.blk (i:=2) rfl) (by kernel_rfl) (by rw[Q1e];kernel_rfl)) rfl ⟨_,rfl,hS.pick [1]⟩
end

section
set_option maxHeartbeats 3000000
attribute [local irreducible] wpList Y8 wpX
open S8 (Kn GA kP)
structure Fnd where
 ep:Nat
 ix:Nat
 pf:Nat
 pres:Bool
 ver:Nat
 x:List UInt8
 bd:Nat
 op:Nat
 ss:List Nat
 th:Bool
 ek:Nat
 ev:Nat
 ro:Nat
 li:Nat
 ah:Nat
 rd:Nat
abbrev fdF (f:Fnd)(vu sv:Value):Array Value:=Q5 [.c (.int .i64 (f.ep:Int)),.a 32 f.ix,.a 80 f.pf,.c (.bool f.pres),.c (.int .i64 (f.ver:Int)),.c vu,.a 32 f.bd,.a 32 f.op,.c sv,.c (.bool f.th),.a 32 f.ek,.a 32 f.ev,.a 32 f.ro,.a 32 f.li,.a 32 f.ah,.c (.int .i64 (f.rd:Int))]
def ahd (D:DD)(e:Nat):Nat:=if 0<e then D.link (e-1) else 0
theorem Y69 {D:DD}{e:Nat}(h:0<e):D.link (e-1)=ahd D e:=by unfold ahd;rw[if_pos h]
theorem Y0c {D:DD}{e:Nat}(h:¬0<e):0=ahd D e:=by unfold ahd;rw[if_neg h]
def fnd (D:DD)(ix pf e ver:Nat)(x:List UInt8):Fnd where
 ep:=e
 ix:=ix
 pf:=pf
 pres:=decide (0<ver)
 ver:=ver
 x:=x
 bd:=if 0<ver then bnd (opn D.bk ix (ver:Int)) ix (ver:Int) x else 0
 op:=if 0<ver then opn D.bk ix (ver:Int) else 0
 ss:=bsd (D.tree e) ix 0
 th:=(J6m (J23 (D.tree e) ix 0)).2.2
 ek:=(J6m (J23 (D.tree e) ix 0)).1
 ev:=(J6m (J23 (D.tree e) ix 0)).2.1
 ro:=rs (D.tree e)
 li:=D.link e
 ah:=ahd D e
 rd:=(Q5v (J23 (D.tree e) ix 0) (J3d (D.tree e) ix 0).length ix).2.2
theorem Y9n {f:Fnd}{ep ix pf ver bd op ek ev ro li ah rd:Nat}{pres th:Bool}{x:List UInt8}{ss:List Nat}{vu sv:Value}(h:f=⟨ep,ix,pf,pres,ver,x,bd,op,ss,th,ek,ev,ro,li,ah,rd⟩):
  Q5 [.c (.int .i64 (ep:Int)),.a 32 ix,.a 80 pf,.c (.bool pres),.c (.int .i64 (ver:Int)),.c vu,.a 32 bd,.a 32 op,.c sv,.c (.bool th),.a 32 ek,.a 32 ev,.a 32 ro,.a 32 li,.a 32 ah,.c (.int .i64 (rd:Int))]=fdF f vu sv:=by subst h;rfl
theorem V2s {D:DD}{ix pf e ver bd op:Nat}{x:List UInt8}{T:TR}{er:Nat×Nat×Bool}{gr:Nat×Bool×Nat}{R ah:Nat}{vu sv:Value}(hv:0<ver)(hO:op=opn D.bk ix (ver:Int))(hR:bd=bnd (opn D.bk ix (ver:Int)) ix (ver:Int) x)(hT:T=D.tree e)(he:er=J6m (J23 T ix 0))(hg:gr=Q5v (J23 T ix 0) (J3d T ix 0).length ix)(hr:R=rs T)(ha:ah=ahd D e):
  Q5 [.c (.int .i64 (e:Int)),.a 32 ix,.a 80 pf,.c (.bool true),.c (.int .i64 (ver:Int)),.c vu,.a 32 bd,.a 32 op,.c sv,.c (.bool er.2.2),.a 32 er.1,.a 32 er.2.1,.a 32 R,.a 32 (D.link e),.a 32 ah,.c (.int .i64 (gr.2.2:Int))]=fdF (fnd D ix pf e ver x) vu sv:=by
 refine Y9n (x:=x) (ss:=bsd T ix 0) ?_;rw[hO,hR,hr,ha,hg,he,hT];unfold fnd;rw[if_pos hv,if_pos hv,decide_eq_true hv]
theorem V2t {D:DD}{ix pf e ver:Nat}{x:List UInt8}{T:TR}{er:Nat×Nat×Bool}{gr:Nat×Bool×Nat}{R ah:Nat}{vu sv:Value}(hv:ver=0)(hT:T=D.tree e)(he:er=J6m (J23 T ix 0))(hg:gr=Q5v (J23 T ix 0) (J3d T ix 0).length ix)(hr:R=rs T)(ha:ah=ahd D e):
  Q5 [.c (.int .i64 (e:Int)),.a 32 ix,.a 80 pf,.c (.bool false),.c (.int .i64 0),.c vu,.a 32 0,.a 32 0,.c sv,.c (.bool er.2.2),.a 32 er.1,.a 32 er.2.1,.a 32 R,.a 32 (D.link e),.a 32 ah,.c (.int .i64 (gr.2.2:Int))]=fdF (fnd D ix pf e ver x) vu sv:=by
 have h1:¬0<ver:=by omega
 refine Y9n (x:=x) (ver:=0) (ss:=bsd T ix 0) ?_;rw[hr,ha,hg,he,hT];unfold fnd;rw[if_neg h1,if_neg h1,decide_eq_false h1,hv]
theorem V89 (sv:Value)(th:Bool)(a x:Nat):pfc sv th a x=Q5 [.c sv,.c (.bool th),.a 32 a,.a 32 x]:=by
 apply Array.toList_inj.1;rw[pfl];show sv:: .bool th::(lf a x).toList=sv:: .bool th::((J0 .u8 32 (J7 a)).toList++((J0 .u8 32 (J7 x)).toList++[]))
 unfold lf;rw[Array.toList_append,List.append_nil]
theorem Y0e {f:FuncId}{args:Array Value}{F:List Nat}{w W:World}{H:List As}{ss:List Nat}{th:Bool}{a x:Nat}(hS:SH F w W H)(hc:Calls Tryz.prog f args W fun e W' =>V2u ss th a x W W' e)(ht:H.all (SH.tyOk (.r 23 32 undef []))=true):
  Calls Tryz.prog f args W fun e W' => ∃v,e=.returned (.agg (Q5 [.c v,.c (.bool th),.a 32 a,.a 32 x]))∧SH F w W' (.r 23 32 v (ss.map J0l)::H):=
 (V8a hS hc ht).mono fun _ _ ⟨v,h1,h2⟩=>⟨v,by rw[h1,V89],h2⟩
theorem V2v {D:DD}(h:DOk D)(e:Nat):(D.lvs e).length≤1000:=by
 unfold DD.lvs DD.upto;rw[List.length_map];have h1:=List.length_filter_le (fun m:Md=>decide (m.ep≤e)) D.made;have h2:=h.made;omega
theorem Y6a {D:DD}(h:DOk D)(e:Nat):tsz (D.tree e)≤1099511627775:=by unfold DD.tree;exact Y6b (V2v h e)
def V2w (f:Fnd)(w w' :World)(e:Ending):Prop:=∃z:Value×Value,e=.returned (.tuple #[.agg (fdF f z.1 z.2),.int .i64 0])∧SH [] w w' [.o z.1 f.x,.r 23 32 z.2 (f.ss.map J0l)]
abbrev fdZ:Array Value:=Q5 [.c (.int .i64 0),.a 32 0,.a 80 0,.c (.bool false),.c (.int .i64 0),.c (.slice none 0 0),.a 32 0,.a 32 0,.c (.slice none 0 0),.c (.bool false),.a 32 0,.a 32 0,.a 32 0,.a 32 0,.a 32 0,.c (.int .i64 0)]
theorem Z4f {e:Nat}:∀(ps:List J5u) (ms:List Md),(∀m∈ms,0<m.ver)→∀m∈mdp ms e ps,0<m.ver
 |[],ms,h=>h
 |p::ps,ms,h=>Z4f ps _ fun m hm=>by
  rcases List.mem_append.1 hm with hm|hm
  ·
   exact h m hm
  ·
   rw[List.mem_singleton.1 hm];exact Nat.succ_pos _
theorem Z4g:∀(r:List (List J5u)) (ms:List Md) (e:Nat),(∀m∈ms,0<m.ver)→∀m∈mdS ms e r,0<m.ver
 |[],_,_,h=>h
 |q::r,ms,e,h=>Z4g r _ _ (Z4f q ms h)
theorem LOk.vpos {D:DD}{y:LD}(h:LOk D y){a:Ac}(ha:a∈y.acs){x:En}(hx:x∈a.es):0<x.ver:=by
 have h1:(x.ep,x.ver,x.x)∈(D.made.filter fun m=>decide (m.l=a.l)).map fun m=>(m.ep,m.ver,m.x):=by rw[←h.e a ha];exact List.mem_map.2 ⟨x,hx,rfl⟩
 obtain⟨m,hm,e⟩:=List.mem_map.1 h1;injection e with e1 e2
 injection e2 with e2 e3
 rw[←e2];exact Z4g D.puts [] 0 (fun m hm=>by cases hm) m (List.mem_filter.1 hm).1
theorem LOk.zero {D:DD}{y:LD}(h:LOk D y){a:Ac}(ha:a∈y.acs){n:Int}(hz:¬0<(J1a a.es n).ver):J1a a.es n=enZ:=by
 rcases Q21 (es:=a.es) (e:=n) with h1|h1
 ·
  exact h1
 exact absurd (h.vpos ha h1) hz
theorem LOk.lsl {D:DD}{y:LD}(h:LOk D y){a:Ac}(ha:a∈y.acs){n:Int}{w:World}(hD:DK D y w):Sl w (J1a a.es n).u (J1a a.es n).x:=by
 rcases Q21 (es:=a.es) (e:=n) with h1|h1
 ·
  rw[h1];exact Z1o w
 exact hD.by _ (h.be a ha _ h1)
theorem LOk.lle {D:DD}{y:LD}(h:LOk D y)(hK:DOk D){a:Ac}(ha:a∈y.acs){n:Int}:(J1a a.es n).x.length≤64:=by
 rcases Q21 (es:=a.es) (e:=n) with h1|h1
 ·
  rw[h1];exact Nat.zero_le _
 exact h.xl hK ha h1
attribute [local irreducible] eI be8 hs4 lb J3k J2i X5 xt hm pbs DD.tree DD.link rs S8.kP S8.kN S8.kD ofT ebs lk0 opn bnd ahd bsd ixN pfN erN J1a

theorem J4d:zer Tryz.prog 48=some (some (Q5 [.c (.int .i64 0),.a 32 0,.a 80 0,.c (.bool false),.c (.int .i64 0),.c (.slice none 0 0),.a 32 0,.a 32 0,.c (.slice none 0 0),.c (.bool false),.a 32 0,.a 32 0,.a 32 0,.a 32 0,.a 32 0,.c (.int .i64 0)])):=by kernel_rfl
theorem J4e:plc Tryz.prog 48=some [(0,1),(1,32),(33,80),(113,1),(114,1),(115,1),(116,32),(148,32),(180,66),(246,32),(278,32),(310,32),(342,1)]:=by kernel_rfl
theorem Y0f {D:DD}{y:LD}{l:List UInt8}{v:Value}{n:Int}{ep ix pf:Nat}(hn0:n=(ep:Int)∨n= -1∧(ep:Int)=((D.puts.length-1:Nat):Int))(hlt:ep<D.puts.length)(hix:ix=ixN D.vk l)(hpf:pf=pfN D.vk l){a:Ac}{x0:En}(hx0:x0=J1a a.es (ep:Int))(ha:a∈y.acs)(hal:a.l=l)(w:World)(hX:GX w)(hD:DK D y w)(hL:LOk D y)(hK:DOk D)(hs:Sl w v l)(hla:1≤l.length∧l.length≤32):
  Calls Tryz.prog 12 #[.pointer (some ⟨y.p,0,none⟩),v,.int .i64 n] w fun e w' =>V2w (fnd D ix pf ep x0.ver x0.x) w w' e:=by
 have S5:=hK.pos;have S6:=hK.len;obtain⟨S4,T2,N8,_,N5⟩:=RR.opf hD.tr.rr;obtain⟨T1,S7,M2,_,G1⟩:=RR.opf hD.lk.rr;have N2:1≤(l.length:Int)∧(l.length:Int)≤32:=by omega
 obtain⟨u0,M1,U⟩:=hD.tree hlt;obtain⟨M4,M7,N6,N0⟩:=N5.out ep u0 M1;obtain⟨M6,M8,N3,N4⟩:=G1.out ep _ (DD.links_at hlt);have M5:=Lib.hid hix;clear hix;have R4:=Lib.hid hpf;clear hpf;have M9:RowKit.Hid (ix<2^256):=Lib.hid (by rw[M5.out];exact Y04 _ _);obtain⟨T,HT⟩:=exh (D.tree ep);rw[←HT.out] at U;have G5:RowKit.Hid (tsz T≤1099511627775):=Lib.hid (by rw[HT.out];exact Y6a hK ep);obtain⟨gr,G7⟩:=exh (Q5v (J23 T ix 0) (J3d T ix 0).length ix);obtain⟨er,D4⟩:=exh (J6m (J23 T ix 0));obtain⟨ss,D9⟩:=exh (bsd T ix 0);obtain⟨R0,ρ⟩:=exh (rs T);have Ξ:=Lib.hid hx0;clear hx0;have G4:RowKit.Hid ((fnd D ix pf ep x0.ver x0.x).ss=ss):=Lib.hid (by rw[D9.out,HT.out];rfl);have G0:Sl w x0.u x0.x:=by rw[Ξ.out];exact hL.lsl ha hD
 have M3:RowKit.Hid (x0.x.length≤64):=Lib.hid (by rw[Ξ.out];exact hL.lle hK ha);have G2:=J9 G0;have S3:=M3.out;obtain⟨O_,R2⟩:=exh (opn D.bk ix (x0.ver:Int));have HO:=R2;obtain⟨B_,R3⟩:=exh (bnd (opn D.bk ix (x0.ver:Int)) ix (x0.ver:Int) x0.x);have HB:=R3;have R7:=hL.el hK ha;have Y:Blk w a.b (Q5 [.a 32 ix,.a 80 pf,.c a.mv]) 119:=by have h_:Blk w a.b (Q5 [.a 32 a.ix,.a 80 a.pf,.c a.mv]) 119:=hD.ac.1 a ha;rw[show a.ix=ix by rw[(hL.n a ha).1,hal,M5.out],show a.pf=pf by rw[(hL.n a ha).2,hal,R4.out]] at h_;exact h_
 have R1:=hD.en.1 a ha;have hS:=SH.nil [] w
 go_enter Tryz.func12,Tryz.ntmps12
 go_upto_region 0 with fail;refine RL hS ?_;clear hS;refine MN (z:=Q5 [.c (.int .i64 0),.a 32 0,.a 80 0,.c (.bool false),.c (.int .i64 0),.c (.slice none 0 0),.a 32 0,.a 32 0,.c (.slice none 0 0),.c (.bool false),.a 32 0,.a 32 0,.a 32 0,.a 32 0,.a 32 0,.c (.int .i64 0)]) (t:=48) ?_;intro X;refine W0 ?_;refine MZ fun W hS=> ?_;go_upto_region 1 with fail;refine RL hS ?_;clear hS;refine MV ?_;refine Wf ?_;refine Wf ?_;refine MV ?_;refine MC (v:=.bool true) (fun W hS=>(by have h_:=J6f W (J0a hs hS.ext);rw[show win _ 32=true from decide_eq_true N2] at h_;exact h_)) ?_;refine Wf ?_;refine Wfo ?_;refine MZ fun W hS=> ?_;go_upto_region 3 with fail;rename_i K15 hK15 K25 hK25
 have N:∀a_ w_,(∃(δ α β ε:Value),a_={tmps:= #[.pointer (some ⟨y.p,0,none⟩),v,.int .i64 (ep:Int),undef,undef,undef,.pointer (some ⟨X,0,none⟩),.int .i64 0,undef,undef,undef,undef,undef,undef,undef,undef,undef,.pointer (some ⟨y.p,0,none⟩),.bool false,.bool false,v,.bool true,.bool false,.bool false,undef,δ,α,β,ε,undef,undef,undef,undef,undef,undef,undef,undef,undef,undef,undef,undef,undef,undef,undef,undef,undef,undef,undef,undef,undef,undef,undef,undef,undef,undef,undef,undef,undef,undef,undef,undef,undef,undef,undef,undef,undef,undef,undef,undef,undef,undef,undef,undef,undef,undef,undef,undef,undef,undef,undef,undef,undef,undef,undef,undef,undef,undef,undef,undef,undef,undef,undef,undef,undef,undef,undef,undef,undef,undef,undef,undef,undef,undef,undef,undef,undef,undef,undef,undef,undef,undef,undef,undef,undef,undef,undef,undef,undef,undef,undef,undef,undef,undef,undef,undef,undef,undef,undef,undef,undef,undef,undef,undef,undef,undef,undef,undef],defers:=[]}∧SH [] w w_ [.b X (Q5 [.c (.int .i64 0),.a 32 0,.a 80 0,.c (.bool false),.c (.int .i64 0),.c (.slice none 0 0),.a 32 0,.a 32 0,.c (.slice none 0 0),.c (.bool false),.a 32 0,.a 32 0,.a 32 0,.a 32 0,.a 32 0,.c (.int .i64 0)]) 48])→K15 a_ w_:=by
  rintro _ W ⟨δ,α,β,ε,rfl,hS⟩;apply hK15;go_upto_region 5 with fail;refine RL hS ?_;clear hS;refine MV ?_;refine Wfo ?_;refine Wf ?_;refine MV ?_;refine MV ?_;refine MC (v:=.int .i64 ((D.puts.length-1:Nat):Int)) (fun W hS=>J4m W (hD.ext hS.ext) hL hK) ?_;refine Wfo ?_;refine Wfo ?_;refine MZ fun W hS=> ?_;go_upto_region 7 with fail;refine RL hS ?_;clear hS;refine MV ?_;refine MV ?_;refine MC (v:=.tuple #[.pointer (some ⟨a.b,0,none⟩),.int .i64 0]) (fun W hS=>(by have h_:=Z3x ha W (hD.ext hS.ext) hL (by rw[hal];exact(J0a hs hS.ext));exact h_)) ?_;refine MV ?_;refine MV ?_;refine W0 ?_;refine MV ?_;refine W0 ?_;refine MZ fun W hS=> ?_;go_upto_region 8 with fail;refine RL hS ?_;clear hS;refine W0 ?_;refine Wfo ?_;refine MZ fun W hS=> ?_;go_upto_region 10 with fail;refine RL hS ?_;clear hS;(iterate 3 refine MV ?_);refine MF (v:=y.tv) (fun W hS=>Q9 rfl rfl (by rw[J3 (J2 hD.d hS.ext)];exact(J4 (off:=71) 9)) (by kernel_rfl)) ?_;refine MV ?_;refine MW ?_ (v:=.pointer (some ⟨M4,M7+ep*1,none⟩)) (hv:=fun _=>J0b N6 (List.getElem?_eq_some_iff.1 M1).1 rfl (by exact N8) rfl Tryz.underlying108 (by kernel_rfl));refine MF (v:=u0) (fun W hS=>Q9 rfl rfl (J12 (N0 0 _ rfl) hS.ext) (by kernel_rfl)) ?_;refine MV ?_;refine MZ fun W hS=> ?_;go_upto_region 11 with fail;refine RL hS ?_;clear hS;(iterate 4 refine MV ?_);refine MF (v:=.agg (J0 .u8 32 (J7 ix))) (fun W hS=>K2 rfl rfl (fun i v hv=>by rw[J3 (J2 Y hS.ext)];exact(J1w (off:=0) 0) i v hv) (by kernel_rfl) (by first|kernel_rfl|(rw[J1];kernel_rfl))) ?_;refine MC (v:=.tuple #[.agg (J0 .u8 32 (J7 gr.1)),.bool gr.2.1,.int .i64 (gr.2.2:Int)]) (fun W hS=>(by have h_:=V8b (T:=T) (u:=u0) (k:=ix) M9.out G5.out W (U.ext hS.ext);rw[←G7.out] at h_;exact h_)) ?_;refine MV ?_;refine MV ?_;refine MW ?_ (v:=.bool gr.2.1);refine MV ?_;refine MN (z:=J0 .u8 32 (J7 0)) (t:=23) ?_;intro Ω;refine MR 0 ?_;refine MW ?_ (v:=.bool gr.2.1);refine MV ?_;refine MZ fun W hS=> ?_;go_upto_region 12 with fail;refine RJ (R:=fun a_ w_=> ∃(M:Nat),∃(G:Value),a_={tmps:=List.toArray ((.pointer (some ⟨y.p,0,none⟩))::v::(.int .i64 (ep:Int))::undef::undef::undef::(.pointer (some ⟨X,0,none⟩))::(.int .i64 0)::(.pointer (some ⟨a.b,0,none⟩))::(.int .i64 0)::u0::(.pointer (some ⟨Ω,0,none⟩))::(.bool gr.2.1)::(.int .i64 (gr.2.2:Int))::(.pointer (some ⟨M,0,none⟩))::undef::undef::(.pointer (some ⟨y.p,0,none⟩))::(.bool false)::(.bool false)::v::(.bool true)::(.bool false)::(.bool false)::undef::δ::α::β::ε::(.int .i64 (ep:Int))::(.bool false)::(.bool false)::(.int .i64 (ep:Int))::(.pointer (some ⟨y.p,0,none⟩))::(.int .i64 ((D.puts.length-1:Nat):Int))::(.bool false)::(.bool false)::undef::(.tuple #[.pointer (some ⟨a.b,0,none⟩),.int .i64 0])::(.pointer (some ⟨y.p,0,none⟩))::v::(.tuple #[.pointer (some ⟨a.b,0,none⟩),.int .i64 0])::(.pointer (some ⟨a.b,0,none⟩))::(.int .i64 0)::(.int .i64 0)::(.bool false)::undef::undef::(.pointer (some ⟨y.p,0,none⟩))::(.pointer (some ⟨y.p,0,none⟩))::(.pointer (some ⟨y.p,71,none⟩))::y.tv::(.int .i64 (ep:Int))::(.pointer (some ⟨M4,M7+ep*1,none⟩))::u0::(.tuple #[.agg (J0 .u8 32 (J7 gr.1)),.bool gr.2.1,.int .i64 (gr.2.2:Int)])::u0::(.pointer (some ⟨a.b,0,none⟩))::(.pointer (some ⟨a.b,0,none⟩))::(.pointer (some ⟨a.b,0,none⟩))::(.agg (J0 .u8 32 (J7 ix)))::(.tuple #[.agg (J0 .u8 32 (J7 gr.1)),.bool gr.2.1,.int .i64 (gr.2.2:Int)])::(.agg (J0 .u8 32 (J7 gr.1)))::(.bool gr.2.1)::(.int .i64 (gr.2.2:Int))::(.int .i64 (ep:Int))::(.pointer (some ⟨a.b,0,none⟩))::(.pointer (some ⟨a.b,0,none⟩))::(.pointer (some ⟨a.b,0,none⟩))::(.agg (J0 .u8 32 (J7 ix)))::(.pointer (some ⟨a.b,0,none⟩))::(.pointer (some ⟨a.b,0,none⟩))::(.pointer (some ⟨a.b,32,none⟩))::(.agg (J0 .u8 80 (J7 pf)))::u0::(.pointer (some ⟨a.b,0,none⟩))::(.pointer (some ⟨a.b,0,none⟩))::(.pointer (some ⟨a.b,0,none⟩))::(.agg (J0 .u8 32 (J7 ix)))::(.agg (Q5 [.c G,.c (.bool er.2.2),.a 32 er.1,.a 32 er.2.1]))::u0::(.agg (J0 .u8 32 (J7 R0)))::(.pointer (some ⟨y.p,0,none⟩))::(.pointer (some ⟨y.p,0,none⟩))::(.pointer (some ⟨y.p,72,none⟩))::y.lv::(.int .i64 (ep:Int))::(.pointer (some ⟨M6,M8+ep*32,none⟩))::(.agg (J0 .u8 32 (J7 (D.link ep))))::(.int .i64 (gr.2.2:Int))::(.agg (Q5 [.c (.int .i64 (ep:Int)),.a 32 ix,.a 80 pf,.c (.bool false),.c (.int .i64 0),.c (.slice none 0 0),.a 32 0,.a 32 0,.c G,.c (.bool er.2.2),.a 32 er.1,.a 32 er.2.1,.a 32 R0,.a 32 (D.link ep),.a 32 0,.c (.int .i64 (gr.2.2:Int))]))::undef::undef::undef::undef::undef::undef::undef::undef::undef::undef::undef::undef::undef::undef::undef::undef::undef::undef::undef::undef::undef::undef::undef::undef::undef::undef::undef::undef::undef::undef::undef::undef::undef::undef::undef::undef::undef::undef::undef::undef::undef::undef::undef::undef::undef::undef::[]),defers:=[]}∧SH [] w w_ [.r 23 32 G (List.map J0l ss),.b M (Q5 [.c (.int .i64 (ep:Int)),.a 32 ix,.a 80 pf,.c (.bool false),.c (.int .i64 0),.c (.slice none 0 0),.a 32 0,.a 32 0,.c G,.c (.bool er.2.2),.a 32 er.1,.a 32 er.2.1,.a 32 R0,.a 32 (D.link ep),.a 32 0,.c (.int .i64 (gr.2.2:Int))]) 48,.b Ω (J0 .u8 32 (J7 gr.1)) 23,.b X (Q5 [.c (.int .i64 0),.a 32 0,.a 80 0,.c (.bool false),.c (.int .i64 0),.c (.slice none 0 0),.a 32 0,.a 32 0,.c (.slice none 0 0),.c (.bool false),.a 32 0,.a 32 0,.a 32 0,.a 32 0,.a 32 0,.c (.int .i64 0)]) 48]) ?_ ?_
  ·
   refine RTh (.q 0 (.q 1 (.q 2 (.q 3 (.q 4 (.q 5 (.q 6 (.q 7 (.q 8 (.q 9 (.q 10 (.q 11 (.q 12 (.q 13 (.q 15 (.q 17 (.q 18 (.q 19 (.q 20 (.q 21 (.q 22 (.q 23 (.q 24 (.b 14 (.b 16 (.q 25 (.e 26 (.e 27 .z))) 26 (.e 16 (.q 25 (.e 27 .z)))) 26 (.e 14 (.e 16 (.q 25 (.e 27 .z)))))))))))))))))))))))))))) hS ?_;clear hS;(iterate 4 refine TV ?_);refine TF (v:=.agg (J0 .u8 32 (J7 ix))) rfl (fun W hS=>K2 rfl rfl (fun i v hv=>by rw[J3 (J2 Y hS.ext)];exact(J1w (off:=0) 0) i v hv) (by kernel_rfl) (by first|kernel_rfl|(rw[J1];kernel_rfl))) ?_;(iterate 3 refine TV ?_);refine TF (v:=.agg (J0 .u8 80 (J7 pf))) rfl (fun W hS=>K2 rfl rfl (fun i v hv=>by rw[J3 (J2 Y hS.ext)];exact(J1w (off:=32) 1) i v hv) (by kernel_rfl) (by first|kernel_rfl|(rw[J1];kernel_rfl))) ?_;(iterate 4 refine TV ?_);refine TF (v:=.agg (J0 .u8 32 (J7 ix))) rfl (fun W hS=>K2 rfl rfl (fun i v hv=>by rw[J3 (J2 Y hS.ext)];exact(J1w (off:=0) 0) i v hv) (by kernel_rfl) (by first|kernel_rfl|(rw[J1];kernel_rfl))) ?_;(iterate 4 refine TV ?_);refine TF (v:=y.lv) rfl (fun W hS=>Q9 rfl rfl (by rw[J3 (J2 hD.d hS.ext)];exact(J4 (off:=72) 10)) (by kernel_rfl)) ?_;refine TV ?_;refine TW ?_ (v:=.pointer (some ⟨M6,M8+ep*32,none⟩)) (hv:=fun _=>J0b N3 (show ep<D.links.length by rw[DD.links_len];omega) rfl (by exact M2) rfl Tryz.underlying41 (by kernel_rfl));refine TF (v:=.agg (J0 .u8 32 (J7 (D.link ep)))) rfl (fun W hS=>K2 rfl rfl (fun i_ v hv=>J12 (N4 i_ v (by simpa using hv)) hS.ext) (by kernel_rfl) (by rw[J1];kernel_rfl)) ?_;refine TV ?_;refine TB (fun _ h=>h) ?_ ?_
   ·
    refine ME (V:=fun v=> .agg (Q5 [.c v,.c (.bool er.2.2),.a 32 er.1,.a 32 er.2.1])) (fun W hS=>Y0e (ss:=ss) hS (by have h_:=Z4i (T:=T) (u:=u0) (k:=ix) G5.out W (hX.ext hS.ext).gt (U.ext hS.ext);rw[←D4.out,←D9.out] at h_;exact h_) rfl) ?_;intro S;refine TNh (fun W hS=>hS.pick [1,2]) ?_;refine TB (fun _ h=>h) ?_ ?_
    ·
     refine MC (v:=.agg (J0 .u8 32 (J7 R0))) (fun W hS=>(by rw[ρ.out];exact J7n W (hX.ext hS.ext).gt (U.ext hS.ext))) ?_;refine TNh (fun W hS=>hS) ?_;refine Q4c (fun W hS=>(Row.cells (hS.row (i:=0) rfl)).2) ?_;intro φ;refine TF (v:=.agg (Q5 [.c (.int .i64 (ep:Int)),.a 32 ix,.a 80 pf,.c (.bool false),.c (.int .i64 0),.c (.slice none 0 0),.a 32 0,.a 32 0,.c S,.c (.bool er.2.2),.a 32 er.1,.a 32 er.2.1,.a 32 R0,.a 32 (D.link ep),.a 32 0,.c (.int .i64 (gr.2.2:Int))])) rfl (fun W hS=>J2m [(0,[.c (.int .i64 (ep:Int))]),(1,[.a 32 ix]),(2,[.a 80 pf]),(8,[.c S,.c (.bool er.2.2),.a 32 er.1,.a 32 er.2.1]),(12,[.a 32 R0]),(13,[.a 32 (D.link ep)]),(15,[.c (.int .i64 (gr.2.2:Int))])] rfl rfl J4d J4e (.c rfl (.c ((J3t _ _).symm) (.c ((J3t _ _).symm) (.c rfl (.c ((J3t _ _).symm) (.c ((J3t _ _).symm) (.c rfl .n)))))))) ?_;refine TE (fun _ h=>h) ?_;refine MN (z:=Q5 [.c (.int .i64 0),.a 32 0,.a 80 0,.c (.bool false),.c (.int .i64 0),.c (.slice none 0 0),.a 32 0,.a 32 0,.c (.slice none 0 0),.c (.bool false),.a 32 0,.a 32 0,.a 32 0,.a 32 0,.a 32 0,.c (.int .i64 0)]) (t:=48) ?_;intro R8;refine X6 [1,2,3] [0,1,2] ?_;refine TE (fun _ h=>h.pick [1,2,3]) ?_;refine MRa 0 ?_ (h1:=by exact(X7 ⟨rfl,rfl,rfl,rfl,φ,rfl,rfl,trivial⟩));refine X6 [1,2,3] [0,1,2] ?_;refine TZ (fun _ h=>h.pick [1,2,3]) fun W hS=> ?_;exact⟨R8,S,rfl,hS.pick [1,0,2,3]⟩
    refine MN (z:=Q5 [.c (.int .i64 0),.a 32 0,.a 80 0,.c (.bool false),.c (.int .i64 0),.c (.slice none 0 0),.a 32 0,.a 32 0,.c (.slice none 0 0),.c (.bool false),.a 32 0,.a 32 0,.a 32 0,.a 32 0,.a 32 0,.c (.int .i64 0)]) (t:=48) ?_;intro R5;refine X6 [1,2,3] [0,1,2] ?_;refine TE (fun _ h=>h.pick [1,2,3]) ?_;refine MC (v:=.agg (J0 .u8 32 (J7 R0))) (fun W hS=>(by rw[ρ.out];exact J7n W (hX.ext hS.ext).gt (U.ext hS.ext))) ?_;refine X6 [1,2,3] [0,1,2] ?_;refine Q4c (fun W hS=>(Row.cells (hS.row (i:=1) rfl)).2) ?_;intro σ;refine TF (v:=.agg (Q5 [.c (.int .i64 (ep:Int)),.a 32 ix,.a 80 pf,.c (.bool false),.c (.int .i64 0),.c (.slice none 0 0),.a 32 0,.a 32 0,.c S,.c (.bool er.2.2),.a 32 er.1,.a 32 er.2.1,.a 32 R0,.a 32 (D.link ep),.a 32 0,.c (.int .i64 (gr.2.2:Int))])) rfl (fun W hS=>J2m [(0,[.c (.int .i64 (ep:Int))]),(1,[.a 32 ix]),(2,[.a 80 pf]),(8,[.c S,.c (.bool er.2.2),.a 32 er.1,.a 32 er.2.1]),(12,[.a 32 R0]),(13,[.a 32 (D.link ep)]),(15,[.c (.int .i64 (gr.2.2:Int))])] rfl rfl J4d J4e (.c rfl (.c ((J3t _ _).symm) (.c ((J3t _ _).symm) (.c rfl (.c ((J3t _ _).symm) (.c ((J3t _ _).symm) (.c rfl .n)))))))) ?_;refine TE (fun _ h=>h.pick [1,2,3]) ?_;refine MRa 0 ?_ (h1:=by exact(X7 ⟨rfl,rfl,rfl,rfl,σ,rfl,rfl,trivial⟩));refine X6 [1,2,3] [0,1,2] ?_;refine TZ (fun _ h=>h.pick [1,2,3]) fun W hS=> ?_;exact⟨R5,S,rfl,hS.pick [1,0,2,3]⟩
   refine MN (z:=Q5 [.c (.int .i64 0),.a 32 0,.a 80 0,.c (.bool false),.c (.int .i64 0),.c (.slice none 0 0),.a 32 0,.a 32 0,.c (.slice none 0 0),.c (.bool false),.a 32 0,.a 32 0,.a 32 0,.a 32 0,.a 32 0,.c (.int .i64 0)]) (t:=48) ?_;intro N9;refine X6 [1,2] [0,1] ?_;refine TE (fun _ h=>h.pick [1,2]) ?_;refine ME (V:=fun v=> .agg (Q5 [.c v,.c (.bool er.2.2),.a 32 er.1,.a 32 er.2.1])) (fun W hS=>Y0e (ss:=ss) hS (by have h_:=Z4i (T:=T) (u:=u0) (k:=ix) G5.out W (hX.ext hS.ext).gt (U.ext hS.ext);rw[←D4.out,←D9.out] at h_;exact h_) rfl) ?_;intro τ;refine X6 [0,2,3] [1,2] ?_;refine TE (fun _ h=>h.pick [0,2,3]) ?_;refine MC (v:=.agg (J0 .u8 32 (J7 R0))) (fun W hS=>(by rw[ρ.out];exact J7n W (hX.ext hS.ext).gt (U.ext hS.ext))) ?_;refine X6 [0,2,3] [0,1,2] ?_;refine Q4c (fun W hS=>(Row.cells (hS.row (i:=0) rfl)).2) ?_;intro ξ;refine TF (v:=.agg (Q5 [.c (.int .i64 (ep:Int)),.a 32 ix,.a 80 pf,.c (.bool false),.c (.int .i64 0),.c (.slice none 0 0),.a 32 0,.a 32 0,.c τ,.c (.bool er.2.2),.a 32 er.1,.a 32 er.2.1,.a 32 R0,.a 32 (D.link ep),.a 32 0,.c (.int .i64 (gr.2.2:Int))])) rfl (fun W hS=>J2m [(0,[.c (.int .i64 (ep:Int))]),(1,[.a 32 ix]),(2,[.a 80 pf]),(8,[.c τ,.c (.bool er.2.2),.a 32 er.1,.a 32 er.2.1]),(12,[.a 32 R0]),(13,[.a 32 (D.link ep)]),(15,[.c (.int .i64 (gr.2.2:Int))])] rfl rfl J4d J4e (.c rfl (.c ((J3t _ _).symm) (.c ((J3t _ _).symm) (.c rfl (.c ((J3t _ _).symm) (.c ((J3t _ _).symm) (.c rfl .n)))))))) ?_;refine TE (fun _ h=>h.pick [0,2,3]) ?_;refine MRa 1 ?_ (h1:=by exact(X7 ⟨rfl,rfl,rfl,rfl,ξ,rfl,rfl,trivial⟩));refine X6 [0,2,3] [0,1,2] ?_;refine TZ (fun _ h=>h.pick [0,2,3]) fun W hS=> ?_;exact⟨N9,τ,rfl,hS⟩
  rintro _ W ⟨M,G,rfl,hS⟩;go_upto_region 13 with fail;rename_i K115 hK115 K215 hK215
  have J:∀a_ w_,(∃(ah:Nat)(D5 ψ Ψ Γ Θ χ D0 D8 D6 D3 Δ ω D1 η θ:Value),RowKit.Hid (ah=ahd D ep)∧a_={tmps:= #[.pointer (some ⟨y.p,0,none⟩),v,.int .i64 (ep:Int),undef,undef,undef,.pointer (some ⟨X,0,none⟩),.int .i64 0,.pointer (some ⟨a.b,0,none⟩),.int .i64 0,u0,.pointer (some ⟨Ω,0,none⟩),.bool gr.2.1,.int .i64 (gr.2.2:Int),.pointer (some ⟨M,0,none⟩),undef,undef,.pointer (some ⟨y.p,0,none⟩),.bool false,.bool false,v,.bool true,.bool false,.bool false,undef,δ,α,β,ε,.int .i64 (ep:Int),.bool false,.bool false,.int .i64 (ep:Int),.pointer (some ⟨y.p,0,none⟩),.int .i64 ((D.puts.length-1:Nat):Int),.bool false,.bool false,undef,.tuple #[.pointer (some ⟨a.b,0,none⟩),.int .i64 0],.pointer (some ⟨y.p,0,none⟩),v,.tuple #[.pointer (some ⟨a.b,0,none⟩),.int .i64 0],.pointer (some ⟨a.b,0,none⟩),.int .i64 0,.int .i64 0,.bool false,undef,undef,.pointer (some ⟨y.p,0,none⟩),.pointer (some ⟨y.p,0,none⟩),.pointer (some ⟨y.p,71,none⟩),D5,.int .i64 (ep:Int),ψ,u0,.tuple #[.agg (J0 .u8 32 (J7 gr.1)),.bool gr.2.1,.int .i64 (gr.2.2:Int)],u0,.pointer (some ⟨a.b,0,none⟩),.pointer (some ⟨a.b,0,none⟩),.pointer (some ⟨a.b,0,none⟩),.agg (J0 .u8 32 (J7 ix)),.tuple #[.agg (J0 .u8 32 (J7 gr.1)),.bool gr.2.1,.int .i64 (gr.2.2:Int)],.agg (J0 .u8 32 (J7 gr.1)),.bool gr.2.1,.int .i64 (gr.2.2:Int),.int .i64 (ep:Int),.pointer (some ⟨a.b,0,none⟩),.pointer (some ⟨a.b,0,none⟩),.pointer (some ⟨a.b,0,none⟩),.agg (J0 .u8 32 (J7 ix)),.pointer (some ⟨a.b,0,none⟩),.pointer (some ⟨a.b,0,none⟩),.pointer (some ⟨a.b,32,none⟩),.agg (J0 .u8 80 (J7 pf)),u0,.pointer (some ⟨a.b,0,none⟩),.pointer (some ⟨a.b,0,none⟩),.pointer (some ⟨a.b,0,none⟩),.agg (J0 .u8 32 (J7 ix)),.agg (Q5 [.c G,.c (.bool er.2.2),.a 32 er.1,.a 32 er.2.1]),u0,.agg (J0 .u8 32 (J7 R0)),.pointer (some ⟨y.p,0,none⟩),.pointer (some ⟨y.p,0,none⟩),.pointer (some ⟨y.p,72,none⟩),Ψ,.int .i64 (ep:Int),Γ,.agg (J0 .u8 32 (J7 (D.link ep))),.int .i64 (gr.2.2:Int),.agg (Q5 [.c (.int .i64 (ep:Int)),.a 32 ix,.a 80 pf,.c (.bool false),.c (.int .i64 0),.c (.slice none 0 0),.a 32 0,.a 32 0,.c G,.c (.bool er.2.2),.a 32 er.1,.a 32 er.2.1,.a 32 R0,.a 32 (D.link ep),.a 32 0,.c (.int .i64 (gr.2.2:Int))]),Θ,χ,D0,D8,D6,D3,Δ,ω,D1,η,θ,undef,undef,undef,undef,undef,undef,undef,undef,undef,undef,undef,undef,undef,undef,undef,undef,undef,undef,undef,undef,undef,undef,undef,undef,undef,undef,undef,undef,undef,undef,undef,undef,undef,undef,undef],defers:=[]}∧SH [] w w_ [.r 23 32 G (List.map J0l ss),.b M (Q5 [.c (.int .i64 (ep:Int)),.a 32 ix,.a 80 pf,.c (.bool false),.c (.int .i64 0),.c (.slice none 0 0),.a 32 0,.a 32 0,.c G,.c (.bool er.2.2),.a 32 er.1,.a 32 er.2.1,.a 32 R0,.a 32 (D.link ep),.a 32 ah,.c (.int .i64 (gr.2.2:Int))]) 48,.b Ω (J0 .u8 32 (J7 gr.1)) 23,.b X (Q5 [.c (.int .i64 0),.a 32 0,.a 80 0,.c (.bool false),.c (.int .i64 0),.c (.slice none 0 0),.a 32 0,.a 32 0,.c (.slice none 0 0),.c (.bool false),.a 32 0,.a 32 0,.a 32 0,.a 32 0,.a 32 0,.c (.int .i64 0)]) 48])→K115 a_ w_:=by
   rintro _ W ⟨ah,D5,ψ,Ψ,Γ,Θ,χ,D0,D8,D6,D3,Δ,ω,D1,η,θ,D7,rfl,hS⟩;apply hK115;go_upto_region 15 with fail;refine RL hS ?_;clear hS;refine MV ?_;refine MV ?_;refine MC (v:=.tuple #[.agg (Q5 [.c (.int .i64 (x0.ep:Int)),.c (.int .i64 (x0.ver:Int)),.c x0.u]),.bool (decide (0<(x0.ver:Int)))]) (fun W hS=>(by have h_:=K2t (n:=(ep:Int)) (Nat.le_trans R7 (by decide)) W (J2 Y hS.ext) (R1.rr.ext hS.ext) (fun x hx=>J0a (hD.by _ (hL.be a ha x hx)) hS.ext);rw[←Ξ.out] at h_;exact h_)) ?_;refine MV ?_;refine MV ?_;refine MW ?_ (v:=.bool (decide (0<(x0.ver:Int))));refine MN (z:=Q5 [.c (.int .i64 0),.c (.int .i64 0),.c (.slice none 0 0)]) (t:=101) ?_;intro S9;refine MRa 0 ?_ (h1:=by exact(X7 ⟨rfl,rfl,G2.2,trivial⟩));refine MW ?_ (v:=.bool (decide (0<(x0.ver:Int))));refine MZ fun W hS=> ?_
   by_cases μ:0<x0.ver
   ·
    go_upto_region 16 with fail;refine RL hS ?_;clear hS;refine Wto ?_;refine MZ fun W hS=> ?_;go_upto_region 17 with fail;refine RTp [0,1,3,4] (.q 0 (.q 1 (.q 2 (.q 3 (.q 5 (.e 4 (.e 6 (.q 7 (.e 8 (.q 9 (.e 10 .z))))))))))) hS ?_;clear hS;refine TV ?_;refine TG 0 ?_ (v:=.int .i64 (x0.ver:Int)) (hj:=(J4 (off:=1) 1));refine TV ?_;refine TG 0 ?_ (v:=x0.u) (hj:=(J4 (off:=2) 2));refine TV ?_;refine TE (fun _ h=>h.pick [0,1,3,4]) ?_;refine ME (V:=fun v=>v) (fun W hS=>J3f hS (J9i W (J0a G0 hS.ext) (by first|omega|(simp only[lA,lM,lT,lD,lC,lN,Q0,V1,Z5,Z6];omega))) (fun _=>⟨rfl,rfl⟩)) ?_;intro Z;refine X6 [0,1,2,4,5] [1,2,3,4] ?_;refine TE (fun _ h=>h.pick [0,1,2,4,5]) ?_;refine MP 3 (v:=.bool true) (cs' :=Q5 [.c (.int .i64 (ep:Int)),.a 32 ix,.a 80 pf,.c (.bool true),.c (.int .i64 0),.c (.slice none 0 0),.a 32 0,.a 32 0,.c G,.c (.bool er.2.2),.a 32 er.1,.a 32 er.2.1,.a 32 R0,.a 32 (D.link ep),.a 32 ah,.c (.int .i64 (gr.2.2:Int))]) ?_ (hs:=agl) (hc:=X9 (off:=113) 3);refine X6 [0,1,2,4,5] [0,1,2,3,4] ?_;refine TV ?_;refine TE (fun _ h=>h.pick [0,1,2,4,5]) ?_;refine MP 3 (v:=.int .i64 (x0.ver:Int)) (cs' :=Q5 [.c (.int .i64 (ep:Int)),.a 32 ix,.a 80 pf,.c (.bool true),.c (.int .i64 (x0.ver:Int)),.c (.slice none 0 0),.a 32 0,.a 32 0,.c G,.c (.bool er.2.2),.a 32 er.1,.a 32 er.2.1,.a 32 R0,.a 32 (D.link ep),.a 32 ah,.c (.int .i64 (gr.2.2:Int))]) ?_ (hs:=agl) (hc:=X9 (off:=114) 4);refine X6 [0,1,2,4,5] [0,1,2,3,4] ?_;refine TV ?_;refine TE (fun _ h=>h.pick [0,1,2,4,5]) ?_;refine J06 (fun W hS=>(J9 (hS.osl (i:=0) rfl)).2) ?_;intro γ;refine MP 3 (v:=Z) (cs' :=Q5 [.c (.int .i64 (ep:Int)),.a 32 ix,.a 80 pf,.c (.bool true),.c (.int .i64 (x0.ver:Int)),.c Z,.a 32 0,.a 32 0,.c G,.c (.bool er.2.2),.a 32 er.1,.a 32 er.2.1,.a 32 R0,.a 32 (D.link ep),.a 32 ah,.c (.int .i64 (gr.2.2:Int))]) ?_ (hs:=agl) (hc:=X9 (off:=115) 5) (hv:=fun W hS=>J9 (hS.osl (i:=0) rfl));refine X6 [0,1,2,4,5] [0,1,2,3,4] ?_;refine TZ (fun _ h=>h.pick [0,1,2,4,5]) fun W hS=> ?_;go_upto_region 18 with fail;refine RTp [0,1,2,4,5] (.q 0 (.q 1 (.q 2 (.q 3 (.q 4 (.q 5 (.q 6 (.q 7 (.q 8 (.q 9 (.q 10 (.q 11 (.q 12 (.e 13 (.q 14 (.q 15 (.q 16 (.q 17 (.e 18 (.q 19 (.e 20 .z))))))))))))))))))))) hS ?_;clear hS;(iterate 4 refine TV ?_);refine TF (v:=.agg (J0 .u8 32 (J7 D.bk))) rfl (fun W hS=>K2 rfl rfl (fun i v hv=>by rw[J3 (J2 hD.d hS.ext)];exact(J1w (off:=33) 2) i v hv) (by kernel_rfl) (by first|kernel_rfl|(rw[J1];kernel_rfl))) ?_;(iterate 3 refine TV ?_);refine TF (v:=.agg (J0 .u8 32 (J7 ix))) rfl (fun W hS=>K2 rfl rfl (fun i v hv=>by rw[J3 (J2 Y hS.ext)];exact(J1w (off:=0) 0) i v hv) (by kernel_rfl) (by first|kernel_rfl|(rw[J1];kernel_rfl))) ?_;refine TV ?_;refine TG 1 ?_ (v:=.int .i64 (x0.ver:Int)) (hj:=(J4 (off:=1) 1));refine TV ?_;refine TG 1 ?_ (v:=x0.u) (hj:=(J4 (off:=2) 2));refine TE (fun _ h=>h.pick [0,1,2,4,5]) ?_;refine MC (v:=.tuple #[.agg (J0 .u8 32 (J7 B_)),.agg (J0 .u8 32 (J7 O_))]) (fun W hS=>Z3v (b:=D.bk) (i:=ix) (n:=(x0.ver:Int)) (x:=x0.x) HO.out HB.out W (hX.ext hS.ext).gt (J0a G0 hS.ext) (by have h_:=M3.out;omega)) ?_;refine X6 [0,1,2,4,5] [0,1,2,3,4] ?_;(iterate 4 refine TV ?_);refine TE (fun _ h=>h.pick [0,1,2,4,5]) ?_;refine Mq 3 (new:=Q5 [.c (.int .i64 (ep:Int)),.a 32 ix,.a 80 pf,.c (.bool true),.c (.int .i64 (x0.ver:Int)),.c Z,.a 32 B_,.a 32 0,.c G,.c (.bool er.2.2),.a 32 er.1,.a 32 er.2.1,.a 32 R0,.a 32 (D.link ep),.a 32 ah,.c (.int .i64 (gr.2.2:Int))]) ?_ (hc:=Q4g (off:=116) 6) (hs:=by rw[J1,J6];exact Nat.le_of_ble_eq_true (by kernel_rfl));refine X6 [0,1,2,4,5] [0,1,2,3,4] ?_;refine TV ?_;refine TE (fun _ h=>h.pick [0,1,2,4,5]) ?_;refine Mq 3 (new:=Q5 [.c (.int .i64 (ep:Int)),.a 32 ix,.a 80 pf,.c (.bool true),.c (.int .i64 (x0.ver:Int)),.c Z,.a 32 B_,.a 32 O_,.c G,.c (.bool er.2.2),.a 32 er.1,.a 32 er.2.1,.a 32 R0,.a 32 (D.link ep),.a 32 ah,.c (.int .i64 (gr.2.2:Int))]) ?_ (hc:=Q4g (off:=148) 7) (hs:=by rw[J1,J6];exact Nat.le_of_ble_eq_true (by kernel_rfl));refine X6 [0,1,2,4,5] [0,1,2,3,4] ?_;refine TZ (fun _ h=>h.pick [0,1,2,4,5]) fun W hS=> ?_;go_upto_region 19 with fail;refine RL hS ?_;clear hS;refine ML 3 ?_ (hs:=by rw[J6];kernel_rfl);refine J06 (fun W hS=>(Row.cells (hS.row (i:=2) rfl)).2) ?_;intro ν;refine MRa 5 ?_ (h1:=by exact(X7 ⟨rfl,rfl,rfl,γ,ν,rfl,rfl,trivial⟩));refine W0 ?_;refine MZ fun W hS=> ?_;go_wp2;have G6:=V2s (hv:=μ) (hO:=HO.out) (hR:=HB.out) (hT:=HT.out) (he:=D4.out) (hg:=G7.out) (hr:=ρ.out) (ha:=D7.out) (pf:=pf) (ver:=x0.ver) (vu:=Z) (sv:=G) (D:=D) (e:=ep) (x:=x0.x);have ζ:=(hS.blk (i:=5) rfl)
    rw[G6] at ζ;exact bodyPost_ret (J0h rfl rfl rfl ζ (by kernel_rfl) (by rw[J6];kernel_rfl)) rfl ⟨(Z,G),rfl,by rw[show(fnd D ix pf ep x0.ver x0.x).ss=ss from G4.out];exact hS.pick [0,2]⟩
   go_upto_region 16 with fail;refine RL hS ?_;clear hS;refine Wfo ?_;refine MZ fun W hS=> ?_;go_upto_region 19 with fail;refine RL hS ?_;clear hS;refine ML 2 ?_ (hs:=by rw[J6];kernel_rfl);refine J06 (fun W hS=>(Row.cells (hS.row (i:=1) rfl)).2) ?_;intro κ;refine MRa 4 ?_ (h1:=by exact(X7 ⟨rfl,rfl,rfl,rfl,κ,rfl,rfl,trivial⟩));refine W0 ?_;refine MZ fun W hS=> ?_;have R9:=hS.onil rfl;have M0:x0=enZ:=by rw[Ξ.out] at μ⊢;exact hL.zero ha μ
   go_wp2;have G6:=V2t (hv:=by rw[M0]) (hT:=HT.out) (he:=D4.out) (hg:=G7.out) (hr:=ρ.out) (ha:=D7.out) (pf:=pf) (ver:=x0.ver) (vu:=.slice none 0 0) (sv:=G) (D:=D) (e:=ep) (x:=x0.x);have ζ:=(hS.blk (i:=4) rfl)
   rw[G6] at ζ;exact bodyPost_ret (J0h rfl rfl rfl ζ (by kernel_rfl) (by rw[J6];kernel_rfl)) rfl ⟨(.slice none 0 0,G),rfl,by rw[show(fnd D ix pf ep x0.ver x0.x).ss=ss from G4.out];exact(by rw[show x0.x=([]:List UInt8) by rw[M0]];exact R9.pick [0,2])⟩
  clear hK115;replace J:=Lib.hid J
  by_cases h0:0<ep
  ·
   obtain⟨N7,N1,G9,G8⟩:=G1.out (ep-1) _ (DD.links_at (show ep-1<D.puts.length by omega));refine RL hS ?_;clear hS;refine MV ?_;refine Wto ?_;refine MZ fun W hS=> ?_;go_upto_region 14 with fail;refine RL hS ?_;clear hS;(iterate 3 refine MV ?_);refine MF (v:=y.lv) (fun W hS=>Q9 rfl rfl (by rw[J3 (J2 hD.d hS.ext)];exact(J4 (off:=72) 10)) (by kernel_rfl)) ?_;refine MV ?_;refine MW ?_ (v:=.int .i64 ((ep-1:Nat):Int)) (hv:=by intro W;go_simp;(try simp only[IntKind.wrap_i64]);omega);refine MW ?_ (v:=.pointer (some ⟨N7,N1+(ep-1)*32,none⟩)) (hv:=fun _=>J0b G9 (show ep-1<D.links.length by rw[DD.links_len];omega) rfl (by exact M2) rfl Tryz.underlying41 (by kernel_rfl));refine MF (v:=.agg (J0 .u8 32 (J7 (D.link (ep-1))))) (fun W hS=>K2 rfl rfl (fun i_ v hv=>J12 (G8 i_ v (by simpa using hv)) hS.ext) (by kernel_rfl) (by rw[J1];kernel_rfl)) ?_;refine MV ?_;refine Mq 1 (new:=Q5 [.c (.int .i64 (ep:Int)),.a 32 ix,.a 80 pf,.c (.bool false),.c (.int .i64 0),.c (.slice none 0 0),.a 32 0,.a 32 0,.c G,.c (.bool er.2.2),.a 32 er.1,.a 32 er.2.1,.a 32 R0,.a 32 (D.link ep),.a 32 (D.link (ep-1)),.c (.int .i64 (gr.2.2:Int))]) ?_ (hc:=Q4g (off:=310) 14) (hs:=by rw[J1,J6];exact Nat.le_of_ble_eq_true (by kernel_rfl));refine MZ fun W hS=> ?_
   go_wp2_with fail
   exact J.out _ _ ⟨(D.link (ep-1)),_,_,_,_,_,_,_,_,_,_,_,_,_,_,_,Lib.hid (Y69 h0),rfl,hS⟩
  refine RL hS ?_;clear hS;refine MV ?_;refine Wfo ?_;refine MZ fun W hS=> ?_
  go_wp2_with fail
  exact J.out _ _ ⟨0,_,_,_,_,_,_,_,_,_,_,_,_,_,_,_,Lib.hid (Y0c h0),rfl,hS⟩
 clear hK15;replace N:=Lib.hid N;rcases hn0 with rfl|⟨rfl,G3⟩
 ·
  refine RL hS ?_;clear hS;refine MV ?_;refine Wfo ?_;refine MZ fun W hS=> ?_
  go_wp2_with fail
  exact N.out _ _ ⟨_,_,_,_,rfl,hS⟩
 have R6:=Lib.hid G3;clear G3;refine RL hS ?_;clear hS;refine MW ?_ (v:=.int .i64 (-1));refine Wto ?_;refine MZ fun W hS=> ?_;go_upto_region 4 with fail;refine RL hS ?_;clear hS;refine MV ?_;refine MC (v:=.int .i64 (ep:Int)) (fun W hS=>(by have h_:=J4m W (hD.ext hS.ext) hL hK;rw[←R6.out] at h_;exact h_)) ?_;refine MV ?_;refine MZ fun W hS=> ?_
 go_wp2_with fail
 exact N.out _ _ ⟨_,_,_,_,rfl,hS⟩
end
end Go.Proofs.YteehbddkcnkhfaaGreatDoor

/- Contracts and plain laws for custumalPast_holds. Conditions: the tables hold their numbers. -/
import Derived.Test.YteehbddkcnkhfaaGreatDoorJ25
open Go.RowKit
set_option maxRecDepth 100000
set_option linter.unusedSimpArgs false
set_option linter.unusedVariables false
namespace Go.Proofs.YteehbddkcnkhfaaGreatDoor
section
set_option maxHeartbeats 3000000
attribute [local irreducible] wpList Y5 wpX
def bsd:TR→Nat→Nat→List Nat
 | .node _ l r,k,d=>if kb k d=0 then rs r::bsd l k (d+1) else rs l::bsd r k (d+1)
 |_,_,_=>[]
theorem Q7a:∀(T:TR) (k d:Nat),(bsd T k d).length=(J2n T k d).length
 | .nil,_,_=>rfl
 | .leaf _ _,_,_=>rfl
 | .node e l r,k,d=>by
  show(if kb k d=0 then rs r::bsd l k (d+1) else rs l::bsd r k (d+1)).length=(_::(if kb k d=0 then J2n l k (d+1) else J2n r k (d+1))).length
  split
  ·
   simp[Q7a l k (d+1)]
  ·
   simp[Q7a r k (d+1)]
theorem Z1h:∀{T:TR} {k d j:Nat} {T' :TR},(J2n T k d)[j]?=some T' →∃e l r,T' =.node e l r∧(bsd T k d)[j]?=some (if kb k (d+j)=0 then rs r else rs l)
 | .nil,_,_,_,_,h=>by simp[J2n] at h
 | .leaf _ _,_,_,_,_,h=>by simp[J2n] at h
 | .node e l r,k,d,0,T',h=>by
  have h:some (TR.node e l r)=some T' :=h;refine⟨e,l,r,(Option.some.inj h).symm,?_⟩;show(if kb k d=0 then rs r::bsd l k (d+1) else rs l::bsd r k (d+1))[0]?=some (if kb k d=0 then rs r else rs l)
  split<;>rfl
 | .node e l r,k,d,j+1,T',h=>by
  have h:(if kb k d=0 then J2n l k (d+1) else J2n r k (d+1))[j]?=some T' :=h;show ∃e' l' r',T' =TR.node e' l' r' ∧(if kb k d=0 then rs r::bsd l k (d+1) else rs l::bsd r k (d+1))[j+1]?=_
  split at h
  ·
   rename_i hb;rw[if_pos hb];obtain⟨e',l',r',h1,h2⟩:=Z1h h;exact⟨e',l',r',h1,by rw[show d+(j+1)=d+1+j by omega];exact h2⟩
  ·
   rename_i hb;rw[if_neg hb];obtain⟨e',l',r',h1,h2⟩:=Z1h h;exact⟨e',l',r',h1,by rw[show d+(j+1)=d+1+j by omega];exact h2⟩
theorem Z4a {bs:List Nat}{i:Nat}{x:Nat}(h:bs[i]?=some x):List.map X6 (bs.take i)++[X6 x]=List.map X6 (bs.take (i+1)):=by rw[List.take_add_one,h,List.map_append];rfl
attribute [local irreducible] hs4 sE sL sN

def J5e (E:TR):Nat×Nat×Bool:=match E with
 | .leaf a x=>(a,x,true)
 |_=>(0,0,false)
theorem Z9a {q:Prop}{T:TR}{u:Value}{k:Nat}(hzT:tsz T≤1099511627775)(w:World)(hG:GT q w)(h:TA w T u):
  Calls Tryz.prog 83 #[u,.agg (J1 .u8 32 (J4 k))] w fun e w' => ∃v,e=.returned (.tuple #[v,.agg (lf (J5e (J1i T k 0)).1 (J5e (J1i T k 0)).2.1),.bool (J5e (J1i T k 0)).2.2])∧SH [] w w' [.r 23 32 v ((bsd T k 0).map X6)]:=by
 have hS:=SH.nil [] w
 go_enter Tryz.func83,Tryz.ntmps83
 go_upto_region 0 with fail;refine RL hS ?_;clear hS;refine MN (z:=J1 .u8 32 (J4 k)) (t:=42) ?_;intro ε;refine MV ?_;refine MN (z:=lf 0 0) (t:=44) ?_;intro β;refine Wf ?_;refine MZ fun W hS=> ?_;go_upto_region 1 with fail;refine RL hS ?_;clear hS;refine MV ?_;refine ML 1 ?_;refine ME (V:=fun p:WP w T k=> .tuple #[p.v,p.u]) (fun W hS=>Y8j hS (Y8l w W hS.ext hzT h) rfl) ?_;rintro⟨nv,nu,us,G,S,δ⟩;dsimp only;(iterate 5 refine MV ?_);refine MZ fun W hS=> ?_;go_upto_region 2 with fail;refine RL hS ?_;clear hS;refine MV ?_;refine MF (v:=.int .i64 ((List.map Q18 us).length:Int)) (fun W hS=>J0k (hS.row (i:=0) rfl) rfl rfl Tryz.underlying108) ?_;refine W0 ?_;refine MZ fun W hS=> ?_;have ζ:=Y2e S hzT;have hS:=hS.rnil 23 32 rfl
 go_wp2_with fail
 go_loopw [4,9,10,19] (fun uu x1 x2 ii wr=> ∃(i:Nat)(sv:Value),(i≤us.length)∧(sv=uu)∧(ii=.int .i64 (i:Int))∧SH [] w wr [.r 23 32 sv (List.map X6 (List.take i (bsd T k 0))),.r 115 1 nv (List.map Q18 us),.b β (lf 0 0) 44,.b ε (J1 .u8 32 (J4 k)) 42])
  (fun uu x1 x2 ii _=>us.length-(intOf ii).toNat)
 case atStart=>exact⟨0,_,Nat.zero_le _,rfl,rfl,hS⟩
 clear hS
 case round=>
  obtain⟨i,sv,hi,rfl,rfl,hS⟩:=hrel
  by_cases N:i<us.length
  ·
   obtain⟨y,yh⟩:∃y,us[i]?=some y:=⟨_,List.getElem?_eq_getElem N⟩
   obtain⟨T1,Y,Z⟩:=δ i y yh;obtain⟨e0,l,r,rfl,J⟩:=Z1h Y;obtain⟨b,s0,s1,rfl,hB,hl,hr⟩:=Z;obtain⟨p0,rfl⟩:=hl.pt;obtain⟨p1,rfl⟩:=hr.pt;rw[Nat.zero_add] at J;go_upto_region 3 with fail;refine RL hS ?_;clear hS;refine Wt ?_;refine MZ fun W hS=> ?_;go_upto_region 4 with fail;refine RL hS ?_;clear hS;refine MV ?_;refine MI 1 i (e:=(Q18 (ptr b))) (by rw[List.getElem?_map,yh];rfl) ?_;intro γ _ R;refine MF (v:=.pointer (some ⟨b,0,none⟩)) (fun W hS=>Q5 rfl rfl (Z93 (hS.row (i:=1) rfl) R.out (by rw[List.getElem?_map,yh];rfl) 0 _ (rfl)) (by kernel_rfl)) ?_;refine MV ?_;refine MV ?_;refine MZ fun W hS=> ?_;rcases Y8k k i with hb|hb
   ·
    have M:(bsd T k 0)[i]?=some (rs r):=by rw[J,if_pos hb]
    go_upto_region 5 with fail;refine RTp [1,2,3] (.q 0 (.q 1 (.q 2 (.q 3 (.q 6 (.q 7 (.e 4 (.q 5 (.q 8 (.q 9 (.e 10 (.e 11 (.e 12 (.q 13 .z)))))))))))))) hS ?_;clear hS;refine TV ?_;refine TV ?_;refine TL 2 ?_;(iterate 3 refine TV ?_);refine TE (fun _ h=>h.pick [1,2,3]) ?_;refine MC (v:=.int .i64 0) (fun W hS=>(by have h_:=J7b k i (by omega) W;rw[hb] at h_;exact h_)) ?_;refine V8 [1,2,3] [0,1,2] ?_;refine TW ?_ (v:=.int .i64 1);refine TW ?_ (v:=.pointer (some ⟨b,65,none⟩)) (hv:=fun _=>J0a (m:=2) (k:=1) (j:=1) (off:=64) (by decide) Tryz.underlying179 (by kernel_rfl) rfl rfl rfl);refine TF (v:=.pointer p1) rfl (fun W hS=>Q5 rfl rfl (by rw[J3 (J2 hB hS.ext)];exact nd_s1) (by kernel_rfl)) ?_;refine TE (fun _ h=>h.pick [1,2,3]) ?_;obtain⟨U1,D⟩:=exh (rs r);refine MC (v:=.agg (J1 .u8 32 (J4 U1))) (fun W hS=>(by rw[D.out];exact J4k W (J0f hG hS.ext) (TA.ext hr hS.ext))) ?_;refine V8 [1,2,3] [0,1,2] ?_;refine TE (fun _ h=>h.pick [1,2,3]) ?_;refine MB (z:=(J1 .u8 32 (J4 U1))) (t:=23) (n:=1) (c:=1) ?_ (hr:=fun W _=>J0v rfl rfl rfl Tryz.underlying41 (by rw[J0];kernel_rfl) (by rw[J0];kernel_rfl) (by rw[J0];decide) (by rw[J0];decide));intro θ;refine V8 [0,2,3,4] [1,2,3] ?_;refine TE (fun _ h=>h.pick [0,2,3,4]) ?_;refine MAr 1 0 (tS:=41) (bytes:=32) (es:=(List.map X6 (List.take i (bsd T k 0)))) (by first|omega|(simp only[List.length_append,List.length_map,List.length_take,List.length_drop,List.length_reverse,List.length_cons,List.length_nil];omega)) (e:=X6 U1) (hk:=J0 _ _ _) (h1:=Y6 _ _ _) ?_;intro U;refine V8 [0,1,2,3,4] [0,2,3,4] ?_;refine TV ?_;refine TZ (fun _ h=>h) fun W hS=> ?_;go_wp2;go_roundw
    case rel=>exact⟨i+1,U,by omega,rfl,by go_num,(by have e_:=D.out;subst e_;rw[←Z4a M];exact(hS.pick [1,2,3,4]))⟩
    case measure=>simp[intOf];omega
   have M:(bsd T k 0)[i]?=some (rs l):=by rw[J,if_neg (by rw[hb];decide)]
   go_upto_region 5 with fail;refine RTp [1,2,3] (.q 0 (.q 1 (.q 2 (.q 3 (.q 6 (.q 7 (.e 4 (.q 5 (.q 8 (.q 9 (.e 10 (.e 11 (.e 12 (.q 13 .z)))))))))))))) hS ?_;clear hS;refine TV ?_;refine TV ?_;refine TL 2 ?_;(iterate 3 refine TV ?_);refine TE (fun _ h=>h.pick [1,2,3]) ?_;refine MC (v:=.int .i64 1) (fun W hS=>(by have h_:=J7b k i (by omega) W;rw[hb] at h_;exact h_)) ?_;refine V8 [1,2,3] [0,1,2] ?_;refine T0 ?_;refine TW ?_ (v:=.pointer (some ⟨b,64,none⟩)) (hv:=fun _=>J0a (m:=2) (k:=1) (j:=0) (off:=64) (by decide) Tryz.underlying179 (by kernel_rfl) rfl rfl rfl);refine TF (v:=.pointer p0) rfl (fun W hS=>Q5 rfl rfl (by rw[J3 (J2 hB hS.ext)];exact nd_s0) (by kernel_rfl)) ?_;refine TE (fun _ h=>h.pick [1,2,3]) ?_;obtain⟨U1,D⟩:=exh (rs l);refine MC (v:=.agg (J1 .u8 32 (J4 U1))) (fun W hS=>(by rw[D.out];exact J4k W (J0f hG hS.ext) (TA.ext hl hS.ext))) ?_;refine V8 [1,2,3] [0,1,2] ?_;refine TE (fun _ h=>h.pick [1,2,3]) ?_;refine MB (z:=(J1 .u8 32 (J4 U1))) (t:=23) (n:=1) (c:=1) ?_ (hr:=fun W _=>J0v rfl rfl rfl Tryz.underlying41 (by rw[J0];kernel_rfl) (by rw[J0];kernel_rfl) (by rw[J0];decide) (by rw[J0];decide));intro η;refine V8 [0,2,3,4] [1,2,3] ?_;refine TE (fun _ h=>h.pick [0,2,3,4]) ?_;refine MAr 1 0 (tS:=41) (bytes:=32) (es:=(List.map X6 (List.take i (bsd T k 0)))) (by first|omega|(simp only[List.length_append,List.length_map,List.length_take,List.length_drop,List.length_reverse,List.length_cons,List.length_nil];omega)) (e:=X6 U1) (hk:=J0 _ _ _) (h1:=Y6 _ _ _) ?_;intro α;refine V8 [0,1,2,3,4] [0,2,3,4] ?_;refine TV ?_;refine TZ (fun _ h=>h) fun W hS=> ?_;go_wp2;go_roundw
   case rel=>exact⟨i+1,α,by omega,rfl,by go_num,(by have e_:=D.out;subst e_;rw[←Z4a M];exact(hS.pick [1,2,3,4]))⟩
   case measure=>simp[intOf];omega
  obtain rfl:i=us.length:=by omega
  rw[S,←Q7a T k 0,List.take_length] at hS;go_upto_region 3 with fail;refine RL hS ?_;clear hS;refine Wf ?_;refine MZ fun W hS=> ?_;rcases Q2g T k 0 with he|⟨a,x,he⟩
  ·
   rw[he] at G;obtain rfl:_=nlp:=G;go_upto_region 8 with fail;refine RL hS ?_;clear hS;refine MV ?_;refine MW ?_ (v:=.agg (lf 0 0)) (hv:=by intro W;first|rfl|kernel_rfl);refine MV ?_;refine MR 2 ?_ (hz:=by rw[J0c];kernel_rfl) (hs:=by first|rw[J0c,J0c]|rw[J0c]|kernel_rfl) (h1:=Q6f);refine Wf ?_;refine MZ fun W hS=> ?_;go_wp2;exact bodyPost_ret (Z97 rfl rfl rfl rfl (hS.blk (i:=2) rfl) (by kernel_rfl) (by rw[J0c];kernel_rfl)) rfl ⟨_,by rw[he];rfl,hS.pick [0]⟩
  rw[he] at G;obtain⟨b1,rfl,X,ha,hx⟩:=G;go_upto_region 9 with fail;refine RTp [0,1,3] (.q 0 (.q 1 (.q 2 (.q 3 (.q 4 (.q 5 (.e 6 (.q 7 .z)))))))) hS ?_;clear hS;(iterate 4 refine TV ?_);refine TF (v:=.agg (lf a x)) rfl (fun W hS=>V2 rfl rfl (fun i v hv=>by rw[J3 (J2 X hS.ext)];exact Y6g i v hv) (by kernel_rfl) (by first|kernel_rfl|(rw[J0c];kernel_rfl))) ?_;refine TV ?_;refine TE (fun _ h=>h.pick [0,1,3]) ?_;refine MR 2 ?_ (hz:=by rw[J0c];kernel_rfl) (hs:=by first|rw[J0c,J0c]|rw[J0c]|kernel_rfl) (h1:=Q6f);refine V8 [0,1,3] [0,1,2] ?_;refine Tt ?_;refine TZ (fun _ h=>h.pick [0,1,3]) fun W hS=> ?_;go_wp2;exact bodyPost_ret (Z97 rfl rfl rfl rfl (hS.blk (i:=2) rfl) (by kernel_rfl) (by rw[J0c];kernel_rfl)) rfl ⟨_,by rw[he];rfl,hS.pick [0]⟩
end

section
set_option maxHeartbeats 3000000
attribute [local irreducible] wpList Y5 wpX
attribute [local irreducible] hs4 sE sL sN

end

section
def tE (th:Bool)(a x:Nat):List UInt8:=if th then[0]++lb 32 a++lb 32 x else[2]
def tN (d:Int)(b s o:Nat):List UInt8:=if b=0 then[1]++db d++lb 32 s++lb 32 o else[1]++db d++lb 32 o++lb 32 s
def tT (k:Nat):List Nat→Nat→List UInt8→List UInt8
  |[],_,e=>e
  |o::ss,d,e=>tN (d:Int) (kb k d) (hs4 (tT k ss (d+1) e)) o
def chk (R k:Nat)(ss:List Nat)(th:Bool)(a x:Nat):Nat×Bool×Nat:=
  if 256<ss.length∨th=true∧J36 (J4 a) (J4 k)<ss.length then(0,false,17)
  else if hs4 (tT k ss 0 (tE th a x))=R then(if th=true∧a=k then(x,true,0) else(0,false,0))
  else(0,false,17)
attribute [local irreducible] hs4 sN sE sL lb
end

section
attribute [local irreducible] wpList Y5 wpX
attribute [local irreducible] hs4 sE sL sN

end

section
set_option maxHeartbeats 3000000
attribute [local irreducible] wpList Y5 wpX
attribute [local irreducible] hs4 sE sL sN

end

section
set_option maxHeartbeats 3000000
attribute [local irreducible] wpList Y5 wpX
attribute [local irreducible] hs4 sE sL sN lb
end

section
set_option maxHeartbeats 3000000
attribute [local irreducible] wpList Y5 wpX
attribute [local irreducible] hs4 sE sL sN lb
end

section
end

section
set_option maxHeartbeats 3000000
attribute [local irreducible] wpList Y5 wpX
attribute [local irreducible] hs4 sE sL sN lb
def V05 (ss:List Nat)(th:Bool)(a x:Nat)(w w' :World)(e:Ending):Prop:=∃v,e=.returned (.agg (pfc v th a x))∧SH [] w w' [.r 23 32 v (ss.map X6)]
theorem V4z {f:FuncId}{args:Array Value}{F:List Nat}{w W:World}{H:List As}{ss:List Nat}{th:Bool}{a x:Nat}(hS:SH F w W H)(hc:Calls Tryz.prog f args W fun e W' =>V05 ss th a x W W' e)(ht:H.all (SH.tyOk (.r 23 32 undef []))=true):
  Calls Tryz.prog f args W fun e W' => ∃v,e=.returned (.agg (pfc v th a x))∧SH F w W' (.r 23 32 v (ss.map X6)::H):=J3f hS hc (fun _=>⟨rfl,ht⟩)

theorem Q21 {q:Prop}{T:TR}{u:Value}{k:Nat}(hzT:tsz T≤1099511627775)(w:World)(hG:GT q w)(h:TA w T u):
  Calls Tryz.prog 45 #[u,.agg (J1 .u8 32 (J4 k))] w fun e w' =>V05 (bsd T k 0) (J5e (J1i T k 0)).2.2 (J5e (J1i T k 0)).1 (J5e (J1i T k 0)).2.1 w w' e:=by
 have hS:=SH.nil [] w
 go_enter Tryz.func45,Tryz.ntmps45
 go_upto_region 0 with fail;refine RL hS ?_;clear hS;refine MN (z:=J1 .u8 32 (J4 k)) (t:=42) ?_;intro N;refine MN (z:=pfc (.slice none 0 0) false 0 0) (t:=46) ?_;intro J;refine MZ fun W hS=> ?_;go_upto_region 1 with fail;refine RL hS ?_;clear hS;refine MV ?_;refine ML 1 ?_;refine ME (V:=fun v=> .tuple #[v,.agg (lf (J5e (J1i T k 0)).1 (J5e (J1i T k 0)).2.1),.bool (J5e (J1i T k 0)).2.2]) (fun W hS=>J3f hS (Z9a (k:=k) hzT W (J0f hG hS.ext) (TA.ext h hS.ext)) (fun _=>⟨rfl,rfl⟩)) ?_;intro so;refine J06 (fun W hS=>Row.form (ls:=(bsd T k 0)) (f:=X6) (hS.row (i:=0) rfl)) ?_;rintro⟨G,D,rfl⟩;(iterate 3 refine MV ?_);refine MW ?_ (v:=.bool (J5e (J1i T k 0)).2.2);refine MN (z:=lf 0 0) (t:=44) ?_;intro M;refine MV ?_;refine MR 0 ?_ (hz:=by rw[J0c];kernel_rfl) (hs:=by first|rw[J0c,J0c]|rw[J0c]|kernel_rfl) (h1:=Q6f);refine MW ?_ (v:=.bool (J5e (J1i T k 0)).2.2);refine MZ fun W hS=> ?_;go_upto_region 2 with fail;refine RL hS ?_;clear hS;refine MV ?_;refine MW ?_ (v:=.bool (J5e (J1i T k 0)).2.2);refine ML 0 ?_ (hs:=by rw[J0c];kernel_rfl);refine MW ?_ (v:=.agg (pfc (.slice G (bsd T k 0).length D) (J5e (J1i T k 0)).2.2 ((J5e (J1i T k 0)).1) ((J5e (J1i T k 0)).2.1))) (hv:=by intro W;first|rfl|kernel_rfl);refine MR 2 ?_ (hz:=by rw[Q01];kernel_rfl) (hs:=by first|rw[Q01,Q01]|rw[Q01]|kernel_rfl) (h1:=(V0p rfl));refine MZ fun W hS=> ?_;go_wp2;exact bodyPost_ret (Z8 rfl rfl (hS.blk (i:=2) rfl) (by kernel_rfl) (by rw[Q01];kernel_rfl)) rfl ⟨_,rfl,hS.pick [1]⟩
end
end Go.Proofs.YteehbddkcnkhfaaGreatDoor

/- Contracts and plain laws for directStays_holds. Conditions: the tables hold their numbers. -/
import Derived.Test.YteehbddkcnkhfaaGreatDoorJ28
open Go.RowKit
set_option maxRecDepth 100000
set_option linter.unusedSimpArgs false
set_option linter.unusedVariables false
namespace Go.Proofs.YteehbddkcnkhfaaGreatDoor
section
set_option maxHeartbeats 3000000
attribute [local irreducible] wpList V2 wpX
def bsd:TR→Nat→Nat→List Nat
 | .node _ l r,k,d=>if kb k d=0 then rs r::bsd l k (d+1) else rs l::bsd r k (d+1)
 |_,_,_=>[]
theorem Z04:∀(T:TR) (k d:Nat),(bsd T k d).length=(J35 T k d).length
 | .nil,_,_=>rfl
 | .leaf _ _,_,_=>rfl
 | .node e l r,k,d=>by
  show(if kb k d=0 then rs r::bsd l k (d+1) else rs l::bsd r k (d+1)).length=(_::(if kb k d=0 then J35 l k (d+1) else J35 r k (d+1))).length
  split
  ·
   simp[Z04 l k (d+1)]
  ·
   simp[Z04 r k (d+1)]
theorem Z4m:∀{T:TR} {k d j:Nat} {T' :TR},(J35 T k d)[j]?=some T' →∃e l r,T' =.node e l r∧(bsd T k d)[j]?=some (if kb k (d+j)=0 then rs r else rs l)
 | .nil,_,_,_,_,h=>by simp[J35] at h
 | .leaf _ _,_,_,_,_,h=>by simp[J35] at h
 | .node e l r,k,d,0,T',h=>by
  have h:some (TR.node e l r)=some T' :=h;refine⟨e,l,r,(Option.some.inj h).symm,?_⟩;show(if kb k d=0 then rs r::bsd l k (d+1) else rs l::bsd r k (d+1))[0]?=some (if kb k d=0 then rs r else rs l)
  split<;>rfl
 | .node e l r,k,d,j+1,T',h=>by
  have h:(if kb k d=0 then J35 l k (d+1) else J35 r k (d+1))[j]?=some T' :=h;show ∃e' l' r',T' =TR.node e' l' r' ∧(if kb k d=0 then rs r::bsd l k (d+1) else rs l::bsd r k (d+1))[j+1]?=_
  split at h
  ·
   rename_i hb;rw[if_pos hb];obtain⟨e',l',r',h1,h2⟩:=Z4m h;exact⟨e',l',r',h1,by rw[show d+(j+1)=d+1+j by omega];exact h2⟩
  ·
   rename_i hb;rw[if_neg hb];obtain⟨e',l',r',h1,h2⟩:=Z4m h;exact⟨e',l',r',h1,by rw[show d+(j+1)=d+1+j by omega];exact h2⟩
theorem Z7m {bs:List Nat}{i:Nat}{x:Nat}(h:bs[i]?=some x):List.map J0d (bs.take i)++[J0d x]=List.map J0d (bs.take (i+1)):=by rw[List.take_add_one,h,List.map_append];rfl
attribute [local irreducible] hs4 sE sL sN

def J4y (E:TR):Nat×Nat×Bool:=match E with
 | .leaf a x=>(a,x,true)
 |_=>(0,0,false)
theorem Y2t {q:Prop}{T:TR}{u:Value}{k:Nat}(hzT:tsz T≤1099511627775)(w:World)(hG:GT q w)(h:TA w T u):
  Calls Tryz.prog 83 #[u,.agg (J0 .u8 32 (J5 k))] w fun e w' => ∃v,e=.returned (.tuple #[v,.agg (lf (J4y (J1d T k 0)).1 (J4y (J1d T k 0)).2.1),.bool (J4y (J1d T k 0)).2.2])∧SH [] w w' [.r 23 32 v ((bsd T k 0).map J0d)]:=by
 have hS:=SH.nil [] w
 go_enter Tryz.func83,Tryz.ntmps83
 go_upto_region 0 with fail;refine RL hS ?_;clear hS;refine MN (z:=J0 .u8 32 (J5 k)) (t:=42) ?_;intro U;refine MV ?_;refine MN (z:=lf 0 0) (t:=44) ?_;intro ε;refine Wf ?_;refine MZ fun W hS=> ?_;go_upto_region 1 with fail;refine RL hS ?_;clear hS;refine MV ?_;refine ML 1 ?_;refine ME (V:=fun p:WP w T k=> .tuple #[p.v,p.u]) (fun W hS=>V28 hS (V2a w W hS.ext hzT h) rfl) ?_;rintro⟨nv,nu,us,G,S,Y⟩;dsimp only;(iterate 5 refine MV ?_);refine MZ fun W hS=> ?_;go_upto_region 2 with fail;refine RL hS ?_;clear hS;refine MV ?_;refine MF (v:=.int .i64 ((List.map Q3a us).length:Int)) (fun W hS=>J1j (hS.row (i:=0) rfl) rfl rfl Tryz.underlying108) ?_;refine W0 ?_;refine MZ fun W hS=> ?_;have ζ:=Y5q S hzT;have hS:=hS.rnil 23 32 rfl
 go_wp2_with fail
 go_loopw [4,9,10,19] (fun uu x1 x2 ii wr=> ∃(i:Nat)(sv:Value),(i≤us.length)∧(sv=uu)∧(ii=.int .i64 (i:Int))∧SH [] w wr [.r 23 32 sv (List.map J0d (List.take i (bsd T k 0))),.r 115 1 nv (List.map Q3a us),.b ε (lf 0 0) 44,.b U (J0 .u8 32 (J5 k)) 42])
  (fun uu x1 x2 ii _=>us.length-(intOf ii).toNat)
 case atStart=>exact⟨0,_,Nat.zero_le _,rfl,rfl,hS⟩
 clear hS
 case round=>
  obtain⟨i,sv,hi,rfl,rfl,hS⟩:=hrel
  by_cases N:i<us.length
  ·
   obtain⟨y,yh⟩:∃y,us[i]?=some y:=⟨_,List.getElem?_eq_getElem N⟩
   obtain⟨T1,α,Z⟩:=Y i y yh;obtain⟨e0,l,r,rfl,R⟩:=Z4m α;obtain⟨b,s0,s1,rfl,hB,hl,hr⟩:=Z;obtain⟨p0,rfl⟩:=hl.pt;obtain⟨p1,rfl⟩:=hr.pt;rw[Nat.zero_add] at R;go_upto_region 3 with fail;refine RL hS ?_;clear hS;refine Wt ?_;refine MZ fun W hS=> ?_;go_upto_region 4 with fail;refine RL hS ?_;clear hS;refine MV ?_;refine MI 1 i (e:=(Q3a (ptr b))) (by rw[List.getElem?_map,yh];rfl) ?_;intro β _ J;refine MF (v:=.pointer (some ⟨b,0,none⟩)) (fun W hS=>Z5 rfl rfl (Y2m (hS.row (i:=1) rfl) J.out (by rw[List.getElem?_map,yh];rfl) 0 _ (rfl)) (by kernel_rfl)) ?_;refine MV ?_;refine MV ?_;refine MZ fun W hS=> ?_;rcases V29 k i with hb|hb
   ·
    have M:(bsd T k 0)[i]?=some (rs r):=by rw[R,if_pos hb]
    go_upto_region 5 with fail;refine RTp [1,2,3] (.q 0 (.q 1 (.q 2 (.q 3 (.q 6 (.q 7 (.e 4 (.q 5 (.q 8 (.q 9 (.e 10 (.e 11 (.e 12 (.q 13 .z)))))))))))))) hS ?_;clear hS;refine TV ?_;refine TV ?_;refine TL 2 ?_;(iterate 3 refine TV ?_);refine TE (fun _ h=>h.pick [1,2,3]) ?_;refine MC (v:=.int .i64 0) (fun W hS=>(by have h_:=J8s k i (by omega) W;rw[hb] at h_;exact h_)) ?_;refine K5 [1,2,3] [0,1,2] ?_;refine TW ?_ (v:=.int .i64 1);refine TW ?_ (v:=.pointer (some ⟨b,65,none⟩)) (hv:=fun _=>J0f (m:=2) (k:=1) (j:=1) (off:=64) (by decide) Tryz.underlying179 (by kernel_rfl) rfl rfl rfl);refine TF (v:=.pointer p1) rfl (fun W hS=>Z5 rfl rfl (by rw[J3 (J2 hB hS.ext)];exact nd_s1) (by kernel_rfl)) ?_;refine TE (fun _ h=>h.pick [1,2,3]) ?_;obtain⟨U1,D⟩:=exh (rs r);refine MC (v:=.agg (J0 .u8 32 (J5 U1))) (fun W hS=>(by rw[D.out];exact J5f W (J0b hG hS.ext) (TA.ext hr hS.ext))) ?_;refine K5 [1,2,3] [0,1,2] ?_;refine TE (fun _ h=>h.pick [1,2,3]) ?_;refine MB (z:=(J0 .u8 32 (J5 U1))) (t:=23) (n:=1) (c:=1) ?_ (hr:=fun W _=>J2g rfl rfl rfl Tryz.underlying41 (by rw[J1];kernel_rfl) (by rw[J1];kernel_rfl) (by rw[J1];decide) (by rw[J1];decide));intro θ;refine K5 [0,2,3,4] [1,2,3] ?_;refine TE (fun _ h=>h.pick [0,2,3,4]) ?_;refine MAr 1 0 (tS:=41) (bytes:=32) (es:=(List.map J0d (List.take i (bsd T k 0)))) (by first|omega|(simp only[List.length_append,List.length_map,List.length_take,List.length_drop,List.length_reverse,List.length_cons,List.length_nil];omega)) (e:=J0d U1) (hk:=J1 _ _ _) (h1:=V9 _ _ _) ?_;intro δ;refine K5 [0,1,2,3,4] [0,2,3,4] ?_;refine TV ?_;refine TZ (fun _ h=>h) fun W hS=> ?_;go_wp2;go_roundw
    case rel=>exact⟨i+1,δ,by omega,rfl,by go_num,(by have e_:=D.out;subst e_;rw[←Z7m M];exact(hS.pick [1,2,3,4]))⟩
    case measure=>simp[intOf];omega
   have M:(bsd T k 0)[i]?=some (rs l):=by rw[R,if_neg (by rw[hb];decide)]
   go_upto_region 5 with fail;refine RTp [1,2,3] (.q 0 (.q 1 (.q 2 (.q 3 (.q 6 (.q 7 (.e 4 (.q 5 (.q 8 (.q 9 (.e 10 (.e 11 (.e 12 (.q 13 .z)))))))))))))) hS ?_;clear hS;refine TV ?_;refine TV ?_;refine TL 2 ?_;(iterate 3 refine TV ?_);refine TE (fun _ h=>h.pick [1,2,3]) ?_;refine MC (v:=.int .i64 1) (fun W hS=>(by have h_:=J8s k i (by omega) W;rw[hb] at h_;exact h_)) ?_;refine K5 [1,2,3] [0,1,2] ?_;refine T0 ?_;refine TW ?_ (v:=.pointer (some ⟨b,64,none⟩)) (hv:=fun _=>J0f (m:=2) (k:=1) (j:=0) (off:=64) (by decide) Tryz.underlying179 (by kernel_rfl) rfl rfl rfl);refine TF (v:=.pointer p0) rfl (fun W hS=>Z5 rfl rfl (by rw[J3 (J2 hB hS.ext)];exact nd_s0) (by kernel_rfl)) ?_;refine TE (fun _ h=>h.pick [1,2,3]) ?_;obtain⟨U1,D⟩:=exh (rs l);refine MC (v:=.agg (J0 .u8 32 (J5 U1))) (fun W hS=>(by rw[D.out];exact J5f W (J0b hG hS.ext) (TA.ext hl hS.ext))) ?_;refine K5 [1,2,3] [0,1,2] ?_;refine TE (fun _ h=>h.pick [1,2,3]) ?_;refine MB (z:=(J0 .u8 32 (J5 U1))) (t:=23) (n:=1) (c:=1) ?_ (hr:=fun W _=>J2g rfl rfl rfl Tryz.underlying41 (by rw[J1];kernel_rfl) (by rw[J1];kernel_rfl) (by rw[J1];decide) (by rw[J1];decide));intro η;refine K5 [0,2,3,4] [1,2,3] ?_;refine TE (fun _ h=>h.pick [0,2,3,4]) ?_;refine MAr 1 0 (tS:=41) (bytes:=32) (es:=(List.map J0d (List.take i (bsd T k 0)))) (by first|omega|(simp only[List.length_append,List.length_map,List.length_take,List.length_drop,List.length_reverse,List.length_cons,List.length_nil];omega)) (e:=J0d U1) (hk:=J1 _ _ _) (h1:=V9 _ _ _) ?_;intro X;refine K5 [0,1,2,3,4] [0,2,3,4] ?_;refine TV ?_;refine TZ (fun _ h=>h) fun W hS=> ?_;go_wp2;go_roundw
   case rel=>exact⟨i+1,X,by omega,rfl,by go_num,(by have e_:=D.out;subst e_;rw[←Z7m M];exact(hS.pick [1,2,3,4]))⟩
   case measure=>simp[intOf];omega
  obtain rfl:i=us.length:=by omega
  rw[S,←Z04 T k 0,List.take_length] at hS;go_upto_region 3 with fail;refine RL hS ?_;clear hS;refine Wf ?_;refine MZ fun W hS=> ?_;rcases Q1y T k 0 with he|⟨a,x,he⟩
  ·
   rw[he] at G;obtain rfl:_=nlp:=G;go_upto_region 8 with fail;refine RL hS ?_;clear hS;refine MV ?_;refine MW ?_ (v:=.agg (lf 0 0)) (hv:=by intro W;first|rfl|kernel_rfl);refine MV ?_;refine MR 2 ?_ (hz:=by rw[X6];kernel_rfl) (hs:=by first|rw[X6,X6]|rw[X6]|kernel_rfl) (h1:=Q96);refine Wf ?_;refine MZ fun W hS=> ?_;go_wp2;exact bodyPost_ret (Y2q rfl rfl rfl rfl (hS.blk (i:=2) rfl) (by kernel_rfl) (by rw[X6];kernel_rfl)) rfl ⟨_,by rw[he];rfl,hS.pick [0]⟩
  rw[he] at G;obtain⟨b1,rfl,γ,ha,hx⟩:=G;go_upto_region 9 with fail;refine RTp [0,1,3] (.q 0 (.q 1 (.q 2 (.q 3 (.q 4 (.q 5 (.e 6 (.q 7 .z)))))))) hS ?_;clear hS;(iterate 4 refine TV ?_);refine TF (v:=.agg (lf a x)) rfl (fun W hS=>V3 rfl rfl (fun i v hv=>by rw[J3 (J2 γ hS.ext)];exact Y9v i v hv) (by kernel_rfl) (by first|kernel_rfl|(rw[X6];kernel_rfl))) ?_;refine TV ?_;refine TE (fun _ h=>h.pick [0,1,3]) ?_;refine MR 2 ?_ (hz:=by rw[X6];kernel_rfl) (hs:=by first|rw[X6,X6]|rw[X6]|kernel_rfl) (h1:=Q96);refine K5 [0,1,3] [0,1,2] ?_;refine Tt ?_;refine TZ (fun _ h=>h.pick [0,1,3]) fun W hS=> ?_;go_wp2;exact bodyPost_ret (Y2q rfl rfl rfl rfl (hS.blk (i:=2) rfl) (by kernel_rfl) (by rw[X6];kernel_rfl)) rfl ⟨_,by rw[he];rfl,hS.pick [0]⟩
end

section
set_option maxHeartbeats 3000000
attribute [local irreducible] wpList V2 wpX
attribute [local irreducible] hs4 sE sL sN

end

section
def tE (th:Bool)(a x:Nat):List UInt8:=if th then[0]++lb 32 a++lb 32 x else[2]
def tN (d:Int)(b s o:Nat):List UInt8:=if b=0 then[1]++db d++lb 32 s++lb 32 o else[1]++db d++lb 32 o++lb 32 s
def tT (k:Nat):List Nat→Nat→List UInt8→List UInt8
  |[],_,e=>e
  |o::ss,d,e=>tN (d:Int) (kb k d) (hs4 (tT k ss (d+1) e)) o
theorem Q2y {k:Nat}:∀(f d:Nat) {ws:List Lf} {a x:Nat},f+d=256→Srt ws→Pre ws d→J1d (can f ws d) k d=.leaf a x→
    (a,x)∈ws∧∀i,d≤i→i<d+(bsd (can f ws d) k d).length→kb a i=kb k i
  |f,d,[],_,_,_,_,_,h=>by rw[J8c] at h;cases h
  |f,d,[y],a,x,_,_,_,h=>by
    rw[J6o] at h⊢;have h:TR.leaf y.1 y.2=.leaf a x:=h;injection h with h1 h2
    subst h1;subst h2;exact⟨by simp,fun i h1 h2=>by have:i<d+0:=h2;omega⟩
  |0,d,x::y::r,_,_,hd,hs,hp,_=>by
    obtain rfl:d=256:=by omega
    exact(Z3c hs hp).elim
  |f+1,d,y::z::r,a,x,hd,hs,hp,h=>by
    rw[Q1w (by simp)] at h⊢;have h0:=Q2y (k:=k) f (d+1) (a:=a) (x:=x) (by omega) (J7l (d:=d) (b:=0) hs) (J9k hp);have h1:=Q2y (k:=k) f (d+1) (a:=a) (x:=x) (by omega) (J7l (d:=d) (b:=1) hs) (J9k hp);generalize can f (J1p (y::z::r) d 0) (d+1)=L at*;generalize can f (J1p (y::z::r) d 1) (d+1)=R at*;have h:(if kb k d=0 then J1d L k (d+1) else J1d R k (d+1))=.leaf a x:=h;show _∧∀i,d≤i→i<d+(if kb k d=0 then rs R::bsd L k (d+1) else rs L::bsd R k (d+1)).length→_;have hb:=Q3h k d
    by_cases hz:kb k d=0
    · rw[if_pos hz] at h
      obtain⟨h2,h3⟩:=h0 h;obtain⟨h4,h5⟩:=mem_rside.1 h2;refine⟨h4,fun i hi D=> ?_⟩;rw[if_pos hz,List.length_cons] at D;rcases Nat.lt_or_ge d i with h6|h6
      · exact h3 i h6 (by omega)
      · obtain rfl:i=d:=by omega
        rw[hz];exact h5
    · rw[if_neg hz] at h
      obtain⟨h2,h3⟩:=h1 h;obtain⟨h4,h5⟩:=mem_rside.1 h2;refine⟨h4,fun i hi D=> ?_⟩;rw[if_neg hz,List.length_cons] at D;rcases Nat.lt_or_ge d i with h6|h6
      · exact h3 i h6 (by omega)
      · obtain rfl:i=d:=by omega
        rw[show kb k i=1 by omega];exact h5
theorem J9l {k:Nat}:∀(f d:Nat) {ws:List Lf},f+d=256→Srt ws→Pre ws d→(bsd (can f ws d) k d).length≤f
  |f,d,[],_,_,_=>by rw[J8c];exact Nat.zero_le _
  |f,d,[y],_,_,_=>by rw[J6o];exact Nat.zero_le _
  |0,d,x::y::r,hd,hs,hp=>by
    obtain rfl:d=256:=by omega
    exact(Z3c hs hp).elim
  |f+1,d,y::z::r,hd,hs,hp=>by
    rw[Q1w (by simp)];have h0:=J9l (k:=k) f (d+1) (by omega) (J7l (d:=d) (b:=0) hs) (J9k hp);have h1:=J9l (k:=k) f (d+1) (by omega) (J7l (d:=d) (b:=1) hs) (J9k hp);show(if kb k d=0 then _::_ else _::_:List Nat).length≤f+1
    split<;>(rw[List.length_cons];omega)
def chk (R k:Nat)(ss:List Nat)(th:Bool)(a x:Nat):Nat×Bool×Nat:=
  if 256<ss.length∨th=true∧J0m (J5 a) (J5 k)<ss.length then(0,false,17)
  else if hs4 (tT k ss 0 (tE th a x))=R then(if th=true∧a=k then(x,true,0) else(0,false,0))
  else(0,false,17)
attribute [local irreducible] hs4 sN sE sL lb
end

section
attribute [local irreducible] wpList V2 wpX
theorem Z2o {L:List Lf}{k:Nat}(h:J3v L):(bsd (ofT L) k 0).length≤256:=by
 rw[Z6d h];exact J9l 256 0 rfl (Q5t h).2 (Y2u _)
attribute [local irreducible] hs4 sE sL sN

end

section
set_option maxHeartbeats 3000000
attribute [local irreducible] wpList V2 wpX
attribute [local irreducible] hs4 sE sL sN

end

section
set_option maxHeartbeats 3000000
attribute [local irreducible] wpList V2 wpX
attribute [local irreducible] hs4 sE sL sN lb
end

section
set_option maxHeartbeats 3000000
attribute [local irreducible] wpList V2 wpX
attribute [local irreducible] hs4 sE sL sN lb
end

section
end

section
set_option maxHeartbeats 3000000
attribute [local irreducible] wpList V2 wpX
attribute [local irreducible] hs4 sE sL sN lb
def V3z (ss:List Nat)(th:Bool)(a x:Nat)(w w' :World)(e:Ending):Prop:=∃v,e=.returned (.agg (pfc v th a x))∧SH [] w w' [.r 23 32 v (ss.map J0d)]
theorem V9d {f:FuncId}{args:Array Value}{F:List Nat}{w W:World}{H:List As}{ss:List Nat}{th:Bool}{a x:Nat}(hS:SH F w W H)(hc:Calls Tryz.prog f args W fun e W' =>V3z ss th a x W W' e)(ht:H.all (SH.tyOk (.r 23 32 undef []))=true):
  Calls Tryz.prog f args W fun e W' => ∃v,e=.returned (.agg (pfc v th a x))∧SH F w W' (.r 23 32 v (ss.map J0d)::H):=J3i hS hc (fun _=>⟨rfl,ht⟩)

theorem Q4d {q:Prop}{T:TR}{u:Value}{k:Nat}(hzT:tsz T≤1099511627775)(w:World)(hG:GT q w)(h:TA w T u):
  Calls Tryz.prog 45 #[u,.agg (J0 .u8 32 (J5 k))] w fun e w' =>V3z (bsd T k 0) (J4y (J1d T k 0)).2.2 (J4y (J1d T k 0)).1 (J4y (J1d T k 0)).2.1 w w' e:=by
 have hS:=SH.nil [] w
 go_enter Tryz.func45,Tryz.ntmps45
 go_upto_region 0 with fail;refine RL hS ?_;clear hS;refine MN (z:=J0 .u8 32 (J5 k)) (t:=42) ?_;intro M;refine MN (z:=pfc (.slice none 0 0) false 0 0) (t:=46) ?_;intro J;refine MZ fun W hS=> ?_;go_upto_region 1 with fail;refine RL hS ?_;clear hS;refine MV ?_;refine ML 1 ?_;refine ME (V:=fun v=> .tuple #[v,.agg (lf (J4y (J1d T k 0)).1 (J4y (J1d T k 0)).2.1),.bool (J4y (J1d T k 0)).2.2]) (fun W hS=>J3i hS (Y2t (k:=k) hzT W (J0b hG hS.ext) (TA.ext h hS.ext)) (fun _=>⟨rfl,rfl⟩)) ?_;intro so;refine J00 (fun W hS=>Row.form (ls:=(bsd T k 0)) (f:=J0d) (hS.row (i:=0) rfl)) ?_;rintro⟨G,D,rfl⟩;(iterate 3 refine MV ?_);refine MW ?_ (v:=.bool (J4y (J1d T k 0)).2.2);refine MN (z:=lf 0 0) (t:=44) ?_;intro N;refine MV ?_;refine MR 0 ?_ (hz:=by rw[X6];kernel_rfl) (hs:=by first|rw[X6,X6]|rw[X6]|kernel_rfl) (h1:=Q96);refine MW ?_ (v:=.bool (J4y (J1d T k 0)).2.2);refine MZ fun W hS=> ?_;go_upto_region 2 with fail;refine RL hS ?_;clear hS;refine MV ?_;refine MW ?_ (v:=.bool (J4y (J1d T k 0)).2.2);refine ML 0 ?_ (hs:=by rw[X6];kernel_rfl);refine MW ?_ (v:=.agg (pfc (.slice G (bsd T k 0).length D) (J4y (J1d T k 0)).2.2 ((J4y (J1d T k 0)).1) ((J4y (J1d T k 0)).2.1))) (hv:=by intro W;first|rfl|kernel_rfl);refine MR 2 ?_ (hz:=by rw[Q1x];kernel_rfl) (hs:=by first|rw[Q1x,Q1x]|rw[Q1x]|kernel_rfl) (h1:=(V4w rfl));refine MZ fun W hS=> ?_;go_wp2;exact bodyPost_ret (Y0 rfl rfl (hS.blk (i:=2) rfl) (by kernel_rfl) (by rw[Q1x];kernel_rfl)) rfl ⟨_,rfl,hS.pick [1]⟩
end
end Go.Proofs.YteehbddkcnkhfaaGreatDoor

/- Contracts and plain laws for directHolds_holds. Conditions: the tables hold their numbers. -/
import Derived.Test.YtpljgkofbfeelaaGreatDoorJ28
open Go renaming World->AA,Value->AB,bodyPost_ret->BC,Calls->Az,IntKind->AG
open Go.IntKind renaming wrap_i64->BD
open _root_.List renaming length_append->Ai,length_cons->AV,nil_append->BM,append_nil->Aj,append_assoc->Ak,length_nil->Al,getElem?_eq_getElem->Af,getElem?_map->BO,length_drop->AW,length_map->BS,flatten_cons->An,cons_append->BK,length_take->BT,map_append->BU
open _root_.Nat renaming le_refl->AJ,zero_le->Ah
open Go.RowKit
set_option maxRecDepth 100000
set_option linter.unusedSimpArgs false
set_option linter.unusedVariables false
namespace Go.Proofs.YtpljgkofbfeelaaGreatDoor
section
set_option maxHeartbeats 3000000
attribute [local irreducible] wpList Z9 wpX
def bsd:TR→Nat→Nat→List Nat
 | .node _ l r,k,d=>if kb k d=0 then rs r::bsd l k (d+1) else rs l::bsd r k (d+1)
 |_,_,_=>[]
theorem Q8z:∀(T:TR) (k d:Nat),(bsd T k d).length=(J2l T k d).length
 | .nil,_,_=>rfl
 | .leaf _ _,_,_=>rfl
 | .node e l r,k,d=>by
  show(if kb k d=0 then rs r::bsd l k (d+1) else rs l::bsd r k (d+1)).length=(_::(if kb k d=0 then J2l l k (d+1) else J2l r k (d+1))).length
  split
  ·
   simp[Q8z l k (d+1)]
  ·
   simp[Q8z r k (d+1)]
theorem Z3l:∀{T:TR} {k d j:Nat} {T' :TR},(J2l T k d)[j]?=some T' →∃e l r,T' =.node e l r∧(bsd T k d)[j]?=some (if kb k (d+j)=0 then rs r else rs l)
 | .nil,_,_,_,_,h=>by simp[J2l] at h
 | .leaf _ _,_,_,_,_,h=>by simp[J2l] at h
 | .node e l r,k,d,0,T',h=>by
  have h:some (TR.node e l r)=some T' :=h;refine⟨e,l,r,(Option.some.inj h).symm,?_⟩;show(if kb k d=0 then rs r::bsd l k (d+1) else rs l::bsd r k (d+1))[0]?=some (if kb k d=0 then rs r else rs l)
  split<;>rfl
 | .node e l r,k,d,j+1,T',h=>by
  have h:(if kb k d=0 then J2l l k (d+1) else J2l r k (d+1))[j]?=some T' :=h;show ∃e' l' r',T' =TR.node e' l' r' ∧(if kb k d=0 then rs r::bsd l k (d+1) else rs l::bsd r k (d+1))[j+1]?=_
  split at h
  ·
   rename_i hb;rw[if_pos hb];obtain⟨e',l',r',h1,h2⟩:=Z3l h;exact⟨e',l',r',h1,by rw[show d+(j+1)=d+1+j by omega];exact h2⟩
  ·
   rename_i hb;rw[if_neg hb];obtain⟨e',l',r',h1,h2⟩:=Z3l h;exact⟨e',l',r',h1,by rw[show d+(j+1)=d+1+j by omega];exact h2⟩
theorem Z6x {bs:List Nat}{i:Nat}{x:Nat}(h:bs[i]?=some x):List.map J0d (bs.take i)++[J0d x]=List.map J0d (bs.take (i+1)):=by rw[List.take_add_one,h,BU];rfl
attribute [local irreducible] hs4 sE sL sN

def J2e (E:TR):Nat×Nat×Bool:=match E with
 | .leaf a x=>(a,x,true)
 |_=>(0,0,false)
theorem Y1u {q:Prop}{T:TR}{u:AB}{k:Nat}(hzT:tsz T≤1099511627775)(w:AA)(hG:GT q w)(h:TA w T u):
  Az Tryz.prog 70 #[u,.agg (J0 .u8 32 (J2 k))] w fun e w' => ∃v,e=.returned (.tuple #[v,.agg (lf (J2e (J00 T k 0)).1 (J2e (J00 T k 0)).2.1),.bool (J2e (J00 T k 0)).2.2])∧SH [] w w' [.r 23 32 v ((bsd T k 0).map J0d)]:=by
 have hS:=SH.nil [] w
 go_enter Tryz.func70,Tryz.ntmps70
 go_upto_region 0 with fail;refine RL hS ?_;clear hS;refine MN (z:=J0 .u8 32 (J2 k)) (t:=38) ?_;intro β;refine MV ?_;refine MN (z:=lf 0 0) (t:=40) ?_;intro δ;refine Wf ?_;refine MZ fun W hS=> ?_;go_upto_region 1 with fail;refine RL hS ?_;clear hS;refine MV ?_;refine ML 1 ?_;refine ME (V:=fun p:WP w T k=> .tuple #[p.v,p.u]) (fun W hS=>V0p hS (V0q w W hS.ext hzT h) rfl) ?_;rintro⟨nv,nu,us,G,S,ε⟩;dsimp only;(iterate 5 refine MV ?_);refine MZ fun W hS=> ?_;go_upto_region 2 with fail;refine RL hS ?_;clear hS;refine MV ?_;refine MF (v:=.int .i64 ((List.map J6x us).length:Int)) (fun W hS=>J1b (hS.row (i:=0) rfl) rfl rfl Tryz.underlying79) ?_;refine W0 ?_;refine MZ fun W hS=> ?_;have ζ:=Y4c S hzT;have hS:=hS.rnil 23 32 rfl
 go_wp2_with fail
 go_loopw [4,9,10,19] (fun uu x1 x2 ii wr=> ∃(i:Nat)(sv:AB),(i≤us.length)∧(sv=uu)∧(ii=.int .i64 (i:Int))∧SH [] w wr [.r 23 32 sv (List.map J0d (List.take i (bsd T k 0))),.r 82 1 nv (List.map J6x us),.b δ (lf 0 0) 40,.b β (J0 .u8 32 (J2 k)) 38])
  (fun uu x1 x2 ii _=>us.length-(intOf ii).toNat)
 case atStart=>exact⟨0,_,Ah _,rfl,rfl,hS⟩
 clear hS
 case round=>
  obtain⟨i,sv,hi,rfl,rfl,hS⟩:=hrel
  by_cases R:i<us.length
  ·
   obtain⟨y,yh⟩:∃y,us[i]?=some y:=⟨_,Af R⟩
   obtain⟨T1,X,Y⟩:=ε i y yh;obtain⟨e0,l,r,rfl,N⟩:=Z3l X;obtain⟨b,s0,s1,rfl,hB,hl,hr⟩:=Y;obtain⟨p0,rfl⟩:=hl.pt;obtain⟨p1,rfl⟩:=hr.pt;rw[Nat.zero_add] at N;go_upto_region 3 with fail;refine RL hS ?_;clear hS;refine Wt ?_;refine MZ fun W hS=> ?_;go_upto_region 4 with fail;refine RL hS ?_;clear hS;refine MV ?_;refine MI 1 i (e:=(J6x (ptr b))) (by rw[BO,yh];rfl) ?_;intro γ _ J;refine MF (v:=.pointer (some ⟨b,0,none⟩)) (fun W hS=>Q6 rfl rfl (Y1j (hS.row (i:=1) rfl) J.out (by rw[BO,yh];rfl) 0 _ (rfl)) (by kernel_rfl)) ?_;refine MV ?_;refine MV ?_;refine MZ fun W hS=> ?_;rcases Z06 k i with hb|hb
   ·
    have M:(bsd T k 0)[i]?=some (rs r):=by rw[N,if_pos hb]
    go_upto_region 5 with fail;refine RTp [1,2,3] (.q 0 (.q 1 (.q 2 (.q 3 (.q 6 (.q 7 (.e 4 (.q 5 (.q 8 (.q 9 (.e 10 (.e 11 (.e 12 (.q 13 .z)))))))))))))) hS ?_;clear hS;refine TV ?_;refine TV ?_;refine TL 2 ?_;(iterate 3 refine TV ?_);refine TE (fun _ h=>h.pick [1,2,3]) ?_;refine MC (v:=.int .i64 0) (fun W hS=>(by have h_:=J5q k i (by omega) W;rw[hb] at h_;exact h_)) ?_;refine Y6 [1,2,3] [0,1,2] ?_;refine TW ?_ (v:=.int .i64 1);refine TW ?_ (v:=.pointer (some ⟨b,65,none⟩)) (hv:=fun _=>J05 (m:=2) (k:=1) (j:=1) (off:=64) (by decide) Tryz.underlying161 (by kernel_rfl) rfl rfl rfl);refine TF (v:=.pointer p1) rfl (fun W hS=>Q6 rfl rfl (by rw[J3 (J4 hB hS.ext)];exact nd_s1) (by kernel_rfl)) ?_;refine TE (fun _ h=>h.pick [1,2,3]) ?_;obtain⟨U1,D⟩:=exh (rs r);refine MC (v:=.agg (J0 .u8 32 (J2 U1))) (fun W hS=>(by rw[D.out];exact J5l W (X5 hG hS.ext) (TA.ext hr hS.ext))) ?_;refine Y6 [1,2,3] [0,1,2] ?_;refine TE (fun _ h=>h.pick [1,2,3]) ?_;refine MB (z:=(J0 .u8 32 (J2 U1))) (t:=23) (n:=1) (c:=1) ?_ (hr:=fun W _=>J2i rfl rfl rfl Tryz.underlying37 (by rw[J1];kernel_rfl) (by rw[J1];kernel_rfl) (by rw[J1];decide) (by rw[J1];decide));intro θ;refine Y6 [0,2,3,4] [1,2,3] ?_;refine TE (fun _ h=>h.pick [0,2,3,4]) ?_;refine MAr 1 0 (tS:=37) (bytes:=32) (es:=(List.map J0d (List.take i (bsd T k 0)))) (by first|omega|(simp only[Ai,BS,BT,AW,List.length_reverse,AV,Al];omega)) (e:=J0d U1) (hk:=J1 _ _ _) (h1:=J0b _ _ _) ?_;intro α;refine Y6 [0,1,2,3,4] [0,2,3,4] ?_;refine TV ?_;refine TZ (fun _ h=>h) fun W hS=> ?_;go_wp2;go_roundw
    case rel=>exact⟨i+1,α,by omega,rfl,by go_num,(by have e_:=D.out;subst e_;rw[←Z6x M];exact(hS.pick [1,2,3,4]))⟩
    case measure=>simp[intOf];omega
   have M:(bsd T k 0)[i]?=some (rs l):=by rw[N,if_neg (by rw[hb];decide)]
   go_upto_region 5 with fail;refine RTp [1,2,3] (.q 0 (.q 1 (.q 2 (.q 3 (.q 6 (.q 7 (.e 4 (.q 5 (.q 8 (.q 9 (.e 10 (.e 11 (.e 12 (.q 13 .z)))))))))))))) hS ?_;clear hS;refine TV ?_;refine TV ?_;refine TL 2 ?_;(iterate 3 refine TV ?_);refine TE (fun _ h=>h.pick [1,2,3]) ?_;refine MC (v:=.int .i64 1) (fun W hS=>(by have h_:=J5q k i (by omega) W;rw[hb] at h_;exact h_)) ?_;refine Y6 [1,2,3] [0,1,2] ?_;refine T0 ?_;refine TW ?_ (v:=.pointer (some ⟨b,64,none⟩)) (hv:=fun _=>J05 (m:=2) (k:=1) (j:=0) (off:=64) (by decide) Tryz.underlying161 (by kernel_rfl) rfl rfl rfl);refine TF (v:=.pointer p0) rfl (fun W hS=>Q6 rfl rfl (by rw[J3 (J4 hB hS.ext)];exact nd_s0) (by kernel_rfl)) ?_;refine TE (fun _ h=>h.pick [1,2,3]) ?_;obtain⟨U1,D⟩:=exh (rs l);refine MC (v:=.agg (J0 .u8 32 (J2 U1))) (fun W hS=>(by rw[D.out];exact J5l W (X5 hG hS.ext) (TA.ext hl hS.ext))) ?_;refine Y6 [1,2,3] [0,1,2] ?_;refine TE (fun _ h=>h.pick [1,2,3]) ?_;refine MB (z:=(J0 .u8 32 (J2 U1))) (t:=23) (n:=1) (c:=1) ?_ (hr:=fun W _=>J2i rfl rfl rfl Tryz.underlying37 (by rw[J1];kernel_rfl) (by rw[J1];kernel_rfl) (by rw[J1];decide) (by rw[J1];decide));intro η;refine Y6 [0,2,3,4] [1,2,3] ?_;refine TE (fun _ h=>h.pick [0,2,3,4]) ?_;refine MAr 1 0 (tS:=37) (bytes:=32) (es:=(List.map J0d (List.take i (bsd T k 0)))) (by first|omega|(simp only[Ai,BS,BT,AW,List.length_reverse,AV,Al];omega)) (e:=J0d U1) (hk:=J1 _ _ _) (h1:=J0b _ _ _) ?_;intro U;refine Y6 [0,1,2,3,4] [0,2,3,4] ?_;refine TV ?_;refine TZ (fun _ h=>h) fun W hS=> ?_;go_wp2;go_roundw
   case rel=>exact⟨i+1,U,by omega,rfl,by go_num,(by have e_:=D.out;subst e_;rw[←Z6x M];exact(hS.pick [1,2,3,4]))⟩
   case measure=>simp[intOf];omega
  obtain rfl:i=us.length:=by omega
  rw[S,←Q8z T k 0,List.take_length] at hS;go_upto_region 3 with fail;refine RL hS ?_;clear hS;refine Wf ?_;refine MZ fun W hS=> ?_;rcases J65 T k 0 with he|⟨a,x,he⟩
  ·
   rw[he] at G;obtain rfl:_=nlp:=G;go_upto_region 8 with fail;refine RL hS ?_;clear hS;refine MV ?_;refine MW ?_ (v:=.agg (lf 0 0)) (hv:=by intro W;first|rfl|kernel_rfl);refine MV ?_;refine MR 2 ?_ (hz:=by rw[J06];kernel_rfl) (hs:=by first|rw[J06,J06]|rw[J06]|kernel_rfl) (h1:=Q85);refine Wf ?_;refine MZ fun W hS=> ?_;go_wp2;exact BC (Y1o rfl rfl rfl rfl (hS.blk (i:=2) rfl) (by kernel_rfl) (by rw[J06];kernel_rfl)) rfl ⟨_,by rw[he];rfl,hS.pick [0]⟩
  rw[he] at G;obtain⟨b1,rfl,Z,ha,hx⟩:=G;go_upto_region 9 with fail;refine RTp [0,1,3] (.q 0 (.q 1 (.q 2 (.q 3 (.q 4 (.q 5 (.e 6 (.q 7 .z)))))))) hS ?_;clear hS;(iterate 4 refine TV ?_);refine TF (v:=.agg (lf a x)) rfl (fun W hS=>V4 rfl rfl (fun i v hv=>by rw[J3 (J4 Z hS.ext)];exact Y8c i v hv) (by kernel_rfl) (by first|kernel_rfl|(rw[J06];kernel_rfl))) ?_;refine TV ?_;refine TE (fun _ h=>h.pick [0,1,3]) ?_;refine MR 2 ?_ (hz:=by rw[J06];kernel_rfl) (hs:=by first|rw[J06,J06]|rw[J06]|kernel_rfl) (h1:=Q85);refine Y6 [0,1,3] [0,1,2] ?_;refine Tt ?_;refine TZ (fun _ h=>h.pick [0,1,3]) fun W hS=> ?_;go_wp2;exact BC (Y1o rfl rfl rfl rfl (hS.blk (i:=2) rfl) (by kernel_rfl) (by rw[J06];kernel_rfl)) rfl ⟨_,by rw[he];rfl,hS.pick [0]⟩
end

section
set_option maxHeartbeats 3000000
attribute [local irreducible] wpList Z9 wpX
attribute [local irreducible] hs4 sE sL sN

end

section
def tE (th:Bool)(a x:Nat):List UInt8:=if th then[0]++lb 32 a++lb 32 x else[2]
def tN (d:Int)(b s o:Nat):List UInt8:=if b=0 then[1]++db d++lb 32 s++lb 32 o else[1]++db d++lb 32 o++lb 32 s
def tT (k:Nat):List Nat→Nat→List UInt8→List UInt8
  |[],_,e=>e
  |o::ss,d,e=>tN (d:Int) (kb k d) (hs4 (tT k ss (d+1) e)) o
def tA (k:Nat):List Nat→Nat→List UInt8→List (List UInt8)
  |[],_,e=>[e]
  |o::ss,d,e=>tA k ss (d+1) e++[tT k (o::ss) d e]
theorem J8c (k:Nat)(e:List UInt8):∀(ss:List Nat) (d:Nat),(tA k ss d e).length=ss.length+1
  |[],_=>rfl
  |o::ss,d=>by show(tA k ss (d+1) e++[_]).length=_;rw[Ai,J8c k e ss (d+1)];rfl
theorem J1e (k:Nat)(e:List UInt8):∀(ss:List Nat) (d:Nat),(tA k ss d e)[ss.length]?=some (tT k ss d e)
  |[],_=>rfl
  |o::ss,d=>by
    show(tA k ss (d+1) e++[tT k (o::ss) d e])[ss.length+1]?=_;rw[List.getElem?_append_right (by rw[J8c];exact AJ _),J8c,Nat.sub_self];rfl
theorem Q4t (th:Bool)(a x:Nat):(tE th a x).length≤65:=by unfold tE;split<;>simp[J7]
theorem V3k (d:Int)(b s o:Nat):(tN d b s o).length=67:=by unfold tN;split<;>simp[J7,dbl]
theorem Q4u (k:Nat){e:List UInt8}(he:e.length≤65):∀(ss:List Nat) (d:Nat),(tT k ss d e).length≤67
  |[],_=>by show e.length≤67;omega
  |_::_,_=>Nat.le_of_eq (V3k ..)
theorem Q4v {k:Nat}:∀(f d:Nat) {ws:List Lf},f+d=256→Srt ws→Pre ws d→
    hs4 (tT k (bsd (can f ws d) k d) d (tE (J2e (J00 (can f ws d) k d)).2.2 (J2e (J00 (can f ws d) k d)).1 (J2e (J00 (can f ws d) k d)).2.1))=rs (can f ws d)
  |f,d,[],_,_,_=>by rw[J6b];rfl
  |f,d,[x],_,_,_=>by rw[J4h];rfl
  |0,d,x::y::r,hd,hs,hp=>by
    obtain rfl:d=256:=by omega
    exact(Q4w hs hp).elim
  |f+1,d,x::y::r,hd,hs,hp=>by
    rw[J7i (by simp)];have h0:=Q4v (k:=k) f (d+1) (by omega) (J36 (d:=d) (b:=0) hs) (J3u hp);have h1:=Q4v (k:=k) f (d+1) (by omega) (J36 (d:=d) (b:=1) hs) (J3u hp);generalize can f (J1d (x::y::r) d 0) (d+1)=L at*;generalize can f (J1d (x::y::r) d 1) (d+1)=R at*;show hs4 (tT k (if kb k d=0 then rs R::bsd L k (d+1) else rs L::bsd R k (d+1)) d (tE (J2e (if kb k d=0 then J00 L k (d+1) else J00 R k (d+1))).2.2 (J2e (if kb k d=0 then J00 L k (d+1) else J00 R k (d+1))).1 (J2e (if kb k d=0 then J00 L k (d+1) else J00 R k (d+1))).2.1))=sN (d:Int) (rs L) (rs R);have hb:=J9p k d
    by_cases hz:kb k d=0
    · simp only[if_pos hz]
      show hs4 (tN (d:Int) (kb k d) (hs4 (tT k (bsd L k (d+1)) (d+1) _)) (rs R))=_;rw[h0,hz];rfl
    · simp only[if_neg hz]
      show hs4 (tN (d:Int) (kb k d) (hs4 (tT k (bsd R k (d+1)) (d+1) _)) (rs L))=_;rw[h1,show kb k d=1 by omega];rfl
theorem J6r {k:Nat}:∀(f d:Nat) {ws:List Lf} {a x:Nat},f+d=256→Srt ws→Pre ws d→J00 (can f ws d) k d=.leaf a x→
    (a,x)∈ws∧∀i,d≤i→i<d+(bsd (can f ws d) k d).length→kb a i=kb k i
  |f,d,[],_,_,_,_,_,h=>by rw[J6b] at h;cases h
  |f,d,[y],a,x,_,_,_,h=>by
    rw[J4h] at h⊢;have h:TR.leaf y.1 y.2=.leaf a x:=h;injection h with h1 h2
    subst h1;subst h2;exact⟨by simp,fun i h1 h2=>by have:i<d+0:=h2;omega⟩
  |0,d,x::y::r,_,_,hd,hs,hp,_=>by
    obtain rfl:d=256:=by omega
    exact(Q4w hs hp).elim
  |f+1,d,y::z::r,a,x,hd,hs,hp,h=>by
    rw[J7i (by simp)] at h⊢;have h0:=J6r (k:=k) f (d+1) (a:=a) (x:=x) (by omega) (J36 (d:=d) (b:=0) hs) (J3u hp);have h1:=J6r (k:=k) f (d+1) (a:=a) (x:=x) (by omega) (J36 (d:=d) (b:=1) hs) (J3u hp);generalize can f (J1d (y::z::r) d 0) (d+1)=L at*;generalize can f (J1d (y::z::r) d 1) (d+1)=R at*;have h:(if kb k d=0 then J00 L k (d+1) else J00 R k (d+1))=.leaf a x:=h;show _∧∀i,d≤i→i<d+(if kb k d=0 then rs R::bsd L k (d+1) else rs L::bsd R k (d+1)).length→_;have hb:=J9p k d
    by_cases hz:kb k d=0
    · rw[if_pos hz] at h
      obtain⟨h2,h3⟩:=h0 h;obtain⟨h4,h5⟩:=mem_rside.1 h2;refine⟨h4,fun i hi D=> ?_⟩;rw[if_pos hz,AV] at D;rcases Nat.lt_or_ge d i with h6|h6
      · exact h3 i h6 (by omega)
      · obtain rfl:i=d:=by omega
        rw[hz];exact h5
    · rw[if_neg hz] at h
      obtain⟨h2,h3⟩:=h1 h;obtain⟨h4,h5⟩:=mem_rside.1 h2;refine⟨h4,fun i hi D=> ?_⟩;rw[if_neg hz,AV] at D;rcases Nat.lt_or_ge d i with h6|h6
      · exact h3 i h6 (by omega)
      · obtain rfl:i=d:=by omega
        rw[show kb k i=1 by omega];exact h5
theorem J66 {k:Nat}:∀(f d:Nat) {ws:List Lf},f+d=256→Srt ws→Pre ws d→(bsd (can f ws d) k d).length≤f
  |f,d,[],_,_,_=>by rw[J6b];exact Ah _
  |f,d,[y],_,_,_=>by rw[J4h];exact Ah _
  |0,d,x::y::r,hd,hs,hp=>by
    obtain rfl:d=256:=by omega
    exact(Q4w hs hp).elim
  |f+1,d,y::z::r,hd,hs,hp=>by
    rw[J7i (by simp)];have h0:=J66 (k:=k) f (d+1) (by omega) (J36 (d:=d) (b:=0) hs) (J3u hp);have h1:=J66 (k:=k) f (d+1) (by omega) (J36 (d:=d) (b:=1) hs) (J3u hp);show(if kb k d=0 then _::_ else _::_:List Nat).length≤f+1
    split<;>(rw[AV];omega)
def chk (R k:Nat)(ss:List Nat)(th:Bool)(a x:Nat):Nat×Bool×Nat:=
  if 256<ss.length∨th=true∧X9 (J2 a) (J2 k)<ss.length then(0,false,17)
  else if hs4 (tT k ss 0 (tE th a x))=R then(if th=true∧a=k then(x,true,0) else(0,false,0))
  else(0,false,17)
theorem Y6e {a k n:Nat}(hn:n≤256)(h:∀i,i<n→kb a i=kb k i):n≤X9 (J2 a) (J2 k):=by
  rcases Nat.lt_or_ge (X9 (J2 a) (J2 k)) n with h1|h1
  · exact absurd (h _ h1) ((J2b a k).2 (by omega))
  exact h1
theorem Z9f {ls:List Lf}{k:Nat}(h:J34 ls):
    chk (rs (ofT ls)) k (bsd (ofT ls) k 0) (J2e (J00 (ofT ls) k 0)).2.2 (J2e (J00 (ofT ls) k 0)).1 (J2e (J00 (ofT ls) k 0)).2.1=
      ((Q1x (J00 (ofT ls) k 0) (J2l (ofT ls) k 0).length k).1,(Q1x (J00 (ofT ls) k 0) (J2l (ofT ls) k 0).length k).2.1,0):=by
  obtain⟨h1,h2⟩:=J78 h;rw[Q0m h];have hb:=Q4v (k:=k) 256 0 rfl h2 (Q2h _);have hl:=J66 (k:=k) 256 0 rfl h2 (Q2h (J52 ls));unfold chk;rw[if_neg,if_pos hb]
  · rcases J65 (can 256 (J52 ls) 0) k 0 with e|⟨a,x,e⟩
    · rw[e];rfl
    rw[e];show(if true=true∧a=k then(x,true,0) else(0,false,0))=((if a=k then(x,true,_) else(0,false,_):Nat×Bool×Nat).1,(if a=k then(x,true,_) else(0,false,_):Nat×Bool×Nat).2.1,0)
    by_cases hk:a=k
    · rw[if_pos ⟨rfl,hk⟩,if_pos hk]
    rw[if_neg (fun h=>hk h.2),if_neg hk]
  rintro(h3|⟨h3,h4⟩)
  · omega
  rcases J65 (can 256 (J52 ls) 0) k 0 with e|⟨a,x,e⟩
  · rw[e] at h3;cases h3
  have h5:=(J6r 256 0 rfl h2 (Q2h _) e).2;rw[e] at h4;have h6:_≤X9 (J2 a) (J2 k):=Y6e (n:=(bsd (can 256 (J52 ls) 0) k 0).length) (by omega) fun i hi=>h5 i (Ah _) (by omega);have h4:X9 (J2 a) (J2 k)<_:=h4;omega
attribute [local irreducible] hs4 sN sE sL lb
end

section
attribute [local irreducible] wpList Z9 wpX
attribute [local irreducible] hs4 sE sL sN

end

section
set_option maxHeartbeats 3000000
attribute [local irreducible] wpList Z9 wpX
attribute [local irreducible] hs4 sE sL sN

theorem V8h {sv:AB}(hsv:sv.oneCell' =true)(th:Bool)(a x:Nat)(w:AA):
  Az Tryz.prog 108 #[.agg (pfc sv th a x)] w fun e w' => ∃v,e=.returned v∧SH [] w w' [.o v (tE th a x)]:=by
 have hS:=SH.nil [] w
 go_enter Tryz.func108,Tryz.ntmps108
 go_upto_region 0 with fail;refine RL hS ?_;clear hS;refine MN (z:=pfc sv th a x) (t:=42) ?_;intro U0;refine MV ?_;refine MZ fun W hS=> ?_;rcases th with _|_
 ·
  go_upto_region 1 with fail;refine RL hS ?_;clear hS;refine MV ?_;refine MG 0 ?_ (v:=.bool false) (hj:=Z05);refine Wt ?_;refine MZ fun W hS=> ?_;go_upto_region 2 with fail;refine RL hS ?_;clear hS;refine MO (m:=[2]) (n:=1) (z:= #[.int .u8 2]) ?_;intro G;refine MV ?_;refine MZ fun W hS=> ?_;go_wp2;exact BC (v:=G) (by simp only[results,Tryz.results108];go_simp) rfl ⟨_,rfl,hS.pick [0]⟩
 go_upto_region 1 with fail;refine RL hS ?_;clear hS;refine MV ?_;refine MG 0 ?_ (v:=.bool true) (hj:=Z05);refine Wf ?_;refine MZ fun W hS=> ?_;go_upto_region 3 with fail;refine RTh (.q 1 (.q 2 (.q 3 (.q 5 (.q 6 (.q 7 (.e 0 (.e 4 (.e 8 (.q 9 .z)))))))))) hS ?_;clear hS;refine TV ?_;refine TV ?_;refine TW ?_ (v:=.slice (some ⟨U0,2,none⟩) 32 32);refine TV ?_;refine TV ?_;refine TW ?_ (v:=.slice (some ⟨U0,34,none⟩) 32 32);refine TE (fun _ h=>h) ?_;refine MO (m:=[0]) (n:=1) (z:= #[.int .u8 0]) ?_;intro J;refine Y6 [1] [0] ?_;refine TE (fun _ h=>h.pick [1]) ?_;refine MA 0 (xs:=[0]) (ys:=(lb 32 a)) (fun W hS=>(Q7 (V:=a) (n:=32) (off:=2) (c:=32) (hS.blk (i:=1) rfl) Y1r (by decide) (by decide))) (by first|omega|(simp only[Ai,BS,BT,AW,List.length_reverse,AV,Al,J7,dbl];omega)) ?_;intro M;refine Y6 [1] [0] ?_;refine TE (fun _ h=>h.pick [1]) ?_;refine MA 0 (xs:=([0]++(lb 32 a))) (ys:=(lb 32 x)) (fun W hS=>(Q7 (V:=x) (n:=32) (off:=34) (c:=32) (hS.blk (i:=1) rfl) V8g (by decide) (by decide))) (by first|omega|(simp only[Ai,BS,BT,AW,List.length_reverse,AV,Al,J7,dbl];omega)) ?_;intro D;refine Y6 [0,1] [1] ?_;refine TV ?_;refine TZ (fun _ h=>h) fun W hS=> ?_;go_wp2;exact BC (v:=D) (by simp only[results,Tryz.results108];go_simp) rfl ⟨_,rfl,hS.pick [0]⟩
theorem Z2k (d:Int)(b s o:Nat)(hb:b=0∨b=1)(w:AA):
  Az Tryz.prog 109 #[.int .i64 d,.int .i64 (b:Int),.agg (J0 .u8 32 (J2 s)),.agg (J0 .u8 32 (J2 o))] w fun e w' => ∃v,e=.returned v∧SH [] w w' [.o v (tN d b s o)]:=by
 have hS:=SH.nil [] w
 go_enter Tryz.func109,Tryz.ntmps109
 go_upto_region 0 with fail;refine RL hS ?_;clear hS;refine MN (z:=J0 .u8 32 (J2 s)) (t:=23) ?_;intro G;refine MN (z:=J0 .u8 32 (J2 o)) (t:=23) ?_;intro D;refine MV ?_;refine MZ fun W hS=> ?_;rcases hb with rfl|rfl
 ·
  go_upto_region 1 with fail;refine RL hS ?_;clear hS;refine MV ?_;refine Wf ?_;refine MZ fun W hS=> ?_;go_upto_region 3 with fail;refine RL hS ?_;clear hS;refine MV ?_;refine MW ?_ (v:=.int .i64 (d / 256)) (hv:=by intro W;exact J2c (n:=8) (by decide) rfl rfl rfl);refine MW ?_ (v:=.int .u8 ((UInt8.ofNat (d / 256 % 256).toNat).toNat:Int)) (hv:=by intro W;rw[←Y1s d];exact J3a rfl rfl);refine MV ?_;refine MW ?_ (v:=.int .u8 ((UInt8.ofNat (d % 256).toNat).toNat:Int)) (hv:=by intro W;rw[←Y1t d];exact J3a rfl rfl);refine MO (m:=[1,UInt8.ofNat (d / 256 % 256).toNat,UInt8.ofNat (d % 256).toNat]) (n:=3) (z:= #[.int .u8 1,.int .u8 ((UInt8.ofNat (d / 256 % 256).toNat).toNat:Int),.int .u8 ((UInt8.ofNat (d % 256).toNat).toNat:Int)]) ?_;intro T;refine MV ?_;refine MZ fun W hS=> ?_;go_upto_region 4 with fail;refine RTp [1,2] (.q 0 (.q 1 (.q 3 (.e 2 (.e 4 (.q 5 .z)))))) hS ?_;clear hS;refine TV ?_;refine TW ?_ (v:=.slice (some ⟨G,0,none⟩) 32 32);refine TW ?_ (v:=.slice (some ⟨D,0,none⟩) 32 32);refine TE (fun _ h=>h.pick [1,2]) ?_;refine MA 0 (xs:=[1,UInt8.ofNat (d / 256 % 256).toNat,UInt8.ofNat (d % 256).toNat]) (ys:=(lb 32 s)) (fun W hS=>(Q7 (V:=s) (n:=32) (off:=0) (c:=32) (hS.blk (i:=2) rfl) ap0 (by decide) (by decide))) (by first|omega|(simp only[Ai,BS,BT,AW,List.length_reverse,AV,Al,J7,dbl];omega)) ?_;intro N;refine Y6 [1,2] [0,1] ?_;refine TE (fun _ h=>h.pick [1,2]) ?_;refine MA 0 (xs:=([1,UInt8.ofNat (d / 256 % 256).toNat,UInt8.ofNat (d % 256).toNat]++(lb 32 s))) (ys:=(lb 32 o)) (fun W hS=>(Q7 (V:=o) (n:=32) (off:=0) (c:=32) (hS.blk (i:=1) rfl) ap0 (by decide) (by decide))) (by first|omega|(simp only[Ai,BS,BT,AW,List.length_reverse,AV,Al,J7,dbl];omega)) ?_;intro J;refine Y6 [0,1,2] [1,2] ?_;refine TV ?_;refine TZ (fun _ h=>h) fun W hS=> ?_;go_wp2;exact BC (v:=J) (by simp only[results,Tryz.results109];go_simp) rfl ⟨_,rfl,hS.pick [0]⟩
 go_upto_region 1 with fail;refine RL hS ?_;clear hS;refine MV ?_;refine Wt ?_;refine MZ fun W hS=> ?_;go_upto_region 2 with fail;refine RL hS ?_;clear hS;refine ML 0 ?_;refine ML 1 ?_;refine MR 1 ?_;refine MR 0 ?_;refine MZ fun W hS=> ?_;go_upto_region 3 with fail;refine RL hS ?_;clear hS;refine MV ?_;refine MW ?_ (v:=.int .i64 (d / 256)) (hv:=by intro W;exact J2c (n:=8) (by decide) rfl rfl rfl);refine MW ?_ (v:=.int .u8 ((UInt8.ofNat (d / 256 % 256).toNat).toNat:Int)) (hv:=by intro W;rw[←Y1s d];exact J3a rfl rfl);refine MV ?_;refine MW ?_ (v:=.int .u8 ((UInt8.ofNat (d % 256).toNat).toNat:Int)) (hv:=by intro W;rw[←Y1t d];exact J3a rfl rfl);refine MO (m:=[1,UInt8.ofNat (d / 256 % 256).toNat,UInt8.ofNat (d % 256).toNat]) (n:=3) (z:= #[.int .u8 1,.int .u8 ((UInt8.ofNat (d / 256 % 256).toNat).toNat:Int),.int .u8 ((UInt8.ofNat (d % 256).toNat).toNat:Int)]) ?_;intro S;refine MV ?_;refine MZ fun W hS=> ?_;go_upto_region 4 with fail;refine RTp [1,2] (.q 0 (.q 1 (.q 3 (.e 2 (.e 4 (.q 5 .z)))))) hS ?_;clear hS;refine TV ?_;refine TW ?_ (v:=.slice (some ⟨G,0,none⟩) 32 32);refine TW ?_ (v:=.slice (some ⟨D,0,none⟩) 32 32);refine TE (fun _ h=>h.pick [1,2]) ?_;refine MA 0 (xs:=[1,UInt8.ofNat (d / 256 % 256).toNat,UInt8.ofNat (d % 256).toNat]) (ys:=(lb 32 o)) (fun W hS=>(Q7 (V:=o) (n:=32) (off:=0) (c:=32) (hS.blk (i:=2) rfl) ap0 (by decide) (by decide))) (by first|omega|(simp only[Ai,BS,BT,AW,List.length_reverse,AV,Al,J7,dbl];omega)) ?_;intro R;refine Y6 [1,2] [0,1] ?_;refine TE (fun _ h=>h.pick [1,2]) ?_;refine MA 0 (xs:=([1,UInt8.ofNat (d / 256 % 256).toNat,UInt8.ofNat (d % 256).toNat]++(lb 32 o))) (ys:=(lb 32 s)) (fun W hS=>(Q7 (V:=s) (n:=32) (off:=0) (c:=32) (hS.blk (i:=1) rfl) ap0 (by decide) (by decide))) (by first|omega|(simp only[Ai,BS,BT,AW,List.length_reverse,AV,Al,J7,dbl];omega)) ?_;intro M;refine Y6 [0,1,2] [1,2] ?_;refine TV ?_;refine TZ (fun _ h=>h) fun W hS=> ?_;go_wp2;exact BC (v:=M) (by simp only[results,Tryz.results109];go_simp) rfl ⟨_,rfl,hS.pick [0]⟩
def TXR (ts:List (List UInt8))(w w' :AA)(e:Ending):Prop:=∃p:AB×List AB,e=.returned p.1∧SH [] w w' [.r 22 1 p.1 (p.2.map J6x),.p (txF p.2 ts) (fun W=>TXS W p.2 ts)]∧∀y∈[As.r 22 1 p.1 (p.2.map J6x),As.p (txF p.2 ts) (fun W=>TXS W p.2 ts)],y.mv=false→∀k∈y.foot,w.heap.size≤k
theorem J97 {k d:Nat}{ss:List Nat}{o:Nat}(h:ss[d]?=some o)(e:List UInt8):tA k (ss.drop (d+1)) (d+1) e++[tT k (ss.drop d) d e]=tA k (ss.drop d) d e:=by
 obtain⟨h1,h2⟩:=List.getElem?_eq_some_iff.1 h;rw[List.drop_eq_getElem_cons h1];rfl
theorem J98 {k d:Nat}{ss:List Nat}{o:Nat}(h:ss[d]?=some o)(e:List UInt8):tT k (ss.drop d) d e=tN (d:Int) (kb k d) (hs4 (tT k (ss.drop (d+1)) (d+1) e)) o:=by
 obtain⟨h1,h2⟩:=List.getElem?_eq_some_iff.1 h;rw[List.drop_eq_getElem_cons h1,h2];rfl
theorem Z5g {q:Prop}{ss:List Nat}{sv:AB}{th:Bool}{k a x:Nat}(hn:ss.length≤1000)(w:AA)(hG:GT q w)(hp:RR 32 w sv (ss.map J0d)):
  Az Tryz.prog 61 #[.agg (J0 .u8 32 (J2 k)),.agg (pfc sv th a x)] w fun e w' =>TXR (tA k ss 0 (tE th a x)) w w' e:=by
 obtain⟨Ap,cp,rfl,τ,θ⟩:=RR.opf hp;have hS:=SH.nil [] w
 go_enter Tryz.func61,Tryz.ntmps61
 go_upto_region 0 with fail;refine RL hS ?_;clear hS;refine MN (z:=J0 .u8 32 (J2 k)) (t:=38) ?_;intro K9;refine MN (z:=pfc (.slice Ap ss.length cp) th a x) (t:=42) ?_;intro μ;refine MV ?_;refine MZ fun W hS=> ?_;go_upto_region 1 with fail;refine RL hS ?_;clear hS;refine ML 0 ?_ (hs:=by rw[J6c];kernel_rfl);refine ME (V:=fun v=>v) (fun W hS=>J1y hS (V8h rfl th a x W) (fun _=>⟨rfl,rfl⟩)) ?_;intro ev;refine MB (z:= #[ev]) (t:=22) (n:=1) (c:=1) ?_ (hr:=fun W hS=>Y0 [ev] rfl rfl (vsc (J6 (hS.osl (i:=0) rfl)).1 vs0) Tryz.underlying155 (by kernel_rfl) (by kernel_rfl) rfl (by decide) (by decide));intro ω;refine MV ?_;refine MZ fun W hS=> ?_;go_upto_region 2 with fail;refine RL hS ?_;clear hS;refine MV ?_;refine MG 2 ?_ (v:=.slice Ap ss.length cp) (hj:=Z04);refine MV ?_;refine MW ?_ (v:=.int .i64 ((ss.length:Int)-1)) (hv:=by intro W;go_simp;(try simp only[AG.wrap_i64]);omega);refine MV ?_;refine MZ fun W hS=> ?_;have hS:=hS.b2r (k:=1) (es:=List.map J6x [ev]) (n:=1) (by rfl) (by intro e he;simp at he;subst he;rfl) rfl (by decide);have hS:=hS.txn;have G:∀k∈txF [] [],w.heap.size≤k:=fun k hk=>by cases hk
 have G:=hS.fresh (j:=2) (u:=ev) (us:=[]) (ts:=[]) rfl rfl G;have hS:=hS.read (i:=2) rfl (hS.osl (i:=2) rfl) J2n;have hS:=hS.txs (i:=0) (j:=2) rfl rfl
 go_wp2_with fail
 go_loopw [5,6] (fun uu ii wr=> ∃(j:Nat)(us:List AB)(sl:AB)(iv:Int),(j≤ss.length)∧(∀k_∈txF us (tA k (List.drop j ss) j (tE th a x)),w.heap.size≤k_)∧(sl=uu)∧(iv=(j:Int)-1)∧(ii=.int .i64 iv)∧SH [] w wr [.p (txF us (tA k (List.drop j ss) j (tE th a x))) (fun W=>TXS W us (tA k (List.drop j ss) j (tE th a x))),.r 22 1 sl (List.map J6x us),.b K9 (J0 .u8 32 (J2 k)) 38,.b μ (pfc (.slice Ap ss.length cp) th a x) 42])
  (fun uu ii _=>((intOf ii)+1).toNat)
 case atStart=>exact⟨ss.length,[ev],_,_,AJ _,by rw[List.drop_length];exact G,rfl,rfl,rfl,(by rw[List.drop_length];exact(hS.pick [0,2,5,4]))⟩
 clear hS
 case round=>
  obtain⟨j,us,sl,iv,hj,G,rfl,U,rfl,hS⟩:=hrel;rcases j with _|d
  ·
   obtain rfl:iv= -1:=by omega
   clear U;rw[List.drop_zero] at hS G;go_upto_region 3 with fail;refine RL hS ?_;clear hS;refine MW ?_ (v:=.int .i64 (-1));refine Wf ?_;refine MZ fun W hS=> ?_;go_wp2;exact BC (v:=sl) (by simp only[results,Tryz.results61];go_simp) rfl ⟨(_,us),rfl,hS.pick [1,0],V3h G⟩
  obtain rfl:iv=(d:Int):=by omega
  clear U;obtain⟨u,uh,ψ⟩:=Q4s (hS.pp (i:=0) rfl) (J1e k (tE th a x) (List.drop (d+1) ss) (d+1));obtain⟨A1,c1,γ,_,Y⟩:=RR.opf (hS.row (i:=1) rfl).rr;subst γ;obtain⟨g1,o1,T,_⟩:=Y.out _ u uh;have S:=Lib.hid T;clear T Y;have R:us.length=(List.drop (d+1) ss).length+1:=by rw[(hS.pp (i:=0) rfl).1,J8c]
  obtain⟨nL,M⟩:∃nL,(List.drop (d+1) ss).length=nL:=⟨_,rfl⟩
  have σ:nL≤ss.length:=by rw[←M,AW];omega
  rw[M] at uh R;have ρ:us.length≤1001:=by omega
  have φ:(tT k (List.drop (d+1) ss) (d+1) (tE th a x)).length≤67:=Q4u k (Q4t ..) _ _;have X:=Lib.hid R;clear R;have α:d<ss.length:=by omega
  obtain⟨o,oh⟩:∃o,ss[d]?=some o:=⟨_,Af (show d<ss.length by omega)⟩
  obtain⟨gp,op,Z,ξ⟩:=θ.out d o oh;have η:=Lib.hid Z;clear Z;go_upto_region 3 with fail;refine RL hS ?_;clear hS;refine MV ?_;refine Wt ?_;refine MZ fun W hS=> ?_;go_upto_region 5 with fail;refine RTp [0,2,3] (.q 0 (.q 1 (.q 2 (.q 3 (.q 5 (.q 6 (.q 7 (.q 8 (.q 9 (.q 13 (.q 14 (.q 15 (.q 16 (.q 17 (.b 4 (.e 10 (.e 11 (.e 12 (.e 18 (.e 19 (.e 20 (.q 21 .z))))))) 10 (.b 4 (.e 11 (.e 12 (.e 18 (.e 19 (.e 20 (.q 21 .z)))))) 11 (.e 4 (.e 12 (.e 18 (.e 19 (.e 20 (.q 21 .z)))))))))))))))))))))) hS ?_;clear hS;refine TV ?_;refine TV ?_;refine TL 1 ?_;(iterate 3 refine TV ?_);refine TW ?_ (v:=.int .i64 (us.length:Int)) (hv:=by intro W;exact J8b rfl rfl Tryz.underlying155);refine TW ?_ (v:=.int .i64 (nL:Int)) (hv:=by intro W;have R:=X.out;go_simp;(try simp only[AG.wrap_i64]);omega);refine TW ?_ (v:=.pointer (some ⟨g1,o1+nL*1,none⟩)) (hv:=fun _=>J0m S.out (show nL<us.length by have h_:=X.out;omega) rfl rfl rfl Tryz.underlying155 (by kernel_rfl));refine TV ?_;refine TG 2 ?_ (v:=.slice Ap ss.length cp) (hj:=Z04);refine TV ?_;refine TW ?_ (v:=.pointer (some ⟨gp,op+d*32,none⟩)) (hv:=fun _=>J0m η.out α rfl rfl rfl Tryz.underlying37 (by kernel_rfl));refine TF (v:=.agg (J0 .u8 32 (J2 o))) rfl (fun W hS=>V4 rfl rfl (fun i_ v hv=>J19 (ξ i_ v (by simpa using hv)) hS.ext) (by kernel_rfl) (by rw[J1];kernel_rfl)) ?_;refine TB (fun _ h=>h.pick [0,2,3]) ?_ ?_
  ·
   refine MC (v:=.int .i64 ((kb k d:Nat):Int)) (fun W hS=>J5q k d (by omega) W) ?_;refine Y6 [0,2,3] [0,1,2] ?_;refine TE (fun _ h=>h.pick [0,2,3]) ?_;refine MF (v:=u) (fun W hS=>Q6 rfl rfl ((RR.cellat (hS.row (i:=1) rfl).rr (by rw[BO,uh];rfl) S.out) 0 _ rfl) (by kernel_rfl)) ?_;refine Y6 [0,2,3] [0,1,2] ?_;refine TE (fun _ h=>h.pick [0,2,3]) ?_;refine MB (z:= #[u]) (t:=22) (n:=1) (c:=1) ?_ (hr:=fun W hS=>Y0 [u] rfl rfl (vsc (J6 ((hS.pp (i:=0) rfl).2 nL u _ uh (by rw[←M];exact J1e _ _ _ _))).1 vs0) Tryz.underlying155 (by kernel_rfl) (by kernel_rfl) rfl (by decide) (by decide));intro β;refine Y6 [0,1,3,4] [1,2,3] ?_;refine TE (fun _ h=>h.pick [0,1,3,4]) ?_;obtain⟨U1,D⟩:=exh (hs4 ((tT k (List.drop (d+1) ss) (d+1) (tE th a x))));refine MC (v:=.agg (J0 .u8 32 (J2 U1))) (fun W hS=>J2x D.out [tT k (List.drop (d+1) ss) (d+1) (tE th a x)] (some ⟨β,0,none⟩) 1 (by simp only[An,List.flatten_nil,Aj,BM,Ak,BK]) (by first|omega|(simp only[Ai,AV,Al,J7,dbl];omega)) (by simp) W (J0c (hS.blk (i:=0) rfl) (pvc ((hS.pp (i:=1) rfl).2 nL u _ uh (by rw[←M];exact J1e _ _ _ _)) pv0)) (J0h hG.1 hS.ext)) ?_;refine Y6 [0,1,3,4] [0,1,2,3] ?_;refine TE (fun _ h=>h.pick [0,1,3,4]) ?_;refine ME (V:=fun v=>v) (fun W hS=>J1y hS (Z2k (d:Int) (kb k d) U1 o (Z06 k d) W) (fun _=>⟨rfl,rfl⟩)) ?_;intro nv;refine K8 (fun W hS=>(J6 (hS.osl (i:=0) rfl)).2) ?_;intro J;refine Y6 [0,1,2,4,5] [1,2,3,4] ?_;refine TE (fun _ h=>h.pick [0,1,2,4,5]) ?_;refine MB (z:= #[nv]) (t:=22) (n:=1) (c:=1) ?_ (hr:=fun W hS=>Y0 [nv] rfl rfl (vsc (J6 (hS.osl (i:=0) rfl)).1 vs0) Tryz.underlying155 (by kernel_rfl) (by kernel_rfl) rfl (by decide) (by decide));intro Γ;refine Y6 [0,1,2,3,5,6] [1,2,3,4,5] ?_;refine TE (fun _ h=>h.pick [0,1,2,3,5,6]) ?_;refine MAr 4 0 (tS:=155) (bytes:=24) (es:=(List.map J6x us)) (by first|omega|(simp only[Ai,BS,BT,AW,List.length_reverse,AV,Al,J7,dbl];omega)) (e:=([nv]:List AB)) (h1:=Z28 J) ?_;intro δ;refine Y6 [0,1,2,3,4,5,6] [0,1,2,3,5,6] ?_;refine TV ?_;refine TZ (fun _ h=>h) fun W hS=> ?_;go_upto_region 4 with fail;refine RL hS ?_;clear hS;refine MV ?_;refine MW ?_ (v:=.int .i64 ((d:Int)-1)) (hv:=by intro W;go_simp;(try simp only[AG.wrap_i64]);omega);refine MV ?_;refine MZ fun W hS=> ?_;have N:=hS.fresh (j:=1) rfl (hS.pp (i:=3) rfl).1 G;have hS:=hS.read (i:=1) rfl (hS.osl (i:=1) rfl) J2n;have hS:=hS.txs (i:=3) (j:=1) rfl rfl;go_wp2;go_roundw
   case rel=>exact⟨d,(us++[nv]),δ,((d:Int)-1),by omega,by rw[←J97 oh,J98 oh,←D.out];exact N,rfl,rfl,rfl,(by rw[←J97 oh,J98 oh,←D.out,BU];exact(hS.pick [0,5,6,7]))⟩
   case measure=>(simp[intOf];try omega)
  refine MF (v:=u) (fun W hS=>Q6 rfl rfl ((RR.cellat (hS.row (i:=1) rfl).rr (by rw[BO,uh];rfl) S.out) 0 _ rfl) (by kernel_rfl)) ?_;refine Y6 [0,2,3] [0,1,2] ?_;refine TB (fun _ h=>h.pick [0,2,3]) ?_ ?_
  ·
   refine MC (v:=.int .i64 ((kb k d:Nat):Int)) (fun W hS=>J5q k d (by omega) W) ?_;refine Y6 [0,2,3] [0,1,2] ?_;refine TE (fun _ h=>h.pick [0,2,3]) ?_;refine MB (z:= #[u]) (t:=22) (n:=1) (c:=1) ?_ (hr:=fun W hS=>Y0 [u] rfl rfl (vsc (J6 ((hS.pp (i:=0) rfl).2 nL u _ uh (by rw[←M];exact J1e _ _ _ _))).1 vs0) Tryz.underlying155 (by kernel_rfl) (by kernel_rfl) rfl (by decide) (by decide));intro κ;refine Y6 [0,1,3,4] [1,2,3] ?_;refine TE (fun _ h=>h.pick [0,1,3,4]) ?_;obtain⟨U1,D⟩:=exh (hs4 ((tT k (List.drop (d+1) ss) (d+1) (tE th a x))));refine MC (v:=.agg (J0 .u8 32 (J2 U1))) (fun W hS=>J2x D.out [tT k (List.drop (d+1) ss) (d+1) (tE th a x)] (some ⟨κ,0,none⟩) 1 (by simp only[An,List.flatten_nil,Aj,BM,Ak,BK]) (by first|omega|(simp only[Ai,AV,Al,J7,dbl];omega)) (by simp) W (J0c (hS.blk (i:=0) rfl) (pvc ((hS.pp (i:=1) rfl).2 nL u _ uh (by rw[←M];exact J1e _ _ _ _)) pv0)) (J0h hG.1 hS.ext)) ?_;refine Y6 [0,1,3,4] [0,1,2,3] ?_;refine TE (fun _ h=>h.pick [0,1,3,4]) ?_;refine ME (V:=fun v=>v) (fun W hS=>J1y hS (Z2k (d:Int) (kb k d) U1 o (Z06 k d) W) (fun _=>⟨rfl,rfl⟩)) ?_;intro nv;refine K8 (fun W hS=>(J6 (hS.osl (i:=0) rfl)).2) ?_;intro J;refine Y6 [0,1,2,4,5] [1,2,3,4] ?_;refine TE (fun _ h=>h.pick [0,1,2,4,5]) ?_;refine MB (z:= #[nv]) (t:=22) (n:=1) (c:=1) ?_ (hr:=fun W hS=>Y0 [nv] rfl rfl (vsc (J6 (hS.osl (i:=0) rfl)).1 vs0) Tryz.underlying155 (by kernel_rfl) (by kernel_rfl) rfl (by decide) (by decide));intro χ;refine Y6 [0,1,2,3,5,6] [1,2,3,4,5] ?_;refine TE (fun _ h=>h.pick [0,1,2,3,5,6]) ?_;refine MAr 4 0 (tS:=155) (bytes:=24) (es:=(List.map J6x us)) (by first|omega|(simp only[Ai,BS,BT,AW,List.length_reverse,AV,Al,J7,dbl];omega)) (e:=([nv]:List AB)) (h1:=Z28 J) ?_;intro ε;refine Y6 [0,1,2,3,4,5,6] [0,1,2,3,5,6] ?_;refine TV ?_;refine TZ (fun _ h=>h) fun W hS=> ?_;go_upto_region 4 with fail;refine RL hS ?_;clear hS;refine MV ?_;refine MW ?_ (v:=.int .i64 ((d:Int)-1)) (hv:=by intro W;go_simp;(try simp only[AG.wrap_i64]);omega);refine MV ?_;refine MZ fun W hS=> ?_;have N:=hS.fresh (j:=1) rfl (hS.pp (i:=3) rfl).1 G;have hS:=hS.read (i:=1) rfl (hS.osl (i:=1) rfl) J2n;have hS:=hS.txs (i:=3) (j:=1) rfl rfl;go_wp2;go_roundw
   case rel=>exact⟨d,(us++[nv]),ε,((d:Int)-1),by omega,by rw[←J97 oh,J98 oh,←D.out];exact N,rfl,rfl,rfl,(by rw[←J97 oh,J98 oh,←D.out,BU];exact(hS.pick [0,5,6,7]))⟩
   case measure=>(simp[intOf];try omega)
  refine MB (z:= #[u]) (t:=22) (n:=1) (c:=1) ?_ (hr:=fun W hS=>Y0 [u] rfl rfl (vsc (J6 ((hS.pp (i:=0) rfl).2 nL u _ uh (by rw[←M];exact J1e _ _ _ _))).1 vs0) Tryz.underlying155 (by kernel_rfl) (by kernel_rfl) rfl (by decide) (by decide));intro ζ;refine Y6 [0,1,3,4] [1,2,3] ?_;refine TE (fun _ h=>h.pick [0,1,3,4]) ?_;refine MC (v:=.int .i64 ((kb k d:Nat):Int)) (fun W hS=>J5q k d (by omega) W) ?_;refine Y6 [0,1,3,4] [0,1,2,3] ?_;refine TE (fun _ h=>h.pick [0,1,3,4]) ?_;obtain⟨U1,D⟩:=exh (hs4 ((tT k (List.drop (d+1) ss) (d+1) (tE th a x))));refine MC (v:=.agg (J0 .u8 32 (J2 U1))) (fun W hS=>J2x D.out [tT k (List.drop (d+1) ss) (d+1) (tE th a x)] (some ⟨ζ,0,none⟩) 1 (by simp only[An,List.flatten_nil,Aj,BM,Ak,BK]) (by first|omega|(simp only[Ai,AV,Al,J7,dbl];omega)) (by simp) W (J0c (hS.blk (i:=0) rfl) (pvc ((hS.pp (i:=1) rfl).2 nL u _ uh (by rw[←M];exact J1e _ _ _ _)) pv0)) (J0h hG.1 hS.ext)) ?_;refine Y6 [0,1,3,4] [0,1,2,3] ?_;refine TE (fun _ h=>h.pick [0,1,3,4]) ?_;refine ME (V:=fun v=>v) (fun W hS=>J1y hS (Z2k (d:Int) (kb k d) U1 o (Z06 k d) W) (fun _=>⟨rfl,rfl⟩)) ?_;intro nv;refine K8 (fun W hS=>(J6 (hS.osl (i:=0) rfl)).2) ?_;intro J;refine Y6 [0,1,2,4,5] [1,2,3,4] ?_;refine TE (fun _ h=>h.pick [0,1,2,4,5]) ?_;refine MB (z:= #[nv]) (t:=22) (n:=1) (c:=1) ?_ (hr:=fun W hS=>Y0 [nv] rfl rfl (vsc (J6 (hS.osl (i:=0) rfl)).1 vs0) Tryz.underlying155 (by kernel_rfl) (by kernel_rfl) rfl (by decide) (by decide));intro Δ;refine Y6 [0,1,2,3,5,6] [1,2,3,4,5] ?_;refine TE (fun _ h=>h.pick [0,1,2,3,5,6]) ?_;refine MAr 4 0 (tS:=155) (bytes:=24) (es:=(List.map J6x us)) (by first|omega|(simp only[Ai,BS,BT,AW,List.length_reverse,AV,Al,J7,dbl];omega)) (e:=([nv]:List AB)) (h1:=Z28 J) ?_;intro ν;refine Y6 [0,1,2,3,4,5,6] [0,1,2,3,5,6] ?_;refine TV ?_;refine TZ (fun _ h=>h) fun W hS=> ?_;go_upto_region 4 with fail;refine RL hS ?_;clear hS;refine MV ?_;refine MW ?_ (v:=.int .i64 ((d:Int)-1)) (hv:=by intro W;go_simp;(try simp only[AG.wrap_i64]);omega);refine MV ?_;refine MZ fun W hS=> ?_;have N:=hS.fresh (j:=1) rfl (hS.pp (i:=3) rfl).1 G;have hS:=hS.read (i:=1) rfl (hS.osl (i:=1) rfl) J2n;have hS:=hS.txs (i:=3) (j:=1) rfl rfl;go_wp2;go_roundw
  case rel=>exact⟨d,(us++[nv]),ν,((d:Int)-1),by omega,by rw[←J97 oh,J98 oh,←D.out];exact N,rfl,rfl,rfl,(by rw[←J97 oh,J98 oh,←D.out,BU];exact(hS.pick [0,5,6,7]))⟩
  case measure=>(simp[intOf];try omega)
end

section
set_option maxHeartbeats 3000000
attribute [local irreducible] wpList Z9 wpX
theorem V3p (n c:Nat)(th:Bool):256<n∨(n≤256∧th=false)∨(n≤256∧th=true∧c<n)∨(n≤256∧th=true∧n≤c):=by
 cases th
 ·
  by_cases h:256<n
  ·
   exact .inl h
  exact .inr (.inl ⟨by omega,rfl⟩)
 by_cases h:256<n
 ·
  exact .inl h
 by_cases h2:c<n
 ·
  exact .inr (.inr (.inl ⟨by omega,rfl,h2⟩))
 exact .inr (.inr (.inr ⟨by omega,rfl,by omega⟩))
attribute [local irreducible] hs4 sE sL sN lb
end
end Go.Proofs.YtpljgkofbfeelaaGreatDoor

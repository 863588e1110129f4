/- Contracts and plain laws for directHolds_holds. Conditions: the tables hold their numbers. -/
import Derived.Test.YtpljgkofbfeelaaGreatDoorJ24
open Go renaming World->AA,Value->AB,bodyPost_ret->BC,Calls->Az
open _root_.List renaming length_append->Ai,mem_singleton->Ae,getElem?_eq_getElem->Af,length_map->BS,flatten_cons->An,mem_append->Ar,map_append->BU
open Go.RowKit
set_option maxRecDepth 100000
set_option linter.unusedSimpArgs false
set_option linter.unusedVariables false
namespace Go.Proofs.YtpljgkofbfeelaaGreatDoor
section
set_option maxHeartbeats 3000000
attribute [local irreducible] wpList Z9 wpX
open S8 (Kn GA kP)
theorem DOk.put_l {D:DD}(h:DOk D){q:J5i}(hq:q∈D.puts.flatten++D.waits):q.1.length≤32∧q.2.length≤64:=⟨(h.lab q.1 (DD.mem_labs.2 ⟨q,hq,rfl⟩)).2.1,h.val q hq⟩
theorem LOk.wl {D:DD}{y:LD}(h:LOk D y)(hK:DOk D):∀q∈y.wps,q.l.length≤32∧q.x.length≤64:=fun q hq=>hK.put_l (q:=pvP q) (Ar.2 (.inr (by rw[←h.w];exact List.mem_map.2 ⟨q,hq,rfl⟩)))
theorem LOk.pl {D:DD}{y:LD}(h:LOk D y)(hK:DOk D){r:AB×List Pv}(hr:r∈y.pvs):∀q∈r.2,q.l.length≤32∧q.x.length≤64:=fun q hq=>hK.put_l (q:=pvP q) (Ar.2 (.inl (List.mem_flatten.2 ⟨r.2.map pvP,by rw[←h.p];exact List.mem_map.2 ⟨r,hr,rfl⟩,List.mem_map.2 ⟨q,hq,rfl⟩⟩)))
theorem LOk.wn {D:DD}{y:LD}(h:LOk D y)(hK:DOk D):y.wps.length≤16:=by have h1:=congrArg List.length h.w;rw[BS] at h1;have:=hK.wl;have:=hK.p2;omega
theorem LOk.pn {D:DD}{y:LD}(h:LOk D y)(hK:DOk D){r:AB×List Pv}(hr:r∈y.pvs):r.2.length≤16:=by
 have h1:=hK.pl (r.2.map pvP) (by rw[←h.p];exact List.mem_map.2 ⟨r,hr,rfl⟩);rw[BS] at h1;have:=hK.p2;omega
def mkC (D:DD)(e:Nat):List AB:=fcs [.c (.int .i64 (e:Int)),.a 32 (rs (D.tree e)),.a 32 (D.link e)]
attribute [local irreducible] eI be8 hs4 lb J33 J25 K3 xt hm pbs DD.tree DD.link rs S8.kP S8.kN S8.kD ofT

theorem Q2w:zer Tryz.prog 25=some (some (Q2 [.a 32 0,.a 32 0])):=by kernel_rfl
theorem Q2x:plc Tryz.prog 25=some [(0,32),(32,32)]:=by kernel_rfl
theorem J3o:zer Tryz.prog 75=some (some (Q2 [.c (.int .i64 0),.c (.int .i64 0),.c (.int .i64 0)])):=by kernel_rfl
theorem J3p:plc Tryz.prog 75=some [(0,1),(1,1),(2,1)]:=by kernel_rfl
theorem Q62 {D:DD}{y:LD}(w:AA)(hX:GX w)(hD:DK D y w)(hL:LOk D y)(hK:DOk D):
  Az Tryz.prog 15 #[.pointer (some ⟨y.p,0,none⟩)] w fun e w' =>V5 (.agg (J0 .u8 32 (J2 (kP D.vk)))) w w' e:=by
 have hS:=SH.nil [] w
 go_enter Tryz.func15,Tryz.ntmps15
 go_upto_region 0 with fail;refine RL hS ?_;clear hS;refine MN (z:=J0 .u8 32 (J2 0)) (t:=23) ?_;intro K9;refine MZ fun W hS=> ?_;go_upto_region 3 with fail;refine RL hS ?_;clear hS;(iterate 4 refine MV ?_);refine MF (v:=.agg (J0 .u8 32 (J2 D.vk))) (fun W hS=>V4 rfl rfl (fun i v hv=>by rw[J3 (J4 hD.d hS.ext)];exact(K0 (off:=1) 1) i v hv) (by kernel_rfl) (by first|kernel_rfl|(rw[J1];kernel_rfl))) ?_;obtain⟨U1,M⟩:=exh (S8.kN D.vk);obtain⟨U2,G⟩:=exh (S8.kD D.vk);obtain⟨U3,J⟩:=exh (kP D.vk);refine MC (v:=.agg (S8.s3 U1 U2 U3)) (fun W hS=>S8.spreadN_c (kn:=kn0) trivial trivial M.out G.out J.out W (hX.ext hS.ext).2) ?_;refine MW ?_ (v:=.agg (J0 .u8 32 (J2 U3))) (hv:=by intro W;kernel_rfl);refine MR 0 ?_;refine MZ fun W hS=> ?_;have e_:=M.out;subst e_;have e_:=G.out;subst e_;have e_:=J.out;subst e_;go_wp2;exact BC (Z6 rfl rfl (hS.blk (i:=0) rfl) (by kernel_rfl) (by rw[J1];kernel_rfl)) rfl ⟨rfl,hS.ext⟩
theorem DK.ext {D:DD}{y:LD}{w W:AA}(h:DK D y w)(q:Ext w W):DK D y W:=fun x hx=>As.keep0 (J1t q) (h x hx)
end

section
set_option maxHeartbeats 3000000
attribute [local irreducible] wpList Z9 wpX
open S8 (Kn GA kP)
theorem DK.tree {D:DD}{y:LD}{w:AA}(h:DK D y w){e:Nat}(he:e<D.puts.length):∃u,y.tus[e]?=some u∧TA w (D.tree e) u:=by
 have h1:=h.ta;have hl:e<y.tus.length:=by rw[←h1.1,DD.trees_len];exact he
 exact⟨_,Af hl,h1.2 e _ _ (DD.trees_at he) (Af hl)⟩
def enP (e:En):Nat×Nat×List UInt8:=(e.ep,e.ver,e.x)
def ebs (es:List En):List (AB×List UInt8):=es.map fun e=>(e.u,e.x)
attribute [local irreducible] eI be8 hs4 lb J33 J25 K3 xt hm pbs DD.tree DD.link rs S8.kP S8.kN S8.kD ofT ebs

theorem LOk.xl {D:DD}{y:LD}(h:LOk D y)(hK:DOk D){a:Ac}(ha:a∈y.acs){x:En}(hx:x∈a.es):x.x.length≤64:=by
 have h1:(x.ep,x.ver,x.x)∈(D.made.filter fun m=>decide (m.l=a.l)).map fun m=>(m.ep,m.ver,m.x):=by rw[←h.e a ha];exact List.mem_map.2 ⟨x,hx,rfl⟩
 obtain⟨m,hm,e⟩:=List.mem_map.1 h1;injection e with e1 e2
 injection e2 with e2 e3
 have h2:=(DD.made_mem (List.mem_filter.1 hm).1).2;rw[←e3];exact hK.val _ (Ar.2 (.inl h2))
theorem LOk.en {D:DD}{y:LD}(h:LOk D y){a:Ac}(ha:a∈y.acs):a.es.length=(D.made.filter fun m=>decide (m.l=a.l)).length:=by
 have:=congrArg List.length (h.e a ha);rwa [BS,BS] at this
theorem Q7f {e:Nat}:∀(ps:List J5i) (ms:List Md),(mdp ms e ps).length=ms.length+ps.length
 |[],ms=>rfl
 |p::ps,ms=>by
  show(mdp (ms++_) e ps).length=_;rw[Q7f ps,Ai];simp;omega
theorem Z47:∀(r:List (List J5i)) (ms:List Md) (e:Nat),(mdS ms e r).length=ms.length+r.flatten.length
 |[],ms,e=>by simp[mdS]
 |q::r,ms,e=>by
  show(mdS (mdp ms e q) (e+1) r).length=_;rw[Z47 r,Q7f,An,Ai];omega
theorem DD.made_len (D:DD):D.made.length=D.puts.flatten.length:=by unfold DD.made;rw[Z47];simp
theorem Z48 {α:Type}{n:Nat}:∀{ls:List (List α)},(∀l∈ls,l.length≤n)→ls.flatten.length≤ls.length*n
 |[],_=>by simp
 |l::ls,h=>by
  rw[An,Ai,List.length_cons,Nat.add_mul,Nat.one_mul];have:=Z48 (ls:=ls) fun l hl=>h l (List.mem_cons_of_mem _ hl);have:=h l (by simp);omega
theorem DOk.made {D:DD}(h:DOk D):D.made.length≤528:=by
 rw[DD.made_len];have h1:=Z48 h.pl;have h2:D.puts.length*D.P≤33*16:=Nat.mul_le_mul (h.len) h.p2;omega
theorem LOk.el {D:DD}{y:LD}(h:LOk D y)(hK:DOk D){a:Ac}(ha:a∈y.acs):a.es.length≤528:=by
 rw[h.en ha];exact Nat.le_trans (List.length_filter_le _ _) hK.made
end

section
set_option maxHeartbeats 3000000
attribute [local irreducible] wpList Z9 wpX
open S8 (Kn GA kP)
theorem DD.links_put (D:DD)(l x:List UInt8):(D.put l x).links=D.links:=by
 unfold DD.links;exact List.map_congr_left fun e _=>DD.link_put D l x e
theorem DD.trees_put (D:DD)(l x:List UInt8):(D.put l x).trees=D.trees:=rfl
def svK (vl:AB)(l:List UInt8)(vx:AB)(x:List UInt8)(W:AA):Prop:=Sl W vl l∧Sl W vx x
abbrev svT (vl:AB)(l:List UInt8)(vx:AB)(x:List UInt8):As:=.p ((sb vl l).toList++(sb vx x).toList) (svK vl l vx x)
theorem Q1o {vl vx:AB}{l x:List UInt8}{w:AA}(h1:Sl w vl l)(h2:Sl w vx x):(svT vl l vx x).holds w:=
 ⟨⟨h1,h2⟩,fun k hk=>(Ar.1 hk).elim (fun h=>Sl.lt h1 k (As.mem_toList h)) (fun h=>Sl.lt h2 k (As.mem_toList h)),fun W' _ e=>⟨J77 h1 fun b hb=>e b (Ar.2 (.inl (by rw[hb];simp))),J77 h2 fun b hb=>e b (Ar.2 (.inr (by rw[hb];simp)))⟩⟩
attribute [local irreducible] ixN pfN erN
def LD.put (y:LD)(acs:List Ac)(wv c1 c2:AB)(l x:List UInt8):LD:={y with acs:=acs,wv:=wv,wps:=y.wps++[⟨c1,c2,l,x⟩],bs:=y.bs++[(c1,l),(c2,x)]}
theorem LOk.put {D:DD}{y:LD}(h:LOk D y){acs:List Ac}{wv c1 c2:AB}{l x:List UInt8}(ha:(acs=y.acs∧l∈D.labs)∨∃b,l∉D.labs∧acs=y.acs++[⟨b,l,ixN D.vk l,pfN D.vk l,.slice none 0 0,[]⟩]):LOk (D.put l x) (y.put acs wv c1 c2 l x) where
 w:=by show List.map pvP (y.wps++[_])=D.waits++[(l,x)];rw[BU,h.w];rfl
 p:=h.p
 a:=by
  rw[DD.labs_put];rcases ha with⟨rfl,hl⟩|⟨b,hl,rfl⟩
  ·
   rw[if_pos hl];exact h.a
  ·
   rw[if_neg hl];show List.map _ (y.acs++[_])=_;rw[BU,h.a];rfl
 n:=fun a hm=>by
  rcases ha with⟨rfl,hl⟩|⟨b,hl,rfl⟩
  ·
   exact h.n a hm
  rcases Ar.1 hm with hm|hm
  ·
   exact h.n a hm
  rw[Ae.1 hm];exact⟨(rfl:ixN D.vk l=ixN D.vk l),(rfl:pfN D.vk l=pfN D.vk l)⟩
 e:=fun a hm=>by
  rcases ha with⟨rfl,hl⟩|⟨b,hl,rfl⟩
  ·
   exact h.e a hm
  rcases Ar.1 hm with hm|hm
  ·
   exact h.e a hm
  rw[Ae.1 hm]
  have e0:(D.made.filter fun m=>decide (m.l=l))=[]:=List.filter_eq_nil_iff.2 fun m G=>by
   have h2:=(DD.made_mem G).2;simp only[decide_eq_true_eq];exact fun e=>hl (DD.mem_labs.2 ⟨(m.l,m.x),Ar.2 (.inl h2),e⟩)
  show[]=List.map _ ((D.put l x).made.filter fun m=>decide (m.l=l));rw[DD.made_put,e0];rfl
 i:=Ar.2 (.inl h.i)
 bw:=fun q hq=>by
  rcases Ar.1 hq with hq|hq
  ·
   exact⟨Ar.2 (.inl (h.bw q hq).1),Ar.2 (.inl (h.bw q hq).2)⟩
  rw[Ae.1 hq];exact⟨Ar.2 (.inr (by simp)),Ar.2 (.inr (by simp))⟩
 bp:=fun r hr q hq=>⟨Ar.2 (.inl (h.bp r hr q hq).1),Ar.2 (.inl (h.bp r hr q hq).2)⟩
 be:=fun a hm q hq=>by
  rcases ha with⟨rfl,hl⟩|⟨b,hl,rfl⟩
  ·
   exact Ar.2 (.inl (h.be a hm q hq))
  rcases Ar.1 hm with hm|hm
  ·
   exact Ar.2 (.inl (h.be a hm q hq))
  rw[Ae.1 hm] at hq;cases hq
structure PutOk (D:DD)(l x:List UInt8):Prop where
 l1:1≤l.length
 l2:l.length≤32
 x2:x.length≤64
 w:D.waits.length<D.P
 e:erN D.vk l=0
 n:l∉D.labs→D.labs.length<D.L
theorem DOk.put {D:DD}(h:DOk D){l x:List UInt8}(hp:PutOk D l x):DOk (D.put l x) where
 id1:=h.id1
 id2:=h.id2
 l1:=h.l1
 l2:=h.l2
 p1:=h.p1
 p2:=h.p2
 e1:=h.e1
 e2:=h.e2
 ep:=h.ep
 zero:=h.zero
 pl:=h.pl
 wl:=by show(D.waits++[_]).length≤D.P;rw[Ai];exact hp.w
 ll:=by
  rw[DD.labs_put]
  split
  ·
   exact h.ll
  ·
   rename_i hl;rw[Ai];exact hp.n hl
 lab:=fun m hm=>by
  rw[DD.labs_put] at hm
  split at hm
  ·
   exact h.lab m hm
  rcases Ar.1 hm with hm|hm
  ·
   exact h.lab m hm
  rw[Ae.1 hm];exact⟨hp.l1,hp.l2,hp.e⟩
 val:=fun q hq=>by
  rcases Ar.1 hq with hq|hq
  ·
   exact h.val q (Ar.2 (.inl hq))
  rcases Ar.1 hq with hq|hq
  ·
   exact h.val q (Ar.2 (.inr hq))
  rw[Ae.1 hq];exact hp.x2
theorem Y5b {acs:List Ac}{l:List UInt8}{b:Nat}(h:mlk (J0j acs) l=some b):mst (J0j acs) l b=J0j acs:=by unfold mst;rw[h]
theorem Y5c {acs:List Ac}{l:List UInt8}{b ix pf:Nat}{v:AB}(h:mlk (J0j acs) l=none):mst (J0j acs) l b=J0j (acs++[⟨b,l,ix,pf,v,[]⟩]):=by unfold mst;rw[h];unfold J0j;rw[BU];rfl
theorem SH.acadd {F:List Nat}{w W:AA}{H:List As}{acs:List Ac}{a:Ac}(h:SH F w W (.b a.b (acF a) 94::acT acs::H)):SH F w W (acT (acs++[a])::H):=by
 have h1:=h.blk (i:=0) rfl;have h2:acK acs W:=(h.at_ (i:=1) rfl).1;have ha:=(h.ap2 (i:=0) (j:=1) rfl rfl (by decide)).1 rfl
 have hk:acK (acs++[a]) W:=by
  refine⟨fun z hz=> ?_,?_⟩
  ·
   rcases Ar.1 hz with hz|hz
   ·
    exact h2.1 z hz
   rw[Ae.1 hz];exact h1
  rw[BU];refine List.nodup_append.2 ⟨h2.2,List.nodup_cons.2 ⟨by simp,.nil⟩,fun k hk j hj e=> ?_⟩;rw[List.map_cons,List.map_nil,Ae] at hj;exact ha a.b (by simp[As.foot]) (by rw[←hj,←e];exact hk)
 refine h.merge rfl rfl rfl (J8y hk) fun k D=> ?_;rw[BU] at D;rcases Ar.1 D with D|D
 ·
  exact .inr D
 exact .inl D
theorem SH.ennil {F:List Nat}{w W:AA}{H:List As}{acs:List Ac}{b ix pf:Nat}{l:List UInt8}(h:SH F w W (enT acs::H)):SH F w W (enT (acs++[⟨b,l,ix,pf,.slice none 0 0,[]⟩])::H):=by
 have h2:enK acs W:=(h.at_ (i:=0) rfl).1
 have hk:enK (acs++[⟨b,l,ix,pf,.slice none 0 0,[]⟩]) W:=by
  refine⟨fun z hz=> ?_,List.pairwise_append.2 ⟨h2.2,List.pairwise_singleton ..,fun a ha c hc k J D=> ?_⟩⟩
  ·
   rcases Ar.1 hz with hz|hz
   ·
    exact h2.1 z hz
   rw[Ae.1 hz];exact Z4b _ _ _
  rw[Ae.1 hc] at D;cases D
 refine h.asM rfl rfl rfl (J8z hk) fun k G=> ?_;obtain⟨z,hz,h3⟩:=List.mem_flatMap.1 G;rcases Ar.1 hz with hz|hz
 ·
  exact List.mem_flatMap.2 ⟨z,hz,h3⟩
 rw[Ae.1 hz] at h3;cases h3
attribute [local irreducible] eI be8 hs4 lb J33 J25 K3 xt hm pbs rs S8.kP S8.kN S8.kD ofT ebs lk0 DD.links DD.trees DD.labs DD.made DD.tree DD.link

theorem V2d {l x:List UInt8}{vl vx:AB}{D:DD}{y:LD}(w:AA)(hX:GX w)(hD:DK D y w)(hL:LOk D y)(hK:DOk D)(hsl:Sl w vl l)(hsx:Sl w vx x)(hla:¬(1≤l.length∧l.length≤32)):
  Az Tryz.prog 11 #[.pointer (some ⟨y.p,0,none⟩),vl,vx] w fun e w' =>V5 (.int .i64 1) w w' e:=by
 have M:=hK.pos;have J:=hK.len;have G:¬(1≤(l.length:Int)∧(l.length:Int)≤32):=by omega
 have hS:=SH.nil [] w
 go_enter Tryz.func11,Tryz.ntmps11
 go_upto_region 1 with fail;refine RL hS ?_;clear hS;refine MV ?_;refine Wf ?_;refine Wf ?_;refine MV ?_;refine MC (v:=.bool false) (fun W hS=>(by have h_:=J3n W (K4 hsl hS.ext);rw[show win _ 32=false from decide_eq_false G] at h_;exact h_)) ?_;(iterate 3 refine Wt ?_);(iterate 3 refine MS ?_);refine Wt ?_;refine Wt ?_;refine MZ fun W hS=> ?_;go_wp2;exact BC (v:=.int .i64 1) (by simp only[results,Tryz.results11];go_simp) rfl ⟨rfl,hS.ext⟩
theorem V2e {l x:List UInt8}{vl vx:AB}{D:DD}{y:LD}(w:AA)(hX:GX w)(hD:DK D y w)(hL:LOk D y)(hK:DOk D)(hsl:Sl w vl l)(hsx:Sl w vx x)(hla:1≤l.length∧l.length≤32)(hx2:64<x.length):
  Az Tryz.prog 11 #[.pointer (some ⟨y.p,0,none⟩),vl,vx] w fun e w' =>V5 (.int .i64 1) w w' e:=by
 have M:=hK.pos;have J:=hK.len;have G:1≤(l.length:Int)∧(l.length:Int)≤32:=by omega
 have hS:=SH.nil [] w
 go_enter Tryz.func11,Tryz.ntmps11
 go_upto_region 1 with fail;refine RL hS ?_;clear hS;refine MV ?_;refine Wf ?_;refine Wf ?_;refine MV ?_;refine MC (v:=.bool true) (fun W hS=>(by have h_:=J3n W (K4 hsl hS.ext);rw[show win _ 32=true from decide_eq_true G] at h_;exact h_)) ?_;(iterate 3 refine Wf ?_);refine MV ?_;refine MF (v:=.int .i64 (x.length:Int)) (fun W hS=>Q8 (K4 hsx hS.ext) rfl rfl) ?_;refine Wto ?_;refine Wt ?_;refine Wt ?_;refine MZ fun W hS=> ?_;go_wp2;exact BC (v:=.int .i64 1) (by simp only[results,Tryz.results11];go_simp) rfl ⟨rfl,hS.ext⟩
theorem V7b {l x:List UInt8}{vl vx:AB}{D:DD}{y:LD}(w:AA)(hX:GX w)(hD:DK D y w)(hL:LOk D y)(hK:DOk D)(hsl:Sl w vl l)(hsx:Sl w vx x)(hla:1≤l.length∧l.length≤32)(hx2:x.length≤64)(hf:D.P≤D.waits.length):
  Az Tryz.prog 11 #[.pointer (some ⟨y.p,0,none⟩),vl,vx] w fun e w' =>V5 (.int .i64 6) w w' e:=by
 have M:=hK.pos;have J:=hK.len;have G:1≤(l.length:Int)∧(l.length:Int)≤32:=by omega
 have hS:=SH.nil [] w
 go_enter Tryz.func11,Tryz.ntmps11
 go_upto_region 1 with fail;refine RL hS ?_;clear hS;refine MV ?_;refine Wf ?_;refine Wf ?_;refine MV ?_;refine MC (v:=.bool true) (fun W hS=>(by have h_:=J3n W (K4 hsl hS.ext);rw[show win _ 32=true from decide_eq_true G] at h_;exact h_)) ?_;(iterate 3 refine Wf ?_);refine MV ?_;refine MF (v:=.int .i64 (x.length:Int)) (fun W hS=>Q8 (K4 hsx hS.ext) rfl rfl) ?_;refine Wfo ?_;refine Wf ?_;refine Wf ?_;refine MZ fun W hS=> ?_;go_upto_region 3 with fail;refine RTh (.q 0 (.q 1 (.q 2 (.q 3 (.q 4 (.q 5 (.q 6 (.q 7 (.q 8 (.q 9 (.q 10 (.q 11 .z)))))))))))) hS ?_;clear hS;(iterate 3 refine TV ?_);refine TF (v:=y.wv) rfl (fun W hS=>Q6 rfl rfl (by rw[J3 (J4 hD.d hS.ext)];exact(J5 (off:=69) 7)) (by kernel_rfl)) ?_;refine TF (v:=.int .i64 (D.waits.length:Int)) rfl (fun W hS=>(by rw[show(D.waits.length:Int)=((List.map pvC y.wps).length:Int) by rw[BS,←hL.w,BS]];exact J1b (Row.off hD.wt hS.off0 f0) rfl rfl Tryz.underlying77)) ?_;(iterate 4 refine TV ?_);refine TF (v:=.int .i64 (D.P:Int)) rfl (fun W hS=>Q6 rfl rfl (by rw[J3 (J4 hD.d hS.ext)];exact(J5 (off:=66) 4)) (by kernel_rfl)) ?_;refine Tto ?_;refine Tt ?_;refine TZ (fun _ h=>h) fun W hS=> ?_;go_wp2;exact BC (v:=.int .i64 6) (by simp only[results,Tryz.results11];go_simp) rfl ⟨rfl,hS.ext⟩
theorem V7c {l x:List UInt8}{vl vx:AB}{D:DD}{y:LD}(w:AA)(hX:GX w)(hD:DK D y w)(hL:LOk D y)(hK:DOk D)(hsl:Sl w vl l)(hsx:Sl w vx x)(hla:1≤l.length∧l.length≤32)(hx2:x.length≤64)(hf:D.waits.length<D.P)(hn:l∉D.labs)(hm_:D.L≤D.labs.length):
  Az Tryz.prog 11 #[.pointer (some ⟨y.p,0,none⟩),vl,vx] w fun e w' =>V5 (.int .i64 6) w w' e:=by
 have M:=hK.pos;have J:=hK.len;have G:1≤(l.length:Int)∧(l.length:Int)≤32:=by omega
 have hS:=SH.nil [] w
 go_enter Tryz.func11,Tryz.ntmps11
 go_upto_region 1 with fail;refine RL hS ?_;clear hS;refine MV ?_;refine Wf ?_;refine Wf ?_;refine MV ?_;refine MC (v:=.bool true) (fun W hS=>(by have h_:=J3n W (K4 hsl hS.ext);rw[show win _ 32=true from decide_eq_true G] at h_;exact h_)) ?_;(iterate 3 refine Wf ?_);refine MV ?_;refine MF (v:=.int .i64 (x.length:Int)) (fun W hS=>Q8 (K4 hsx hS.ext) rfl rfl) ?_;refine Wfo ?_;refine Wf ?_;refine Wf ?_;refine MZ fun W hS=> ?_;go_upto_region 3 with fail;refine RTh (.q 0 (.q 1 (.q 2 (.q 3 (.q 4 (.q 5 (.q 6 (.q 7 (.q 8 (.q 9 (.q 10 (.q 11 .z)))))))))))) hS ?_;clear hS;(iterate 3 refine TV ?_);refine TF (v:=y.wv) rfl (fun W hS=>Q6 rfl rfl (by rw[J3 (J4 hD.d hS.ext)];exact(J5 (off:=69) 7)) (by kernel_rfl)) ?_;refine TF (v:=.int .i64 (D.waits.length:Int)) rfl (fun W hS=>(by rw[show(D.waits.length:Int)=((List.map pvC y.wps).length:Int) by rw[BS,←hL.w,BS]];exact J1b (Row.off hD.wt hS.off0 f0) rfl rfl Tryz.underlying77)) ?_;(iterate 4 refine TV ?_);refine TF (v:=.int .i64 (D.P:Int)) rfl (fun W hS=>Q6 rfl rfl (by rw[J3 (J4 hD.d hS.ext)];exact(J5 (off:=66) 4)) (by kernel_rfl)) ?_;refine Tfo ?_;refine Tf ?_;refine TZ (fun _ h=>h) fun W hS=> ?_;go_upto_region 5 with fail;refine RTh (.q 0 (.q 1 (.q 2 (.q 3 (.q 4 (.q 5 (.q 6 (.q 7 (.q 8 (.q 9 (.q 10 (.q 11 (.q 12 (.q 13 (.q 14 (.q 15 (.q 16 (.q 17 (.q 18 (.q 19 (.q 20 (.q 21 .z)))))))))))))))))))))) hS ?_;clear hS;(iterate 3 refine TV ?_);refine TF (v:=.map (some y.h)) rfl (fun W hS=>Q6 rfl rfl (by rw[J3 (J4 hD.d hS.ext)];exact(J5 (off:=68) 6)) (by kernel_rfl)) ?_;refine TV ?_;refine TF (v:=V3 l) rfl (fun W hS=>J01 (K4 hsl hS.ext) rfl rfl) ?_;refine TF (v:=.pointer none) rfl (fun W hS=>(by rw[show(.pointer none:AB)=mpt (mlk (J0j y.acs) l) by rw[hL.mlk_n hn];rfl];exact J67 (J5j hD.m hS.ext) Tryz.underlying76 Tryz.underlying9 (by kernel_rfl) rfl rfl rfl)) ?_;refine TW ?_ (v:=.bool true) (hv:=by intro W;go_simp;first|done|rfl);refine Tt ?_;(iterate 3 refine TV ?_);refine TF (v:=.map (some y.h)) rfl (fun W hS=>Q6 rfl rfl (by rw[J3 (J4 hD.d hS.ext)];exact(J5 (off:=68) 6)) (by kernel_rfl)) ?_;refine TF (v:=.int .i64 (D.labs.length:Int)) rfl (fun W hS=>(by rw[show(D.labs.length:Int)=((J0j y.acs).length:Int) by unfold J0j;rw[BS,←hL.a,BS]];exact Q49 (J5j hD.m hS.ext) Tryz.underlying76 rfl rfl rfl)) ?_;(iterate 4 refine TV ?_);refine TF (v:=.int .i64 (D.L:Int)) rfl (fun W hS=>Q6 rfl rfl (by rw[J3 (J4 hD.d hS.ext)];exact(J5 (off:=65) 3)) (by kernel_rfl)) ?_;refine Tto ?_;refine Tt ?_;refine Tt ?_;refine TZ (fun _ h=>h) fun W hS=> ?_;go_wp2;exact BC (v:=.int .i64 6) (by simp only[results,Tryz.results11];go_simp) rfl ⟨rfl,hS.ext⟩
theorem V7d {l x:List UInt8}{vl vx:AB}{D:DD}{y:LD}(w:AA)(hX:GX w)(hD:DK D y w)(hL:LOk D y)(hK:DOk D)(hsl:Sl w vl l)(hsx:Sl w vx x)(hla:1≤l.length∧l.length≤32)(hx2:x.length≤64)(hf:D.waits.length<D.P)(hn:l∉D.labs)(hm_:D.labs.length<D.L){E:Nat}(hE:E=erN D.vk l)(hz:E≠0):
  Az Tryz.prog 11 #[.pointer (some ⟨y.p,0,none⟩),vl,vx] w fun e w' =>V5 (.int .i64 (E:Int)) w w' e:=by
 have M:=hK.pos;have J:=hK.len;have G:1≤(l.length:Int)∧(l.length:Int)≤32:=by omega
 have hS:=SH.nil [] w
 go_enter Tryz.func11,Tryz.ntmps11
 go_upto_region 1 with fail;refine RL hS ?_;clear hS;refine MV ?_;refine Wf ?_;refine Wf ?_;refine MV ?_;refine MC (v:=.bool true) (fun W hS=>(by have h_:=J3n W (K4 hsl hS.ext);rw[show win _ 32=true from decide_eq_true G] at h_;exact h_)) ?_;(iterate 3 refine Wf ?_);refine MV ?_;refine MF (v:=.int .i64 (x.length:Int)) (fun W hS=>Q8 (K4 hsx hS.ext) rfl rfl) ?_;refine Wfo ?_;refine Wf ?_;refine Wf ?_;refine MZ fun W hS=> ?_;go_upto_region 3 with fail;refine RTh (.q 0 (.q 1 (.q 2 (.q 3 (.q 4 (.q 5 (.q 6 (.q 7 (.q 8 (.q 9 (.q 10 (.q 11 .z)))))))))))) hS ?_;clear hS;(iterate 3 refine TV ?_);refine TF (v:=y.wv) rfl (fun W hS=>Q6 rfl rfl (by rw[J3 (J4 hD.d hS.ext)];exact(J5 (off:=69) 7)) (by kernel_rfl)) ?_;refine TF (v:=.int .i64 (D.waits.length:Int)) rfl (fun W hS=>(by rw[show(D.waits.length:Int)=((List.map pvC y.wps).length:Int) by rw[BS,←hL.w,BS]];exact J1b (Row.off hD.wt hS.off0 f0) rfl rfl Tryz.underlying77)) ?_;(iterate 4 refine TV ?_);refine TF (v:=.int .i64 (D.P:Int)) rfl (fun W hS=>Q6 rfl rfl (by rw[J3 (J4 hD.d hS.ext)];exact(J5 (off:=66) 4)) (by kernel_rfl)) ?_;refine Tfo ?_;refine Tf ?_;refine TZ (fun _ h=>h) fun W hS=> ?_;go_upto_region 5 with fail;refine RTh (.q 0 (.q 1 (.q 2 (.q 3 (.q 4 (.q 5 (.q 6 (.q 7 (.q 8 (.q 9 (.q 10 (.q 11 (.q 12 (.q 13 (.q 14 (.q 15 (.q 16 (.q 17 (.q 18 (.q 19 (.q 20 (.q 21 .z)))))))))))))))))))))) hS ?_;clear hS;(iterate 3 refine TV ?_);refine TF (v:=.map (some y.h)) rfl (fun W hS=>Q6 rfl rfl (by rw[J3 (J4 hD.d hS.ext)];exact(J5 (off:=68) 6)) (by kernel_rfl)) ?_;refine TV ?_;refine TF (v:=V3 l) rfl (fun W hS=>J01 (K4 hsl hS.ext) rfl rfl) ?_;refine TF (v:=.pointer none) rfl (fun W hS=>(by rw[show(.pointer none:AB)=mpt (mlk (J0j y.acs) l) by rw[hL.mlk_n hn];rfl];exact J67 (J5j hD.m hS.ext) Tryz.underlying76 Tryz.underlying9 (by kernel_rfl) rfl rfl rfl)) ?_;refine TW ?_ (v:=.bool true) (hv:=by intro W;go_simp;first|done|rfl);refine Tt ?_;(iterate 3 refine TV ?_);refine TF (v:=.map (some y.h)) rfl (fun W hS=>Q6 rfl rfl (by rw[J3 (J4 hD.d hS.ext)];exact(J5 (off:=68) 6)) (by kernel_rfl)) ?_;refine TF (v:=.int .i64 (D.labs.length:Int)) rfl (fun W hS=>(by rw[show(D.labs.length:Int)=((J0j y.acs).length:Int) by unfold J0j;rw[BS,←hL.a,BS]];exact Q49 (J5j hD.m hS.ext) Tryz.underlying76 rfl rfl rfl)) ?_;(iterate 4 refine TV ?_);refine TF (v:=.int .i64 (D.L:Int)) rfl (fun W hS=>Q6 rfl rfl (by rw[J3 (J4 hD.d hS.ext)];exact(J5 (off:=65) 3)) (by kernel_rfl)) ?_;refine Tfo ?_;refine Tf ?_;refine Tf ?_;refine TZ (fun _ h=>h) fun W hS=> ?_;go_upto_region 7 with fail;refine RL hS ?_;clear hS;refine MV ?_;refine MV ?_;refine MC (v:=.tuple #[.pointer none,.int .i64 (E:Int)]) (fun W hS=>Z46 hE hn hz W (hX.ext hS.ext) (hD.ext hS.ext) hL (K4 hsl hS.ext) hla.2) ?_;(iterate 5 refine MV ?_);refine MZ fun W hS=> ?_;go_upto_region 8 with fail;refine RL hS ?_;clear hS;refine MV ?_;refine Wto ?_;refine MZ fun W hS=> ?_;go_wp2;exact BC (v:=.int .i64 (E:Int)) (by simp only[results,Tryz.results11];go_simp) rfl ⟨rfl,hS.ext⟩
end

section
def OldF (L:List As)(W:AA)(f:List Nat):Prop:=∀k∈f,k<W.heap.size→∃x∈L,(∀T K,x≠ .t T K)∧k∈x.foot
theorem OldF.mem {L:List As}{W:AA}{x:As}{f:List Nat}(hx:x∈L)(ht:∀T K,x≠ .t T K)(hf:∀k∈f,k∈x.foot):OldF L W f:=fun k hk _=>⟨x,hx,ht,hf k hk⟩
namespace SH
variable {F : List Nat} {w W W' : AA} {H H' L L' N R : List As} {x y : As}
def okQ (L R:List As)(W:AA):List As→Prop
  |[]=>True
  |y::l=>(y∈L∨(y.mv=true∧R.all (tyOk y)=true)∨(∃T K,y=.t T K∧R.all (fun z=>tyOk z y)=true)∨∃f K,y=.p f K∧OldF L W f)∧okQ L R W l
theorem Q82:∀{l:List As},okQ L R W l→∀y∈l,y∈L∨(y.mv=true∧R.all (tyOk y)=true)∨(∃T K,y=.t T K∧R.all (fun z=>tyOk z y)=true)∨∃f K,y=.p f K∧OldF L W f
  |_::_,h,y,hy=>by
    rcases List.mem_cons.1 hy with rfl|hy
    · exact h.1
    · exact Q82 h.2 y hy
theorem frameQ (h:SH F w W (L++R))(h' :SH (feet L) W W' L')(ok:okQ L R W L'):SH F w W' (L' ++R):=by
  have hp:=List.pairwise_append.1 h.ap;have hR:∀z∈R,z.holds W:=fun z hz=>h.all z (by simp[hz]);have hL:∀x∈L,x.holds W:=fun x hx=>h.all x (by simp[hx])
  have hf:∀k,k∈feet L→∀z∈R,(∀T K,z≠ .t T K)→k∉z.foot:=fun k hk z hz hT=>by
    obtain⟨x,hx,hm,hk⟩:=mem_feet.1 hk;have:=(hp.2.2 x hx z hz).1 hm;cases z with
    |t T K=>exact absurd rfl (hT T K)
    |_=>exact this k hk
  have hl:∀y∈L',y.mv=true→∀z∈R,(∀T K,z≠ .t T K)→∀k∈y.foot,k∉z.foot:=fun y hy hm z hz hT k hk D=>
    hf k (h'.old y hy hm k hk (As.lt (hR z hz) k D)) z hz hT D
  refine⟨h.off.step h'.off fun k hk G=> ?_,fun z hz=> ?_,List.pairwise_append.2 ⟨h'.ap,hp.2.1,fun y hy z hz=>⟨fun hm=> ?_,fun hm=> ?_⟩⟩,fun z hz hm k hk G=> ?_⟩
  · obtain⟨x,hx,hm,hk⟩:=mem_feet.1 hk
    exact h.old x (by simp[hx]) hm k hk G
  · rcases Ar.1 hz with hz|hz
    · exact h'.all z hz
    refine As.keep h'.off (hR z hz) (fun k hk M=> ?_) fun T K e k M G ht=> ?_
    · cases z with
      |t T K=>cases hk
      |_=>exact hf k M _ hz (fun _ _ e=>by cases e) hk
    obtain⟨x,hx,hm,hk⟩:=mem_feet.1 M;have h1:=(hp.2.2 x hx z hz).1 hm;subst e;exact h1 ((As.tyOf (hL x hx) hm k hk).symm.trans ht)
  · rcases Q82 ok y hy with N|⟨_,J⟩|⟨T,K,e,_⟩|⟨f,K,e,_⟩
    · exact(hp.2.2 y N z hz).1 hm
    · cases z with
      |t T K=>have:=List.all_eq_true.1 J _ hz;simpa[tyOk,hm] using this
      |_=>exact hl y hy hm _ hz (fun _ _ e=>by cases e)
    · subst e;cases hm
    subst e;cases hm
  · rcases Q82 ok y hy with N|⟨S,_⟩|⟨T,K,e,J⟩|⟨f,K,e,ho⟩
    · exact(hp.2.2 y N z hz).2 hm
    · cases y with
      |t T K=>cases S
      |_=>exact fun k hk D=>hl _ hy S z hz (fun T K e=>by subst e;cases hm) k D hk
    · subst e;have:=List.all_eq_true.1 J _ hz;simpa[tyOk,hm] using this
    subst e;intro k hk D;obtain⟨x,hx,ht,X⟩:=ho k D (As.lt (hR z hz) k hk);have h2:=(hp.2.2 x hx z hz).2 hm;cases x with
    |t T K=>exact ht T K rfl
    |_=>exact h2 k hk X
  rcases Ar.1 hz with hz|hz
  · by_cases U:k<W.heap.size
    · obtain⟨x,hx,V,D⟩:=mem_feet.1 (h'.old z hz hm k hk U)
      exact h.old x (by simp[hx]) V k D G
    have:=h.size;omega
  exact h.old z (by simp[hz]) hm k hk G
theorem OldF.less {f:List Nat}{g:List Nat}{K:AA→Prop}(h:OldF (L++[.p g K]) W f)(hg:InF N g):OldF (L++N) W f:=fun k hk G=>by
  obtain⟨x,hx,ht,D⟩:=h k hk G;rcases Ar.1 hx with hx|hx
  · exact⟨x,Ar.2 (.inl hx),ht,D⟩
  · rw[Ae.1 hx] at D
    obtain⟨z,hz,h1,h2⟩:=hg k D;exact⟨z,Ar.2 (.inr hz),h1,h2⟩
end SH
end

section
def Z77 (D:DD)(y:LD)(val:AB)(D' :DD)(R:List As)(F:List Nat)(w w' :AA)(e:Ending):Prop:=∃z:LD,e=.returned val∧LOk D' z∧z.p=y.p∧SH F w w' (ldL D' z++R)∧OldF (ldL D y) w (Q1t z.bs)∧OldF (ldL D y) w (Q2y z.pvs)
def tyD (R:List As):Bool:=R.all fun z=>(match z with
  | .t T _=>T !=81 &&(T !=94 &&(T !=97 &&(T !=84 &&(T !=77 &&(T !=82 && T !=23)))))
  |_=>true) &&(!z.mv ||z.ty !=some 163)
theorem J31 {R:List As}{y:As}(h:tyD R=true)(hy:∀T,y.ty=some T→T=81∨T=94∨T=97∨T=84∨T=77∨T=82∨T=23):R.all (SH.tyOk y)=true:=by
  refine List.all_eq_true.2 fun z hz=> ?_;have h1:=List.all_eq_true.1 h z hz;cases z with
  |t T K=>
    simp only[Bool.and_eq_true,bne_iff_ne] at h1;show(!y.mv ||y.ty !=some T)=true;rw[Bool.or_eq_true,bne_iff_ne];refine .inr fun e=> ?_;rcases hy T e with rfl|rfl|rfl|rfl|rfl|rfl|rfl
    · exact h1.1.1 rfl
    · exact h1.1.2.1 rfl
    · exact h1.1.2.2.1 rfl
    · exact h1.1.2.2.2.1 rfl
    · exact h1.1.2.2.2.2.1 rfl
    · exact h1.1.2.2.2.2.2.1 rfl
    · exact h1.1.2.2.2.2.2.2 rfl
  |_=>rfl
theorem Y96 {R:List As}{K:AA→Prop}(h:tyD R=true):R.all (fun z=>SH.tyOk z (.t 163 K))=true:=by
  refine List.all_eq_true.2 fun z hz=> ?_;have h1:=List.all_eq_true.1 h z hz;rw[Bool.and_eq_true] at h1;exact h1.2
theorem Z4d {D D' :DD}{y z:LD}{W:AA}{R:List As}(hR:tyD R=true)(h1:OldF (ldL D y) W (Q1t z.bs))(h2:OldF (ldL D y) W (Q2y z.pvs)):SH.okQ (ldL D y++[gx]) R W (ldL D' z++[gx]):=by
  have hm:∀{f:List Nat},OldF (ldL D y) W f→OldF (ldL D y++[gx]) W f:=fun h k hk G=>by
    obtain⟨x,hx,h3⟩:=h k hk G;exact⟨x,Ar.2 (.inl hx),h3⟩
  refine⟨.inr (.inl ⟨rfl,J31 hR fun T e=> ?_⟩),.inr (.inl ⟨rfl,J31 hR fun T e=> ?_⟩),.inr (.inl ⟨rfl,J31 hR fun T e=> ?_⟩),.inr (.inl ⟨rfl,J31 hR fun T e=> ?_⟩),.inr (.inl ⟨rfl,J31 hR fun T e=> ?_⟩),.inr (.inl ⟨rfl,J31 hR fun T e=> ?_⟩),.inr (.inl ⟨rfl,J31 hR fun T e=> ?_⟩),.inr (.inl ⟨rfl,J31 hR fun T e=> ?_⟩),.inr (.inr (.inr ⟨_,_,rfl,hm h1⟩)),.inr (.inr (.inr ⟨_,_,rfl,hm h2⟩)),.inr (.inr (.inl ⟨_,_,rfl,Y96 hR⟩)),.inl (Ar.2 (.inr (by simp))),trivial⟩
  · injection e with e;exact .inl e.symm
  · cases e
  · injection e with e;exact .inr (.inl e.symm)
  · injection e with e;exact .inr (.inr (.inl e.symm))
  · injection e with e;exact .inr (.inr (.inr (.inl e.symm)))
  · injection e with e;exact .inr (.inr (.inr (.inr (.inl e.symm))))
  · injection e with e;exact .inr (.inr (.inr (.inr (.inr (.inl e.symm)))))
  injection e with e;exact .inr (.inr (.inr (.inr (.inr (.inr e.symm)))))
section
variable {P : Program} {g : FuncId} {args : Array AB} {F : List Nat} {w W : AA} {N R : List As} {D D' : DD} {y : LD} {val : AB}
end
theorem SH.oldD {D:DD}{y:LD}{w W:AA}{R H:List As}{x:As}(h:SH (feet (ldL D y++R)) w W H)(hR:R.all (fun z=> !z.mv)=true)(hx:x∈H)(hm:x.mv=true):OldF (ldL D y) w x.foot:=fun k hk M=>by
  obtain⟨z,hz,G,J⟩:=mem_feet.1 (h.old x hx hm k hk M);rcases Ar.1 hz with hz|hz
  · exact⟨z,hz,fun T K e=>(by subst e;cases G),J⟩
  · have:=List.all_eq_true.1 hR z hz
    rw[G] at this;cases this
end
end Go.Proofs.YtpljgkofbfeelaaGreatDoor

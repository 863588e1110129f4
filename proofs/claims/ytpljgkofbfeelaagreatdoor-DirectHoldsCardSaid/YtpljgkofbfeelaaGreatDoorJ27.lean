/- Contracts and plain laws for directHolds_holds. Conditions: the tables hold their numbers. -/
import Derived.Test.YtpljgkofbfeelaaGreatDoorJ26
open Go renaming World->AA,Value->AB
open _root_.List renaming length_append->Ai,mem_singleton->Ae,append_nil->Aj,getElem?_map->BO,take_length->Ba,length_map->BS,map_cons->AX,mem_append->Ar,getElem?_append_left->BA,getElem?_append_right->BB,mem_of_getElem?->At,map_map->Ax,map_nil->Ag,map_append->BU
open Go.RowKit
set_option linter.unusedSimpArgs false
set_option linter.unusedVariables false
namespace Go.Proofs.YtpljgkofbfeelaaGreatDoor
section
attribute [local irreducible] eI be8 hs4 lb J33 J25 K3 xt hm pbs rs S8.kP S8.kN S8.kD ofT ebs lk0 ixN pfN erN opn bnd
def mdP (m:Md):Nat×Nat×List UInt8:=(m.ep,m.ver,m.x)
abbrev mdK (D:DD)(k:Nat):List Md:=mdp D.made D.puts.length (D.waits.take k)
structure Mid (D:DD)(y:LD)(k:Nat)(acs:List Ac):Prop where
  am:J0j acs=J0j y.acs
  n:∀a∈acs,a.ix=ixN D.vk a.l∧a.pf=pfN D.vk a.l
  e:∀a∈acs,a.es.map enP=((mdK D k).filter fun m=>decide (m.l=a.l)).map mdP
  be:∀a∈acs,∀q∈a.es,(q.u,q.x)∈y.bs
theorem Mid.start {D:DD}{y:LD}(h:LOk D y):Mid D y 0 y.acs:=⟨rfl,h.n,h.e,h.be⟩
theorem V2g {a b:List Ac}(h:J0j a=J0j b):a.map (·.l)=b.map (·.l):=by
  have:=congrArg (List.map Prod.fst) h;unfold J0j at this
  rwa [Ax,Ax] at this
theorem Mid.labs {D:DD}{y:LD}{k:Nat}{acs:List Ac}(h:Mid D y k acs)(hL:LOk D y):acs.map (·.l)=D.labs:=(V2g h.am).trans hL.a
theorem Mid.acc {D:DD}{y:LD}{k:Nat}{acs:List Ac}(h:Mid D y k acs)(hL:LOk D y){l:List UInt8}(hl:l∈D.labs):∃a∈acs,a.l=l:=by
  rw[←h.labs hL] at hl;exact List.mem_map.1 hl
theorem Mid.mlk {D:DD}{y:LD}{k:Nat}{acs:List Ac}(h:Mid D y k acs)(hL:LOk D y){a:Ac}(ha:a∈acs):mlk (J0j y.acs) a.l=some a.b:=by
  rw[←h.am];exact Q9i ha (by rw[h.labs hL];exact D.labs_nodup)
theorem Mid.len {D:DD}{y:LD}{k:Nat}{acs:List Ac}(h:Mid D y k acs){a:Ac}(ha:a∈acs):a.es.length=vct (mdK D k) a.l:=by
  have:=congrArg List.length (h.e a ha);rwa [BS,BS] at this
theorem Q9k {D:DD}{k:Nat}{p:J5i}(hp:D.waits[k]?=some p):mdK D (k+1)=mdK D k++[⟨p.1,p.2,D.puts.length,vct (mdK D k) p.1+1⟩]:=by
  unfold mdK;rw[List.take_add_one,hp];exact Y03 _ _ _ _
theorem Y5h (D:DD)(k:Nat):(mdK D k).length≤D.made.length+D.waits.length:=by
  unfold mdK;rw[Q7f,List.length_take];omega
theorem DOk.mdK {D:DD}(h:DOk D)(k:Nat):(mdK D k).length≤544:=by
  have:=Y5h D k;have:=h.made;have:=h.wl;have:=h.p2;omega
theorem Mid.step {D:DD}{y:LD}{k:Nat}{A0 A1:List Ac}{a:Ac}{p:Pv}{mv:AB}(h:Mid D y k (A0++a::A1))(hL:LOk D y)(hp:y.wps[k]?=some p)(hal:a.l=p.l):
    Mid D y (k+1) (A0++⟨a.b,a.l,a.ix,a.pf,mv,a.es++[⟨D.puts.length,a.es.length+1,p.xu,p.x⟩]⟩::A1):=by
  have hw:D.waits[k]?=some (pvP p):=by rw[←hL.w,BO,hp];rfl
  have N:((A0++a::A1).map (·.l)).Nodup:=by rw[h.labs hL];exact D.labs_nodup
  rw[BU,AX] at N;have R:=List.nodup_cons.1 ((List.perm_middle.nodup_iff).1 N);have S:∀z∈A0++A1,z.l≠a.l:=fun z hz e=>R.1 (by rw[←BU,←e];exact List.mem_map.2 ⟨z,hz,rfl⟩);have M:=Q9k hw
  have T:∀z:Ac,z.l≠a.l→((mdK D (k+1)).filter fun m=>decide (m.l=z.l))=(mdK D k).filter fun m=>decide (m.l=z.l):=fun z hz=>by
    rw[M,List.filter_append]
    have:List.filter (fun m=>decide (m.l=z.l)) [(⟨(pvP p).1,(pvP p).2,D.puts.length,vct (mdK D k) (pvP p).1+1⟩:Md)]=[]:=by
      rw[List.filter_cons_of_neg,List.filter_nil];simp only[decide_eq_true_eq];exact fun e=>hz (by rw[hal];exact e.symm)
    rw[this,Aj]
  have J:∀z∈A0++A1,z∈A0++a::A1:=fun z hz=>by rcases Ar.1 hz with hz|hz<;>simp[hz]
  have G:∀z∈A0++(⟨a.b,a.l,a.ix,a.pf,mv,a.es++[⟨D.puts.length,a.es.length+1,p.xu,p.x⟩]⟩:Ac)::A1,z∈A0++A1∨z=⟨a.b,a.l,a.ix,a.pf,mv,a.es++[⟨D.puts.length,a.es.length+1,p.xu,p.x⟩]⟩:=fun z hz=>by
    rcases Ar.1 hz with hz|hz
    · exact .inl (by simp[hz])
    rcases List.mem_cons.1 hz with hz|hz
    · exact .inr hz
    exact .inl (by simp[hz])
  refine⟨?_,fun z hz=> ?_,fun z hz=> ?_,fun z hz q hq=> ?_⟩
  · rw[←h.am];unfold J0j;rw[BU,BU];rfl
  · rcases G z hz with hz|rfl
    · exact h.n z (J z hz)
    exact h.n a (by simp)
  · rcases G z hz with hz|rfl
    · rw[T z (S z hz)];exact h.e z (J z hz)
    show List.map enP (a.es++_)=_;rw[BU,h.e a (by simp),M,List.filter_append,BU]
    congr 1
    rw[h.len (a:=a) (by simp)];show[(D.puts.length,vct (mdK D k) a.l+1,p.x)]=_;rw[List.filter_cons_of_pos (by show decide ((pvP p).1=a.l)=true;rw[hal];exact decide_eq_true rfl),List.filter_nil,hal];rfl
  rcases G z hz with hz|rfl
  · exact h.be z (J z hz) q hq
  rcases Ar.1 hq with hq|hq
  · exact h.be a (by simp) q hq
  rw[Ae.1 hq];exact(hL.bw p (At hp)).2
abbrev trK (D:DD)(k:Nat):TR:=ofT ((mdK D k).map D.leaf)
theorem V7l {D:DD}(h:DOk D):D.tree (D.puts.length-1)=trK D 0:=by
  have:=h.pos;unfold DD.tree DD.lvs;rw[DD.upto_all (by omega)];rfl
theorem Y04 {D:DD}{k:Nat}{p:J5i}(hp:D.waits[k]?=some p){ix:Nat}{ver:Nat}(hi:ix=ixN D.vk p.1)(hv:ver=vct (mdK D k) p.1){R:Nat}(hR:R=bnd (opn D.bk ix ((ver+1:Nat):Int)) ix ((ver+1:Nat):Int) p.2):J26 ix R (trK D k) 0=trK D (k+1):=by
  unfold trK;rw[Q9k hp,BU,AX,Ag,Q9l];subst hi hv;rw[hR];rfl
theorem Z4f {D:DD}:D.nxt.tree D.puts.length=trK D D.waits.length:=by
  unfold DD.tree DD.lvs trK;rw[DD.upto_all (D:=D.nxt) (by rw[DD.nxt_len];exact Nat.le_refl _),DD.made_nxt];unfold mdK;rw[Ba];rfl
theorem Y05 {D:DD}(h:DOk D):D.nxt.link D.puts.length=lkn D.id (D.puts.length:Int) (rs (trK D D.waits.length)) (D.link (D.puts.length-1)):=by
  have hp:=h.pos;obtain⟨n,hn⟩:∃n,D.puts.length=n+1:=⟨D.puts.length-1,by omega⟩
  rw[←Z4f,hn];show lkn D.nxt.id ((n+1:Nat):Int) (rs (D.nxt.tree (n+1))) (D.nxt.link n)=_;rw[DD.link_nxt (by omega)];rfl
def LD.nxt (y:LD)(acs:List Ac)(pv tv lv u:AB):LD:={y with acs:=acs,wv:=.slice none 0 0,pv:=pv,tv:=tv,lv:=lv,wps:=[],pvs:=y.pvs++[(y.wv,y.wps)],tus:=y.tus++[u]}
theorem Mid.done {D:DD}{y:LD}{acs:List Ac}{pv tv lv u:AB}(h:Mid D y D.waits.length acs)(hL:LOk D y):LOk D.nxt (y.nxt acs pv tv lv u) where
  w:=rfl
  p:=by show List.map _ (y.pvs++[_])=D.puts++[D.waits];rw[BU,hL.p,←hL.w];rfl
  a:=by rw[DD.labs_nxt];exact h.labs hL
  n:=h.n
  e:=fun a ha=>by
    have h1:=h.e a ha;unfold mdK at h1;rw[Ba,←DD.made_nxt] at h1;exact h1
  i:=hL.i
  bw:=fun q hq=>by cases hq
  bp:=fun r hr q hq=>by
    rcases Ar.1 hr with hr|hr
    · exact hL.bp r hr q hq
    · rw[Ae.1 hr] at hq;exact hL.bw q hq
  be:=h.be
theorem DOk.nxt {D:DD}(h:DOk D)(he:D.puts.length≤D.E):DOk D.nxt where
  id1:=h.id1
  id2:=h.id2
  l1:=h.l1
  l2:=h.l2
  p1:=h.p1
  p2:=h.p2
  e1:=h.e1
  e2:=h.e2
  ep:=by rw[DD.nxt_len];show D.puts.length+1≤D.E+1;omega
  zero:=by
    have:=h.pos;show(D.puts++[D.waits])[0]?=_;rw[BA (by omega)];exact h.zero
  pl:=fun ps G=>by
    rcases Ar.1 G with G|G
    · exact h.pl ps G
    rw[Ae.1 G];exact h.wl
  wl:=Nat.zero_le _
  ll:=by rw[DD.labs_nxt];exact h.ll
  lab:=fun l hl=>h.lab l (by rw[DD.labs_nxt] at hl;exact hl)
  val:=fun q hq=>by
    refine h.val q ?_;have h1:q∈(D.puts++[D.waits]).flatten++[]:=hq
    rwa [Aj,List.flatten_append,List.flatten_cons,List.flatten_nil,Aj] at h1
end

section
set_option maxHeartbeats 3000000
set_option maxRecDepth 100000
attribute [local irreducible] wpList Z9 wpX
open S8 (Kn GA kP)
theorem V2h (o i:Nat)(v:Int)(x:List UInt8):bnd o i v x<2^256:=Y8t _ _
attribute [local irreducible] eI be8 hs4 lb J33 J25 K3 xt hm pbs rs S8.kP S8.kN S8.kD ofT ebs lk0 DD.links DD.trees DD.labs DD.made DD.tree DD.link ixN pfN erN opn bnd mdp lkn
theorem Y5j {D:DD}{y:LD}{acs:List Ac}{pv tv lv u:AB}(ha:J0j acs=J0j y.acs):ldL D.nxt (y.nxt acs pv tv lv u)=[.b y.p (Q2 [.c y.uid,.a 32 D.vk,.a 32 D.bk,.c (.int .i64 (D.L:Int)),.c (.int .i64 (D.P:Int)),.c (.int .i64 (D.E:Int)),.c (.map (some y.h)),.c (.slice none 0 0),.c pv,.c tv,.c lv]) 81,J24 y.h (J0j y.acs),acT acs,enT acs,.r 84 2 (.slice none 0 0) [],.r 77 1 pv (y.pvs.map J5y++[J5y (y.wv,y.wps)]),.r 82 1 tv (y.tus.map J28++[J28 u]),.r 23 32 lv (D.links.map J0d++[J0d (D.nxt.link D.puts.length)]),byT y.bs,rwT (y.pvs++[(y.wv,y.wps)]),taT (D.trees++[D.nxt.tree D.puts.length]) (y.tus++[u])]:=by
 unfold ldL;rw[DD.links_nxt,DD.trees_nxt];unfold LD.nxt;simp only[BU,AX,Ag,ha];rfl
theorem Y06 {ts:List TR}{us:List AB}{T:TR}{u:AB}{W:AA}(h:taK ts us W)(hu:TA W T u):taK (ts++[T]) (us++[u]) W:=by
 refine⟨by rw[Ai,Ai,h.1];rfl,fun i T' u' h1 h2=> ?_⟩
 by_cases hi:i<ts.length
 ·
  rw[BA hi] at h1;rw[BA (by rw[←h.1];exact hi)] at h2;exact h.2 i T' u' h1 h2
 rw[BB (by omega)] at h1;rw[BB (by rw[←h.1];omega),←h.1] at h2;cases hj:i-ts.length with
 |zero=>rw[hj] at h1 h2;injection h1 with h1;injection h2 with h2;subst h1 h2;exact hu
 |succ j=>rw[hj] at h1;simp at h1
theorem SH.rwadd {F:List Nat}{w W:AA}{H:List As}{y:LD}(h:SH F w W (.r 84 2 y.wv (y.wps.map pvC)::rwT y.pvs::H)):SH F w W (rwT (y.pvs++[(y.wv,y.wps)])::H):=by
 have h1:=h.row (i:=0) rfl;have h2:rwK y.pvs W:=(h.at_ (i:=1) rfl).1;refine SH.foldF (N:=[.r 84 2 y.wv (y.wps.map pvC),rwT y.pvs]) h (Q66 fun r hr=> ?_) fun k hk=> ?_
 ·
  rcases Ar.1 hr with hr|hr
  ·
   exact h2 r hr
  rw[Ae.1 hr];exact h1.rr
 obtain⟨r,hr,h4⟩:=List.mem_flatMap.1 hk;rcases Ar.1 hr with hr|hr
 ·
  exact⟨rwT y.pvs,by simp,fun T K e=>(by cases e),List.mem_flatMap.2 ⟨r,hr,h4⟩⟩
 rw[Ae.1 hr] at h4;exact⟨.r 84 2 y.wv (y.wps.map pvC),by simp,fun T K e=>(by cases e),Z4j h1 k h4⟩
theorem V2i {D:DD}{y:LD}{w:AA}(h1:Row 84 2 w y.wv (y.wps.map pvC)):OldF (ldL D y) w (Q2y (y.pvs++[(y.wv,y.wps)])):=fun k hk=>by
 obtain⟨r,hr,h4⟩:=List.mem_flatMap.1 hk;rcases Ar.1 hr with hr|hr
 ·
  exact OldF.mem (x:=rwT y.pvs) (by simp) (fun T K e=>(by cases e)) (fun k hk=>hk) k (List.mem_flatMap.2 ⟨r,hr,h4⟩)
 ·
  rw[Ae.1 hr] at h4;exact OldF.mem (x:=.r 84 2 y.wv (y.wps.map pvC)) (by simp) (fun T K e=>(by cases e)) (fun k hk=>hk) k (Z4j h1 k h4)
theorem V2j {D:DD}{y:LD}{w:AA}:OldF (ldL D y) w (Q1t y.bs):=OldF.mem (x:=byT y.bs) (by simp) (fun T K e=>(by cases e)) (fun k hk=>hk)
theorem Z27 {α β:Type}(f:α→β)(l:List α)(x:α):(l++[x]).map f=l.map f++[f x]:=by rw[BU];rfl
theorem SH.encl19 {F:List Nat}{w W:AA}{H:List As}{A0 A1:List Ac}{b ix pf:Nat}{l:List UInt8}{mv:AB}{es:List En}{x:En}(h:SH F w W (.r 97 3 mv (es.map enC++[enC x])::enT (A0++A1)::H)):SH F w W (enT (A0++⟨b,l,ix,pf,mv,es++[x]⟩::A1)::H):=by
 rw[←Z27 enC es x] at h;exact SH.enclose (a:=⟨b,l,ix,pf,mv,es++[x]⟩) h
theorem Y07 {D:DD}{k:Nat}(h:DOk D):((mdK D k).map D.leaf).length≤1000:=by rw[BS];have:=h.mdK k;omega
theorem V2k {D:DD}{k:Nat}{l:List UInt8}(h:DOk D):vct (mdK D k) l≤1000:=by unfold vct;have:=List.length_filter_le (fun m:Md=>decide (m.l=l)) (mdK D k);have:=h.mdK k;omega

theorem V2l {D:DD}{y:LD}(he:D.puts.length≤D.E)(w:AA)(hL:LOk D y)(hK:DOk D)(h_:SH (SH.feet (ldL D y++[gx])) w w (ldL D y++[gx])):
  Calls Tryz.prog 6 #[.pointer (some ⟨y.p,0,none⟩)] w fun e w' =>Z77 D y (.tuple #[.int .i64 (D.puts.length:Int),.int .i64 0]) D.nxt [gx] (SH.feet (ldL D y++[gx])) w w' e:=by
 have M2:=hK.pos;have M5:=hK.len;have M3:=hL.wn hK;have G8:y.pvs.length=D.puts.length:=by rw[←hL.p,BS]
 have G9:=DD.trees_len D;have G7:=DD.links_len D;have hS:SH (SH.feet (ldL D y++[gx])) w w [.b y.p (Q2 [.c y.uid,.a 32 D.vk,.a 32 D.bk,.c (.int .i64 (D.L:Int)),.c (.int .i64 (D.P:Int)),.c (.int .i64 (D.E:Int)),.c (.map (some y.h)),.c y.wv,.c y.pv,.c y.tv,.c y.lv]) 81,J24 y.h (J0j y.acs),acT y.acs,enT y.acs,.r 84 2 y.wv (List.map pvC y.wps),.r 77 1 y.pv (List.map J5y y.pvs),.r 82 1 y.tv (List.map J28 y.tus),.r 23 32 y.lv (List.map J0d D.links),byT y.bs,rwT y.pvs,taT D.trees y.tus,gx]:=h_;clear h_;have χ:Row 84 2 w y.wv (y.wps.map pvC):=hS.row (i:=4) rfl;obtain⟨Aw,cw,ew,_,D9⟩:=RR.opf χ.rr;obtain⟨G2,D6,ξ,_,Δ⟩:=RR.opf (hS.row (i:=6) rfl).rr;obtain⟨D1,G5,κ,_,ω⟩:=RR.opf (hS.row (i:=7) rfl).rr;obtain⟨u0,M,M7⟩:=(DK.of (D:=D) (y:=y) (R:=[gx]) hS).tree (e:=D.puts.length-1) (by omega);have D0:=(DK.of (D:=D) (y:=y) (R:=[gx]) hS).ta.1;have G6:y.tus.length=D.puts.length:=by rw[←D0,DD.trees_len]
 obtain⟨D4,D8,γ,_⟩:=Δ.out (D.puts.length-1) u0 M;obtain⟨D3,G1,α,_⟩:=ω.out (D.puts.length-1) _ (DD.links_at (by omega))
 go_enter Tryz.func6,Tryz.ntmps6
 go_upto_region 3 with fail;refine RL hS ?_;clear hS;(iterate 3 refine MV ?_);refine MG 0 ?_ (v:=y.lv) (hj:=(J5 (off:=72) 10));refine MF (v:=.int .i64 (D.puts.length:Int)) (fun W hS=>(by rw[show(D.puts.length:Int)=((List.map J0d D.links).length:Int) by rw[BS,DD.links_len]];exact J1b (hS.row (i:=7) rfl) rfl rfl Tryz.underlying37)) ?_;refine MV ?_;refine MZ fun W hS=> ?_;go_upto_region 4 with fail;refine RL hS ?_;clear hS;(iterate 5 refine MV ?_);refine MG 0 ?_ (v:=.int .i64 (D.E:Int)) (hj:=(J5 (off:=67) 5));refine Wfo ?_;refine MZ fun W hS=> ?_;go_upto_region 6 with fail;refine RL hS ?_;clear hS;(iterate 3 refine MV ?_);refine MG 0 ?_ (v:=y.tv) (hj:=(J5 (off:=71) 9));refine MV ?_;refine MW ?_ (v:=.int .i64 ((D.puts.length-1:Nat):Int)) (hv:=by intro W;go_simp;(try simp only[IntKind.wrap_i64]);omega);refine MW ?_ (v:=.pointer (some ⟨D4,D8+(D.puts.length-1)*1,none⟩)) (hv:=fun _=>J0m γ (List.getElem?_eq_some_iff.1 M).1 rfl (by exact ξ) rfl Tryz.underlying79 (by kernel_rfl));refine MF (v:=u0) (fun W hS=>Q6 rfl rfl ((RR.cellat (A:=G2) (n:=y.tus.length) (c:=D6) (by have h_:=(hS.row (i:=6) rfl).rr;rw[ξ] at h_;exact h_) (e:=J28 u0) (by rw[BO,M];rfl) γ) 0 _ rfl) (by kernel_rfl)) ?_;refine MV ?_;refine MZ fun W hS=> ?_;go_upto_region 7 with fail;refine RL hS ?_;clear hS;(iterate 3 refine MV ?_);refine MG 0 ?_ (v:=y.wv) (hj:=(J5 (off:=69) 7));refine MF (v:=.int .i64 (y.wps.length:Int)) (fun W hS=>(by rw[show(y.wps.length:Int)=((List.map pvC y.wps).length:Int) by rw[BS]];exact J1b (hS.row (i:=4) rfl) rfl rfl Tryz.underlying77)) ?_;refine W0 ?_;refine MZ fun W hS=> ?_;have hS:=hS.fact (TA.holds (T:=trK D 0) (u:=u0) (by rw[←V7l hK];exact(hS.at_ (i:=10) (x:=taT D.trees y.tus) rfl).1.2 (D.puts.length-1) _ _ (DD.trees_at (by omega)) M)) rfl
 go_wp2_with fail
 go_loopw [5,35] (fun uv jj wr=> ∃(k:Nat)(acs:List Ac)(u:AB),(k≤y.wps.length)∧(Mid D y k acs)∧(u=uv)∧(jj=.int .i64 (k:Int))∧SH (SH.feet (ldL D y++[gx])) w wr [.t 163 (fun W=>TA W (trK D k) u),.b y.p (Q2 [.c y.uid,.a 32 D.vk,.a 32 D.bk,.c (.int .i64 (D.L:Int)),.c (.int .i64 (D.P:Int)),.c (.int .i64 (D.E:Int)),.c (.map (some y.h)),.c y.wv,.c y.pv,.c y.tv,.c y.lv]) 81,J24 y.h (J0j y.acs),acT acs,enT acs,.r 84 2 y.wv (List.map pvC y.wps),.r 77 1 y.pv (List.map J5y y.pvs),.r 82 1 y.tv (List.map J28 y.tus),.r 23 32 y.lv (List.map J0d D.links),byT y.bs,rwT y.pvs,taT D.trees y.tus,gx])
  (fun uv jj _=>y.wps.length-(intOf jj).toNat)
 case atStart=>exact⟨0,y.acs,u0,Nat.zero_le _,Mid.start hL,rfl,rfl,hS⟩
 clear hS
 case round=>
  obtain⟨k,acs,u,hk,hM,rfl,rfl,hS⟩:=hrel
  by_cases S:k<y.wps.length
  ·
   obtain⟨p,ph⟩:∃x,y.wps[k]?=some x:=⟨_,List.getElem?_eq_getElem S⟩
   obtain⟨gw,ow,ρ,_⟩:=D9.out k p ph;have Y:=At ph;have φ:=(hL.bw p Y).1;have τ:=(hL.bw p Y).2;have G3:=hL.wl hK p Y;have ν:D.waits[k]?=some (pvP p):=by rw[←hL.w,BO,ph];rfl
   have Θ:p.l∈D.labs:=DD.mem_labs.2 ⟨pvP p,Ar.2 (.inr (At ν)),rfl⟩;obtain⟨a,ha,J⟩:=hM.acc hL Θ;have G0:=hM.mlk hL ha;have σ:=(hM.n a ha).1;have Z:=hM.len ha;obtain⟨A0,A1,rfl⟩:=List.append_of_mem ha;have δ:=J6 ((hS.pp (i:=9) rfl) _ φ);have η:=J6 ((hS.pp (i:=9) rfl) _ τ);go_upto_region 8 with fail;refine RL hS ?_;clear hS;refine Wto ?_;refine MZ fun W hS=> ?_;go_upto_region 9 with fail;refine RL hS ?_;clear hS;refine MW ?_ (v:=.pointer (some ⟨gw,ow+k*2,none⟩)) (hv:=fun _=>J0m ρ S rfl (by exact ew) rfl Tryz.underlying77 (by kernel_rfl));refine MF (v:=.agg (Q2 [.c p.lu,.c p.xu])) (fun W hS=>V4 rfl rfl (fun i_ v hv=>(V79 (A:=Aw) (n:=y.wps.length) (c:=cw) (by have h_:=(hS.row (i:=5) rfl).rr;rw[ew] at h_;exact h_) ph ρ) i_ v (by simpa using hv)) (by kernel_rfl) (by rw[J9];kernel_rfl)) ?_;refine MN (z:=Q2 [.c (.slice none 0 0),.c (.slice none 0 0)]) (t:=84) ?_;intro M6;refine MRa 0 ?_ (h1:=by exact(V6 ⟨δ.2,η.2,trivial⟩));refine MZ fun W hS=> ?_;go_upto_region 10 with fail;refine RL hS ?_;clear hS;refine MV ?_;refine MV ?_;refine ML 0 ?_ (hs:=by rw[J9];kernel_rfl);refine MV ?_;refine MT (fun W hS=>hS.pick [4,0,1,2,3,5,6,7,8,9,10,11,12,13]) ?_;refine MT (fun W hS=>hS.acopen) ?_;refine MT (fun W hS=>hS.pick [6,0,1,2,3,4,5,7,8,9,10,11,12,13,14]) ?_;refine MT (fun W hS=>hS.enopen) ?_;obtain⟨O,hO⟩:=exn (opn D.bk a.ix ((a.es.length+1:Nat):Int));obtain⟨R,hR⟩:=exn (bnd (opn D.bk a.ix ((a.es.length+1:Nat):Int)) a.ix ((a.es.length+1:Nat):Int) p.x);refine ME (V:=fun z:AB×AB=>z.2) (fun W hS=>V7m [2,0,6,7,12,15,5] [1,3,4,8,9,10,11,13,14] hS (fun hT=>V2f (l:=p.l) hO hR (by rw[←J];exact G0) φ τ G3.2 (by rw[Z];exact V2k hK) (by rw[σ];exact Q42 _ _) (by rw[hR];exact V2h _ _ _ _) (V2m (Y07 hK)) (V2n (Y07 hK)) W hT) (fun _=>⟨.inr (.inl ⟨rfl,rfl⟩),.inr (.inl ⟨rfl,rfl⟩),.inl (by simp),.inl (by simp),.inl (by simp),.inl (by simp),.inr (.inr ⟨_,_,rfl,rfl⟩),trivial⟩)) ?_;rintro⟨X,u2⟩;dsimp only[List.cons_append,List.nil_append];have D7:=hM.step (mv:=X) hL ph J;refine MT (fun W hS=>hS.pick [0,8,1,2,3,4,5,6,7,9,10,11,12,13,14,15]) ?_;refine MT (fun W hS=>SH.acclose (a:=⟨a.b,a.l,a.ix,a.pf,X,a.es++[⟨D.puts.length,a.es.length+1,p.xu,p.x⟩]⟩) hS) ?_;refine MT (fun W hS=>hS.pick [1,7,0,2,3,4,5,6,8,9,10,11,12,13,14]) ?_;refine MT (fun W hS=>SH.encl19 (b:=a.b) (l:=a.l) (ix:=a.ix) (pf:=a.pf) hS) ?_;have Γ:J26 a.ix R (trK D k) 0=trK D (k+1):=Y04 (p:=pvP p) (ver:=a.es.length) ν (by rw[σ,J]) (by rw[Z,J]) hR;clear hR hO;refine MT (fun W hS=>by rw[Γ] at hS;exact hS) ?_;refine MV ?_;refine MZ fun W hS=> ?_;go_wp2;go_roundw
   case rel=>exact⟨(k+1),(A0++⟨a.b,a.l,a.ix,a.pf,X,a.es++[⟨D.puts.length,a.es.length+1,p.xu,p.x⟩]⟩::A1),u2,by omega,D7,rfl,by go_num,(hS.pick [6,2,3,1,0,8,9,10,11,4,12,13,5])⟩
   case measure=>simp[intOf];omega
  obtain rfl:k=y.wps.length:=by omega
  go_upto_region 8 with fail;refine RL hS ?_;clear hS;refine Wfo ?_;refine MZ fun W hS=> ?_;go_upto_region 12 with fail;refine RTh (.vq 0 (.q 1 (.q 2 (.q 3 (.q 4 (.q 5 (.q 6 (.q 7 (.q 8 (.e 9 (.kq 10 (.q 11 (.q 12 (.e 13 .z)))))))))))))) hS ?_;clear hS;refine TvV ?_;(iterate 3 refine TV ?_);refine TG 1 ?_ (v:=y.pv) (hj:=(J5 (off:=70) 8));(iterate 3 refine TV ?_);refine TG 1 ?_ (v:=y.wv) (hj:=(J5 (off:=69) 7));refine TE (fun _ h=>h) ?_;refine MB (z:= #[y.wv]) (t:=77) (n:=1) (c:=1) ?_ (hr:=fun W hS=>Y0 [y.wv] rfl rfl (vsc (Row.cells (hS.row (i:=5) rfl)).1 vs0) Tryz.underlying78 (by kernel_rfl) (by kernel_rfl) rfl (by decide) (by decide));intro M1;refine TNh (fun W hS=>hS.pick [1,2,3,4,5,6,7,8,9,10,11,12,13]) ?_;refine TK (fun _ h=>h) ?_;refine K8 (fun W hS=>(Row.cells (hS.row (i:=6) rfl)).2) ?_;intro ε;refine MAr 7 0 (tS:=78) (bytes:=24) (es:=(List.map J5y y.pvs)) (by first|omega|(simp only[lA,lM,lT,lD,lC,lN,J7,Y8,Z0,Z5];omega)) (e:=([y.wv]:List AB)) (h1:=Z28 ε) ?_;intro G;refine Z9u [0,1,3,4,5,6,7,8,9,10,11,12,13] ?_;refine TV ?_;refine TV ?_;refine TE (fun _ h=>h.pick [0,1,3,4,5,6,7,8,9,10,11,12,13]) ?_;refine K8 (fun W hS=>(Row.cells (hS.row (i:=7) rfl)).2) ?_;intro Ω;refine MP 2 (v:=G) (cs' :=Q2 [.c y.uid,.a 32 D.vk,.a 32 D.bk,.c (.int .i64 (D.L:Int)),.c (.int .i64 (D.P:Int)),.c (.int .i64 (D.E:Int)),.c (.map (some y.h)),.c y.wv,.c G,.c y.tv,.c y.lv]) ?_ (hs:=agl) (hc:=K1 (off:=70) 8) (hv:=fun W hS=>Row.cells (hS.row (i:=7) rfl));refine Y6 [0,1,3,4,5,6,7,8,9,10,11,12,13] [0,1,2,3,4,5,6,7,8,9,10,11,12] ?_;refine TZ (fun _ h=>h.pick [0,1,3,4,5,6,7,8,9,10,11,12,13]) fun W hS=> ?_;go_upto_region 13 with fail;refine RL hS ?_;clear hS;(iterate 3 refine MV ?_);refine MP 2 (v:=.slice none 0 0) (cs' :=Q2 [.c y.uid,.a 32 D.vk,.a 32 D.bk,.c (.int .i64 (D.L:Int)),.c (.int .i64 (D.P:Int)),.c (.int .i64 (D.E:Int)),.c (.map (some y.h)),.c (.slice none 0 0),.c G,.c y.tv,.c y.lv]) ?_ (hs:=agl) (hc:=K1 (off:=69) 7);refine MZ fun W hS=> ?_;go_upto_region 14 with fail;refine RL hS ?_;clear hS;(iterate 4 refine MV ?_);refine MG 2 ?_ (v:=y.tv) (hj:=(J5 (off:=71) 9));refine MV ?_;refine MB (z:= #[u]) (t:=82) (n:=1) (c:=1) ?_ (hr:=fun W hS=>Y0 [u] rfl rfl (vsc (TA.one (hS.tt (i:=1) rfl)).1 vs0) Tryz.underlying79 (by kernel_rfl) (by kernel_rfl) rfl (by decide) (by decide));intro M0;refine K8 (fun W hS=>(TA.one (hS.tt (i:=2) rfl)).2) ?_;intro ζ;refine MAr 9 0 (tS:=79) (bytes:=8) (es:=(List.map J28 y.tus)) (by first|omega|(simp only[lA,lM,lT,lD,lC,lN,J7,Y8,Z0,Z5];omega)) (e:=([u]:List AB)) (h1:=Z28 ζ) ?_;intro N;refine MV ?_;refine MV ?_;refine K8 (fun W hS=>(Row.cells (hS.row (i:=9) rfl)).2) ?_;intro Ψ;refine MP 3 (v:=N) (cs' :=Q2 [.c y.uid,.a 32 D.vk,.a 32 D.bk,.c (.int .i64 (D.L:Int)),.c (.int .i64 (D.P:Int)),.c (.int .i64 (D.E:Int)),.c (.map (some y.h)),.c (.slice none 0 0),.c G,.c N,.c y.lv]) ?_ (hs:=agl) (hc:=K1 (off:=71) 9) (hv:=fun W hS=>Row.cells (hS.row (i:=9) rfl));refine MZ fun W hS=> ?_;go_upto_region 15 with fail;refine RTh (.vq 0 (.q 1 (.q 2 (.q 3 (.q 4 (.q 5 (.q 6 (.q 7 (.q 8 (.q 9 (.q 10 (.q 12 (.q 13 (.q 14 (.q 15 (.q 16 (.q 17 (.q 18 (.q 19 (.e 11 (.e 20 (.e 21 (.kq 22 (.q 23 (.q 24 (.e 25 .z)))))))))))))))))))))))))) hS ?_;clear hS;refine TvV ?_;(iterate 3 refine TV ?_);refine TG 3 ?_ (v:=y.lv) (hj:=(J5 (off:=72) 10));(iterate 3 refine TV ?_);refine TG 3 ?_ (v:=y.uid) (hj:=(J5 (off:=0) 0));(iterate 5 refine TV ?_);refine TG 3 ?_ (v:=y.lv) (hj:=(J5 (off:=72) 10));refine TV ?_;refine TW ?_ (v:=.int .i64 ((D.puts.length-1:Nat):Int)) (hv:=by intro W;go_simp;(try simp only[IntKind.wrap_i64]);omega);refine TW ?_ (v:=.pointer (some ⟨D3,G1+(D.puts.length-1)*32,none⟩)) (hv:=fun _=>J0m α (show D.puts.length-1<D.links.length by rw[DD.links_len];omega) rfl (by exact κ) rfl Tryz.underlying37 (by kernel_rfl));refine TF (v:=.agg (J0 .u8 32 (J2 (D.link (D.puts.length-1))))) rfl (fun W hS=>V4 rfl rfl (fun i_ v hv=>(RR.cellat (A:=D1) (n:=D.links.length) (c:=G5) (by have h_:=(hS.row (i:=10) rfl).rr;rw[κ] at h_;exact h_) (e:=J0d (D.link (D.puts.length-1))) (by rw[BO,DD.links_at (by omega)];rfl) α) i_ v (by simpa using hv)) (by kernel_rfl) (by rw[J1];kernel_rfl)) ?_;refine TE (fun _ h=>h) ?_;obtain⟨U1,μ⟩:=exh (rs (trK D y.wps.length));refine MC (v:=.agg (J0 .u8 32 (J2 U1))) (fun W hS=>(by rw[μ.out];exact J5l W (hS.pp (i:=14) rfl).gt (hS.tt (i:=2) rfl))) ?_;refine TNh (fun W hS=>hS) ?_;refine TE (fun _ h=>h) ?_;obtain⟨U2,θ⟩:=exh (lkn D.id (D.puts.length:Int) U1 (D.link (D.puts.length-1)));refine MC (v:=.agg (J0 .u8 32 (J2 U2))) (fun W hS=>Y55 θ.out W (hS.pp (i:=14) rfl).gt ((hS.pp (i:=11) rfl) _ hL.i) (by have h_:=hK.id2;omega)) ?_;refine TNh (fun W hS=>hS) ?_;refine TE (fun _ h=>h) ?_;refine MB (z:=(J0 .u8 32 (J2 U2))) (t:=23) (n:=1) (c:=1) ?_ (hr:=fun W _=>J2i rfl rfl rfl Tryz.underlying37 (by rw[J1];kernel_rfl) (by rw[J1];kernel_rfl) (by rw[J1];decide) (by rw[J1];decide));intro M4;refine TNh (fun W hS=>hS.pick [1,2,3,4,5,6,7,8,9,10,11,12,13,14,15]) ?_;refine TK (fun _ h=>h) ?_;refine MAr 11 0 (tS:=37) (bytes:=32) (es:=(List.map J0d D.links)) (by first|omega|(simp only[lA,lM,lT,lD,lC,lN,J7,Y8,Z0,Z5];omega)) (e:=J0d U2) (hk:=J1 _ _ _) (h1:=by exact J0b _ _ _) ?_;intro β;refine Z9u [0,1,2,3,5,6,7,8,9,10,11,12,13,14,15] ?_;refine TV ?_;refine TV ?_;refine TE (fun _ h=>h.pick [0,1,2,3,5,6,7,8,9,10,11,12,13,14,15]) ?_;refine K8 (fun W hS=>(Row.cells (hS.row (i:=11) rfl)).2) ?_;intro Ξ;refine MP 4 (v:=β) (cs' :=Q2 [.c y.uid,.a 32 D.vk,.a 32 D.bk,.c (.int .i64 (D.L:Int)),.c (.int .i64 (D.P:Int)),.c (.int .i64 (D.E:Int)),.c (.map (some y.h)),.c (.slice none 0 0),.c G,.c N,.c β]) ?_ (hs:=agl) (hc:=K1 (off:=72) 10) (hv:=fun W hS=>Row.cells (hS.row (i:=11) rfl));refine Y6 [0,1,2,3,5,6,7,8,9,10,11,12,13,14,15] [0,1,2,3,4,5,6,7,8,9,10,11,12,13,14] ?_;refine TZ (fun _ h=>h.pick [0,1,2,3,5,6,7,8,9,10,11,12,13,14,15]) fun W hS=> ?_;have hA:=hS.pick [8,13,0,1,2,3,4,5,6,7,9,10,11,12,14,15];have hB:=hA.rwadd;have U:y.wps.length=D.waits.length:=by rw[←hL.w,BS]
  have D5:U2=D.nxt.link D.puts.length:=by rw[Y05 hK,θ.out,μ.out,U]
  have hT:=hB.tt (i:=4) rfl;rw[U,←Z4f] at hT;have hC:=hB.rnil 84 2 rfl;have G4:=hC.fact (Q67 (Y06 (hC.at_ (i:=14) (x:=taT D.trees y.tus) rfl).1 hT)) rfl;have hE:=G4.pick [7,8,9,10,1,11,12,13,14,2,0,16];rw[D5] at hE;have ψ:Mid D y D.waits.length acs:=by rw[←U];exact hM
  go_wp2;exact bodyPost_ret (v:=.tuple #[.int .i64 (D.puts.length:Int),.int .i64 0]) (by simp only[results,Tryz.results6];go_simp) rfl ⟨y.nxt acs G N β u,rfl,ψ.done hL,rfl,by rw[Y5j ψ.am];exact hE,V2j,V2i χ⟩
end

section
attribute [local irreducible] wpList Z9 wpX
section
variable {P : Program} {ops : Array Oper} {md : Region.Mode}
end
section
variable {P : Program} {ops : Array Oper} {Q : Exit → Act → AA → Prop} {E : Act → AA → Prop} {F : List Nat} {w : AA} {H : List As} {l : List Oper} {o : Oper} {a a' : Act} {b : Bool} {bs : List Bool}
end
end
end Go.Proofs.YtpljgkofbfeelaaGreatDoor

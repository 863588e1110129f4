/- Contracts and plain laws for bundleAny_holds. Conditions: the tables hold their numbers. -/
import Derived.Test.YtlkbneflnjmgbaaGreatDoorJ26
open Go.RowKit
set_option linter.unusedSimpArgs false
set_option linter.unusedVariables false
namespace Go.Proofs.YtlkbneflnjmgbaaGreatDoor
section
attribute [local irreducible] eI be8 hs4 lb J3e J2f J01 xt hm pbs rs S8.kP S8.kN S8.kD ofT ebs lk0 ixN pfN erN opn bnd
def mdP (m:Md):Nat×Nat×List UInt8:=(m.ep,m.ver,m.x)
abbrev mdK (D:DD)(k:Nat):List Md:=mdp D.made D.puts.length (D.waits.take k)
structure Mid (D:DD)(y:LD)(k:Nat)(acs:List Ac):Prop where
  am:J16 acs=J16 y.acs
  n:∀a∈acs,a.ix=ixN D.vk a.l∧a.pf=pfN D.vk a.l
  e:∀a∈acs,a.es.map enP=((mdK D k).filter fun m=>decide (m.l=a.l)).map mdP
  be:∀a∈acs,∀q∈a.es,(q.u,q.x)∈y.bs
theorem Mid.start {D:DD}{y:LD}(h:LOk D y):Mid D y 0 y.acs:=⟨rfl,h.n,h.e,h.be⟩
theorem V3a {a b:List Ac}(h:J16 a=J16 b):a.map (·.l)=b.map (·.l):=by
  have:=congrArg (List.map Prod.fst) h;unfold J16 at this
  rwa [List.map_map,List.map_map] at this
theorem Mid.labs {D:DD}{y:LD}{k:Nat}{acs:List Ac}(h:Mid D y k acs)(hL:LOk D y):acs.map (·.l)=D.labs:=(V3a h.am).trans hL.a
theorem Mid.acc {D:DD}{y:LD}{k:Nat}{acs:List Ac}(h:Mid D y k acs)(hL:LOk D y){l:List UInt8}(hl:l∈D.labs):∃a∈acs,a.l=l:=by
  rw[←h.labs hL] at hl;exact List.mem_map.1 hl
theorem Mid.mlk {D:DD}{y:LD}{k:Nat}{acs:List Ac}(h:Mid D y k acs)(hL:LOk D y){a:Ac}(ha:a∈acs):mlk (J16 y.acs) a.l=some a.b:=by
  rw[←h.am];exact Q9p ha (by rw[h.labs hL];exact D.labs_nodup)
theorem Mid.len {D:DD}{y:LD}{k:Nat}{acs:List Ac}(h:Mid D y k acs){a:Ac}(ha:a∈acs):a.es.length=vct (mdK D k) a.l:=by
  have:=congrArg List.length (h.e a ha);rwa [List.length_map,List.length_map] at this
theorem Q9t {D:DD}{k:Nat}{p:J4a}(hp:D.waits[k]?=some p):mdK D (k+1)=mdK D k++[⟨p.1,p.2,D.puts.length,vct (mdK D k) p.1+1⟩]:=by
  unfold mdK;rw[List.take_add_one,hp];exact Y0i _ _ _ _
theorem Y70 (D:DD)(k:Nat):(mdK D k).length≤D.made.length+D.waits.length:=by
  unfold mdK;rw[Q7h,List.length_take];omega
theorem DOk.mdK {D:DD}(h:DOk D)(k:Nat):(mdK D k).length≤544:=by
  have:=Y70 D k;have:=h.made;have:=h.wl;have:=h.p2;omega
theorem Mid.step {D:DD}{y:LD}{k:Nat}{A0 A1:List Ac}{a:Ac}{p:Pv}{mv:Value}(h:Mid D y k (A0++a::A1))(hL:LOk D y)(hp:y.wps[k]?=some p)(hal:a.l=p.l):
    Mid D y (k+1) (A0++⟨a.b,a.l,a.ix,a.pf,mv,a.es++[⟨D.puts.length,a.es.length+1,p.xu,p.x⟩]⟩::A1):=by
  have hw:D.waits[k]?=some (pvP p):=by rw[←hL.w,List.getElem?_map,hp];rfl
  have N:((A0++a::A1).map (·.l)).Nodup:=by rw[h.labs hL];exact D.labs_nodup
  rw[List.map_append,List.map_cons] at N;have R:=List.nodup_cons.1 ((List.perm_middle.nodup_iff).1 N);have S:∀z∈A0++A1,z.l≠a.l:=fun z hz e=>R.1 (by rw[←List.map_append,←e];exact List.mem_map.2 ⟨z,hz,rfl⟩);have M:=Q9t hw
  have T:∀z:Ac,z.l≠a.l→((mdK D (k+1)).filter fun m=>decide (m.l=z.l))=(mdK D k).filter fun m=>decide (m.l=z.l):=fun z hz=>by
    rw[M,List.filter_append]
    have:List.filter (fun m=>decide (m.l=z.l)) [(⟨(pvP p).1,(pvP p).2,D.puts.length,vct (mdK D k) (pvP p).1+1⟩:Md)]=[]:=by
      rw[List.filter_cons_of_neg,List.filter_nil];simp only[decide_eq_true_eq];exact fun e=>hz (by rw[hal];exact e.symm)
    rw[this,List.append_nil]
  have J:∀z∈A0++A1,z∈A0++a::A1:=fun z hz=>by rcases List.mem_append.1 hz with hz|hz<;>simp[hz]
  have G:∀z∈A0++(⟨a.b,a.l,a.ix,a.pf,mv,a.es++[⟨D.puts.length,a.es.length+1,p.xu,p.x⟩]⟩:Ac)::A1,z∈A0++A1∨z=⟨a.b,a.l,a.ix,a.pf,mv,a.es++[⟨D.puts.length,a.es.length+1,p.xu,p.x⟩]⟩:=fun z hz=>by
    rcases List.mem_append.1 hz with hz|hz
    · exact .inl (by simp[hz])
    rcases List.mem_cons.1 hz with hz|hz
    · exact .inr hz
    exact .inl (by simp[hz])
  refine⟨?_,fun z hz=> ?_,fun z hz=> ?_,fun z hz q hq=> ?_⟩
  · rw[←h.am];unfold J16;rw[List.map_append,List.map_append];rfl
  · rcases G z hz with hz|rfl
    · exact h.n z (J z hz)
    exact h.n a (by simp)
  · rcases G z hz with hz|rfl
    · rw[T z (S z hz)];exact h.e z (J z hz)
    show List.map enP (a.es++_)=_;rw[List.map_append,h.e a (by simp),M,List.filter_append,List.map_append]
    congr 1
    rw[h.len (a:=a) (by simp)];show[(D.puts.length,vct (mdK D k) a.l+1,p.x)]=_;rw[List.filter_cons_of_pos (by show decide ((pvP p).1=a.l)=true;rw[hal];exact decide_eq_true rfl),List.filter_nil,hal];rfl
  rcases G z hz with hz|rfl
  · exact h.be z (J z hz) q hq
  rcases List.mem_append.1 hq with hq|hq
  · exact h.be a (by simp) q hq
  rw[List.mem_singleton.1 hq];exact(hL.bw p (List.mem_of_getElem? hp)).2
abbrev trK (D:DD)(k:Nat):TR:=ofT ((mdK D k).map D.leaf)
theorem V8i {D:DD}(h:DOk D):D.tree (D.puts.length-1)=trK D 0:=by
  have:=h.pos;unfold DD.tree DD.lvs;rw[DD.upto_all (by omega)];rfl
theorem Y0j {D:DD}{k:Nat}{p:J4a}(hp:D.waits[k]?=some p){ix:Nat}{ver:Nat}(hi:ix=ixN D.vk p.1)(hv:ver=vct (mdK D k) p.1){R:Nat}(hR:R=bnd (opn D.bk ix ((ver+1:Nat):Int)) ix ((ver+1:Nat):Int) p.2):J33 ix R (trK D k) 0=trK D (k+1):=by
  unfold trK;rw[Q9t hp,List.map_append,List.map_cons,List.map_nil,Q9u];subst hi hv;rw[hR];rfl
theorem Z4c {D:DD}:D.nxt.tree D.puts.length=trK D D.waits.length:=by
  unfold DD.tree DD.lvs trK;rw[DD.upto_all (D:=D.nxt) (by rw[DD.nxt_len];exact Nat.le_refl _),DD.made_nxt];unfold mdK;rw[List.take_length];rfl
theorem Y0k {D:DD}(h:DOk D):D.nxt.link D.puts.length=lkn D.id (D.puts.length:Int) (rs (trK D D.waits.length)) (D.link (D.puts.length-1)):=by
  have hp:=h.pos;obtain⟨n,hn⟩:∃n,D.puts.length=n+1:=⟨D.puts.length-1,by omega⟩
  rw[←Z4c,hn];show lkn D.nxt.id ((n+1:Nat):Int) (rs (D.nxt.tree (n+1))) (D.nxt.link n)=_;rw[DD.link_nxt (by omega)];rfl
def LD.nxt (y:LD)(acs:List Ac)(pv tv lv u:Value):LD:={y with acs:=acs,wv:=.slice none 0 0,pv:=pv,tv:=tv,lv:=lv,wps:=[],pvs:=y.pvs++[(y.wv,y.wps)],tus:=y.tus++[u]}
theorem Mid.done {D:DD}{y:LD}{acs:List Ac}{pv tv lv u:Value}(h:Mid D y D.waits.length acs)(hL:LOk D y):LOk D.nxt (y.nxt acs pv tv lv u) where
  w:=rfl
  p:=by show List.map _ (y.pvs++[_])=D.puts++[D.waits];rw[List.map_append,hL.p,←hL.w];rfl
  a:=by rw[DD.labs_nxt];exact h.labs hL
  n:=h.n
  e:=fun a ha=>by
    have h1:=h.e a ha;unfold mdK at h1;rw[List.take_length,←DD.made_nxt] at h1;exact h1
  i:=hL.i
  bw:=fun q hq=>by cases hq
  bp:=fun r hr q hq=>by
    rcases List.mem_append.1 hr with hr|hr
    · exact hL.bp r hr q hq
    · rw[List.mem_singleton.1 hr] at hq;exact hL.bw q hq
  be:=h.be
theorem DOk.nxt {D:DD}(h:DOk D)(he:D.puts.length≤D.E):DOk D.nxt where
  id1:=h.id1
  id2:=h.id2
  l1:=h.l1
  l2:=h.l2
  p1:=h.p1
  p2:=h.p2
  e1:=h.e1
  e2:=h.e2
  ep:=by rw[DD.nxt_len];show D.puts.length+1≤D.E+1;omega
  zero:=by
    have:=h.pos;show(D.puts++[D.waits])[0]?=_;rw[List.getElem?_append_left (by omega)];exact h.zero
  pl:=fun ps G=>by
    rcases List.mem_append.1 G with G|G
    · exact h.pl ps G
    rw[List.mem_singleton.1 G];exact h.wl
  wl:=Nat.zero_le _
  ll:=by rw[DD.labs_nxt];exact h.ll
  lab:=fun l hl=>h.lab l (by rw[DD.labs_nxt] at hl;exact hl)
  val:=fun q hq=>by
    refine h.val q ?_;have h1:q∈(D.puts++[D.waits]).flatten++[]:=hq
    rwa [List.append_nil,List.flatten_append,List.flatten_cons,List.flatten_nil,List.append_nil] at h1
end

section
set_option maxHeartbeats 3000000
set_option maxRecDepth 100000
attribute [local irreducible] wpList Z6 wpX
open S8 (Kn GA kP)
theorem V3c (o i:Nat)(v:Int)(x:List UInt8):bnd o i v x<2^256:=V7r _ _
attribute [local irreducible] eI be8 hs4 lb J3e J2f J01 xt hm pbs rs S8.kP S8.kN S8.kD ofT ebs lk0 DD.links DD.trees DD.labs DD.made DD.tree DD.link ixN pfN erN opn bnd mdp lkn
theorem Y72 {D:DD}{y:LD}{acs:List Ac}{pv tv lv u:Value}(ha:J16 acs=J16 y.acs):ldL D.nxt (y.nxt acs pv tv lv u)=[.b y.p (Q6 [.c y.uid,.a 32 D.vk,.a 32 D.bk,.c (.int .i64 (D.L:Int)),.c (.int .i64 (D.P:Int)),.c (.int .i64 (D.E:Int)),.c (.map (some y.h)),.c (.slice none 0 0),.c pv,.c tv,.c lv]) 112,J3b y.h (J16 y.acs),acT acs,enT acs,.r 115 2 (.slice none 0 0) [],.r 87 1 pv (y.pvs.map J8m++[J8m (y.wv,y.wps)]),.r 113 1 tv (y.tus.map J48++[J48 u]),.r 22 32 lv (D.links.map J46++[J46 (D.nxt.link D.puts.length)]),byT y.bs,rwT (y.pvs++[(y.wv,y.wps)]),taT (D.trees++[D.nxt.tree D.puts.length]) (y.tus++[u])]:=by
 unfold ldL;rw[DD.links_nxt,DD.trees_nxt];unfold LD.nxt;simp only[List.map_append,List.map_cons,List.map_nil,ha];rfl
theorem Y0l {ts:List TR}{us:List Value}{T:TR}{u:Value}{W:World}(h:taK ts us W)(hu:TA W T u):taK (ts++[T]) (us++[u]) W:=by
 refine⟨by rw[List.length_append,List.length_append,h.1];rfl,fun i T' u' h1 h2=> ?_⟩
 by_cases hi:i<ts.length
 ·
  rw[List.getElem?_append_left hi] at h1;rw[List.getElem?_append_left (by rw[←h.1];exact hi)] at h2;exact h.2 i T' u' h1 h2
 rw[List.getElem?_append_right (by omega)] at h1;rw[List.getElem?_append_right (by rw[←h.1];omega),←h.1] at h2;cases hj:i-ts.length with
 |zero=>rw[hj] at h1 h2;injection h1 with h1;injection h2 with h2;subst h1 h2;exact hu
 |succ j=>rw[hj] at h1;simp at h1
theorem SH.rwadd {F:List Nat}{w W:World}{H:List As}{y:LD}(h:SH F w W (.r 115 2 y.wv (y.wps.map pvC)::rwT y.pvs::H)):SH F w W (rwT (y.pvs++[(y.wv,y.wps)])::H):=by
 have h1:=h.row (i:=0) rfl;have h2:rwK y.pvs W:=(h.at_ (i:=1) rfl).1;refine SH.foldF (N:=[.r 115 2 y.wv (y.wps.map pvC),rwT y.pvs]) h (Q63 fun r hr=> ?_) fun k hk=> ?_
 ·
  rcases List.mem_append.1 hr with hr|hr
  ·
   exact h2 r hr
  rw[List.mem_singleton.1 hr];exact h1.rr
 obtain⟨r,hr,h4⟩:=List.mem_flatMap.1 hk;rcases List.mem_append.1 hr with hr|hr
 ·
  exact⟨rwT y.pvs,by simp,fun T K e=>(by cases e),List.mem_flatMap.2 ⟨r,hr,h4⟩⟩
 rw[List.mem_singleton.1 hr] at h4;exact⟨.r 115 2 y.wv (y.wps.map pvC),by simp,fun T K e=>(by cases e),Z4h h1 k h4⟩
theorem V3d {D:DD}{y:LD}{w:World}(h1:Row 115 2 w y.wv (y.wps.map pvC)):OldF (ldL D y) w (J45 (y.pvs++[(y.wv,y.wps)])):=fun k hk=>by
 obtain⟨r,hr,h4⟩:=List.mem_flatMap.1 hk;rcases List.mem_append.1 hr with hr|hr
 ·
  exact OldF.mem (x:=rwT y.pvs) (by simp) (fun T K e=>(by cases e)) (fun k hk=>hk) k (List.mem_flatMap.2 ⟨r,hr,h4⟩)
 ·
  rw[List.mem_singleton.1 hr] at h4;exact OldF.mem (x:=.r 115 2 y.wv (y.wps.map pvC)) (by simp) (fun T K e=>(by cases e)) (fun k hk=>hk) k (Z4h h1 k h4)
theorem V3e {D:DD}{y:LD}{w:World}:OldF (ldL D y) w (J3v y.bs):=OldF.mem (x:=byT y.bs) (by simp) (fun T K e=>(by cases e)) (fun k hk=>hk)
theorem Z23 {α β:Type}(f:α→β)(l:List α)(x:α):(l++[x]).map f=l.map f++[f x]:=by rw[List.map_append];rfl
theorem SH.encl19 {F:List Nat}{w W:World}{H:List As}{A0 A1:List Ac}{b ix pf:Nat}{l:List UInt8}{mv:Value}{es:List En}{x:En}(h:SH F w W (.r 130 3 mv (es.map enC++[enC x])::enT (A0++A1)::H)):SH F w W (enT (A0++⟨b,l,ix,pf,mv,es++[x]⟩::A1)::H):=by
 rw[←Z23 enC es x] at h;exact SH.enclose (a:=⟨b,l,ix,pf,mv,es++[x]⟩) h
theorem Y0m {D:DD}{k:Nat}(h:DOk D):((mdK D k).map D.leaf).length≤1000:=by rw[List.length_map];have:=h.mdK k;omega
theorem V3f {D:DD}{k:Nat}{l:List UInt8}(h:DOk D):vct (mdK D k) l≤1000:=by unfold vct;have:=List.length_filter_le (fun m:Md=>decide (m.l=l)) (mdK D k);have:=h.mdK k;omega

theorem V3g {D:DD}{y:LD}(he:D.puts.length≤D.E)(w:World)(hL:LOk D y)(hK:DOk D)(h_:SH (SH.feet (ldL D y++[gx])) w w (ldL D y++[gx])):
  Calls Tryz.prog 13 #[.pointer (some ⟨y.p,0,none⟩)] w fun e w' =>Y08 D y (.tuple #[.int .i64 (D.puts.length:Int),.int .i64 0]) D.nxt [gx] (SH.feet (ldL D y++[gx])) w w' e:=by
 have M0:=hK.pos;have M3:=hK.len;have M6:=hL.wn hK;have G6:y.pvs.length=D.puts.length:=by rw[←hL.p,List.length_map]
 have G7:=DD.trees_len D;have G8:=DD.links_len D;have hS:SH (SH.feet (ldL D y++[gx])) w w [.b y.p (Q6 [.c y.uid,.a 32 D.vk,.a 32 D.bk,.c (.int .i64 (D.L:Int)),.c (.int .i64 (D.P:Int)),.c (.int .i64 (D.E:Int)),.c (.map (some y.h)),.c y.wv,.c y.pv,.c y.tv,.c y.lv]) 112,J3b y.h (J16 y.acs),acT y.acs,enT y.acs,.r 115 2 y.wv (List.map pvC y.wps),.r 87 1 y.pv (List.map J8m y.pvs),.r 113 1 y.tv (List.map J48 y.tus),.r 22 32 y.lv (List.map J46 D.links),byT y.bs,rwT y.pvs,taT D.trees y.tus,gx]:=h_;clear h_;have ξ:Row 115 2 w y.wv (y.wps.map pvC):=hS.row (i:=4) rfl;obtain⟨Aw,cw,ew,_,G5⟩:=RR.opf ξ.rr;obtain⟨D5,D7,μ,_,Ξ⟩:=RR.opf (hS.row (i:=6) rfl).rr;obtain⟨G1,D1,ρ,_,Θ⟩:=RR.opf (hS.row (i:=7) rfl).rr;obtain⟨u0,M,M2⟩:=(DK.of (D:=D) (y:=y) (R:=[gx]) hS).tree (e:=D.puts.length-1) (by omega);have G3:=(DK.of (D:=D) (y:=y) (R:=[gx]) hS).ta.1;have G9:y.tus.length=D.puts.length:=by rw[←G3,DD.trees_len]
 obtain⟨D4,D6,β,_⟩:=Ξ.out (D.puts.length-1) u0 M;obtain⟨G0,D3,α,_⟩:=Θ.out (D.puts.length-1) _ (DD.links_at (by omega))
 go_enter Tryz.func13,Tryz.ntmps13
 go_upto_region 3 with fail;refine RL hS ?_;clear hS;(iterate 3 refine MV ?_);refine MG 0 ?_ (v:=y.lv) (hj:=(J9 (off:=72) 10));refine MF (v:=.int .i64 (D.puts.length:Int)) (fun W hS=>(by rw[show(D.puts.length:Int)=((List.map J46 D.links).length:Int) by rw[List.length_map,DD.links_len]];exact J3f (hS.row (i:=7) rfl) rfl rfl Tryz.underlying54)) ?_;refine MV ?_;refine MZ fun W hS=> ?_;go_upto_region 4 with fail;refine RL hS ?_;clear hS;(iterate 5 refine MV ?_);refine MG 0 ?_ (v:=.int .i64 (D.E:Int)) (hj:=(J9 (off:=67) 5));refine Wfo ?_;refine MZ fun W hS=> ?_;go_upto_region 6 with fail;refine RL hS ?_;clear hS;(iterate 3 refine MV ?_);refine MG 0 ?_ (v:=y.tv) (hj:=(J9 (off:=71) 9));refine MV ?_;refine MW ?_ (v:=.int .i64 ((D.puts.length-1:Nat):Int)) (hv:=by intro W;go_simp;(try simp only[IntKind.wrap_i64]);omega);refine MW ?_ (v:=.pointer (some ⟨D4,D6+(D.puts.length-1)*1,none⟩)) (hv:=fun _=>J2l β (List.getElem?_eq_some_iff.1 M).1 rfl (by exact μ) rfl Tryz.underlying110 (by kernel_rfl));refine MF (v:=u0) (fun W hS=>Z9 rfl rfl ((RR.cellat (A:=D5) (n:=y.tus.length) (c:=D7) (by have h_:=(hS.row (i:=6) rfl).rr;rw[μ] at h_;exact h_) (e:=J48 u0) (by rw[List.getElem?_map,M];rfl) β) 0 _ rfl) (by kernel_rfl)) ?_;refine MV ?_;refine MZ fun W hS=> ?_;go_upto_region 7 with fail;refine RL hS ?_;clear hS;(iterate 3 refine MV ?_);refine MG 0 ?_ (v:=y.wv) (hj:=(J9 (off:=69) 7));refine MF (v:=.int .i64 (y.wps.length:Int)) (fun W hS=>(by rw[show(y.wps.length:Int)=((List.map pvC y.wps).length:Int) by rw[List.length_map]];exact J3f (hS.row (i:=4) rfl) rfl rfl Tryz.underlying87)) ?_;refine W0 ?_;refine MZ fun W hS=> ?_;have hS:=hS.fact (TA.holds (T:=trK D 0) (u:=u0) (by rw[←V8i hK];exact(hS.at_ (i:=10) (x:=taT D.trees y.tus) rfl).1.2 (D.puts.length-1) _ _ (DD.trees_at (by omega)) M)) rfl
 go_wp2_with fail
 go_loopw [5,35] (fun uv jj wr=> ∃(k:Nat)(acs:List Ac)(u:Value),(k≤y.wps.length)∧(Mid D y k acs)∧(u=uv)∧(jj=.int .i64 (k:Int))∧SH (SH.feet (ldL D y++[gx])) w wr [.t 160 (fun W=>TA W (trK D k) u),.b y.p (Q6 [.c y.uid,.a 32 D.vk,.a 32 D.bk,.c (.int .i64 (D.L:Int)),.c (.int .i64 (D.P:Int)),.c (.int .i64 (D.E:Int)),.c (.map (some y.h)),.c y.wv,.c y.pv,.c y.tv,.c y.lv]) 112,J3b y.h (J16 y.acs),acT acs,enT acs,.r 115 2 y.wv (List.map pvC y.wps),.r 87 1 y.pv (List.map J8m y.pvs),.r 113 1 y.tv (List.map J48 y.tus),.r 22 32 y.lv (List.map J46 D.links),byT y.bs,rwT y.pvs,taT D.trees y.tus,gx])
  (fun uv jj _=>y.wps.length-(intOf jj).toNat)
 case atStart=>exact⟨0,y.acs,u0,Nat.zero_le _,Mid.start hL,rfl,rfl,hS⟩
 clear hS
 case round=>
  obtain⟨k,acs,u,hk,hM,rfl,rfl,hS⟩:=hrel
  by_cases S:k<y.wps.length
  ·
   obtain⟨p,ph⟩:∃x,y.wps[k]?=some x:=⟨_,List.getElem?_eq_getElem S⟩
   obtain⟨gw,ow,φ,_⟩:=G5.out k p ph;have Z:=List.mem_of_getElem? ph;have θ:=(hL.bw p Z).1;have χ:=(hL.bw p Z).2;have D0:=hL.wl hK p Z;have τ:D.waits[k]?=some (pvP p):=by rw[←hL.w,List.getElem?_map,ph];rfl
   have Γ:p.l∈D.labs:=DD.mem_labs.2 ⟨pvP p,List.mem_append.2 (.inr (List.mem_of_getElem? τ)),rfl⟩;obtain⟨a,ha,J⟩:=hM.acc hL Γ;have G4:=hM.mlk hL ha;have κ:=(hM.n a ha).1;have γ:=hM.len ha;obtain⟨A0,A1,rfl⟩:=List.append_of_mem ha;have η:=Q1 ((hS.pp (i:=9) rfl) _ θ);have ε:=Q1 ((hS.pp (i:=9) rfl) _ χ);go_upto_region 8 with fail;refine RL hS ?_;clear hS;refine Wto ?_;refine MZ fun W hS=> ?_;go_upto_region 9 with fail;refine RL hS ?_;clear hS;refine MW ?_ (v:=.pointer (some ⟨gw,ow+k*2,none⟩)) (hv:=fun _=>J2l φ S rfl (by exact ew) rfl Tryz.underlying87 (by kernel_rfl));refine MF (v:=.agg (Q6 [.c p.lu,.c p.xu])) (fun W hS=>J1y rfl rfl (fun i_ v hv=>(Z93 (A:=Aw) (n:=y.wps.length) (c:=cw) (by have h_:=(hS.row (i:=5) rfl).rr;rw[ew] at h_;exact h_) ph φ) i_ v (by simpa using hv)) (by kernel_rfl) (by rw[J5];kernel_rfl)) ?_;refine MN (z:=Q6 [.c (.slice none 0 0),.c (.slice none 0 0)]) (t:=115) ?_;intro M1;refine MRa 0 ?_ (h1:=by exact(V6 ⟨η.2,ε.2,trivial⟩));refine MZ fun W hS=> ?_;go_upto_region 10 with fail;refine RL hS ?_;clear hS;refine MV ?_;refine MV ?_;refine ML 0 ?_ (hs:=by rw[J5];kernel_rfl);refine MV ?_;refine MT (fun W hS=>hS.pick [4,0,1,2,3,5,6,7,8,9,10,11,12,13]) ?_;refine MT (fun W hS=>hS.acopen) ?_;refine MT (fun W hS=>hS.pick [6,0,1,2,3,4,5,7,8,9,10,11,12,13,14]) ?_;refine MT (fun W hS=>hS.enopen) ?_;obtain⟨O,hO⟩:=exn (opn D.bk a.ix ((a.es.length+1:Nat):Int));obtain⟨R,hR⟩:=exn (bnd (opn D.bk a.ix ((a.es.length+1:Nat):Int)) a.ix ((a.es.length+1:Nat):Int) p.x);refine ME (V:=fun z:Value×Value=>z.2) (fun W hS=>V8j [2,0,6,7,12,15,5] [1,3,4,8,9,10,11,13,14] hS (fun hT=>V39 (l:=p.l) hO hR (by rw[←J];exact G4) θ χ D0.2 (by rw[γ];exact V3f hK) (by rw[κ];exact V3b _ _) (by rw[hR];exact V3c _ _ _ _) (V3h (Y0m hK)) (V3i (Y0m hK)) W hT) (fun _=>⟨.inr (.inl ⟨rfl,rfl⟩),.inr (.inl ⟨rfl,rfl⟩),.inl (by simp),.inl (by simp),.inl (by simp),.inl (by simp),.inr (.inr ⟨_,_,rfl,rfl⟩),trivial⟩)) ?_;rintro⟨U,u2⟩;dsimp only[List.cons_append,List.nil_append];have D9:=hM.step (mv:=U) hL ph J;refine MT (fun W hS=>hS.pick [0,8,1,2,3,4,5,6,7,9,10,11,12,13,14,15]) ?_;refine MT (fun W hS=>SH.acclose (a:=⟨a.b,a.l,a.ix,a.pf,U,a.es++[⟨D.puts.length,a.es.length+1,p.xu,p.x⟩]⟩) hS) ?_;refine MT (fun W hS=>hS.pick [1,7,0,2,3,4,5,6,8,9,10,11,12,13,14]) ?_;refine MT (fun W hS=>SH.encl19 (b:=a.b) (l:=a.l) (ix:=a.ix) (pf:=a.pf) hS) ?_;have Δ:J33 a.ix R (trK D k) 0=trK D (k+1):=Y0j (p:=pvP p) (ver:=a.es.length) τ (by rw[κ,J]) (by rw[γ,J]) hR;clear hR hO;refine MT (fun W hS=>by rw[Δ] at hS;exact hS) ?_;refine MV ?_;refine MZ fun W hS=> ?_;go_wp2;go_roundw
   case rel=>exact⟨(k+1),(A0++⟨a.b,a.l,a.ix,a.pf,U,a.es++[⟨D.puts.length,a.es.length+1,p.xu,p.x⟩]⟩::A1),u2,by omega,D9,rfl,by go_num,(hS.pick [6,2,3,1,0,8,9,10,11,4,12,13,5])⟩
   case measure=>simp[intOf];omega
  obtain rfl:k=y.wps.length:=by omega
  go_upto_region 8 with fail;refine RL hS ?_;clear hS;refine Wfo ?_;refine MZ fun W hS=> ?_;go_upto_region 12 with fail;refine RTh (.vq 0 (.q 1 (.q 2 (.q 3 (.q 4 (.q 5 (.q 6 (.q 7 (.q 8 (.e 9 (.kq 10 (.q 11 (.q 12 (.e 13 .z)))))))))))))) hS ?_;clear hS;refine TvV ?_;(iterate 3 refine TV ?_);refine TG 1 ?_ (v:=y.pv) (hj:=(J9 (off:=70) 8));(iterate 3 refine TV ?_);refine TG 1 ?_ (v:=y.wv) (hj:=(J9 (off:=69) 7));refine TE (fun _ h=>h) ?_;refine MB (z:= #[y.wv]) (t:=87) (n:=1) (c:=1) ?_ (hr:=fun W hS=>J0a [y.wv] rfl rfl (vsc (Row.cells (hS.row (i:=5) rfl)).1 vs0) Tryz.underlying109 (by kernel_rfl) (by kernel_rfl) rfl (by decide) (by decide));intro M4;refine TNh (fun W hS=>hS.pick [1,2,3,4,5,6,7,8,9,10,11,12,13]) ?_;refine TK (fun _ h=>h) ?_;refine J0g (fun W hS=>(Row.cells (hS.row (i:=6) rfl)).2) ?_;intro δ;refine MAr 7 0 (tS:=109) (bytes:=24) (es:=(List.map J8m y.pvs)) (by first|omega|(simp only[lA,lM,lT,lD,lC,lN,J6,K5,V0,V1];omega)) (e:=([y.wv]:List Value)) (h1:=Y73 δ) ?_;intro G;refine Y06 [0,1,3,4,5,6,7,8,9,10,11,12,13] ?_;refine TV ?_;refine TV ?_;refine TE (fun _ h=>h.pick [0,1,3,4,5,6,7,8,9,10,11,12,13]) ?_;refine J0g (fun W hS=>(Row.cells (hS.row (i:=7) rfl)).2) ?_;intro Ψ;refine MP 2 (v:=G) (cs' :=Q6 [.c y.uid,.a 32 D.vk,.a 32 D.bk,.c (.int .i64 (D.L:Int)),.c (.int .i64 (D.P:Int)),.c (.int .i64 (D.E:Int)),.c (.map (some y.h)),.c y.wv,.c G,.c y.tv,.c y.lv]) ?_ (hs:=agl) (hc:=J0e (off:=70) 8) (hv:=fun W hS=>Row.cells (hS.row (i:=7) rfl));refine TNp [0,1,3,4,5,6,7,8,9,10,11,12,13] [0,1,2,3,4,5,6,7,8,9,10,11,12] ?_;refine TZ (fun _ h=>h.pick [0,1,3,4,5,6,7,8,9,10,11,12,13]) fun W hS=> ?_;go_upto_region 13 with fail;refine RL hS ?_;clear hS;(iterate 3 refine MV ?_);refine MP 2 (v:=.slice none 0 0) (cs' :=Q6 [.c y.uid,.a 32 D.vk,.a 32 D.bk,.c (.int .i64 (D.L:Int)),.c (.int .i64 (D.P:Int)),.c (.int .i64 (D.E:Int)),.c (.map (some y.h)),.c (.slice none 0 0),.c G,.c y.tv,.c y.lv]) ?_ (hs:=agl) (hc:=J0e (off:=69) 7);refine MZ fun W hS=> ?_;go_upto_region 14 with fail;refine RL hS ?_;clear hS;(iterate 4 refine MV ?_);refine MG 2 ?_ (v:=y.tv) (hj:=(J9 (off:=71) 9));refine MV ?_;refine MB (z:= #[u]) (t:=113) (n:=1) (c:=1) ?_ (hr:=fun W hS=>J0a [u] rfl rfl (vsc (TA.one (hS.tt (i:=1) rfl)).1 vs0) Tryz.underlying110 (by kernel_rfl) (by kernel_rfl) rfl (by decide) (by decide));intro M5;refine J0g (fun W hS=>(TA.one (hS.tt (i:=2) rfl)).2) ?_;intro ζ;refine MAr 9 0 (tS:=110) (bytes:=8) (es:=(List.map J48 y.tus)) (by first|omega|(simp only[lA,lM,lT,lD,lC,lN,J6,K5,V0,V1];omega)) (e:=([u]:List Value)) (h1:=Y73 ζ) ?_;intro N;refine MV ?_;refine MV ?_;refine J0g (fun W hS=>(Row.cells (hS.row (i:=9) rfl)).2) ?_;intro Ω;refine MP 3 (v:=N) (cs' :=Q6 [.c y.uid,.a 32 D.vk,.a 32 D.bk,.c (.int .i64 (D.L:Int)),.c (.int .i64 (D.P:Int)),.c (.int .i64 (D.E:Int)),.c (.map (some y.h)),.c (.slice none 0 0),.c G,.c N,.c y.lv]) ?_ (hs:=agl) (hc:=J0e (off:=71) 9) (hv:=fun W hS=>Row.cells (hS.row (i:=9) rfl));refine MZ fun W hS=> ?_;go_upto_region 15 with fail;refine RTh (.vq 0 (.q 1 (.q 2 (.q 3 (.q 4 (.q 5 (.q 6 (.q 7 (.q 8 (.q 9 (.q 10 (.q 12 (.q 13 (.q 14 (.q 15 (.q 16 (.q 17 (.q 18 (.q 19 (.e 11 (.e 20 (.e 21 (.kq 22 (.q 23 (.q 24 (.e 25 .z)))))))))))))))))))))))))) hS ?_;clear hS;refine TvV ?_;(iterate 3 refine TV ?_);refine TG 3 ?_ (v:=y.lv) (hj:=(J9 (off:=72) 10));(iterate 3 refine TV ?_);refine TG 3 ?_ (v:=y.uid) (hj:=(J9 (off:=0) 0));(iterate 5 refine TV ?_);refine TG 3 ?_ (v:=y.lv) (hj:=(J9 (off:=72) 10));refine TV ?_;refine TW ?_ (v:=.int .i64 ((D.puts.length-1:Nat):Int)) (hv:=by intro W;go_simp;(try simp only[IntKind.wrap_i64]);omega);refine TW ?_ (v:=.pointer (some ⟨G0,D3+(D.puts.length-1)*32,none⟩)) (hv:=fun _=>J2l α (show D.puts.length-1<D.links.length by rw[DD.links_len];omega) rfl (by exact ρ) rfl Tryz.underlying54 (by kernel_rfl));refine TF (v:=.agg (J0 .u8 32 (J7 (D.link (D.puts.length-1))))) rfl (fun W hS=>J1y rfl rfl (fun i_ v hv=>(RR.cellat (A:=G1) (n:=D.links.length) (c:=D1) (by have h_:=(hS.row (i:=10) rfl).rr;rw[ρ] at h_;exact h_) (e:=J46 (D.link (D.puts.length-1))) (by rw[List.getElem?_map,DD.links_at (by omega)];rfl) α) i_ v (by simpa using hv)) (by kernel_rfl) (by rw[J1];kernel_rfl)) ?_;refine TE (fun _ h=>h) ?_;obtain⟨U1,ν⟩:=exh (rs (trK D y.wps.length));refine MC (v:=.agg (J0 .u8 32 (J7 U1))) (fun W hS=>(by rw[ν.out];exact Q7g W (hS.pp (i:=14) rfl).gt (hS.tt (i:=2) rfl))) ?_;refine TNh (fun W hS=>hS) ?_;refine TE (fun _ h=>h) ?_;obtain⟨U2,σ⟩:=exh (lkn D.id (D.puts.length:Int) U1 (D.link (D.puts.length-1)));refine MC (v:=.agg (J0 .u8 32 (J7 U2))) (fun W hS=>Y6q σ.out W (hS.pp (i:=14) rfl).gt ((hS.pp (i:=11) rfl) _ hL.i) (by have h_:=hK.id2;omega)) ?_;refine TNh (fun W hS=>hS) ?_;refine TE (fun _ h=>h) ?_;refine MB (z:=(J0 .u8 32 (J7 U2))) (t:=22) (n:=1) (c:=1) ?_ (hr:=fun W _=>J2s rfl rfl rfl Tryz.underlying54 (by rw[J1];kernel_rfl) (by rw[J1];kernel_rfl) (by rw[J1];decide) (by rw[J1];decide));intro M7;refine TNh (fun W hS=>hS.pick [1,2,3,4,5,6,7,8,9,10,11,12,13,14,15]) ?_;refine TK (fun _ h=>h) ?_;refine MAr 11 0 (tS:=54) (bytes:=32) (es:=(List.map J46 D.links)) (by first|omega|(simp only[lA,lM,lT,lD,lC,lN,J6,K5,V0,V1];omega)) (e:=J46 U2) (hk:=J1 _ _ _) (h1:=by exact J04 _ _ _) ?_;intro Y;refine Y06 [0,1,2,3,5,6,7,8,9,10,11,12,13,14,15] ?_;refine TV ?_;refine TV ?_;refine TE (fun _ h=>h.pick [0,1,2,3,5,6,7,8,9,10,11,12,13,14,15]) ?_;refine J0g (fun W hS=>(Row.cells (hS.row (i:=11) rfl)).2) ?_;intro ω;refine MP 4 (v:=Y) (cs' :=Q6 [.c y.uid,.a 32 D.vk,.a 32 D.bk,.c (.int .i64 (D.L:Int)),.c (.int .i64 (D.P:Int)),.c (.int .i64 (D.E:Int)),.c (.map (some y.h)),.c (.slice none 0 0),.c G,.c N,.c Y]) ?_ (hs:=agl) (hc:=J0e (off:=72) 10) (hv:=fun W hS=>Row.cells (hS.row (i:=11) rfl));refine TNp [0,1,2,3,5,6,7,8,9,10,11,12,13,14,15] [0,1,2,3,4,5,6,7,8,9,10,11,12,13,14] ?_;refine TZ (fun _ h=>h.pick [0,1,2,3,5,6,7,8,9,10,11,12,13,14,15]) fun W hS=> ?_;have hA:=hS.pick [8,13,0,1,2,3,4,5,6,7,9,10,11,12,14,15];have hB:=hA.rwadd;have X:y.wps.length=D.waits.length:=by rw[←hL.w,List.length_map]
  have G2:U2=D.nxt.link D.puts.length:=by rw[Y0k hK,σ.out,ν.out,X]
  have hT:=hB.tt (i:=4) rfl;rw[X,←Z4c] at hT;have hC:=hB.rnil 115 2 rfl;have D8:=hC.fact (Q64 (Y0l (hC.at_ (i:=14) (x:=taT D.trees y.tus) rfl).1 hT)) rfl;have hE:=D8.pick [7,8,9,10,1,11,12,13,14,2,0,16];rw[G2] at hE;have ψ:Mid D y D.waits.length acs:=by rw[←X];exact hM
  go_wp2;exact bodyPost_ret (v:=.tuple #[.int .i64 (D.puts.length:Int),.int .i64 0]) (by simp only[results,Tryz.results13];go_simp) rfl ⟨y.nxt acs G N Y u,rfl,ψ.done hL,rfl,by rw[Y72 ψ.am];exact hE,V3e,V3d ξ⟩
end

section
attribute [local irreducible] wpList Z6 wpX
section
variable {P : Program} {ops : Array Oper} {md : Region.Mode}
end
section
variable {P : Program} {ops : Array Oper} {Q : Exit → Act → World → Prop} {E : Act → World → Prop} {F : List Nat} {w : World} {H : List As} {l : List Oper} {o : Oper} {a a' : Act} {b : Bool} {bs : List Bool}
end
end
end Go.Proofs.YtlkbneflnjmgbaaGreatDoor

/- Contracts and plain laws for custumalPast_holds. Conditions: the tables hold their numbers. -/
import Derived.Test.YteehbddkcnkhfaaGreatDoorJ20
open Go.RowKit
set_option maxRecDepth 100000
set_option linter.unusedSimpArgs false
set_option linter.unusedVariables false
namespace Go.Proofs.YteehbddkcnkhfaaGreatDoor
section
def mlk:List (List UInt8×Nat)→List UInt8→Option Nat
  |[],_=>none
  |x::m,k=>if x.1=k then some x.2 else mlk m k
def mpt (o:Option Nat):Value:=match o with
  |none=> .pointer none
  |some b=> .pointer (some ⟨b,0,none⟩)
def Q2o (h:Nat)(m:List (List UInt8×Nat))(W:World):Prop:=∃es clock,W.heap[h]?=some (.map es clock)∧es.toList.map (fun e=>(e.key,e.val))=m.map fun x=>(str x.1,mpt (some x.2))
abbrev J2b (h:Nat)(m:List (List UInt8×Nat)):As:=.m none [h] (Q2o h m)
theorem Z1v {W:World}{h:Nat}{m:List (List UInt8×Nat)}(hm:Q2o h m W):h<W.heap.size:=by
  obtain⟨es,c,h1,_⟩:=hm;exact(Array.getElem?_eq_some_iff.1 h1).1
theorem Q2u {W:World}{h:Nat}{m:List (List UInt8×Nat)}(hm:Q2o h m W):(J2b h m).holds W:=by
  refine⟨hm,fun k hk=>by rw[List.mem_singleton.1 hk];exact Z1v hm,fun k hk=> ?_,fun W' hs he=> ?_⟩
  · obtain⟨es,c,h1,_⟩:=hm;rw[List.mem_singleton.1 hk];unfold J8q;rw[h1]
  obtain⟨es,c,h1,h2⟩:=hm;exact⟨es,c,by rw[he h (by simp)];exact h1,h2⟩
theorem Z7m {k:List UInt8}:∀(l:List MapEntry) (m:List (List UInt8×Nat)) (i:Nat),l.map (fun e=>(e.key,e.val))=m.map (fun x=>(str x.1,mpt (some x.2)))→
    (mlk m k=none∧Instr.findNow .string (str k) l i=some none)∨∃b j e,mlk m k=some b∧Instr.findNow .string (str k) l i=some (some (i+j,mpt (some b)))∧l[j]?=some e∧e.key=str k∧e.val=mpt (some b)
  |[],[],_,_=> .inl ⟨rfl,rfl⟩
  |[],_::_,_,h=>by cases h
  |_::_,[],_,h=>by cases h
  |e::l,x::m,i,h=>by
    rw[List.map_cons,List.map_cons] at h;injection h with h1 h2
    injection h1 with hk hv
    have hn:Instr.sameNow .string (str k) e.key=some (decide (k=x.1)):=by
      rw[hk];unfold str;show some (_==_)=_
      congr 1
      rw[Bool.eq_iff_iff,MapKept.bytes_beq,decide_eq_true_iff];exact⟨fun h=>by injection h with h;injection h,fun h=>by rw[h]⟩
    by_cases hx:x.1=k
    · refine .inr ⟨x.2,0,e,by unfold mlk;rw[if_pos hx],?_,rfl,by rw[hk,hx],hv⟩
      unfold Instr.findNow;rw[hn,decide_eq_true hx.symm,hv];rfl
    have hf:Instr.findNow .string (str k) (e::l) i=Instr.findNow .string (str k) l (i+1):=by
      conv=>lhs;unfold Instr.findNow
      rw[hn,decide_eq_false (fun h=>hx h.symm)]
    have hm:mlk (x::m) k=mlk m k:=by
     conv=>lhs;unfold mlk
     rw[if_neg hx]
    rw[hf,hm];rcases Z7m l m (i+1) h2 with⟨h3,h4⟩|⟨b,j,e',h3,h4,h5,h6,h7⟩
    · exact .inl ⟨h3,h4⟩
    exact .inr ⟨b,j+1,e',h3,by rw[h4];congr 3;omega,by simpa using h5,h6,h7⟩
section
variable {P : Program} {W : World} {h : Nat} {m : List (List UInt8 × Nat)} {tm kt et : TypeId} {a : Act} {o : Oper} {k : List UInt8}
theorem J3h {x y:Operand}(hm:Q2o h m W)(ht:P.underlying tm=some (.map kt et))(hk:P.underlying kt=some .string)(hz:(P.info? et).map (·.zero)=some (some (.pointer none)))(ho:o.op=.lookup tm x y false)(hx:a.eval x=.map (some h))(hy:a.eval y=str k):
    (execOp a.eval o).run P W=.ok (.value (mpt (mlk m k))) W:=by
  obtain⟨es,c,h1,h2⟩:=hm;have D:∀e,(Instr.checkKey e 10000 kt (str k)).run P W=.ok () W:=fun e=>MapKept.run_checkKey (k:=str k) hk (by simp[MapKept.IsKey,str]) e 9999
  have G:(zeroValue et).run P W=.ok (.pointer none) W:=by
    cases hq:P.info? et with
    |none=>simp[hq] at hz
    |some i=>
      have hz' :i.zero=some (.pointer none):=by simpa[hq] using hz
      simp[zeroValue,typeInfo,hq,hz',Sem.run_bind]
  have hr:(Instr.lookup tm (.map (some h)) (str k) false).run P W=.ok (mpt (mlk m k)) W:=by
    rcases Z7m (k:=k) es.toList m 0 h2 with⟨h3,h4⟩|⟨b,j,e',h3,h4,h5,h6,h7⟩
    · rw[h3];simp[Instr.lookup,run_underlying ht,MapKept.run_getObj_map h1,D,MapKept.run_findKey hk h4,G,Result.andThen,mpt]
    rw[h3];simp[Instr.lookup,run_underlying ht,MapKept.run_getObj_map h1,D,MapKept.run_findKey hk h4,Result.andThen,mpt]
  simp[execOp,ho,hx,hy,hr,Sem.run_bind]
theorem Q2r {x:Operand}{ty:TypeId}(hm:Q2o h m W)(ht:P.underlying tm=some (.map kt et))(hty:o.type=ty)(ho:o.op=.call {callee:=.builtin .len,args:= #[x],argTypes:= #[tm]})(hx:a.eval x=.map (some h)):
    (execOp a.eval o).run P W=.ok (.value (.int .i64 (m.length:Int))) W:=by
  obtain⟨es,c,h1,h2⟩:=hm;have hl:es.size=m.length:=by have:=congrArg List.length h2;rw[List.length_map,List.length_map,Array.length_toList] at this;exact this
  unfold execOp;simp[ho,resolve,invoke,builtin,Sem.run_bind,hx,Builtin.len_,run_underlying ht,MapKept.run_getObj_map h1,goInt,Result.andThen,hl]
end
def mst (m:List (List UInt8×Nat))(k:List UInt8)(b:Nat):List (List UInt8×Nat):=match mlk m k with
  |none=>m++[(k,b)]
  |some _=>m
section
variable {P : Program} {ops : Array Oper} {Q : Exit → Act → World → Prop} {w : World} {r : List Oper} {o : Oper} {a a' : Act} {F : List Nat} {H H' : List As} {h : Nat} {m : List (List UInt8 × Nat)} {tm kt et : TypeId} {k : List UInt8} {b : Nat}
theorem Y3s {W:World}(hm:Q2o h m W)(ht:P.underlying tm=some (.map kt et))(hk:P.underlying kt=some .string)(hb:mlk m k=none∨mlk m k=some b):
    ∃W',(Instr.mapUpdate tm (.map (some h)) (str k) (mpt (some b))).run P W=.ok () W' ∧Off [h] W W' ∧Q2o h (mst m k b) W' :=by
  obtain⟨es,c,h1,h2⟩:=hm;have J:(Instr.checkKey false 10000 kt (str k)).run P W=.ok () W:=MapKept.run_checkKey (k:=str k) hk (by simp[MapKept.IsKey,str]) false 9999
  have D:∀ob:Obj,Off [h] W {W with heap:=W.heap.setIfInBounds h ob}:=fun ob=>⟨rfl,rfl,rfl,by simp,fun k _ hk=>by
    show(W.heap.setIfInBounds h ob)[k]?=_
    rw[Array.getElem?_setIfInBounds_ne (fun e=>hk (by rw[e];simp))]⟩
  have G:∀ob:Obj,(W.heap.setIfInBounds h ob)[h]?=some ob:=fun ob=>(MapKept.heap_set h1).1;rcases Z7m (k:=k) es.toList m 0 h2 with⟨h3,h4⟩|⟨b',j,e',h3,h4,h5,h6,h7⟩
  · refine⟨{W with heap:=W.heap.setIfInBounds h (.map (es.push {key:=str k,val:=mpt (some b),born:=c}) (c+1))},?_,D _,?_⟩
    · have h5:=MapKept.run_findKey (w:=W) hk h4
      simp[Instr.mapUpdate,run_underlying ht,MapKept.run_getObj_map h1,J,h5,MapKept.run_setObj_map _ h1,Result.andThen]
    refine⟨_,_,G _,?_⟩;unfold mst;rw[h3,Array.toList_push,List.map_append,List.map_append,h2];rfl
  rw[Nat.zero_add] at h4;have N:b' =b:=by rcases hb with hb|hb<;>rw[h3] at hb<;>cases hb;rfl
  subst N;have h8:es[j]?=some e' :=by rw[←Array.getElem?_toList];exact h5
  have hs:Instr.sameBits 10000 (str k) (str k)=true:=by unfold str Instr.sameBits;exact(MapKept.bytes_beq _ _).2 rfl
  have M:(Instr.keyThatStays (((es[j]?).map (·.key)).getD (str k)) (str k)).run P W=.ok (str k) W:=by
    rw[h8];show(Instr.keyThatStays e'.key (str k)).run P W=_
    rw[h6];unfold Instr.keyThatStays;rw[if_pos hs];rfl
  refine⟨{W with heap:=W.heap.setIfInBounds h (.map (es.modify j fun e=>{e with key:=str k,val:=mpt (some b')}) c)},?_,D _,?_⟩
  · have h9:=MapKept.run_findKey (w:=W) hk h4
    simp[Instr.mapUpdate,run_underlying ht,MapKept.run_getObj_map h1,J,h9,M,MapKept.run_setObj_map _ h1,Result.andThen]
  refine⟨_,_,G _,?_⟩;unfold mst;rw[h3,←h2];apply List.ext_getElem?;intro i;rw[List.getElem?_map,List.getElem?_map,Array.getElem?_toList,Array.getElem?_toList,Array.getElem?_modify]
  split
  · subst_vars;rw[h8,←h6,←h7];rfl
  rfl
theorem MMU (i:Nat){x y z:Operand}(hb:mlk m k=none∨mlk m k=some b)(ht:P.underlying tm=some (.map kt et))(hk:P.underlying kt=some .string)(hh:wpM P ops (.L Q) F w H' r a')(hi:H[i]?=some (J2b h m):=by exact rfl)(hw:Region.wanted o (yielded ops a.tmps)=true:=by exact rfl)
    (ho:o.op=.mapUpdate tm x y z:=by exact rfl) (hx:a.eval x=.map (some h):=by exact rfl) (hy:a.eval y=str k:=by exact rfl) (hz:a.eval z=mpt (some b):=by exact rfl)
    (hH:H.set i (J2b h (mst m k b))=H' :=by dsimp only[sB,sC];first|done|exact rfl) (hp:a.put o.dst undef=a' :=by first|exact pl (by dsimp only[mB,mC];first|done|exact rfl)|exact pn|exact rfl):wpM P ops (.L Q) F w H (o::r) a:=by
  subst hp hH;intro W hS;obtain⟨W',h1,h2,h3⟩:=Y3s (k:=k) (b:=b) (hS.at_ hi).1 ht hk hb;have hr:(execOp a.eval o).run P W=.ok .skip W' :=by simp[execOp,ho,hx,hy,hz,h1,Sem.run_bind]
  show wpList P ops Q (o::r) a W;unfold wpList;rw[if_pos hw];refine .inl ?_;unfold Oper.wp;rw[hr];exact hh W' (hS.set hi rfl h2 (fun k hk _=>hk) (Q2u h3) (fun k hk _=>hk) (.inr rfl) (fun _ _ e=>by cases e))
theorem MMN {t:TypeId}{a' :Nat→Act}(hh:∀b,wpM P ops (.L Q) F w (J2b b []::H) r (a' b))(ht:H.all (SH.tyOk (J2b 0 []))=true:=by exact rfl)(hw:Region.wanted o (yielded ops a.tmps)=true:=by exact rfl)(ho:o.op=.makeMap t none:=by exact rfl)
    (hp:∀b,a.put o.dst (.map (some b))=a' b:=by intro b;first|exact pl (by dsimp only[mB,mC];first|done|exact rfl)|exact pn|exact rfl):wpM P ops (.L Q) F w H (o::r) a:=by
  intro W hS;refine J5i hw (v:=.map (some W.heap.size)) (W:=W.alloc (.map #[] 0)) (by simp[execOp,ho,Instr.makeMap,Sem.run_bind]) ?_;rw[hp];have hK:Q2o W.heap.size [] (W.alloc (.map #[] 0)):=⟨#[],0,(MapKept.heap_alloc W _).1,rfl⟩
  exact hh _ _ (hS.new (x:=J2b W.heap.size []) (Q0p _ _) (Q2u hK) (fun k hk=>by rw[List.mem_singleton.1 hk];exact Nat.le_refl _) rfl ht)
end
end

section
theorem J8u {P:Program}{ops:Array Oper}{K:Act→World→Prop}{F:List Nat}{w:World}{G H:List As}{t:Tr}{a:Act}{p:Prop}(hp:∀W,SH F w W H→p)(h:p→wpP P ops K F w G H t a):wpP P ops K F w G H t a:=⟨fun W hS=>(h (hp W hS)).1 W hS,fun W hS=>(h (hp W hS)).2 W hS⟩
structure En where
  ep:Nat
  ver:Nat
  u:Value
  x:List UInt8
structure Ac where
  b:Nat
  l:List UInt8
  ix:Nat
  pf:Nat
  mv:Value
  es:List En
structure Pv where
  lu:Value
  xu:Value
  l:List UInt8
  x:List UInt8
abbrev enF (e:En):Array Value:=Q7 [.c (.int .i64 (e.ep:Int)),.c (.int .i64 (e.ver:Int)),.c e.u]
def enC (e:En):List Value:=fcs [.c (.int .i64 (e.ep:Int)),.c (.int .i64 (e.ver:Int)),.c e.u]
abbrev acF (a:Ac):Array Value:=Q7 [.a 32 a.ix,.a 80 a.pf,.c a.mv]
abbrev pvF (p:Pv):Array Value:=Q7 [.c p.lu,.c p.xu]
def pvC (p:Pv):List Value:=fcs [.c p.lu,.c p.xu]
theorem Y3r {ps:List Pv}:∀e∈ps.map pvC,e.length=2:=fun e he=>by obtain⟨y,_,rfl⟩:=List.mem_map.1 he;rfl
theorem Y6y {e:En}:∀(i:Nat) (v:Value),(enF e)[i]?=some v→(enC e)[i]?=some v:=fun i v h=>by unfold enC;rw[←J9j,Array.getElem?_toList];exact h
theorem V4j {p:Pv}:∀(i:Nat) (v:Value),(pvF p)[i]?=some v→(pvC p)[i]?=some v:=fun i v h=>by unfold pvC;rw[←J9j,Array.getElem?_toList];exact h
theorem Z01 {w W:World}{v:Value}{l:List UInt8}(h:Own w v l)(e:∀b,v.ownBlock=some b→W.heap[b]?=w.heap[b]?):Own W v l:=by
  obtain⟨h1,h2⟩:=h;refine⟨h1,h2.imp id ?_⟩;rintro⟨g,G,D,rfl,hb,hh,r⟩;exact⟨g,G,D,rfl,hb,by rw[e g rfl];exact hh,r⟩
theorem Z7j {t:TypeId}{k:Nat}{w W:World}{v:Value}{es:List (List Value)}(h:Row t k w v es)(e:∀b,v.ownBlock=some b→W.heap[b]?=w.heap[b]?):Row t k W v es:=by
  refine⟨⟨h.1.1,h.1.2.imp id ?_⟩,h.2⟩;rintro⟨g,G,D,rfl,hb,hh,r⟩;exact⟨g,G,D,rfl,hb,by rw[e g rfl];exact hh,r⟩
theorem Z7k {w W:World}{b:Nat}{c:Array Value}{t:TypeId}(h:Blk w b c t)(e:W.heap[b]?=w.heap[b]?):Blk W b c t:=e.trans h
def acK (acs:List Ac)(W:World):Prop:=(∀a∈acs,Blk W a.b (acF a) 119)∧(acs.map (·.b)).Nodup
abbrev acT (acs:List Ac):As:=.m (some 119) (acs.map (·.b)) (acK acs)
theorem J8e {acs:List Ac}{w:World}(h:acK acs w):(acT acs).holds w:=by
  refine⟨h,fun k hk=> ?_,fun k hk=> ?_,fun W' _ e=>⟨fun a ha=>Z7k (h.1 a ha) (e a.b (List.mem_map.2 ⟨a,ha,rfl⟩)),h.2⟩⟩
  · obtain⟨a,ha,rfl⟩:=List.mem_map.1 hk;exact Q2 (h.1 a ha)
  obtain⟨a,ha,rfl⟩:=List.mem_map.1 hk;exact As.tyOf (x:=.b a.b (acF a) 119) (h.1 a ha) rfl a.b (by simp[As.foot])
def V95 (acs:List Ac):List Nat:=acs.flatMap fun a=>a.mv.ownBlock.toList
def enK (acs:List Ac)(W:World):Prop:=(∀a∈acs,Row 101 3 W a.mv (a.es.map enC))∧acs.Pairwise fun a b=> ∀k∈a.mv.ownBlock.toList,k∉b.mv.ownBlock.toList
abbrev enT (acs:List Ac):As:=.m (some 101) (V95 acs) (enK acs)
theorem J8f {acs:List Ac}{w:World}(h:enK acs w):(enT acs).holds w:=by
  refine⟨h,fun k hk=> ?_,fun k hk=> ?_,fun W' _ e=>⟨fun a ha=>Z7j (h.1 a ha) fun b hb=>e b (List.mem_flatMap.2 ⟨a,ha,by rw[hb];simp⟩),h.2⟩⟩
  · obtain⟨a,ha,h1⟩:=List.mem_flatMap.1 hk;exact As.lt (x:=.r 101 3 a.mv (a.es.map enC)) (h.1 a ha) k h1
  obtain⟨a,ha,h1⟩:=List.mem_flatMap.1 hk;exact As.tyOf (x:=.r 101 3 a.mv (a.es.map enC)) (h.1 a ha) rfl k h1
def J90 (bs:List (Value×List UInt8)):List Nat:=bs.flatMap fun b=>(sb b.1 b.2).toList
def byK (bs:List (Value×List UInt8))(W:World):Prop:=∀b∈bs,Sl W b.1 b.2
abbrev byT (bs:List (Value×List UInt8)):As:=.p (J90 bs) (byK bs)
theorem Q4l {bs:List (Value×List UInt8)}{w:World}(h:byK bs w):(byT bs).holds w:=by
  refine⟨h,fun k hk=> ?_,fun W' _ e b hb=>J8d (h b hb) fun k hk=>e k (List.mem_flatMap.2 ⟨b,hb,by rw[hk];simp⟩)⟩;obtain⟨b,hb,h1⟩:=List.mem_flatMap.1 hk;exact Sl.lt (h b hb) k (As.mem_toList h1)
def J9l (rs:List (Value×List Pv)):List Nat:=rs.flatMap fun r=>fbR r.1 (r.2.map pvC)
def rwK (rs:List (Value×List Pv))(W:World):Prop:=∀r∈rs,RR 2 W r.1 (r.2.map pvC)
abbrev rwT (rs:List (Value×List Pv)):As:=.p (J9l rs) (rwK rs)
theorem Q4m {rs:List (Value×List Pv)}{w:World}(h:rwK rs w):(rwT rs).holds w:=by
  have h1:∀r∈rs,(As.p (fbR r.1 (r.2.map pvC)) fun W=>RR 2 W r.1 (r.2.map pvC)).holds w:=fun r hr=>RR.pholds (by decide) Y3r (h r hr);refine⟨h,fun k hk=> ?_,fun W' hs e r hr=>(h1 r hr).2.2 W' hs fun k hk=>e k (List.mem_flatMap.2 ⟨r,hr,hk⟩)⟩;obtain⟨r,hr,h2⟩:=List.mem_flatMap.1 hk;exact(h1 r hr).2.1 k h2
def taK (ts:List TR)(us:List Value)(W:World):Prop:=ts.length=us.length∧∀(i:Nat) (T:TR) (u:Value),ts[i]?=some T→us[i]?=some u→TA W T u
abbrev taT (ts:List TR)(us:List Value):As:=.t 181 (taK ts us)
theorem Q4n {ts:List TR}{us:List Value}{w:World}(h:taK ts us w):(taT ts us).holds w:=
  ⟨h,fun W' hs e=>⟨h.1,fun i T u h1 h2=>(h.2 i T u h1 h2).keep e⟩⟩
def V96 (bs:List (Value×List UInt8)):List Nat:=bs.flatMap fun b=>b.1.ownBlock.toList
def obK (bs:List (Value×List UInt8))(W:World):Prop:=(∀b∈bs,Own W b.1 b.2)∧bs.Pairwise fun a b=> ∀k∈a.1.ownBlock.toList,k∉b.1.ownBlock.toList
abbrev obT (bs:List (Value×List UInt8)):As:=.m (some 5) (V96 bs) (obK bs)
theorem Q4p {bs:List (Value×List UInt8)}{w:World}(h:obK bs w):(obT bs).holds w:=by
  refine⟨h,fun k hk=> ?_,fun k hk=> ?_,fun W' _ e=>⟨fun b hb=>Z01 (h.1 b hb) fun k hk=>e k (List.mem_flatMap.2 ⟨b,hb,by rw[hk];simp⟩),h.2⟩⟩
  · obtain⟨b,hb,h1⟩:=List.mem_flatMap.1 hk;exact As.lt (x:=.o b.1 b.2) (h.1 b hb) k h1
  obtain⟨b,hb,h1⟩:=List.mem_flatMap.1 hk;exact As.tyOf (x:=.o b.1 b.2) (h.1 b hb) rfl k h1
theorem SH.obnil {F:List Nat}{w W:World}{H:List As}(h:SH F w W H)(ht:H.all (fun y=>SH.tyOk (obT []) y)=true):SH F w W (obT []::H):=h.mnil (some 5) (Q4p (bs:=[]) ⟨fun y hy=>(by cases hy),.nil⟩) ht
theorem SH.obadd {F:List Nat}{w W:World}{H:List As}{bs:List (Value×List UInt8)}{v:Value}{l:List UInt8}(h:SH F w W (.o v l::obT bs::H)):SH F w W (obT (bs++[(v,l)])::H):=by
  have h1:=h.own (i:=0) rfl;have h2:obK bs W:=(h.at_ (i:=1) rfl).1;have ha:=(h.ap2 (i:=0) (j:=1) rfl rfl (by decide)).1 rfl
  have hk:obK (bs++[(v,l)]) W:=by
    refine⟨fun z hz=> ?_,List.pairwise_append.2 ⟨h2.2,List.pairwise_singleton ..,fun a G b hb k J D=> ?_⟩⟩
    · rcases List.mem_append.1 hz with hz|hz
      · exact h2.1 z hz
      rw[List.mem_singleton.1 hz];exact h1
    rw[List.mem_singleton.1 hb] at D;exact ha k D (List.mem_flatMap.2 ⟨a,G,J⟩)
  refine h.merge rfl rfl rfl (Q4p hk) fun k M=> ?_;obtain⟨z,hz,h3⟩:=List.mem_flatMap.1 M;rcases List.mem_append.1 hz with hz|hz
  · exact .inr (List.mem_flatMap.2 ⟨z,hz,h3⟩)
  rw[List.mem_singleton.1 hz] at h3;exact .inl h3
theorem SH.byadd {F:List Nat}{w W:World}{H:List As}{bs:List (Value×List UInt8)}{v u:Value}{l x:List UInt8}(h:SH F w W (.o v l:: .o u x::byT bs::H)):SH F w W (byT (bs++[(v,l),(u,x)])::H):=by
  have h1:=(h.own (i:=0) rfl).sl;have h2:=(h.own (i:=1) rfl).sl;have h3:byK bs W:=(h.at_ (i:=2) rfl).1;refine SH.foldF (N:=[.o v l,.o u x,byT bs]) h (Q4l fun z hz=> ?_) fun k hk=> ?_
  · rcases List.mem_append.1 hz with hz|hz
    · exact h3 z hz
    rcases List.mem_cons.1 hz with rfl|hz
    · exact h1
    rw[List.mem_singleton.1 hz];exact h2
  obtain⟨z,hz,h4⟩:=List.mem_flatMap.1 hk;rcases List.mem_append.1 hz with hz|hz
  · exact⟨byT bs,by simp,fun T K e=>(by cases e),List.mem_flatMap.2 ⟨z,hz,h4⟩⟩
  rcases List.mem_cons.1 hz with rfl|hz
  · exact⟨.o v l,by simp,fun T K e=>(by cases e),by rw[show(As.o v l).foot=v.ownBlock.toList from rfl,J3r (As.mem_toList h4)];simp⟩
  rw[List.mem_singleton.1 hz] at h4;exact⟨.o u x,by simp,fun T K e=>(by cases e),by rw[show(As.o u x).foot=u.ownBlock.toList from rfl,J3r (As.mem_toList h4)];simp⟩
structure LD where
  p:Nat
  h:Nat
  uid:Value
  wv:Value
  pv:Value
  tv:Value
  lv:Value
  acs:List Ac
  wps:List Pv
  pvs:List (Value×List Pv)
  tus:List Value
  bs:List (Value×List UInt8)
abbrev Z7l (D:DD)(y:LD):Array Value:=Q7 [.c y.uid,.a 32 D.vk,.a 32 D.bk,.c (.int .i64 (D.L:Int)),.c (.int .i64 (D.P:Int)),.c (.int .i64 (D.E:Int)),.c (.map (some y.h)),.c y.wv,.c y.pv,.c y.tv,.c y.lv]
def J0j (acs:List Ac):List (List UInt8×Nat):=acs.map fun a=>(a.l,a.b)
abbrev J2u (v:Value):List Value:=[v]
abbrev J6q (r:Value×List Pv):List Value:=[r.1]
abbrev ldL (D:DD)(y:LD):List As:=[.b y.p (Z7l D y) 110,J2b y.h (J0j y.acs),acT y.acs,enT y.acs,.r 88 2 y.wv (y.wps.map pvC),.r 83 1 y.pv (y.pvs.map J6q),.r 115 1 y.tv (y.tus.map J2u),.r 23 32 y.lv (D.links.map X6),byT y.bs,rwT y.pvs,taT D.trees y.tus]
abbrev pvP (p:Pv):J4u:=(p.l,p.x)
structure LOk (D:DD)(y:LD):Prop where
  w:y.wps.map pvP=D.waits
  p:y.pvs.map (fun r=>r.2.map pvP)=D.puts
  a:y.acs.map (·.l)=D.labs
  n:∀a∈y.acs,a.ix=ixN D.vk a.l∧a.pf=pfN D.vk a.l
  e:∀a∈y.acs,a.es.map (fun e=>(e.ep,e.ver,e.x))=(D.made.filter fun m=>decide (m.l=a.l)).map fun m=>(m.ep,m.ver,m.x)
  i:(y.uid,D.id)∈y.bs
  bw:∀q∈y.wps,(q.lu,q.l)∈y.bs∧(q.xu,q.x)∈y.bs
  bp:∀r∈y.pvs,∀q∈r.2,(q.lu,q.l)∈y.bs∧(q.xu,q.x)∈y.bs
  be:∀a∈y.acs,∀q∈a.es,(q.u,q.x)∈y.bs
structure DOk (D:DD):Prop where
  id1:1≤D.id.length
  id2:D.id.length≤16
  l1:1≤D.L
  l2:D.L≤64
  p1:1≤D.P
  p2:D.P≤16
  e1:1≤D.E
  e2:D.E≤32
  ep:D.puts.length≤D.E+1
  zero:D.puts[0]?=some []
  pl:∀ps∈D.puts,ps.length≤D.P
  wl:D.waits.length≤D.P
  ll:D.labs.length≤D.L
  lab:∀l∈D.labs,1≤l.length∧l.length≤32∧erN D.vk l=0
  val:∀q∈D.puts.flatten++D.waits,q.2.length≤64
def DK (D:DD)(y:LD)(w:World):Prop:=∀x∈ldL D y,x.holds w
section
variable {D : DD} {y : LD} {w : World}
theorem DK.d (h:DK D y w):Blk w y.p (Z7l D y) 110:=h (.b y.p (Z7l D y) 110) (by simp)
theorem DK.m (h:DK D y w):Q2o y.h (J0j y.acs) w:=(h (J2b y.h (J0j y.acs)) (by simp)).1
theorem DK.ac (h:DK D y w):acK y.acs w:=(h (acT y.acs) (by simp)).1
theorem DK.en (h:DK D y w):enK y.acs w:=(h (enT y.acs) (by simp)).1
theorem DK.wt (h:DK D y w):Row 88 2 w y.wv (y.wps.map pvC):=h (.r 88 2 y.wv (y.wps.map pvC)) (by simp)
theorem DK.tr (h:DK D y w):Row 115 1 w y.tv (y.tus.map J2u):=h (.r 115 1 y.tv (y.tus.map J2u)) (by simp)
theorem DK.lk (h:DK D y w):Row 23 32 w y.lv (D.links.map X6):=h (.r 23 32 y.lv (D.links.map X6)) (by simp)
theorem DK.by (h:DK D y w):byK y.bs w:=(h (byT y.bs) (by simp)).1
theorem DK.rw (h:DK D y w):rwK y.pvs w:=(h (rwT y.pvs) (by simp)).1
theorem DK.ta (h:DK D y w):taK D.trees y.tus w:=(h (taT D.trees y.tus) (by simp)).1
end
theorem DK.of {D:DD}{y:LD}{F:List Nat}{w W:World}{R:List As}(h:SH F w W (ldL D y++R)):DK D y W:=fun x hx=>h.all x (List.mem_append.2 (.inl hx))
end

section
set_option maxHeartbeats 3000000
attribute [local irreducible] wpList Y5 wpX
theorem DOk.pos {D:DD}(h:DOk D):1≤D.puts.length:=by
 have:=(List.getElem?_eq_some_iff.1 h.zero).1;omega
theorem DOk.len {D:DD}(h:DOk D):D.puts.length≤33:=by have:=h.ep;have:=h.e2;omega
def win (n m:Int):Bool:=decide (1≤n∧n≤m)
attribute [local irreducible] eI be8 hs4 lb J33 J25 K8 xt hm
theorem Z76 {w:World}{v:Value}{l:List UInt8}(h:Sl w v l):(v=.slice none 0 0∧l=[])∨∃ad n c,v=.slice (some ad) n c:=by
 obtain⟨A,c,rfl,h1,h2,h0,h3⟩:=h;cases A with
 |none=>
  cases l with
  |nil=>exact .inl ⟨by rw[h0 rfl];rfl,rfl⟩
  |cons a l=>obtain⟨ad,e,_⟩:=h3 0 a rfl;cases e
 |some ad=>exact .inr ⟨ad,_,c,rfl⟩
theorem J2y {h:Nat}{m:List (List UInt8×Nat)}{w W:World}(hm:Q2o h m w)(q:Ext w W):Q2o h m W:=by
 have D:=Z1v hm;obtain⟨es,c,h1,h2⟩:=hm;exact⟨es,c,by rw[q.block h D];exact h1,h2⟩

theorem Q0m:zer Tryz.prog 101=some (some (Q7 [.c (.int .i64 0),.c (.int .i64 0),.c (.slice none 0 0)])):=by kernel_rfl
theorem Q0n:plc Tryz.prog 101=some [(0,1),(1,1),(2,1)]:=by kernel_rfl
theorem J4i:zer Tryz.prog 88=some (some (Q7 [.c (.slice none 0 0),.c (.slice none 0 0)])):=by kernel_rfl
theorem J4j:plc Tryz.prog 88=some [(0,1),(1,1)]:=by kernel_rfl
theorem J93:zer Tryz.prog 119=some (some (Q7 [.a 32 0,.a 80 0,.c (.slice none 0 0)])):=by kernel_rfl
theorem J94:plc Tryz.prog 119=some [(0,32),(32,80),(112,1)]:=by kernel_rfl
theorem J61 (n m:Int)(w:World):
  Calls Tryz.prog 61 #[.int .i64 n,.int .i64 m] w fun e w' =>X5 (.bool (win n m)) w w' e:=by
 have hS:=SH.nil [] w
 go_enter Tryz.func61,Tryz.ntmps61
 by_cases D:1≤n
 ·
  go_upto_region 1 with fail;refine RL hS ?_;clear hS;refine MV ?_;refine Wto ?_;refine Wt ?_;refine MV ?_;refine MV ?_;refine MW ?_ (v:=.bool (decide (n≤m))) (hv:=by intro W;go_simp;first|done|rfl);refine MW ?_ (v:=.bool (decide (n≤m)));refine MW ?_ (v:=.bool (decide (n≤m)));refine MZ fun W hS=> ?_;go_wp2;exact bodyPost_ret (v:=.bool (decide (n≤m))) (by simp only[results,Tryz.results61];go_simp) rfl ⟨congrArg (fun b=>Ending.returned (Value.bool b)) (by unfold win;exact(decide_eq_decide.2 ⟨fun h=>⟨D,h⟩,And.right⟩)),hS.ext⟩
 go_upto_region 1 with fail;refine RL hS ?_;clear hS;refine MV ?_;refine Wfo ?_;refine Wf ?_;(iterate 3 refine MS ?_);refine Wf ?_;refine Wf ?_;refine MZ fun W hS=> ?_;go_wp2;exact bodyPost_ret (v:=.bool false) (by simp only[results,Tryz.results61];go_simp) rfl ⟨congrArg (fun b=>Ending.returned (Value.bool b)) (by unfold win;exact(decide_eq_false (fun h=>absurd h.1 (by omega))).symm),hS.ext⟩
theorem J2l {v:Value}{l:List UInt8}(w:World)(hs:Sl w v l):
  Calls Tryz.prog 42 #[v] w fun e w' =>X5 (.bool (win (l.length:Int) 32)) w w' e:=by
 have hS:=SH.nil [] w
 go_enter Tryz.func42,Tryz.ntmps42
 go_upto_region 1 with fail;refine RL hS ?_;clear hS;refine MV ?_;refine MF (v:=.int .i64 (l.length:Int)) (fun W hS=>J05 (J08 hs hS.ext) rfl rfl) ?_;refine MC (v:=.bool (win (l.length:Int) 32)) (fun W hS=>J61 (l.length:Int) 32 W) ?_;refine MW ?_ (v:=.bool (win (l.length:Int) 32));refine MZ fun W hS=> ?_;go_wp2;exact bodyPost_ret (v:=.bool (win (l.length:Int) 32)) (by simp only[results,Tryz.results42];go_simp) rfl ⟨rfl,hS.ext⟩

theorem J6r {v:Value}{l:List UInt8}(w:World)(hs:Sl w v l)(hl:l.length≤100000000):
  Calls Tryz.prog 48 #[v] w fun e w' => ∃u,e=.returned u∧SH [] w w' [.o u l]:=by
 have hS:=SH.nil [] w
 go_enter Tryz.func48,Tryz.ntmps48
 rcases Z76 hs with⟨rfl,rfl⟩|⟨J,n0,c0,rfl⟩
 ·
  go_upto_region 1 with fail;refine RL hS ?_;clear hS;refine MV ?_;refine MW ?_ (v:=.bool true) (hv:=by intro W;go_simp;first|done|rfl);refine MZ fun W hS=> ?_;have hS:=hS.onil rfl;go_wp2;exact bodyPost_ret (v:=.slice none 0 0) (by simp only[results,Tryz.results48];go_simp) rfl ⟨_,rfl,hS⟩
 go_upto_region 1 with fail;refine RL hS ?_;clear hS;refine MV ?_;refine MW ?_ (v:=.bool false) (hv:=by intro W;go_simp;first|done|rfl);refine MZ fun W hS=> ?_;go_upto_region 3 with fail;refine RL hS ?_;clear hS;refine MO (m:=[]) (n:=0) (z:= #[]) ?_;intro G;refine MV ?_;refine MA 0 (xs:=[]) (ys:=l) (fun W hS=>(J08 hs hS.ext)) (by first|omega|(simp only[lA,lM,lT,lD,lC,lN,J8,Y9,Z0,Z5];omega)) ?_;intro D;refine MV ?_;refine MZ fun W hS=> ?_;go_wp2;exact bodyPost_ret (v:=D) (by simp only[results,Tryz.results48];go_simp) rfl ⟨_,rfl,hS.pick [0]⟩
theorem J3z {D:DD}{y:LD}(w:World)(hD:DK D y w)(hL:LOk D y)(hK:DOk D):
  Calls Tryz.prog 11 #[.pointer (some ⟨y.p,0,none⟩)] w fun e w' =>X5 (.int .i64 ((D.puts.length-1:Nat):Int)) w w' e:=by
 have J:=hK.pos;have G:=hK.len;have hS:=SH.nil [] w
 go_enter Tryz.func11,Tryz.ntmps11
 go_upto_region 3 with fail;refine RL hS ?_;clear hS;(iterate 3 refine MV ?_);refine MF (v:=y.lv) (fun W hS=>Q5 rfl rfl (by rw[J3 (J2 hD.d hS.ext)];exact(J9 (off:=72) 10)) (by kernel_rfl)) ?_;refine MF (v:=.int .i64 (D.puts.length:Int)) (fun W hS=>(by rw[show(D.puts.length:Int)=((List.map X6 D.links).length:Int) by rw[List.length_map,DD.links_len]];exact J0k (Row.off hD.lk hS.off0 f0) rfl rfl Tryz.underlying41)) ?_;refine MW ?_ (v:=.int .i64 ((D.puts.length-1:Nat):Int)) (hv:=by intro W;go_simp;(try simp only[IntKind.wrap_i64]);omega);refine MV ?_;refine MZ fun W hS=> ?_;go_wp2;exact bodyPost_ret (v:=.int .i64 ((D.puts.length-1:Nat):Int)) (by simp only[results,Tryz.results11];go_simp) rfl ⟨rfl,hS.ext⟩
end

section
set_option maxHeartbeats 3000000
attribute [local irreducible] wpList Y5 wpX
open S8 (Kn GA kP vprv vsm lo)
abbrev enZ:En:=⟨0,0,.slice none 0 0,[]⟩
def J18 (es:List En)(e:Int):En:=(es.filter fun x=>decide ((x.ep:Int)≤e)).getLastD enZ
theorem Y3l (e:Int):J18 [] e=enZ:=rfl
theorem Q2p {es:List En}{k:Nat}{x:En}{e:Int}(h:es[k]?=some x):J18 (es.take (k+1)) e=if(x.ep:Int)≤e then x else J18 (es.take k) e:=by
 unfold J18;rw[List.take_add_one,h,List.filter_append]
 by_cases hx:(x.ep:Int)≤e
 ·
  rw[if_pos hx,show List.filter (fun x=>decide ((x.ep:Int)≤e)) (some x).toList=[x] by simp[hx]];rw[List.getLastD_eq_getLast?,List.getLast?_append];rfl
 rw[if_neg hx,show List.filter (fun x=>decide ((x.ep:Int)≤e)) (some x).toList=[] by simp[hx],List.append_nil]
theorem Q0o {es:List En}{e:Int}:J18 es e=enZ∨J18 es e∈es:=by
 unfold J18;cases h:(es.filter fun x=>decide ((x.ep:Int)≤e)).getLast? with
 |none=>left;rw[List.getLastD_eq_getLast?,h];rfl
 |some x=>
  right;rw[List.getLastD_eq_getLast?,h];exact(List.mem_filter.1 (List.mem_of_getLast? h)).1
theorem Y70 {W:World}{A:Option Addr}{n c i g o:Nat}{es:List En}{y:En}(h:RR 3 W (.slice A n c) (es.map enC))(yh:es[i]?=some y)(hA:A=some ⟨g,o,none⟩):∀(j:Nat) (v:Value),(enF y)[j]?=some v→W.cell? ⟨g,o+i*3+j,none⟩=some v:=fun j v hv=>
 RR.cellat h (by rw[List.getElem?_map,yh];rfl) hA j v (Y6y j v hv)
theorem Z79 {acs:List Ac}{l:List UInt8}(h:l∉acs.map (·.l)):mlk (J0j acs) l=none:=by
 induction acs with
 |nil=>rfl
 |cons a acs ih=>
  show(if a.l=l then some a.b else mlk (J0j acs) l)=none;rw[if_neg (fun e=>h (by rw[List.map_cons,e];simp))];exact ih fun hm=>h (List.mem_cons_of_mem _ hm)
theorem Q7r {acs:List Ac}{a:Ac}(h:a∈acs)(hn:(acs.map (·.l)).Nodup):mlk (J0j acs) a.l=some a.b:=by
 induction acs with
 |nil=>cases h
 |cons b acs ih=>
  show(if b.l=a.l then some b.b else mlk (J0j acs) a.l)=some a.b;rw[List.map_cons,List.nodup_cons] at hn;rcases List.mem_cons.1 h with rfl|h
  ·
   rw[if_pos rfl]
  ·
   rw[if_neg (fun e=>hn.1 (by rw[e];exact List.mem_map.2 ⟨a,h,rfl⟩))];exact ih h hn.2
theorem LOk.mlk_n {D:DD}{y:LD}(h:LOk D y){l:List UInt8}(hl:l∉D.labs):mlk (J0j y.acs) l=none:=Z79 (by rw[h.a];exact hl)
theorem LOk.mlk_s {D:DD}{y:LD}(h:LOk D y){a:Ac}(ha:a∈y.acs):mlk (J0j y.acs) a.l=some a.b:=Q7r ha (by rw[h.a];exact D.labs_nodup)
theorem LOk.acc {D:DD}{y:LD}(h:LOk D y){l:List UInt8}(hl:l∈D.labs):∃a∈y.acs,a.l=l:=by
 rw[←h.a] at hl;exact List.mem_map.1 hl
theorem Y9i {vk:Nat}{l:List UInt8}(h:erN vk l=0):(vsm (pfN vk l)).2=0:=by
 unfold erN at h;unfold pfN vsm;cases hv:S8.vpt (kP vk) l with
 |none=>rw[S8.vprv_none hv] at h;cases h
 |some c=>
  have D:=S8.candP_on (S8.vpt_some hv).2.1;rw[S8.vprv_some hv,(S8.vPr_parts D).1,(S8.dec_enc (S8.pm_on D _)).1,if_pos rfl]
attribute [local irreducible] eI be8 hs4 lb J33 J25 K8 xt hm S8.vprv S8.vsm ixN pfN erN J18

theorem V4h {b ix pf:Nat}{mv:Value}{es:List En}{n:Int}(hn:es.length≤1000)(w:World)(hb:Blk w b (Q7 [.a 32 ix,.a 80 pf,.c mv]) 119)(hr:RR 3 w mv (es.map enC))(hs:∀x∈es,Sl w x.u x.x):
  Calls Tryz.prog 47 #[.pointer (some ⟨b,0,none⟩),.int .i64 n] w fun e w' =>X5 (.tuple #[.agg (enF (J18 es n)),.bool (decide (0<((J18 es n).ver:Int)))]) w w' e:=by
 obtain⟨Am,cm,rfl,Y,X⟩:=RR.opf hr;have hS:=SH.nil [] w
 go_enter Tryz.func47,Tryz.ntmps47
 go_upto_region 0 with fail;refine RL hS ?_;clear hS;refine MN (z:=Q7 [.c (.int .i64 0),.c (.int .i64 0),.c (.slice none 0 0)]) (t:=101) ?_;intro U;refine Wf ?_;refine MZ fun W hS=> ?_;go_upto_region 1 with fail;refine RL hS ?_;clear hS;refine MN (z:=Q7 [.c (.int .i64 0),.c (.int .i64 0),.c (.slice none 0 0)]) (t:=101) ?_;intro V;refine MZ fun W hS=> ?_;go_upto_region 2 with fail;refine RL hS ?_;clear hS;(iterate 3 refine MV ?_);refine MF (v:=.slice Am es.length cm) (fun W hS=>Q5 rfl rfl (by rw[J3 (J2 hb hS.ext)];exact(J9 (off:=112) 2)) (by kernel_rfl)) ?_;refine MV ?_;refine W0 ?_;refine MZ fun W hS=> ?_
 go_wp2_with fail
 go_loopw [14] (fun jj wr=> ∃(k:Nat)(z:En),(k≤es.length)∧(RowKit.Hid (z=J18 (es.take k) n))∧(Sl w z.u z.x)∧(jj=.int .i64 (k:Int))∧SH [] w wr [.b U (Q7 [.c (.int .i64 0),.c (.int .i64 0),.c (.slice none 0 0)]) 101,.b V (Q7 [.c (.int .i64 (z.ep:Int)),.c (.int .i64 (z.ver:Int)),.c z.u]) 101])
  (fun jj _=>es.length-(intOf jj).toNat)
 case atStart=>exact⟨0,enZ,Nat.zero_le _,Lib.hid (by rw[List.take_zero,Y3l]),Q5r w,rfl,(hS.pick [1,0])⟩
 clear hS
 case round=>
  obtain⟨k,z,hk,hz,N,rfl,hS⟩:=hrel;have M:=Q1 N
  by_cases D:k<es.length
  ·
   obtain⟨x,xh⟩:∃x,es[k]?=some x:=⟨_,List.getElem?_eq_getElem D⟩
   obtain⟨gm,om,T,_⟩:=X.out k x xh;have R:=Lib.hid T;clear T;have S:=hs x (List.mem_of_getElem? xh);have J:=Q1 S;go_upto_region 3 with fail;refine RL hS ?_;clear hS;refine Wto ?_;refine MZ fun W hS=> ?_;go_upto_region 4 with fail;refine RL hS ?_;clear hS;refine MW ?_ (v:=.pointer (some ⟨gm,om+k*3,none⟩)) (hv:=fun _=>K0 R.out D rfl rfl rfl Tryz.underlying69 (by kernel_rfl));refine MF (v:=.agg (Q7 [.c (.int .i64 (x.ep:Int)),.c (.int .i64 (x.ver:Int)),.c x.u])) (fun W hS=>V2 rfl rfl (fun i_ v hv=>(Y70 (hr.ext hS.ext) xh R.out) i_ v (by simpa using hv)) (by kernel_rfl) (by rw[J7];kernel_rfl)) ?_;refine MN (z:=Q7 [.c (.int .i64 0),.c (.int .i64 0),.c (.slice none 0 0)]) (t:=101) ?_;intro Z;refine MRa 0 ?_ (h1:=by exact(K9 ⟨rfl,rfl,J.2,trivial⟩));refine MZ fun W hS=> ?_
   by_cases G:(x.ep:Int)≤n
   ·
    go_upto_region 5 with fail;refine RL hS ?_;clear hS;refine MV ?_;refine MG 0 ?_ (v:=.int .i64 (x.ep:Int)) (hj:=(J9 (off:=0) 0));refine MV ?_;refine Wto ?_;refine MZ fun W hS=> ?_;go_upto_region 6 with fail;refine RL hS ?_;clear hS;refine ML 0 ?_ (hs:=by rw[J7];kernel_rfl);refine MRa 2 ?_ (h1:=by exact(K9 ⟨rfl,rfl,J.2,trivial⟩));refine MZ fun W hS=> ?_;go_wp2;go_roundw
    case rel=>exact⟨(k+1),x,by omega,Lib.hid (by rw[Q2p xh,if_pos G]),S,by go_num,(hS.pick [1,2])⟩
    case measure=>simp[intOf];omega
   go_upto_region 5 with fail;refine RL hS ?_;clear hS;refine MV ?_;refine MG 0 ?_ (v:=.int .i64 (x.ep:Int)) (hj:=(J9 (off:=0) 0));refine MV ?_;refine Wfo ?_;refine MZ fun W hS=> ?_;go_wp2;go_roundw
   case rel=>exact⟨(k+1),z,by omega,Lib.hid (by rw[Q2p xh,if_neg G];exact hz.out),N,by go_num,(hS.pick [1,2])⟩
   case measure=>simp[intOf];omega
  obtain rfl:k=es.length:=by omega
  rw[List.take_length] at hz;go_upto_region 3 with fail;refine RL hS ?_;clear hS;refine Wfo ?_;refine MZ fun W hS=> ?_;go_upto_region 8 with fail;refine RTp [1] (.q 0 (.q 1 (.q 2 (.q 3 (.e 4 (.q 5 .z)))))) hS ?_;clear hS;refine TL 0 ?_ (hs:=by rw[J7];kernel_rfl);refine TV ?_;refine TG 0 ?_ (v:=.int .i64 (z.ver:Int)) (hj:=(J9 (off:=1) 1));refine TW ?_ (v:=.bool (decide (0<(z.ver:Int)))) (hv:=by intro W;go_simp;first|done|rfl);refine TE (fun _ h=>h.pick [1]) ?_;refine MRa 0 ?_ (h1:=by exact(K9 ⟨rfl,rfl,M.2,trivial⟩));refine V8 [1] [0] ?_;refine TW ?_ (v:=.bool (decide (0<(z.ver:Int))));refine TZ (fun _ h=>h.pick [1]) fun W hS=> ?_;go_wp2;exact bodyPost_ret (X8 rfl rfl rfl (hS.blk (i:=0) rfl) (by kernel_rfl) (by rw[J7];kernel_rfl)) rfl ⟨by rw[←hz.out];rfl,hS.ext⟩
theorem Z1w {D:DD}{y:LD}{a:Ac}{v:Value}(ha:a∈y.acs)(w:World)(hD:DK D y w)(hL:LOk D y)(hs:Sl w v a.l):
  Calls Tryz.prog 43 #[.pointer (some ⟨y.p,0,none⟩),v] w fun e w' =>X5 (.tuple #[.pointer (some ⟨a.b,0,none⟩),.int .i64 0]) w w' e:=by
 have hS:=SH.nil [] w
 go_enter Tryz.func43,Tryz.ntmps43
 go_upto_region 1 with fail;refine RTh (.q 0 (.q 1 (.q 2 (.q 3 (.q 4 (.q 5 (.q 6 (.q 7 .z)))))))) hS ?_;clear hS;(iterate 3 refine TV ?_);refine TF (v:=.map (some y.h)) rfl (fun W hS=>Q5 rfl rfl (by rw[J3 (J2 hD.d hS.ext)];exact(J9 (off:=68) 6)) (by kernel_rfl)) ?_;refine TV ?_;refine TF (v:=str a.l) rfl (fun W hS=>J21 (J08 hs hS.ext) rfl rfl) ?_;refine TF (v:=.pointer (some ⟨a.b,0,none⟩)) rfl (fun W hS=>(by rw[show(.pointer (some ⟨a.b,0,none⟩):Value)=mpt (mlk (J0j y.acs) a.l) by rw[hL.mlk_s ha];rfl];exact J3h (J2y hD.m hS.ext) Tryz.underlying106 Tryz.underlying9 (by kernel_rfl) rfl rfl rfl)) ?_;refine TV ?_;refine TZ (fun _ h=>h) fun W hS=> ?_;go_upto_region 2 with fail;refine RL hS ?_;clear hS;refine MV ?_;refine MW ?_ (v:=.bool true) (hv:=by intro W;go_simp;first|done|rfl);refine MZ fun W hS=> ?_;go_wp2;exact bodyPost_ret (v:=.tuple #[.pointer (some ⟨a.b,0,none⟩),.int .i64 0]) (by simp only[results,Tryz.results43];go_simp) rfl ⟨rfl,hS.ext⟩
theorem Z1x {D:DD}{y:LD}{l:List UInt8}{v:Value}(hn:l∉D.labs)(he:erN D.vk l=0)(w:World)(hX:GX w)(hD:DK D y w)(hL:LOk D y)(hs:Sl w v l)(hl:l.length≤32):
  Calls Tryz.prog 43 #[.pointer (some ⟨y.p,0,none⟩),v] w fun e w' => ∃b,e=.returned (.tuple #[.pointer (some ⟨b,0,none⟩),.int .i64 0])∧SH [] w w' [.b b (Q7 [.a 32 (ixN D.vk l),.a 80 (pfN D.vk l),.c (.slice none 0 0)]) 119]:=by
 have hS:=SH.nil [] w
 go_enter Tryz.func43,Tryz.ntmps43
 go_upto_region 1 with fail;refine RTh (.q 0 (.q 1 (.q 2 (.q 3 (.q 4 (.q 5 (.q 6 (.q 7 .z)))))))) hS ?_;clear hS;(iterate 3 refine TV ?_);refine TF (v:=.map (some y.h)) rfl (fun W hS=>Q5 rfl rfl (by rw[J3 (J2 hD.d hS.ext)];exact(J9 (off:=68) 6)) (by kernel_rfl)) ?_;refine TV ?_;refine TF (v:=str l) rfl (fun W hS=>J21 (J08 hs hS.ext) rfl rfl) ?_;refine TF (v:=.pointer none) rfl (fun W hS=>(by rw[show(.pointer none:Value)=mpt (mlk (J0j y.acs) l) by rw[hL.mlk_n hn];rfl];exact J3h (J2y hD.m hS.ext) Tryz.underlying106 Tryz.underlying9 (by kernel_rfl) rfl rfl rfl)) ?_;refine TV ?_;refine TZ (fun _ h=>h) fun W hS=> ?_;go_upto_region 2 with fail;refine RL hS ?_;clear hS;refine MV ?_;refine MW ?_ (v:=.bool false) (hv:=by intro W;go_simp;first|done|rfl);refine MZ fun W hS=> ?_;go_upto_region 4 with fail;refine RL hS ?_;clear hS;(iterate 4 refine MV ?_);refine MF (v:=.agg (J1 .u8 32 (J4 D.vk))) (fun W hS=>V2 rfl rfl (fun i v hv=>by rw[J3 (J2 hD.d hS.ext)];exact(J03 (off:=1) 1) i v hv) (by kernel_rfl) (by first|kernel_rfl|(rw[J0];kernel_rfl))) ?_;refine MV ?_;obtain⟨P,HP⟩:=exh (pfN D.vk l);refine MC (v:=.tuple #[.agg (J1 .u8 80 (J4 P)),.int .i64 0]) (fun W hS=>S8.proveN_c (kn:=kn0) trivial trivial trivial (X:=P) (by rw[HP.out];unfold pfN;rfl) (E:=0) (by unfold erN at he;exact he.symm) v (Nat.le_trans hl (by decide)) W (hX.ext hS.ext).2 (J08 hs hS.ext)) ?_;refine MV ?_;refine MV ?_;refine W0 ?_;refine MN (z:=J1 .u8 80 (J4 0)) (t:=40) ?_;intro M;refine MR 0 ?_;refine W0 ?_;refine MZ fun W hS=> ?_;go_upto_region 5 with fail;refine RL hS ?_;clear hS;refine W0 ?_;refine Wfo ?_;refine MZ fun W hS=> ?_;go_upto_region 7 with fail;refine RL hS ?_;clear hS;refine ML 0 ?_;obtain⟨S_,G⟩:=exh (vsm P).1;refine MC (v:=.tuple #[.agg (J1 .u8 64 (J4 S_)),.int .i64 0]) (fun W hS=>S8.vsumN_c (kn:=kn0) trivial (X:=S_) (E:=0) G.out (by rw[HP.out];exact(Y9i he).symm) W (hX.ext hS.ext).2) ?_;refine MV ?_;refine MV ?_;refine W0 ?_;refine MN (z:=J1 .u8 64 (J4 0)) (t:=89) ?_;intro N;refine MR 0 ?_;refine W0 ?_;refine MZ fun W hS=> ?_;go_upto_region 8 with fail;refine RL hS ?_;clear hS;refine W0 ?_;refine Wfo ?_;refine MZ fun W hS=> ?_;go_upto_region 10 with fail;refine RTh (.q 0 (.q 2 (.e 1 (.q 3 (.e 4 (.q 5 (.q 6 .z))))))) hS ?_;clear hS;refine TL 0 ?_;refine TL 1 ?_;refine TE (fun _ h=>h) ?_;refine MC (v:=.agg (J1 .u8 32 (J4 (lo S_)))) (fun W hS=>S8.index_c (X:=S_) W) ?_;refine TNh (fun W hS=>hS) ?_;refine TF (v:=.agg (Q7 [.a 32 (lo S_),.a 80 P,.c (.slice none 0 0)])) rfl (fun W hS=>J34 [(0,[.a 32 (lo S_)]),(1,[.a 80 P])] rfl rfl J93 J94 (.c ((J1g _ _).symm) (.c ((J1g _ _).symm) .n))) ?_;refine TE (fun _ h=>h) ?_;refine MN (z:=Q7 [.a 32 (lo S_),.a 80 P,.c (.slice none 0 0)]) (t:=119) ?_;intro J;refine TNh (fun W hS=>hS.pick [1,2]) ?_;refine TV ?_;refine T0 ?_;refine TZ (fun _ h=>h) fun W hS=> ?_;go_wp2;exact bodyPost_ret (v:=.tuple #[.pointer (some ⟨J,0,none⟩),.int .i64 0]) (by simp only[results,Tryz.results43];go_simp) rfl ⟨J,rfl,by rw[show ixN D.vk l=lo S_ by unfold ixN;rw[G.out,HP.out],←HP.out];exact hS.pick [0]⟩
theorem Z1y {D:DD}{y:LD}{l:List UInt8}{v:Value}{E:Nat}(hE:E=erN D.vk l)(hn:l∉D.labs)(he:E≠0)(w:World)(hX:GX w)(hD:DK D y w)(hL:LOk D y)(hs:Sl w v l)(hl:l.length≤32):
  Calls Tryz.prog 43 #[.pointer (some ⟨y.p,0,none⟩),v] w fun e w' =>X5 (.tuple #[.pointer none,.int .i64 (E:Int)]) w w' e:=by
 obtain⟨P0,G⟩:=exh (S8.vprv D.vk l).1;have hS:=SH.nil [] w
 go_enter Tryz.func43,Tryz.ntmps43
 go_upto_region 1 with fail;refine RTh (.q 0 (.q 1 (.q 2 (.q 3 (.q 4 (.q 5 (.q 6 (.q 7 .z)))))))) hS ?_;clear hS;(iterate 3 refine TV ?_);refine TF (v:=.map (some y.h)) rfl (fun W hS=>Q5 rfl rfl (by rw[J3 (J2 hD.d hS.ext)];exact(J9 (off:=68) 6)) (by kernel_rfl)) ?_;refine TV ?_;refine TF (v:=str l) rfl (fun W hS=>J21 (J08 hs hS.ext) rfl rfl) ?_;refine TF (v:=.pointer none) rfl (fun W hS=>(by rw[show(.pointer none:Value)=mpt (mlk (J0j y.acs) l) by rw[hL.mlk_n hn];rfl];exact J3h (J2y hD.m hS.ext) Tryz.underlying106 Tryz.underlying9 (by kernel_rfl) rfl rfl rfl)) ?_;refine TV ?_;refine TZ (fun _ h=>h) fun W hS=> ?_;go_upto_region 2 with fail;refine RL hS ?_;clear hS;refine MV ?_;refine MW ?_ (v:=.bool false) (hv:=by intro W;go_simp;first|done|rfl);refine MZ fun W hS=> ?_;go_upto_region 4 with fail;refine RL hS ?_;clear hS;(iterate 4 refine MV ?_);refine MF (v:=.agg (J1 .u8 32 (J4 D.vk))) (fun W hS=>V2 rfl rfl (fun i v hv=>by rw[J3 (J2 hD.d hS.ext)];exact(J03 (off:=1) 1) i v hv) (by kernel_rfl) (by first|kernel_rfl|(rw[J0];kernel_rfl))) ?_;refine MV ?_;refine MC (v:=.tuple #[.agg (J1 .u8 80 (J4 P0)),.int .i64 (E:Int)]) (fun W hS=>S8.proveN_c (kn:=kn0) trivial trivial trivial (X:=P0) G.out (E:=E) (by rw[hE];unfold erN;rfl) v (Nat.le_trans hl (by decide)) W (hX.ext hS.ext).2 (J08 hs hS.ext)) ?_;(iterate 3 refine MV ?_);refine MN (z:=J1 .u8 80 (J4 0)) (t:=40) ?_;intro J;refine MR 0 ?_;refine MV ?_;refine MZ fun W hS=> ?_;go_upto_region 5 with fail;refine RL hS ?_;clear hS;refine MV ?_;refine Wto ?_;refine MZ fun W hS=> ?_;go_wp2;exact bodyPost_ret (v:=.tuple #[.pointer none,.int .i64 (E:Int)]) (by simp only[results,Tryz.results43];go_simp) rfl ⟨rfl,hS.ext⟩
end

section
set_option maxHeartbeats 3000000
attribute [local irreducible] wpList Y5 wpX
theorem Q0l {P:Program}{α:Type}{f:FuncId}{args:Array Value}{F:List Nat}{w W:World}{H:List As}{V:α→Value}{X:α→List As}(hS:SH F w W H)(hc:Calls P f args W fun e W' => ∃x,e=.returned (V x)∧SH [] W W' (X x))(ht:∀x,(X x).all (fun y=>y.mv &&(match y with| .t _ _=>false|_=>true) && H.all (SH.tyOk y))=true):
  Calls P f args W fun e W' => ∃x,e=.returned (V x)∧SH F w W' (X x++H):=by
 refine Y9j hS (hc.mono fun e W' ⟨x,h1,h2⟩=>⟨x,h1,h2,fun y hy hm=> ?_⟩) fun x=> ?_
 ·
  have:=List.all_eq_true.1 (ht x) y hy;rw[hm] at this;simp at this
 refine List.all_eq_true.2 fun y hy=> ?_;have:=List.all_eq_true.1 (ht x) y hy;simp only[Bool.and_eq_true] at this⊢;exact⟨this.1.2,this.2⟩
theorem V4i {W:World}{A:Option Addr}{n c i g o:Nat}{ps:List Pv}{y:Pv}(h:RR 2 W (.slice A n c) (ps.map pvC))(yh:ps[i]?=some y)(hA:A=some ⟨g,o,none⟩):∀(j:Nat) (v:Value),(pvF y)[j]?=some v→W.cell? ⟨g,o+i*2+j,none⟩=some v:=fun j v hv=>
 RR.cellat h (by rw[List.getElem?_map,yh];rfl) hA j v (V4j j v hv)
theorem Q7s {α β:Type}{l:List α}{i:Nat}{x:α}(h:l[i]?=some x)(f:α→β):List.map f (l.take (i+1))=List.map f (l.take i)++[f x]:=by rw[List.take_add_one,h,List.map_append];rfl
def pbs (ps:List Pv):List (Value×List UInt8):=ps.flatMap fun p=>[(p.lu,p.l),(p.xu,p.x)]
attribute [local irreducible] eI be8 hs4 lb J33 J25 K8 xt hm pbs

theorem J9o {p:Pv}(w:World)(h1:Sl w p.lu p.l)(h2:Sl w p.xu p.x)(hl1:p.l.length≤100)(hl2:p.x.length≤100):
  Calls Tryz.prog 53 #[.agg (pvF p)] w fun e w' => ∃x:Value×Value,e=.returned (.agg (Q7 [.c x.1,.c x.2]))∧SH [] w w' [.o x.1 p.l,.o x.2 p.x]:=by
 have R:=Q1 h1;have N:=Q1 h2;have hS:=SH.nil [] w
 go_enter Tryz.func53,Tryz.ntmps53
 go_upto_region 0 with fail;refine RL hS ?_;clear hS;refine MN (z:=Q7 [.c p.lu,.c p.xu]) (t:=88) ?_;intro S;refine MN (z:=Q7 [.c (.slice none 0 0),.c (.slice none 0 0)]) (t:=88) ?_;intro T;refine MZ fun W hS=> ?_;go_upto_region 1 with fail;refine RTp [1] (.q 0 (.q 1 (.q 3 (.q 4 (.e 2 (.e 5 (.q 6 (.e 7 .z)))))))) hS ?_;clear hS;refine TV ?_;refine TG 0 ?_ (v:=p.lu) (hj:=(J9 (off:=0) 0));refine TV ?_;refine TG 0 ?_ (v:=p.xu) (hj:=(J9 (off:=1) 1));refine TE (fun _ h=>h.pick [1]) ?_;refine ME (V:=fun v=>v) (fun W hS=>J3f hS (J6r W (J08 h1 hS.ext) (by first|omega|(simp only[lA,lM,lT,lD,lC,lN,J8,Y9,Z0,Z5];omega))) (fun _=>⟨rfl,rfl⟩)) ?_;intro M;refine V8 [0,2] [1] ?_;refine TE (fun _ h=>h.pick [0,2]) ?_;refine ME (V:=fun v=>v) (fun W hS=>J3f hS (J6r W (J08 h2 hS.ext) (by first|omega|(simp only[lA,lM,lT,lD,lC,lN,J8,Y9,Z0,Z5];omega))) (fun _=>⟨rfl,rfl⟩)) ?_;intro J;refine V8 [0,1,3] [1,2] ?_;refine J8u (fun W hS=>(Q1 (hS.osl (i:=1) rfl)).2) ?_;intro G;refine J8u (fun W hS=>(Q1 (hS.osl (i:=0) rfl)).2) ?_;intro D;refine TF (v:=.agg (Q7 [.c M,.c J])) rfl (fun W hS=>J34 [(0,[.c M]),(1,[.c J])] rfl rfl J4i J4j (.c ((Q1 (hS.osl (i:=1) rfl)).1) (.c ((Q1 (hS.osl (i:=0) rfl)).1) .n))) ?_;refine TE (fun _ h=>h.pick [0,1,3]) ?_;refine MRa 2 ?_ (h1:=by exact(K9 ⟨G,D,trivial⟩));refine V8 [0,1,3] [0,1,2] ?_;refine TZ (fun _ h=>h.pick [0,1,3]) fun W hS=> ?_;go_wp2;exact bodyPost_ret (Z8 rfl rfl (hS.blk (i:=2) rfl) (by kernel_rfl) (by rw[J7];kernel_rfl)) rfl ⟨(M,J),rfl,hS.pick [1,0]⟩
end

section
set_option maxHeartbeats 3000000
attribute [local irreducible] wpList Y5 wpX
open S8 (Kn GA kP)
theorem DOk.put_l {D:DD}(h:DOk D){q:J4u}(hq:q∈D.puts.flatten++D.waits):q.1.length≤32∧q.2.length≤64:=⟨(h.lab q.1 (DD.mem_labs.2 ⟨q,hq,rfl⟩)).2.1,h.val q hq⟩
theorem LOk.wl {D:DD}{y:LD}(h:LOk D y)(hK:DOk D):∀q∈y.wps,q.l.length≤32∧q.x.length≤64:=fun q hq=>hK.put_l (q:=pvP q) (List.mem_append.2 (.inr (by rw[←h.w];exact List.mem_map.2 ⟨q,hq,rfl⟩)))
theorem LOk.pl {D:DD}{y:LD}(h:LOk D y)(hK:DOk D){r:Value×List Pv}(hr:r∈y.pvs):∀q∈r.2,q.l.length≤32∧q.x.length≤64:=fun q hq=>hK.put_l (q:=pvP q) (List.mem_append.2 (.inl (List.mem_flatten.2 ⟨r.2.map pvP,by rw[←h.p];exact List.mem_map.2 ⟨r,hr,rfl⟩,List.mem_map.2 ⟨q,hq,rfl⟩⟩)))
theorem LOk.wn {D:DD}{y:LD}(h:LOk D y)(hK:DOk D):y.wps.length≤16:=by have h1:=congrArg List.length h.w;rw[List.length_map] at h1;have:=hK.wl;have:=hK.p2;omega
theorem LOk.pn {D:DD}{y:LD}(h:LOk D y)(hK:DOk D){r:Value×List Pv}(hr:r∈y.pvs):r.2.length≤16:=by
 have h1:=hK.pl (r.2.map pvP) (by rw[←h.p];exact List.mem_map.2 ⟨r,hr,rfl⟩);rw[List.length_map] at h1;have:=hK.p2;omega
def mkC (D:DD)(e:Nat):List Value:=fcs [.c (.int .i64 (e:Int)),.a 32 (rs (D.tree e)),.a 32 (D.link e)]
theorem J92 (f n:Nat):List.range' f (n+1)=List.range' f n++[f+n]:=by rw[List.range'_concat];simp
attribute [local irreducible] eI be8 hs4 lb J33 J25 K8 xt hm pbs DD.tree DD.link rs S8.kP S8.kN S8.kD ofT

theorem Q1i:zer Tryz.prog 64=some (some (Q7 [.c (.int .i64 0),.a 32 0,.a 32 0])):=by kernel_rfl
theorem Q1j:plc Tryz.prog 64=some [(0,1),(1,32),(33,32)]:=by kernel_rfl
theorem J9m:zer Tryz.prog 81=some (some (Q7 [.c (.int .i64 0),.c (.int .i64 0),.c (.int .i64 0)])):=by kernel_rfl
theorem J9n:plc Tryz.prog 81=some [(0,1),(1,1),(2,1)]:=by kernel_rfl
theorem DK.ext {D:DD}{y:LD}{w W:World}(h:DK D y w)(q:Ext w W):DK D y W:=fun x hx=>As.keep0 (J0b q) (h x hx)
end
end Go.Proofs.YteehbddkcnkhfaaGreatDoor

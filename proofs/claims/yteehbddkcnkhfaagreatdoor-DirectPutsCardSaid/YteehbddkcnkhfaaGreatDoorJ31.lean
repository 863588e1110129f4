/- Contracts and plain laws for directPuts_holds. Conditions: the tables hold their numbers. -/
import Derived.Test.YteehbddkcnkhfaaGreatDoorJ30
open Go.RowKit
set_option maxRecDepth 100000
set_option linter.unusedSimpArgs false
set_option linter.unusedVariables false
namespace Go.Proofs.YteehbddkcnkhfaaGreatDoor
section
theorem Q1v:∀l:List UInt8,(l.map fun c=>[Value.int .u8 (c.toNat:Int)]).flatten=bs8 l
  |[]=>rfl
  |c::l=>by rw[List.map_cons,List.flatten_cons,Q1v l];rfl
theorem Q1w {W:World}{v:Value}{l:List UInt8}(h:Own W v l):Row 5 1 W v (l.map fun c=>[Value.int .u8 (c.toNat:Int)]):=
  ⟨by rw[List.length_map,Q1v];exact h,fun e he=>by obtain⟨_,_,rfl⟩:=List.mem_map.1 he;rfl⟩
theorem Z6m {W:World}{v:Value}{l:List UInt8}(h:Row 5 1 W v (l.map fun c=>[Value.int .u8 (c.toNat:Int)])):Own W v l:=by
  have h1:=h.1;rw[List.length_map,Q1v] at h1;exact h1
theorem Z9b {bs:List (Value×List UInt8)}{k:Nat}{v:Value}{l l' :List UInt8}(hk:bs[k]?=some (v,l)):Z6n (bs.set k (v,l'))=Z6n bs:=by
  have e:∀cs:List (Value×List UInt8),Z6n cs=(cs.map (·.1)).flatMap fun u=>u.ownBlock.toList:=fun cs=>by unfold Z6n;rw[List.flatMap_map]
  rw[e,e,List.map_set]
  congr 1
  refine List.ext_getElem? fun j=> ?_;rw[List.getElem?_set]
  split
  · rename_i h;subst h
    obtain⟨h1,h2⟩:=List.getElem?_eq_some_iff.1 hk;rw[if_pos (by rw[List.length_map];exact h1),List.getElem?_map,hk];rfl
  rfl
theorem Y5c {bs:List (Value×List UInt8)}{k:Nat}{v:Value}{l l' :List UInt8}{W W' :World}(hk:bs[k]?=some (v,l))(h:obK bs W)(hO:Off v.ownBlock.toList W W')(h1:Own W' v l'):obK (bs.set k (v,l')) W' :=by
  obtain⟨D,ey⟩:=List.getElem?_eq_some_iff.1 hk;refine⟨fun z hz=> ?_,?_⟩
  · obtain⟨j,hj⟩:=List.mem_iff_getElem?.1 hz
    rw[List.getElem?_set] at hj
    split at hj
    · rename_i e;subst e
      injection hj with hj;subst hj;exact h1
    rename_i hne;have M:=h.1 z (List.mem_of_getElem? hj);obtain⟨J,ez⟩:=List.getElem?_eq_some_iff.1 hj;refine Q48 M fun c hc=> ?_;have S:c<W.heap.size:=As.lt (x:=.o z.1 z.2) M c (by show c∈z.1.ownBlock.toList;rw[hc];simp);refine hO.block c S fun G=> ?_;rcases Nat.lt_or_gt_of_ne hne with N|R
    · exact List.pairwise_iff_getElem.1 h.2 k j D J N c (by rw[ey];exact G) (by rw[ez,hc];simp)
    exact List.pairwise_iff_getElem.1 h.2 j k J D R c (by rw[ez,hc];simp) (by rw[ey];exact G)
  have e:(bs.set k (v,l')).map (·.1)=bs.map (·.1):=by
    rw[List.map_set];refine List.ext_getElem? fun j=> ?_;rw[List.getElem?_set]
    split
    · rename_i h;subst h
      rw[if_pos (by rw[List.length_map];exact D),List.getElem?_map,hk];rfl
    rfl
  have h2:(bs.map (·.1)).Pairwise fun a b=> ∀k∈a.ownBlock.toList,k∉b.ownBlock.toList:=List.pairwise_map.2 h.2;rw[←e] at h2;exact List.pairwise_map.1 h2
section
variable {ops : Array Oper} {Q : Exit → Act → World → Prop} {w : World} {r : List Oper} {o : Oper} {a a' : Act} {F : List Nat} {H H' : List As}
theorem MPB (i:Nat){bs:List (Value×List UInt8)}{kq:Nat}{l:List UInt8}{ty:TypeId}{x yo:Operand}{g n c:Nat}{b:UInt8}(yh:bs[kq]?=some (.slice (some ⟨g,0,none⟩) n c,l))(hpos:0<l.length)(h:wpM Tryz.prog ops (.L Q) F w H' r a')(hi:H[i]?=some (obT bs):=by exact rfl)(hw:Region.wanted o (yielded ops a.tmps)=true:=by exact rfl)
    (ho:o.op=.store ty x yo:=by exact rfl) (hx:a.eval x=.pointer (some ⟨g,0,none⟩):=by exact rfl) (hy:a.eval yo=.int .u8 (b.toNat:Int):=by exact rfl) (hz:(Tryz.prog.info? ty).map (·.size)=some 1:=by kernel_rfl)
    (hH:H.set i (obT (bs.set kq (.slice (some ⟨g,0,none⟩) n c,l.set 0 b)))=H' :=by dsimp only[sB,sC];first|done|exact rfl) (hp:a.put o.dst undef=a' :=by first|exact pl (by dsimp only[mB,mC];first|done|exact rfl)|exact pn|exact rfl):wpM Tryz.prog ops (.L Q) F w H (o::r) a:=by
  subst hp hH;intro W hS;have hI:obK bs W:=(hS.at_ hi).1;have D:=List.mem_of_getElem? yh;have G:=hI.1 _ D;refine Q9b (j:=0) (q:=0) (e:=[.int .u8 ((l[0]).toNat:Int)]) ⟨rfl,rfl⟩ (Q1w G) rfl (by rw[List.getElem?_map,List.getElem?_eq_getElem hpos];rfl) (by decide) hw ho hx hy hz fun W' h1 h2=>h W' (hS.set hi rfl h2 (fun k hk _=>List.mem_flatMap.2 ⟨_,D,hk⟩) (Q1y (Y5c yh hI h2 (Z6m ?_))) (fun k hk _=> ?_) (.inr rfl) (fun _ _ e=>by cases e))
  · rw[List.map_set];exact h1
  show k∈Z6n bs;rw[←Z9b (l' :=l.set 0 b) yh];exact hk
end
def pvx (q:Pv)(b:UInt8):Pv:={q with x:=q.x.set 0 b}
theorem J42:∀{qs:List Pv} {k:Nat} {y:Pv},qs[k]?=some y→(pbs qs)[2*k]?=some (y.lu,y.l)∧(pbs qs)[2*k+1]?=some (y.xu,y.x)
  |[],_,_,h=>by cases h
  |q::r,0,y,h=>by obtain rfl:=Option.some.inj h;exact⟨rfl,rfl⟩
  |q::r,k+1,y,h=>by
    have h1:=J42 (qs:=r) (k:=k) (y:=y) h;have e:pbs (q::r)=(q.lu,q.l)::(q.xu,q.x)::pbs r:=rfl;rw[e,show 2*(k+1)=2*k+1+1 by omega];exact h1
theorem Z3r:∀{qs:List Pv} {k:Nat} {y:Pv} {b:UInt8},qs[k]?=some y→pbs (qs.set k (pvx y b))=(pbs qs).set (2*k+1) (y.xu,y.x.set 0 b)
  |[],_,_,_,h=>by cases h
  |q::r,0,y,b,h=>by obtain rfl:=Option.some.inj h;rfl
  |q::r,k+1,y,b,h=>by
    have h1:=Z3r (qs:=r) (k:=k) (y:=y) (b:=b) h;have e:pbs (q::r)=(q.lu,q.l)::(q.xu,q.x)::pbs r:=rfl;rw[e,show 2*(k+1)+1=(2*k+1)+1+1 by omega];show(q.lu,q.l)::(q.xu,q.x)::pbs (r.set k (pvx y b))=(q.lu,q.l)::(q.xu,q.x)::(pbs r).set (2*k+1) (y.xu,y.x.set 0 b);rw[h1]
def Bent (qs q' :List Pv)(i:Nat):Prop:=q'.length=qs.length∧∀j,i≤j→q'[j]?=qs[j]?
theorem Bent.zero (qs:List Pv):Bent qs qs 0:=⟨rfl,fun _ _=>rfl⟩
theorem Bent.next {qs q' :List Pv}{i:Nat}(h:Bent qs q' i):Bent qs q' (i+1):=⟨h.1,fun j hj=>h.2 j (by omega)⟩
theorem Bent.set {qs q' :List Pv}{i:Nat}{y:Pv}(h:Bent qs q' i):Bent qs (q'.set i y) (i+1):=⟨by rw[List.length_set];exact h.1,fun j hj=>by rw[List.getElem?_set_ne (by omega)];exact h.2 j (by omega)⟩
theorem Z6o {W:World}{v:Value}{l:List UInt8}(h:Own W v l)(hp:0<l.length):∃g c,v=.slice (some ⟨g,0,none⟩) l.length c:=by
  obtain⟨g,c,e,_⟩:=(Q1w h).at (j:=0) (e:=[.int .u8 ((l[0]).toNat:Int)]) (by rw[List.getElem?_map,List.getElem?_eq_getElem hp];rfl);exact⟨g,c,by rw[e,List.length_map]⟩
theorem Y5e {bs:List (Value×List UInt8)}{W:World}{k g n c:Nat}{v:Value}{l:List UInt8}{b:UInt8}(h:obK bs W)(yh:bs[k]?=some (v,l))(hb:l[0]?=some b)(hv:v=.slice (some ⟨g,0,none⟩) n c):W.cell? ⟨g,0,none⟩=some (.int .u8 (b.toNat:Int)):=by
  obtain⟨g',c',e,hc⟩:=(Q1w (h.1 _ (List.mem_of_getElem? yh))).at (j:=0) (e:=[.int .u8 (b.toNat:Int)]) (by rw[List.getElem?_map,hb];rfl);have e:v=_:=e;rw[hv] at e;injection e with e1 _ _
  injection e1 with e1
  injection e1 with e1
  subst e1;exact hc 0 _ rfl
theorem Q63 {bs:List (Value×List UInt8)}{W:World}{k:Nat}{v:Value}{l:List UInt8}(h:obK bs W)(yh:bs[k]?=some (v,l)):Sl W v l:=(h.1 _ (List.mem_of_getElem? yh)).sl
theorem Y9f {bs:List (Value×List UInt8)}{N:List As}(i:Nat){a b:Nat}{u v:Value}{l x:List UInt8}(h:N[i]?=some (obT bs))(ya:bs[a]?=some (u,l))(yb:bs[b]?=some (v,x)):InF N ((sb u l).toList++(sb v x).toList):=by
  refine V7h i h fun k hk=> ?_;rcases List.mem_append.1 hk with hk|hk
  · exact List.mem_flatMap.2 ⟨_,List.mem_of_getElem? ya,by rw[J2u (As.mem_toList hk)];simp⟩
  exact List.mem_flatMap.2 ⟨_,List.mem_of_getElem? yb,by rw[J2u (As.mem_toList hk)];simp⟩
theorem Q9c {a:Act}{o:Oper}{x y:Operand}{W:World}{v:Value}{k:IntKind}{g n c:Nat}(hp:0<n)(hv:v=.slice (some ⟨g,0,none⟩) n c)(ho:o.op=.indexAddr 22 x y)(hx:a.eval x=v)(hy:a.eval y=.int k 0):(execOp a.eval o).run Tryz.prog W=.ok (.value (.pointer (some ⟨g,0,none⟩))) W:=by
  rw[Q0w (j:=0) hp ho (hx.trans hv) hy];rfl
theorem Z3s {W:World}{v:Value}{qs:List Pv}(h:RR 2 W v (qs.map pvC)):∃A c,v=.slice A qs.length c:=by
  obtain⟨A,c,e,_⟩:=h;exact⟨A,c,by rw[e,List.length_map]⟩
end

section
theorem V1r (R K:Nat)(w:World):(Op.equalIn 10000 25 (.agg (Q5 [.a 32 R,.a 32 K])) (.agg (Q5 [.a 32 R,.a 32 K]))).run Tryz.prog w=.ok true w:=by
 have hu:=Tryz.underlying25;have hf:Tryz.prog.fieldsOf 25=(match Tryz.prog.underlying 25 with|some (.struct fs)=>fs|_=> #[]):=rfl;rw[hu] at hf;rw[run_equalIn_struct w 9999 25 _ _ (by rw[hf];exact hu) (by kernel_rfl),hf]
 have g1:∀i,i<32→((Q5 [.a 32 R,.a 32 K]).extract 0 (0+32))[i]?=some (.int .u8 (J7 R i)):=fun i hi=>by
  rw[Array.getElem?_extract,if_pos (by rw[J6];show i<min (0+32) 64-0;omega)];exact(J1w (off:=0) 0:∀(j_:Nat)(v_:Value),(J0 .u8 32 (J7 R))[j_]?=some v_→(Q5 [.a 32 R,.a 32 K])[0+j_]?=some v_) i _ (V3 _ _ _ _ hi)
 have g2:∀i,i<32→((Q5 [.a 32 R,.a 32 K]).extract 32 (32+32))[i]?=some (.int .u8 (J7 K i)):=fun i hi=>by
  rw[Array.getElem?_extract,if_pos (by rw[J6];show i<min (32+32) 64-32;omega)];exact(J1w (off:=32) 1:∀(j_:Nat)(v_:Value),(J0 .u8 32 (J7 K))[j_]?=some v_→(Q5 [.a 32 R,.a 32 K])[32+j_]?=some v_) i _ (V3 _ _ _ _ hi)
 have p1:=Q0v (P:=Tryz.prog) w 23 32 5 (Q5 [.a 32 R,.a 32 K]) 0 Tryz.underlying23 (by kernel_rfl) (by rw[J6];show _≤64;decide);have p2:=Q0v (P:=Tryz.prog) w 23 32 5 (Q5 [.a 32 R,.a 32 K]) 32 Tryz.underlying23 (by kernel_rfl) (by rw[J6];show _≤64;decide);have e1:=J19 (P:=Tryz.prog) w 9997 23 5 32 .u8 _ _ (J7 R) (J7 R) Tryz.underlying23 Tryz.underlying5 (by kernel_rfl) g1 g1;rw[(J3m _ _ _).2 fun _ _=>rfl] at e1;refine(J2d (by decide) p1 p1 e1).trans ?_;rw[if_pos rfl];have e2:=J19 (P:=Tryz.prog) w 9997 23 5 32 .u8 _ _ (J7 K) (J7 K) Tryz.underlying23 Tryz.underlying5 (by kernel_rfl) g2 g2;rw[(J3m _ _ _).2 fun _ _=>rfl] at e2;refine(J2d (by decide) p2 p2 e2).trans ?_;rw[if_pos rfl];simp[Op.eqFields]
theorem V1s (a b c:Int)(w:World):(Op.equalIn 10000 81 (.agg (Q5 [.c (.int .i64 a),.c (.int .i64 b),.c (.int .i64 c)])) (.agg (Q5 [.c (.int .i64 a),.c (.int .i64 b),.c (.int .i64 c)]))).run Tryz.prog w=.ok true w:=by
 have hu:=Tryz.underlying81;have hf:Tryz.prog.fieldsOf 81=(match Tryz.prog.underlying 81 with|some (.struct fs)=>fs|_=> #[]):=rfl;rw[hu] at hf;rw[run_equalIn_struct w 9999 81 _ _ (by rw[hf];exact hu) (by kernel_rfl),hf]
 have h1:(isAgg 3).run Tryz.prog w=.ok false w:=by
  unfold isAgg;rw[Sem.run_bind,run_underlying Tryz.underlying3 w];rfl
 have p0:(part 3 (Q5 [.c (.int .i64 a),.c (.int .i64 b),.c (.int .i64 c)]) 0).run Tryz.prog w=.ok (.int .i64 a) w:=by
  have h2:(Q5 [.c (.int .i64 a),.c (.int .i64 b),.c (.int .i64 c)])[0]?=some (.int .i64 a):=rfl;simp[part,Sem.run_bind,h1,h2]
 have p1:(part 3 (Q5 [.c (.int .i64 a),.c (.int .i64 b),.c (.int .i64 c)]) 1).run Tryz.prog w=.ok (.int .i64 b) w:=by
  have h2:(Q5 [.c (.int .i64 a),.c (.int .i64 b),.c (.int .i64 c)])[1]?=some (.int .i64 b):=rfl;simp[part,Sem.run_bind,h1,h2]
 have p2:(part 3 (Q5 [.c (.int .i64 a),.c (.int .i64 b),.c (.int .i64 c)]) 2).run Tryz.prog w=.ok (.int .i64 c) w:=by
  have h2:(Q5 [.c (.int .i64 a),.c (.int .i64 b),.c (.int .i64 c)])[2]?=some (.int .i64 c):=rfl;simp[part,Sem.run_bind,h1,h2]
 refine(J2d (by decide) p0 p0 (run_equalIn_int w 9998 3 .i64 .i64 a a Tryz.underlying3)).trans ?_;rw[if_pos (by simp)];refine(J2d (by decide) p1 p1 (run_equalIn_int w 9998 3 .i64 .i64 b b Tryz.underlying3)).trans ?_;rw[if_pos (by simp)];refine(J2d (by decide) p2 p2 (run_equalIn_int w 9998 3 .i64 .i64 c c Tryz.underlying3)).trans ?_;rw[if_pos (by simp)];simp[Op.eqFields]
end

section
theorem RJf {P:Program}{ops:Array Oper}{id:Nat}{a:Act}{w:World}{Q:Exit→Act→World→Prop}{R:Act→World→Prop}(h:(Code.region id ops false).wp P (Nml R) a w)(hk:∀a' w',R a' w' →Q .normal a' w'):(Code.region id ops false).wp P Q a w:=
  Code.wp_mono (fun e a' w' h' =>by cases e<;>first|exact hk _ _ h' |exact(h' :False).elim) h
def K2q:Fnd:=⟨0,0,0,false,0,[],0,0,[],false,0,0,0,0,0,0⟩
def DD.lkE (D:DD)(l:List UInt8)(e:Nat):Fnd:=if erN D.vk l=0 then D.lk l e else K2q
theorem After.lkE {D D' :DD}(h:After D D'){l:List UInt8}{e:Nat}(he:e<D.puts.length):D'.lkE l e=D.lkE l e:=by
  unfold DD.lkE;rw[h.vk,h.lk l e he]
end

section
set_option maxHeartbeats 3000000
attribute [local irreducible] wpList Y8 wpX
open S8 (Kn GA kP)
theorem RR.form2 {k:Nat}{w:World}{v:Value}{es:List (List Value)}(h:RR k w v es):∃A c,v=.slice A es.length c:=by
 obtain⟨A,c,e,_⟩:=h;exact⟨A,c,e⟩
theorem RR.addr {k n c j:Nat}{w:World}{A:Option Addr}{es:List (List Value)}{e:List Value}(h:RR k w (.slice A n c) es)(hj:es[j]?=some e):∃g o,A=some ⟨g,o,none⟩:=by
 obtain⟨A',c',e1,_,_,h3⟩:=h;obtain⟨g,o,h4,_⟩:=h3 j e hj;injection e1 with e1
 exact⟨g,o,e1.trans h4⟩
attribute [local irreducible] eI be8 hs4 lb J3k J2i X5 xt hm pbs DD.tree DD.link rs S8.kP S8.kN S8.kD ofT ebs lk0 sE sL sN opn bnd ahd bsd ixN pfN erN J1a DD.links DD.trees DD.play DD.putD DD.sealD fnd DD.lk DD.lkE J5t

end

section
open S8 (Kn GA kP)
theorem Z98 {J:List UInt8}{L P E:Int}(h:(1≤J.length∧J.length≤16)∧(1≤L∧L≤64)∧(1≤P∧P≤16)∧(1≤E∧E≤32)):∃L' P' E' :Nat,NewOk J L' P' E' ∧L=(L' :Int)∧P=(P' :Int)∧E=(E' :Int):=by
 obtain⟨⟨i1,i2⟩,⟨l1,l2⟩,⟨p1,p2⟩,⟨e1,e2⟩⟩:=h;exact⟨L.toNat,P.toNat,E.toNat,⟨i1,i2,by omega,by omega,by omega,by omega,by omega,by omega⟩,by omega,by omega,by omega⟩
end
end Go.Proofs.YteehbddkcnkhfaaGreatDoor

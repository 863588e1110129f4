/- Contracts and plain laws for bundleAny_holds. Conditions: the tables hold their numbers. -/
import Derived.Test.YtlkbneflnjmgbaaGreatDoorJ4
import Derived.Test.YtlkbneflnjmgbaaGreatDoorRows
import Derived.ProofKit
import Derived.OpenShut
import Derived.Deep.Slices
import Derived.Deep.DeepHandedRow
import Derived.Lib.LaidTab
open Go.RowKit
set_option maxRecDepth 100000
set_option linter.unusedSimpArgs false
set_option linter.unusedVariables false
namespace Go.Proofs.YtlkbneflnjmgbaaGreatDoor
section
theorem J1y {P:Program}{a:Act}{W:World}{o:Oper}{b j:Nat}{sub:Array Value}{ty:TypeId}{x:Operand}(ho:o.op=.load ty x)(hx:a.eval x=.pointer (some ⟨b,j,none⟩))(hc:∀i v,sub[i]?=some v→W.cell? ⟨b,j+i,none⟩=some v)
    (hk:(P.underlying ty).map TypeDesc.isRow=some true) (hi:(P.info? ty).map (·.size)=some sub.size):(execOp a.eval o).run P W=.ok (.value (.agg sub)) W:=
  J0k (vs:=sub.toList) ho hx (fun i v hv=>hc i v (by simpa using hv)) hk (by simpa using hi)
theorem J1c {P:Program}{w:World}{o:Oper}{a:Act}{x y:Operand}{t e:TypeId}{kk:IntKind}{m k b off j:Nat}(hj:j<m)(ht:P.underlying t=some (.array m e))(he:(P.info? e).map (·.size)=some k)(ho:o.op=.indexAddr t x y)(hx:a.eval x=.pointer (some ⟨b,off,none⟩))(hy:a.eval y=.int kk (j:Int)):
    (execOp a.eval o).run P w=.ok (.value (.pointer (some ⟨b,off+j*k,none⟩))) w:=by
  cases hq:P.info? e with
  |none=>simp[hq] at he
  |some i=>
    have hs:i.size=k:=by simpa[hq] using he
    simp[execOp,ho,hx,hy,Instr.indexAt,asIntOf,Instr.sureAddr,run_underlying ht,Sem.run_bind,sizeOf,typeInfo,hq,hs,hj,Addr.add_mid]
theorem J2o {P:Program}{a:Act}{W:World}{o:Oper}{b:Nat}{cs:Array Value}{ty:TypeId}{x:Operand}(ho:o.op=.load ty x)(hx:a.eval x=.pointer (some ⟨b,0,none⟩))(hB:Rd W b cs)
    (hk:(P.underlying ty).map TypeDesc.isRow=some true) (hi:(P.info? ty).map (·.size)=some cs.size):(execOp a.eval o).run P W=.ok (.value (.agg cs)) W:=
  J0k (vs:=cs.toList) ho hx (fun i v hv=>by rw[Nat.zero_add];exact hB.1 i v (by simpa using hv)) hk (by simpa using hi)
section
variable {ops : Array Oper} {k : Wk} {Q : Exit → Act → World → Prop} {F : List Nat} {w : World} {H : List As} {l : List Oper} {o : Oper} {a : Act}
theorem MA (i:Nat){s x:Operand}{v u:Value}{xs ys:List UInt8}{H' :Value→List As}{a' :Value→Act}(hsl:∀W,SH F w W H→Sl W u ys)(hlen:xs.length+ys.length≤140737488355328)(h:∀v',wpM Tryz.prog ops (.L Q) F w (H' v') l (a' v'))(hi:H[i]?=some (.o v xs):=by exact rfl)(hw:Region.wanted o (yielded ops a.tmps)=true:=by exact rfl)
    (ho:o.op=.call {callee:=.builtin .append,args:= #[s,x],argTypes:= #[35,35]}:=by exact rfl) (hs:a.eval s=v:=by exact rfl) (hx:a.eval x=u:=by exact rfl)
    (hH:∀v',H.set i (.o v' (xs++ys))=H' v' :=by intro v';dsimp only[sB,sC];first|done|exact rfl) (hp:∀v,a.put o.dst v=a' v:=by intro b;first|exact pl (by dsimp only[mB,mC];first|done|exact rfl)|exact pn|exact rfl):wpM Tryz.prog ops (.L Q) F w H (o::l) a:=by
  intro W hS;refine J00 hw ho hs hx (hS.own hi) (hsl W hS) hlen fun v' W' h1 h2 h3 _=> ?_;rw[hp];exact h v' W' (by rw[←hH];exact hS.seto hi h2 h1 h3)
theorem MAr (i j:Nat){s x:Operand}{v:Value}{es:List (List Value)}{t t2 tS:TypeId}{n g c bytes:Nat}{cs:Array Value}{e:List Value}{H' :Value→List As}{a' :Value→Act}(hlen:es.length+1≤1099511627776)(h:∀v',wpM Tryz.prog ops (.L Q) F w (H' v') l (a' v'))(he:cs.toList=e:=by exact rfl)(hi:H[i]?=some (.r t n v es):=by exact rfl)(hj:H[j]?=some (.b g cs t2):=by exact rfl)
    (hk:cs.size=n:=by first|kernel_rfl|rfl) (h1:cs.all (·.oneCell')=true:=by first|kernel_rfl|rfl) (hk0:0<n:=by decide) (ht:Tryz.prog.underlying tS=some (.slice t):=by as_aux_lemma=>kernel_rfl) (hb:(Tryz.prog.info? t).map (fun i=>(i.zero.map (·.cells.size),i.size,i.bytes))=some (some n,n,bytes):=by as_aux_lemma=>kernel_rfl) (hbb:bytes≤128:=by decide)
    (hw:Region.wanted o (yielded ops a.tmps)=true:=by exact rfl) (ho:o.op=.call {callee:=.builtin .append,args:= #[s,x],argTypes:= #[tS,tS]}:=by exact rfl) (hs:a.eval s=v:=by exact rfl) (hx:a.eval x=.slice (some ⟨g,0,none⟩) 1 c:=by exact rfl)
    (hH:∀v',H.set i (.r t n v' (es++[e]))=H' v' :=by intro v';dsimp only[sB,sC];first|done|exact rfl) (hp:∀v,a.put o.dst v=a' v:=by intro b;first|exact pl (by dsimp only[mB,mC];first|done|exact rfl)|exact pn|exact rfl):wpM Tryz.prog ops (.L Q) F w H (o::l) a:=by
  subst he;intro W hS;refine Z05 hw ho hs hx (hS.row hi) (hS.blk hj) hk h1 hk0 ht hb (Nat.le_trans (Nat.mul_le_mul hlen hbb) (by decide)) (by unfold maxLen;omega) fun v' W' h1 h2 h3=> ?_;rw[hp];exact h v' W' (by rw[←hH];exact hS.setr hi h2 h1 h3)
theorem MK {x y:Operand}{n:Nat}{a' :Value→Act}(hn:n≤140737488355328)(h:∀v,wpM Tryz.prog ops (.L Q) F w (.o v (List.replicate n 0)::H) l (a' v))(ht:H.all (SH.tyOk (.o undef []))=true:=by exact rfl)(hw:Region.wanted o (yielded ops a.tmps)=true:=by exact rfl)
    (ho:o.op=.makeSlice 35 x y:=by exact rfl) (hx:a.eval x=.int .i64 (n:Int):=by exact rfl) (hy:a.eval y=.int .i64 (n:Int):=by exact rfl) (hp:∀v,a.put o.dst v=a' v:=by intro b;first|exact pl (by dsimp only[mB,mC];first|done|exact rfl)|exact pn|exact rfl):wpM Tryz.prog ops (.L Q) F w H (o::l) a:=by
  intro W hS;refine Y19 hn hw ho hx hy fun b W' hb hO D=> ?_;rw[hp];exact h _ W' (hS.new (x:=.o (.slice (some ⟨b,0,none⟩) n n) (List.replicate n 0)) hO D (fun k hk=>by rw[show k=b from List.mem_singleton.1 hk];exact hb) rfl ht)
theorem MH (i n:Nat){x y:Operand}{v:Value}{m m' :List UInt8}{a' :Value→Act}(hn:n≤m.length)(h:∀u,wpM Tryz.prog ops k F w (.s u m' ::H) l (a' u))(hi:H[i]?=some (.s v m):=by exact rfl)(hm:m.take n=m' :=by exact rfl)(hw:Region.wanted o (yielded ops a.tmps)=true:=by exact rfl)
    (ho:o.op=.slice 35 x none (some y) none:=by exact rfl) (hx:a.eval x=v:=by exact rfl) (hy:a.eval y=.int .i64 (n:Int):=by exact rfl) (hp:∀v,a.put o.dst v=a' v:=by intro b;first|exact pl (by dsimp only[mB,mC];first|done|exact rfl)|exact pn|exact rfl):wpM Tryz.prog ops k F w H (o::l) a:=by
  subst hm;intro W hS;obtain⟨u,hr,h1,h2,_⟩:=Q9y (hS.sl hi) hn;have hS' :=hS.sub hi h1 h2;have D:∀W,(execOp a.eval o).run Tryz.prog W=.ok (.value u) W:=fun W=>by simp[execOp,ho,hx,hy,hr W,Sem.run_bind]
  cases k with
  |L Q=>exact J1r hw (D W) (by rw[hp];exact h u W hS')
  |X E=>exact J0d hw (fun W' _=>D W') (by rw[hp];exact h u W hS')
theorem Mt (i n:Nat){x y:Operand}{v:Value}{m m' :List UInt8}{a' :Value→Act}(hn:n≤m.length)(h:∀u,wpM Tryz.prog ops k F w (.s u m' ::H) l (a' u))(hi:H[i]?=some (.s v m):=by exact rfl)(hm:m.drop n=m' :=by exact rfl)(hw:Region.wanted o (yielded ops a.tmps)=true:=by exact rfl)
    (ho:o.op=.slice 35 x (some y) none none:=by exact rfl) (hx:a.eval x=v:=by exact rfl) (hy:a.eval y=.int .i64 (n:Int):=by exact rfl) (hp:∀v,a.put o.dst v=a' v:=by intro b;first|exact pl (by dsimp only[mB,mC];first|done|exact rfl)|exact pn|exact rfl):wpM Tryz.prog ops k F w H (o::l) a:=by
  subst hm;intro W hS;obtain⟨u,hr,h1,h2⟩:=Q9z (hS.sl hi) hn;have hS' :=hS.sub hi h1 h2;have D:∀W,(execOp a.eval o).run Tryz.prog W=.ok (.value u) W:=fun W=>by simp[execOp,ho,hx,hy,hr W,Sem.run_bind]
  cases k with
  |L Q=>exact J1r hw (D W) (by rw[hp];exact h u W hS')
  |X E=>exact J0d hw (fun W' _=>D W') (by rw[hp];exact h u W hS')
end
namespace SH
variable {F : List Nat} {w W W' : World} {H : List As}
theorem newS {v:Value}{l:List UInt8}(h:SH F w W H)(q:Off [] W W')(hs:Sl W' v l)(hf:∀k,sb v l=some k→W.heap.size≤k):SH F w W' (.s v l::H):=by
  have h' :=h.next q;refine⟨h'.off,fun y hy=> ?_,List.pairwise_cons.2 ⟨fun y hy=>⟨fun h=>by(cases h),fun _ k hk D=> ?_⟩,h'.ap⟩,fun y hy hm k hk G=> ?_⟩
  · rcases List.mem_cons.1 hy with rfl|hy
    · exact hs
    exact h'.all y hy
  · exact Nat.not_lt.2 (hf k (As.mem_toList D)) (As.lt (h.all y hy) k hk)
  rcases List.mem_cons.1 hy with rfl|hy
  · cases hm
  exact h.old y hy hm k hk G
theorem entp {f:List Nat}{K:World→Prop}(h:SH [] w W H)(hs:(As.p f K).holds w):SH [] w W (.p f K::H):=by
  refine⟨h.off,fun y hy=> ?_,List.pairwise_cons.2 ⟨fun y hy=>⟨fun h=>by(cases h),fun hm k hk D=> ?_⟩,h.ap⟩,fun y hy hm k hk G=> ?_⟩
  · rcases List.mem_cons.1 hy with rfl|hy
    · exact As.keep0 h.off hs
    exact h.all y hy
  · have:=h.old y hy hm k hk (hs.2.1 k D)
    cases this
  rcases List.mem_cons.1 hy with rfl|hy
  · cases hm
  exact h.old y hy hm k hk G
end SH
theorem J3i {w W:World}{b:Nat}{cs:Array Value}(h:Rd w b cs)(hs:w.heap.size≤W.heap.size)(e:W.heap[b]?=w.heap[b]?):Rd W b cs:=
  ⟨fun j v hv=>(World.cell?_of_block (w:=w) e).trans (h.1 j v hv),Nat.lt_of_lt_of_le h.2 hs⟩
section
variable {ops : Array Oper} {k : Wk} {Q : Exit → Act → World → Prop} {F : List Nat} {w : World} {H : List As} {l : List Oper} {o : Oper} {a : Act}
end
end

section
theorem J2l {P:Program}{a:Act}{o:Oper}{x y:Operand}{tS t:TypeId}{k g oo:Nat}{W:World}{kk:IntKind}{A:Option Addr}{n c j:Nat}(hA:A=some ⟨g,oo,none⟩)(hj:j<n)(ho:o.op=.indexAddr tS x y)(hx:a.eval x=.slice A n c)(hy:a.eval y=.int kk (j:Int))(ht:P.underlying tS=some (.slice t))(hi:(P.info? t).map (·.size)=some k):
    (execOp a.eval o).run P W=.ok (.value (.pointer (some ⟨g,oo+j*k,none⟩))) W:=by
  subst hA;rw[Y7e hj ho hx hy ht hi,Addr.add_mid]
def RR (k:Nat)(w:World)(v:Value)(es:List (List Value)):Prop:=
  ∃A c,v=.slice A es.length c∧es.length≤c∧(A=none→c=0)∧∀(j:Nat)(e:List Value),es[j]?=some e→∃g o,A=some ⟨g,o,none⟩∧∀(i:Nat)(x:Value),e[i]?=some x→w.cell? ⟨g,o+j*k+i,none⟩=some x
theorem RR.ext {k:Nat}{w W:World}{v:Value}{es:List (List Value)}(h:RR k w v es)(q:Ext w W):RR k W v es:=by
  obtain⟨A,c,h1,h2,h0,h3⟩:=h;refine⟨A,c,h1,h2,h0,fun j e hj=> ?_⟩;obtain⟨g,o,h4,h5⟩:=h3 j e hj;exact⟨g,o,h4,fun i x hx=>J0q (h5 i x hx) q⟩
theorem RR.cellat {k n c j g o:Nat}{w:World}{A:Option Addr}{es:List (List Value)}{e:List Value}(h:RR k w (.slice A n c) es)(hj:es[j]?=some e)(hA:A=some ⟨g,o,none⟩):∀(i:Nat) (x:Value),e[i]?=some x→w.cell? ⟨g,o+j*k+i,none⟩=some x:=by
  obtain⟨A',c',h1,_,_,h3⟩:=h;injection h1 with h1
  obtain⟨g',o',h4,h5⟩:=h3 j e hj;rw[←h1,hA] at h4;injection h4 with h4
  injection h4 with h6 h7
  subst h6;subst h7;exact h5
theorem V2x (k:Nat)(w:World):RR k w (.slice none 0 0) []:=⟨none,0,rfl,Nat.le_refl _,fun _=>rfl,fun j e h=>by simp at h⟩
theorem Row.rr {t:TypeId}{k:Nat}{w:World}{v:Value}{es:List (List Value)}(h:Row t k w v es):RR k w v es:=by
  have h0:∃A c,v=.slice A es.length c∧es.length≤c∧(A=none→c=0):=by
    rcases h.1.2 with⟨rfl,hn⟩|⟨g,D,G,rfl,_,hh,hc,_⟩
    · exact⟨none,0,by rw[hn],by omega,fun _=>rfl⟩
    exact⟨_,_,rfl,hc,fun e=>by cases e⟩
  obtain⟨A,c,h1,h2,h3⟩:=h0;refine⟨A,c,h1,h2,h3,fun j e hj=> ?_⟩;obtain⟨g,c',h3,h4⟩:=h.at hj;rw[h1] at h3;injection h3 with h3
  exact⟨g,0,h3,fun i x hx=>by rw[Nat.zero_add];exact h4 i x hx⟩
theorem Y5z {P:Program}{tS t:TypeId}{k m:Nat}{w:World}{v:Value}{es:List (List Value)}(h:RR k w v es)(hm:m≤es.length)(ht:P.underlying tS=some (.slice t))(hi:(P.info? t).map (·.size)=some k):
    ∃u,(∀W,(Instr.sliceAt tS v (some (.int .i64 (m:Int))) none none).run P W=.ok u W)∧∀W,RR k W v es→RR k W u (es.drop m):=by
  obtain⟨A,c,rfl,h1,h0,_⟩:=h
  have hr:∀W,(Instr.sliceAt tS (.slice A es.length c) (some (.int .i64 (m:Int))) none none).run P W=.ok (.slice (if c=m then A else A.map (·.add (m*k))) (es.length-m) (c-m)) W:=by
    intro W;cases hq:P.info? t with
    |none=>simp[hq] at hi
    |some i=>
      have hs:i.size=k:=by simpa[hq] using hi
      simp[Instr.sliceAt,Instr.slice,Instr.sliceBounds,Instr.sliceBound,asIntOf,run_underlying ht,Sem.run_bind,sizeOf,typeInfo,hq,hs,hm]
  refine⟨_,hr,fun W hW=> ?_⟩;obtain⟨A',c',he,_,_,h3⟩:=hW;injection he with e1 _ e2
  subst e1 e2;have hl:(es.drop m).length=es.length-m:=List.length_drop ..;refine⟨_,c-m,by rw[hl],by omega,fun e=> ?_,fun j e hj=> ?_⟩
  · split at e
    · have:=h0 e;omega
    cases A with
    |none=>have:=h0 rfl;omega
    |some ad=>cases e
  rw[List.getElem?_drop] at hj;obtain⟨g,oo,hA,h4⟩:=h3 (m+j) e hj;subst hA
  have D:m+j<es.length:=by
    rcases Nat.lt_or_ge (m+j) es.length with h|h
    · exact h
    rw[List.getElem?_eq_none h] at hj;cases hj
  refine⟨g,oo+m*k,?_,fun i x hx=> ?_⟩
  · rw[if_neg (by omega)]
    show some (Addr.add _ _)=_;rw[Addr.add_mid]
  have:=h4 i x hx;rw[Nat.add_mul,←Nat.add_assoc] at this;exact this
theorem Z6p {P:Program}{a:Act}{o:Oper}{x y:Operand}{tS:TypeId}{v k u:Value}{W:World}(hr:∀W,(Instr.sliceAt tS v (some k) none none).run P W=.ok u W)(ho:o.op=.slice tS x (some y) none none)(hx:a.eval x=v)(hy:a.eval y=k):(execOp a.eval o).run P W=.ok (.value u) W:=by
  simp[execOp,ho,hx,hy,hr W,Sem.run_bind]
section
variable {ops : Array Oper} {Q : Exit → Act → World → Prop} {F : List Nat} {w : World} {H : List As} {l : List Oper} {o : Oper} {a : Act}
theorem SH.b2r {t:TypeId}{k b n:Nat}{cs:Array Value}{es:List (List Value)}{W:World}(h:SH F w W (.b b cs t::H))(hc:cs.toList=es.flatten)(hl:∀e∈es,e.length=k)(hn:es.length=n)(hm:n≤maxLen):SH F w W (.r t k (.slice (some ⟨b,0,none⟩) n n) es::H):=by
  subst hn;exact h.set (i:=0) (x:=.b b cs t) rfl rfl (Off.refl [] W) (fun k hk=>by cases hk) (Y7d (h.blk (i:=0) rfl) hc hl hm) (fun k hk _=>hk) (.inr rfl) (fun _ _ e=>by cases e)
end
end

section
attribute [local irreducible] wpList Z6 wpX
theorem RJ {P:Program}{ops:Array Oper}{id:Nat}{a:Act}{w:World}{Q:Exit→Act→World→Prop}{R:Act→World→Prop}(h:(Code.region id ops true).wp P (Nml R) a w)(hk:∀a' w',R a' w' →Q .normal a' w'):(Code.region id ops true).wp P Q a w:=
  Code.wp_mono (fun e a' w' h' =>by cases e<;>first|exact hk _ _ h' |exact(h' :False).elim) h
section
variable {ops : Array Oper} {Q : Exit → Act → World → Prop} {F : List Nat} {w : World} {H H' : List As} {r : List Oper} {o : Oper} {a a' : Act}
theorem Q4r {k q:Nat}{u:Value}:∀{es:List (List Value)} {j:Nat} {e:List Value},(∀e∈es,e.length=k)→es[j]?=some e→q<k→es.flatten.set (j*k+q) u=(es.set j (e.set q u)).flatten
  |[],j,e,_,h,_=>by simp at h
  |f::es,0,e,hk,h,hq=>by
    obtain rfl:f=e:=by simpa using h
    rw[List.flatten_cons,Nat.zero_mul,Nat.zero_add,List.set_append_left _ _ (by rw[hk f (by simp)];exact hq),List.set_cons_zero,List.flatten_cons]
  |f::es,j+1,e,hk,h,hq=>by
    have hf:=hk f (by simp);have h' :es[j]?=some e:=by simpa using h
    rw[List.flatten_cons,List.set_append_right _ _ (by rw[hf,Nat.add_mul,Nat.one_mul];omega),hf,show(j+1)*k+q-k=j*k+q by rw[Nat.add_mul,Nat.one_mul];omega,Q4r (fun e he=>hk e (by simp[he])) h' hq,List.set_cons_succ,List.flatten_cons]
theorem Y2g {ty t:TypeId}{x y:Operand}{g j q k n c:Nat}{v u:Value}{es:List (List Value)}{e:List Value}(hu:u.cells= #[u]∧u.oneCell' =true)(hR:Row t k w v es)(hv:v=.slice (some ⟨g,0,none⟩) n c)(hj:es[j]?=some e)(hq:q<k)(hw:Region.wanted o (yielded ops a.tmps)=true)
    (ho:o.op=.store ty x y) (hx:a.eval x=.pointer (some ⟨g,j*k+q,none⟩)) (hy:a.eval y=u) (hi:(Tryz.prog.info? ty).map (·.size)=some 1)
    (h:∀W,Row t k W v (es.set j (e.set q u))→Off v.ownBlock.toList w W→wpList Tryz.prog ops Q r (a.put o.dst undef) W):wpList Tryz.prog ops Q (o::r) a w:=by
  have J:=(List.getElem?_eq_some_iff.1 hj).1;have M:=hR.2 e (List.mem_of_getElem? hj)
  have N:j*k+q<es.length*k:=by
    have:(j+1)*k≤es.length*k:=Nat.mul_le_mul_right k J;rw[Nat.add_mul] at this;omega
  rcases hR.1.2 with⟨h1,hn⟩|⟨g',G,D,h1,hb,hh,hc,hm,hs,ht⟩
  · omega
  have e1:=h1.symm.trans hv;injection e1 with e1
  injection e1 with e1
  injection e1 with e1
  subst e1;have R:es.length*k≤D.size:=by rw[hs];exact Nat.mul_le_mul_right k hc
  refine J1k hu hw ho hx hy (show Blk w g' D t from hh) (by omega) hi fun W hO hB=>h W ⟨⟨?_,.inr ⟨g',G,D.setIfInBounds (j*k+q) u,by rw[h1,List.length_set],hb,hB,by rw[List.length_set];exact hc,hm,by rw[Array.size_setIfInBounds];exact hs,?_⟩⟩,fun f hf=> ?_⟩ (by rw[h1];exact hO)
  · rw[←Q4r hR.2 hj hq,List.length_set,List.length_set];exact hR.1.1
  · rw[Array.toList_setIfInBounds,List.length_set,List.take_set,ht,Q4r hR.2 hj hq]
  rcases List.mem_or_eq_of_mem_set hf with hf|rfl
  · exact hR.2 f hf
  rw[List.length_set];exact M
end
end

section
theorem J7c (A:Nat):∀n,J1w (J7 A) n=A % 2^(8*n)
  |0=>by rw[Nat.mul_zero,Nat.pow_zero,Nat.mod_one];rfl
  |n+1=>by
    show J1w (J7 A) n+(J7 A n).toNat*2^(8*n)=_;rw[J7c A n,Nat.mul_add,Nat.pow_add,Nat.mod_mul,Nat.mul_comm (J7 A n).toNat];rfl
theorem Z5a {A B:Nat}(hA:A<2^256)(hB:B<2^256)(h:∀j,j<32→J7 A j=J7 B j):A=B:=by
  have D:∀n,n≤32→J1w (J7 A) n=J1w (J7 B) n:=by
    intro n
    induction n with
    |zero=>intro _;rfl
    |succ n ih=>intro hn;show J1w (J7 A) n+(J7 A n).toNat*_=J1w (J7 B) n+(J7 B n).toNat*_;rw[ih (by omega),h n (by omega)]
  have:=D 32 (by omega);rw[J7c,J7c] at this
  rwa [show 8*32=256 by decide,Nat.mod_eq_of_lt hA,Nat.mod_eq_of_lt hB] at this
theorem V0y (A B:Nat)(hA:A<2^256)(hB:B<2^256)(w:World):(Op.equalIn 10000 22 (.agg (J0 .u8 32 (J7 A))) (.agg (J0 .u8 32 (J7 B)))).run Tryz.prog w=.ok (decide (A=B)) w:=by
  have h:=J54 (P:=Tryz.prog) w 9998 22 5 32 .u8 (J0 .u8 32 (J7 A)) (J0 .u8 32 (J7 B)) (J7 A) (J7 B) Tryz.underlying22 Tryz.underlying5 (by kernel_rfl)
    (fun i hi=>K7 _ _ _ _ hi) (fun i hi=>K7 _ _ _ _ hi)
  rw[h]
  congr 1
  rw[Bool.eq_iff_iff,Q0c,decide_eq_true_iff];exact⟨Z5a hA hB,fun h=>by subst h;intro _ _;rfl⟩
def lb (n V:Nat):List UInt8:=(List.range n).map fun j=>UInt8.ofNat (V / 2^(8*j) % 256)
theorem J6 (n V:Nat):(lb n V).length=n:=by simp[lb]
theorem V4d {n V j:Nat}(hj:j<n):(lb n V)[j]?=some (UInt8.ofNat (V / 2^(8*j) % 256)):=by simp[lb,hj]
theorem Y2d (V j:Nat):((UInt8.ofNat (V / 2^(8*j) % 256)).toNat:Int)=J7 V j:=by
  unfold J7;rw[UInt8.toNat_ofNat',Nat.mod_mod]
theorem Q07 (n V:Nat):bs8 (lb n V)=Q31 .u8 n (J7 V):=by
  unfold bs8 lb Q31;rw[List.map_map];apply List.map_congr_left;intro j _;simp only[Function.comp,Y2d]
theorem J32 (n:Nat)(f:Nat→Int):(J0 .u8 n f).toList=Q31 .u8 n f:=rfl
def le:List UInt8→Nat
  |[]=>0
  |x::r=>x.toNat+256*le r
theorem Z9o:∀l:List UInt8,le l<2^(8*l.length)
  |[]=>by decide
  |x::r=>by
    have h:=Z9o r;have hx:=x.toNat_lt;show x.toNat+256*le r<2^(8*(r.length+1));rw[Nat.mul_add,Nat.pow_add];omega
theorem Q1k (n V:Nat):lb (n+1) V=UInt8.ofNat (V % 256)::lb n (V / 256):=by
  unfold lb;rw[List.range_succ_eq_map,List.map_cons,List.map_map]
  congr 1
  · rw[Nat.mul_zero,Nat.pow_zero,Nat.div_one]
  apply List.map_congr_left;intro j _;simp only[Function.comp];rw[Nat.div_div_eq_div_mul,Nat.succ_eq_add_one,Nat.mul_add,Nat.pow_add,Nat.mul_comm (2^(8*j))]
theorem V0z:∀l:List UInt8,lb l.length (le l)=l
  |[]=>rfl
  |x::r=>by
    have hx:x.toNat<256:=x.toNat_lt;rw[List.length_cons,Q1k];show UInt8.ofNat ((x.toNat+256*le r) % 256)::lb r.length ((x.toNat+256*le r) / 256)=_;rw[show(x.toNat+256*le r) % 256=x.toNat by omega,show(x.toNat+256*le r) / 256=le r by omega,V0z r]
    congr 1
    exact UInt8.ofNat_toNat
theorem Z1p {l:List UInt8}{n:Nat}(h:l.length=n):lb n (le l)=l:=h▸V0z l
theorem Y2e (n V:Nat):lb n (V % 2^(8*n))=lb n V:=by
  induction n generalizing V with
  |zero=>rfl
  |succ n ih=>
    rw[Q1k,Q1k];have e:(2:Nat)^(8*(n+1))=256*2^(8*n):=by rw[show 8*(n+1)=8*n+8 by omega,Nat.pow_add];omega
    rw[e,Nat.mod_mul_right_mod,Nat.mod_mul_right_div_self,ih]
theorem Q9k {n:Nat}{f g:Nat→Int}(h:(J0 .u8 n f).toList=(J0 .u8 n g).toList):J0 .u8 n f=J0 .u8 n g:=by
  rw[←Array.toArray_toList (xs:=J0 .u8 n f),h,Array.toArray_toList]
theorem V5 {w:World}{b off n c V:Nat}{cs:Array Value}{t:TypeId}(h:Blk w b cs t)(hc:∀i v,(J0 .u8 n (J7 V))[i]?=some v→cs[off+i]?=some v)(hn:n≤c)(hm:c≤maxLen):Sl w (.slice (some ⟨b,off,none⟩) n c) (lb n V):=
  Z25 h (J6 n V).symm hn hm fun j x hj=>by
    have D:j<n:=by have:=(List.getElem?_eq_some_iff.1 hj).1;rwa [J6] at this
    rw[V4d D] at hj;have:=Option.some.inj hj;subst this;rw[Y2d];exact hc j _ (K7 _ _ _ _ D)
theorem ap0 {a:Array Value}:∀i v,a[i]?=some v→a[0+i]?=some v:=fun i v h=>by rw[Nat.zero_add];exact h
theorem pv0 {w:World}:∀(i:Nat) (l:List UInt8),([]:List (List UInt8))[i]?=some l→∃u,([]:List Value)[i]?=some u∧Sl w u l:=fun i l h=>by simp at h
theorem pvc {w:World}{ps:List (List UInt8)}{vs:List Value}{v:Value}{m:List UInt8}(h:Sl w v m)(k:∀(i:Nat) (l:List UInt8),ps[i]?=some l→∃u,vs[i]?=some u∧Sl w u l):
    ∀(i:Nat)(l:List UInt8),(m::ps)[i]?=some l→∃u,(v::vs)[i]?=some u∧Sl w u l
  |0,l,hi=>⟨v,rfl,by
      have e:m=l:=by simpa using hi
      subst e;exact h⟩
  |i+1,l,hi=>k i l (by simpa using hi)
theorem J1q {w:World}{g:Nat}{cs:Array Value}{ps:List (List UInt8)}{t:TypeId}(h:Blk w g cs t)(hv:∀(i:Nat) (l:List UInt8),ps[i]?=some l→∃u,cs.toList[i]?=some u∧Sl w u l):
    ∀(i:Nat)(l:List UInt8),ps[i]?=some l→∃ad u,some (⟨g,0,none⟩:Addr)=some ad∧w.cell? (ad.add i)=some u∧Sl w u l:=fun i l hi=>by
  obtain⟨u,h1,h2⟩:=hv i l hi;exact⟨_,u,rfl,by rw[Addr.add_mid,J4 h,Nat.zero_add];simpa using h1,h2⟩
end

section
inductive Fd where
  |c:Value→Fd
  |a:Nat→Nat→Fd
def Fd.cs:Fd→List Value
  | .c v=>[v]
  | .a n X=>(J0 .u8 n (J7 X)).toList
def Fd.wid:Fd→Nat
  | .c _=>1
  | .a n _=>n
theorem Fd.len (x:Fd):x.cs.length=x.wid:=by
  cases x with
  |c v=>rfl
  |a n X=>show(J0 .u8 n (J7 X)).toList.length=n;rw[Array.length_toList,J1]
def fcs:List Fd→List Value
  |[]=>[]
  |x::l=>x.cs++fcs l
def fsz:List Fd→Nat
  |[]=>0
  |x::l=>x.wid+fsz l
theorem J7z:∀l:List Fd,(fcs l).length=fsz l
  |[]=>rfl
  |x::l=>by show(x.cs++fcs l).length=x.wid+fsz l;rw[List.length_append,Fd.len,J7z l]
theorem J80:∀l m:List Fd,fcs (l++m)=fcs l++fcs m
  |[],_=>rfl
  |x::l,m=>by show x.cs++fcs (l++m)=x.cs++fcs l++fcs m;rw[J80 l m,List.append_assoc]
def Q6 (l:List Fd):Array Value:=(fcs l).toArray
theorem J5 (l:List Fd):(Q6 l).size=fsz l:=by unfold Q6;rw[List.size_toArray,J7z]
theorem Q95 (l:List Fd):(Q6 l).toList=fcs l:=rfl
theorem Q3x (n X:Nat):Q6 [.a n X]=J0 .u8 n (J7 X):=by apply Array.toList_inj.1;show(J0 .u8 n (J7 X)).toList++[]=_;rw[List.append_nil]
def Y7z:List Fd→Prop
  |[]=>True
  | .c v::l=>v.oneCell' =true∧Y7z l
  | .a _ _::l=>Y7z l
theorem Q82:∀{l:List Fd},Y7z l→∀v∈fcs l,v.oneCell' =true
  |[],_,v,h=>by cases h
  | .c u::l,h,v,hv=>by
    rcases List.mem_cons.1 (show v∈u::fcs l from hv) with rfl|hv
    · exact h.1
    · exact Q82 h.2 v hv
  | .a n X::l,h,v,hv=>by
    rcases List.mem_append.1 (show v∈(J0 .u8 n (J7 X)).toList++fcs l from hv) with hv|hv
    · exact Array.all_eq_true_iff_forall_mem.1 (J04 .u8 n (J7 X)) v (by simpa using hv)
    · exact Q82 (l:=l) h v hv
theorem V6 {l:List Fd}(h:Y7z l):(Q6 l).all (·.oneCell')=true:=
  Array.all_eq_true_iff_forall_mem.2 fun v hv=>Q82 h v (by simpa[Q6] using hv)
section
variable {l m l' : List Fd} {off N X Y : Nat} {u v : Value}
theorem Q13 (i n:Nat)(hm:(l.drop i).take n=m:=by exact rfl)(ho:fsz (l.take i)=off:=by first|kernel_rfl|exact rfl):∀j v,(Q6 m)[j]?=some v→(Q6 l)[off+j]?=some v:=by
  subst hm ho;intro j v h;have h1:(fcs ((l.drop i).take n))[j]?=some v:=by simpa[Q6] using h
  have e:fcs l=fcs (l.take i)++(fcs ((l.drop i).take n)++fcs ((l.drop i).drop n)):=by rw[←J80,List.take_append_drop,←J80,List.take_append_drop]
  show(fcs l).toArray[_]?=_;rw[List.getElem?_toArray,e,List.getElem?_append_right (by rw[J7z];omega),J7z,Nat.add_sub_cancel_left,List.getElem?_append_left (List.getElem?_eq_some_iff.1 h1).1];exact h1
theorem J6u {α:Type}{l:List α}{i:Nat}{x:α}(h:l[i]?=some x):(l.drop i).take 1=[x]:=by
  obtain⟨h1,h2⟩:=List.getElem?_eq_some_iff.1 h;rw[List.drop_eq_getElem_cons h1,h2];rfl
theorem J4j (i:Nat)(hi:l[i]?=some (.a N X):=by exact rfl)(ho:fsz (l.take i)=off:=by first|kernel_rfl|exact rfl):∀j v,(J0 .u8 N (J7 X))[j]?=some v→(Q6 l)[off+j]?=some v:=by
  rw[←Q3x];exact Q13 i 1 (J6u hi) ho
theorem J9 (i:Nat)(hi:l[i]?=some (.c v):=by exact rfl)(ho:fsz (l.take i)=off:=by first|kernel_rfl|exact rfl):(Q6 l)[off]?=some v:=by
  have h:=Q13 i 1 (J6u hi) ho 0 v rfl;exact h
theorem Z5b:∀(vs old pre post:List Value),old.length=vs.length→spl (pre++(old++post)).toArray pre.length vs=(pre++(vs++post)).toArray
  |[],old,pre,post,h=>by rw[List.eq_nil_of_length_eq_zero h];rfl
  |u::r,[],pre,post,h=>by cases h
  |u::r,o::old,pre,post,h=>by
    show spl ((pre++(o::old++post)).toArray.setIfInBounds pre.length u) (pre.length+1) r=_
    have e:(pre++(o::old++post)).toArray.setIfInBounds pre.length u=((pre++[u])++(old++post)).toArray:=by
      apply Array.toList_inj.1;rw[Array.toList_setIfInBounds];show(pre++(o::old++post)).set pre.length u=_;rw[List.set_append_right _ _ (Nat.le_refl _),Nat.sub_self];simp
    rw[e,show pre.length+1=(pre++[u]).length by simp,Z5b r old (pre++[u]) post (by simpa using h)];simp
theorem Z0e (i n:Nat)(hl:l.take i++(m++l.drop (i+n))=l' :=by exact rfl)(ho:fsz (l.take i)=off:=by first|kernel_rfl|exact rfl)(hm:fsz m=fsz ((l.drop i).take n):=by first|kernel_rfl|exact rfl):spl (Q6 l) off (Q6 m).toList=Q6 l' :=by
  subst ho hl;have e:fcs l=fcs (l.take i)++(fcs ((l.drop i).take n)++fcs ((l.drop i).drop n)):=by rw[←J80,List.take_append_drop,←J80,List.take_append_drop]
  have h:=Z5b (fcs m) (fcs ((l.drop i).take n)) (fcs (l.take i)) (fcs ((l.drop i).drop n)) (by rw[J7z,J7z,hm]);rw[←e,J7z] at h;show spl (fcs l).toArray _ (fcs m)=(fcs _).toArray;rw[h,J80,J80,List.drop_drop]
theorem Q2o {α:Type}:∀{l:List α} {i:Nat} {x y:α},l[i]?=some x→l.set i y=l.take i++([y]++l.drop (i+1))
  |[],_,_,_,h=>by simp at h
  |_::_,0,_,_,_=>rfl
  |_::l,i+1,_,y,h=>congrArg _ (Q2o (l:=l) (y:=y) (by simpa using h))
theorem J0e (i:Nat)(hi:l[i]?=some (.c u):=by exact rfl)(hl:l.set i (.c v)=l' :=by exact rfl)(ho:fsz (l.take i)=off:=by first|kernel_rfl|exact rfl):(Q6 l).setIfInBounds off v=Q6 l' :=by
  have h:=Z0e (l' :=l') (m:=[.c v]) i 1 (by rw[←hl];exact(Q2o hi).symm) ho (by rw[J6u hi];rfl);exact h
end
/-! ### a struct built of parts -/
theorem Z0f (off:Nat):∀(vs:List Value) (k:Nat) (cs:Array Value),(vs.zipIdx k).foldl (fun cs (x:Value×Nat)=>cs.setIfInBounds (off+x.2) x.1) cs=spl cs (off+k) vs
  |[],_,_=>rfl
  |v::vs,k,cs=>by
    show((vs.zipIdx (k+1)).foldl _ (cs.setIfInBounds (off+k) v))=spl (cs.setIfInBounds (off+k) v) (off+k+1) vs;exact Z0f off vs (k+1) _
theorem V4e {place:Nat→Option (Nat×Nat)}{l l' m:List Fd}{i off n:Nat}{v:Value}{r:List (Nat×Value)}{cs:Option (Array Value)}(h:Instr.fill place (Q6 l') r=cs)(hv:v.cells=Q6 m)(hs:spl (Q6 l) off (Q6 m).toList=Q6 l')(hp:place i=some (off,n))(hn:fsz m=n)(hb:off+n≤fsz l):Instr.fill place (Q6 l) ((i,v)::r)=cs:=by
  unfold Instr.fill;rw[hp];show(if(v.cells.size≠n ||off+v.cells.size>(Q6 l).size)=true then none else _)=_;rw[hv,J5,J5,hn,if_neg (by simp;omega)];have h3:=Z0f off (Q6 m).toList 0 (Q6 l);rw[show(Q6 m).zipIdx.foldl (fun cs (x:Value×Nat)=>cs.setIfInBounds (off+x.2) x.1) (Q6 l)=((Q6 m).toList.zipIdx 0).foldl (fun cs (x:Value×Nat)=>cs.setIfInBounds (off+x.2) x.1) (Q6 l) by rw[←Array.foldl_toList,Array.toList_zipIdx],h3,Nat.add_zero,hs];exact h
theorem J6n {place:Nat→Option (Nat×Nat)}{l:List Fd}:Instr.fill place (Q6 l) []=some (Q6 l):=rfl
def plc (P:Program)(t:TypeId):Option (List (Nat×Nat)):=match P.underlying t with
  |some (.struct fs)=>fs.toList.mapM fun f=>(P.info? f.type).map fun i=>(f.offset,i.size)
  |_=>none
def zer (P:Program)(t:TypeId):Option (Option (Array Value)):=(P.info? t).map fun i=>i.zero.map (·.cells)
theorem Y2h {P:Program}{t:TypeId}{zs l:List Fd}{pl:List (Nat×Nat)}{parts:List (Nat×Value)}(hz:zer P t=some (some (Q6 zs)))(hp:plc P t=some pl)(hf:Instr.fill (pl.toArray[·]?) (Q6 zs) parts=some (Q6 l)):P.built t parts=some (Q6 l):=by
  unfold zer at hz;unfold plc at hp;unfold Program.built;cases hi:P.info? t with
  |none=>simp[hi] at hz
  |some it=>
    cases hu:P.underlying t with
    |none=>simp[hu] at hp
    |some d=>
      cases d<;>try (simp[hu] at hp;done)
      rename_i fs;cases hq:it.zero with
      |none=>simp[hi,hq] at hz
      |some z=>
        have hz' :z.cells=Q6 zs:=by simpa[hi,hq] using hz
        simp only[hu] at hp;simp only[hq,hp,hz'];exact hf
def V4f:List Fd→List (Nat×List Fd)→List Fd
  |l,[]=>l
  |l,(j,m)::r=>V4f (l.take j++(m++l.drop (j+m.length))) r
def bck (pl:List (Nat×Nat)):List Fd→List Nat→List (Nat×List Fd)→Bool
  |_,[],[]=>true
  |l,i::is,(j,m)::r=>(match pl.toArray[i]? with
    |some (off,n)=>Nat.beq (fsz m) n && Nat.beq (fsz (l.take j)) off && Nat.beq (fsz m) (fsz ((l.drop j).take m.length)) && Nat.ble (off+n) (fsz l)
    |none=>false) && bck pl (l.take j++(m++l.drop (j+m.length))) is r
  |_,_,_=>false
inductive BV:List (Nat×Value)→List (Nat×List Fd)→Prop
  |n:BV [] []
  |c {i j:Nat} {v:Value} {m:List Fd} {r:List (Nat×Value)} {s:List (Nat×List Fd)} (h:v.cells=Q6 m) (t:BV r s):BV ((i,v)::r) ((j,m)::s)
theorem Y2i {pl:List (Nat×Nat)}:∀{parts:List (Nat×Value)} {ms:List (Nat×List Fd)},BV parts ms→∀l:List Fd,bck pl l (parts.map (·.1)) ms=true→Instr.fill (pl.toArray[·]?) (Q6 l) parts=some (Q6 (V4f l ms))
  |_,_,.n,l,_=>rfl
  |_,_,.c (i:=i) (j:=j) (m:=m) h t,l,hc=>by
    simp only[List.map_cons,bck,Bool.and_eq_true] at hc;obtain⟨h1,h2⟩:=hc;cases hq:pl.toArray[i]? with
    |none=>rw[hq] at h1;cases h1
    |some q=>
      obtain⟨off,n⟩:=q;rw[hq] at h1;simp only[Bool.and_eq_true] at h1;obtain⟨⟨⟨a,b⟩,c⟩,d⟩:=h1;exact V4e (l' :=l.take j++(m++l.drop (j+m.length))) (Y2i t _ h2) h (Z0e j m.length rfl (Nat.eq_of_beq_eq_true b) (Nat.eq_of_beq_eq_true c)) hq (Nat.eq_of_beq_eq_true a) (Nat.le_of_ble_eq_true d)
theorem J3w {P:Program}{a:Act}{W:World}{o:Oper}{t:TypeId}{xs:List (Nat×Operand)}{parts:List (Nat×Value)}{zs l:List Fd}{pl:List (Nat×Nat)}(ho:o.op=.build t xs.toArray)(hx:xs.map (fun x=>(x.1,a.eval x.2))=parts)(hz:zer P t=some (some (Q6 zs)))(hp:plc P t=some pl)(hf:Instr.fill (pl.toArray[·]?) (Q6 zs) parts=some (Q6 l)):
    (execOp a.eval o).run P W=.ok (.value (.agg (Q6 l))) W:=by
  have hb:=Y2h hz hp hf;unfold execOp;simp only[ho,List.map_toArray,Sem.run_bind,run_build W t _ _ (show P.built t (xs.map fun x=>(x.1,a.eval x.2)).toArray.toList=_ by rw[hx];exact hb),Result.andThen_ok];rfl
/-! ### a text copied over a part that is nought -/
theorem J5q (ms:List (Nat×List Fd)){P:Program}{a:Act}{W:World}{o:Oper}{t:TypeId}{xs:List (Nat×Operand)}{parts:List (Nat×Value)}{zs l:List Fd}{pl:List (Nat×Nat)}(ho:o.op=.build t xs.toArray)(hx:xs.map (fun x=>(x.1,a.eval x.2))=parts)(hz:zer P t=some (some (Q6 zs)))(hp:plc P t=some pl)(hv:BV parts ms)(hl:V4f zs ms=l:=by kernel_rfl)(hc:bck pl zs (parts.map (·.1)) ms=true:=by kernel_rfl):
    (execOp a.eval o).run P W=.ok (.value (.agg (Q6 l))) W:=
  J3w ho hx hz hp (by rw[←hl];exact Y2i hv zs hc)
theorem agl {l:List Fd}{j:Nat}(h:Nat.ble (j+1) (fsz l)=true:=by kernel_rfl):j<(Q6 l).size:=by rw[J5];exact Nat.le_of_ble_eq_true h
theorem MRa {P:Program}{ops:Array Oper}{Q:Exit→Act→World→Prop}{F:List Nat}{w:World}{H H' :List As}{l:List Oper}{o:Oper}{a a' :Act}(i:Nat){g:Nat}{cells old:Array Value}{t ty:TypeId}{x y:Operand}(h:wpM P ops (.L Q) F w H' l a')(hi:H[i]?=some (.b g old t):=by exact rfl)(hw:Region.wanted o (yielded ops a.tmps)=true:=by exact rfl)(ho:o.op=.store ty x y:=by exact rfl)
    (hx:a.eval x=.pointer (some ⟨g,0,none⟩):=by exact rfl) (hy:a.eval y=.agg cells:=by exact rfl) (hz:(P.info? ty).map (·.size)=some cells.size:=by rw[J5];kernel_rfl) (hs:old.size=cells.size:=by first|(rw[J5,J5];simp only[V92,V93,V94];done)|(rw[J5,J5];rfl)|rfl) (h1:cells.all (·.oneCell')=true:=by first|kernel_rfl|exact J04 _ _ _)
    (hH:H.set i (.b g cells t)=H' :=by dsimp only[sB,sC];first|done|exact rfl) (hp:a.put o.dst undef=a' :=by first|exact pl (by dsimp only[mB,mC];first|done|exact rfl)|exact pn|exact rfl):wpM P ops (.L Q) F w H (o::l) a:=MR i h hi hw ho hx hy hz hs h1 hH hp
section
variable {ops : Array Oper} {Q : Exit → Act → World → Prop} {F : List Nat} {w : World} {H H' : List As} {r : List Oper} {o : Oper} {a a' : Act}
end
section
variable {P : Program} {ops : Array Oper} {k : Wk} {K : Act → World → Prop} {t : Tr} {G : List As} {F : List Nat} {w : World} {H : List As} {l : List Oper} {o : Oper} {a a' : Act}
theorem Mk (i:Nat){b j:Nat}{cs sub:Array Value}{t ty:TypeId}{x:Operand}(h:wpM P ops k F w H l a')(hi:H[i]?=some (.b b cs t):=by exact rfl)(hw:Region.wanted o (yielded ops a.tmps)=true:=by exact rfl)(ho:o.op=.load ty x:=by exact rfl)(hx:a.eval x=.pointer (some ⟨b,j,none⟩):=by exact rfl)(hs:∀i v,sub[i]?=some v→cs[j+i]?=some v)
    (hk:(P.underlying ty).map TypeDesc.isRow=some true:=by as_aux_lemma=>kernel_rfl) (hz:(P.info? ty).map (·.size)=some sub.size:=by first|(rw[J1];kernel_rfl)|(rw[J5];kernel_rfl)) (hp:a.put o.dst (.agg sub)=a' :=by first|exact pl (by dsimp only[mB,mC];first|done|exact rfl)|exact pn|exact rfl):wpM P ops k F w H (o::l) a:=Ml i hs h hi hw ho hx hk hz hp
theorem Tk (n:Nat){i b j:Nat}{cs sub:Array Value}{tt ty:TypeId}{x:Operand}(h:wpP P ops K F w G H t a')(hi:G[n]?=some (.b b cs tt):=by exact rfl)(hoo:ops.toList[i]?=some o:=by exact rfl)(hw:Region.wanted o (yielded ops a.tmps)=true:=by exact rfl)(ho:o.op=.load ty x:=by exact rfl)(hx:a.eval x=.pointer (some ⟨b,j,none⟩):=by exact rfl)(hs:∀i v,sub[i]?=some v→cs[j+i]?=some v)
    (hk:(P.underlying ty).map TypeDesc.isRow=some true:=by as_aux_lemma=>kernel_rfl) (hz:(P.info? ty).map (·.size)=some sub.size:=by first|(rw[J1];kernel_rfl)|(rw[J5];kernel_rfl)) (hp:a.put o.dst (.agg sub)=a' :=by first|exact pl (by dsimp only[mB,mC];first|done|exact rfl)|exact pn|exact rfl):wpP P ops K F w G H (.q i t) a:=Tl n hs h hi hoo hw ho hx hk hz hp
end
end

section
def fbR (v:Value)(es:List (List Value)):List Nat:=match v,es with
  | .slice (some a) _ _,_::_=>[a.block]
  |_,_=>[]
theorem RR.keep {k:Nat}{w W:World}{v:Value}{es:List (List Value)}(h:RR k w v es)(e:∀b∈fbR v es,W.heap[b]?=w.heap[b]?):RR k W v es:=by
  obtain⟨A,c,rfl,h2,h0,h3⟩:=h;refine⟨A,c,rfl,h2,h0,fun j x hj=> ?_⟩;obtain⟨g,o,h4,h5⟩:=h3 j x hj;refine⟨g,o,h4,fun i y hy=> ?_⟩;subst h4
  have hb:W.heap[g]?=w.heap[g]?:=by
    refine e g ?_;cases es with
    |nil=>simp at hj
    |cons f fs=>exact List.mem_singleton.2 rfl
  rw[←h5 i y hy];unfold World.cell?;rw[hb]
theorem RR.pholds {k:Nat}{w:World}{v:Value}{es:List (List Value)}(hk:0<k)(hes:∀e∈es,e.length=k)(h:RR k w v es):(As.p (fbR v es) (fun W=>RR k W v es)).holds w:=by
  refine⟨h,fun b hb=> ?_,fun W _ e=>h.keep e⟩;obtain⟨A,c,rfl,h2,h0,h3⟩:=h;cases A with
  |none=>cases es<;>cases hb
  |some a=>
    cases es with
    |nil=>cases hb
    |cons f fs=>
      obtain⟨g,o,h4,h5⟩:=h3 0 f rfl;have hf:=hes f (by simp);have h6:=h5 0 f[0] (List.getElem?_eq_getElem (by omega));rw[List.mem_singleton.1 hb,Option.some.inj h4];have h7:=World.block_lt_of_cell? w _ h6;exact h7
theorem Z4h {t:TypeId}{k:Nat}{w:World}{v:Value}{es:List (List Value)}(h:Row t k w v es):∀b∈fbR v es,b∈v.ownBlock.toList:=fun b hb=>by
  rcases h.1.2 with⟨rfl,_⟩|⟨g,D,G,rfl,_⟩
  · cases es<;>cases hb
  · cases es with
    |nil=>cases hb
    |cons f fs=>exact hb
end

section
attribute [local irreducible] wpList Z6 wpX
abbrev J46 (x:Nat):List Value:=(J0 .u8 32 (J7 x)).toList
theorem RR.opf {α:Type}{f:α→List Value}{k:Nat}{w:World}{u:Value}{ls:List α}(h:RR k w u (ls.map f)):∃A c,u=.slice A ls.length c∧ls.length≤c∧Hid (∀(j:Nat) (x:α),ls[j]?=some x→∃g o,A=some ⟨g,o,none⟩∧∀(i:Nat) (v:Value),(f x)[i]?=some v→w.cell? ⟨g,o+j*k+i,none⟩=some v):=by
 obtain⟨A,c,h1,h2,_,h3⟩:=h;rw[List.length_map] at h1 h2;exact⟨A,c,h1,h2,Lib.hid fun j x hj=>h3 j (f x) (by rw[List.getElem?_map,hj];rfl)⟩
def TXS (W:World)(us:List Value)(ts:List (List UInt8)):Prop:=us.length=ts.length∧∀(i:Nat) (u:Value) (t:List UInt8),us[i]?=some u→ts[i]?=some t→Sl W u t
def txF:List Value→List (List UInt8)→List Nat
 |u::us,t::ts=>(sb u t).toList++txF us ts
 |_,_=>[]
theorem mem_txF {k:Nat}:∀{us:List Value} {ts:List (List UInt8)},k∈txF us ts↔∃(i:Nat) (u:Value) (t:List UInt8),us[i]?=some u∧ts[i]?=some t∧sb u t=some k
 |[],_=>⟨fun h=>(by cases h),fun⟨i,u,t,h,_⟩=>by simp at h⟩
 |_::_,[]=>⟨fun h=>(by cases h),fun⟨i,u,t,_,h,_⟩=>by simp at h⟩
 |u::us,t::ts=>by
  show k∈(sb u t).toList++txF us ts↔_;rw[List.mem_append,mem_txF];constructor
  ·
   rintro(h|⟨i,v,s,h1,h2,h3⟩)
   ·
    exact⟨0,u,t,rfl,rfl,As.mem_toList h⟩
   ·
    exact⟨i+1,v,s,h1,h2,h3⟩
  ·
   rintro⟨i,v,s,h1,h2,h3⟩;cases i with
   |zero=>
    obtain rfl:u=v:=by simpa using h1
    obtain rfl:t=s:=by simpa using h2
    exact .inl (by rw[h3];simp)
   |succ i=>exact .inr ⟨i,v,s,by simpa using h1,by simpa using h2,h3⟩
theorem Q14 {w W:World}{v:Value}{l:List UInt8}(h:Sl w v l)(e:∀b,sb v l=some b→W.heap[b]?=w.heap[b]?):Sl W v l:=by
 obtain⟨A,c,rfl,h1,h2,h0,h3⟩:=h;refine⟨A,c,rfl,h1,h2,h0,fun j x hj=> ?_⟩;obtain⟨ad,hA,hc⟩:=h3 j x hj;refine⟨ad,hA,?_⟩
 have hb:sb (.slice A l.length c) l=some ad.block:=by
  unfold sb;rw[if_neg (by rintro rfl;simp at hj),hA];rfl
 have h4:=e _ hb;rw[←hc];exact World.cell?_of_block (a:=ad.add j) (w:=w) (w' :=W) (by rw[show(ad.add j).block=ad.block from by unfold Addr.add;split<;>rfl];exact h4)
theorem TXS.holds {W:World}{us:List Value}{ts:List (List UInt8)}(h:TXS W us ts):(As.p (txF us ts) (fun W=>TXS W us ts)).holds W:=
 ⟨h,fun k hk=>by obtain⟨i,u,t,h1,h2,h3⟩:=mem_txF.1 hk;exact Sl.lt (h.2 i u t h1 h2) k h3,
 fun W' _ e=>⟨h.1,fun i u t h1 h2=>Q14 (h.2 i u t h1 h2) fun b hb=>e b (mem_txF.2 ⟨i,u,t,h1,h2,hb⟩)⟩⟩
namespace SH
variable {F : List Nat} {w W W' : World} {H X : List As} {i j : Nat}
theorem newL (h:SH F w W H)(h' :SH [] W W' X)(hf:∀y∈X,y.mv=false→∀k∈y.foot,W.heap.size≤k)(hx:X.all (fun y=>(match y with| .t _ _=>false|_=>true) && H.all (tyOk y))=true):SH F w W' (X++H):=by
 have hn:∀y∈X,∀k∈y.foot,W.heap.size≤k:=fun y hy k hk=>by
  cases hm:y.mv with
  |false=>exact hf y hy hm k hk
  |true=>exact Nat.le_of_not_lt fun G=>by have:=h'.old y hy hm k hk G;cases this
 have h2:=h.next h'.off;refine⟨h2.off,fun y hy=> ?_,List.pairwise_append.2 ⟨h'.ap,h2.ap,fun y hy z hz=>⟨fun hm=> ?_,fun hm=> ?_⟩⟩,fun y hy hm k hk G=> ?_⟩
 ·
  rcases List.mem_append.1 hy with hy|hy
  ·
   exact h'.all y hy
  exact h2.all y hy
 ·
  have h3:=List.all_eq_true.1 hx y hy;have h4:=As.lt (h.all z hz);cases z with
  |t T K=>
   have h5:=List.all_eq_true.1 (Bool.and_eq_true_iff.1 h3).2 _ hz
   simpa[tyOk,hm] using h5
  |_=>exact fun k hk D=>Nat.not_lt.2 (hn y hy k hk) (h4 k D)
 ·
  have h3:=List.all_eq_true.1 hx y hy;have h4:=As.lt (h.all z hz);cases y with
  |t T K=>simp at h3
  |_=>exact fun k hk D=>Nat.not_lt.2 (hn _ hy k D) (h4 k hk)
 rcases List.mem_append.1 hy with hy|hy
 ·
  have:=hn y hy k hk;have:=h.size;omega
 exact h2.old y hy hm k hk G
end SH
theorem J0g {P:Program}{ops:Array Oper}{k:Wk}{F:List Nat}{w:World}{H:List As}{l:List Oper}{a:Act}{p:Prop}(hp:∀W,SH F w W H→p)(h:p→wpM P ops k F w H l a):wpM P ops k F w H l a:=fun W hS=>h (hp W hS) W hS
theorem Z1m {P:Program}{α:Type}{f:FuncId}{args:Array Value}{F:List Nat}{w W:World}{H:List As}{V:α→Value}{X:α→List As}(hS:SH F w W H)(hc:Calls P f args W fun e W' => ∃x,e=.returned (V x)∧SH [] W W' (X x)∧∀y∈X x,y.mv=false→∀k∈y.foot,W.heap.size≤k)(ht:∀x,(X x).all (fun y=>(match y with| .t _ _=>false|_=>true) && H.all (SH.tyOk y))=true):
  Calls P f args W fun e W' => ∃x,e=.returned (V x)∧SH F w W' (X x++H):=
 hc.mono fun e W' ⟨x,h1,h2,h3⟩=>⟨x,h1,hS.newL h2 h3 (ht x)⟩
theorem J47 {P:Program}{α:Type}{f:FuncId}{args:Array Value}{F:List Nat}{w W:World}{H:List As}{V:α→Value}{X:α→As}(hS:SH F w W H)(hc:Calls P f args W fun e W' => ∃x,e=.returned (V x)∧SH [] W W' [X x])(ht:∀x,(X x).mv=true∧H.all (SH.tyOk (X x))=true):
  Calls P f args W fun e W' => ∃x,e=.returned (V x)∧SH F w W' (X x::H):=
 hc.mono fun e W' ⟨x,h1,h2⟩=>⟨x,h1,SH.frame (L:=[]) (L' :=[X x]) (R:=H) hS h2 ⟨.inr (ht x),trivial⟩⟩
end

section
open Go.ChangeShapes Go.WideShapes Go.ChangeAt Go.RowKit Go.Deep
theorem own:ownKnob Tryz.prog.godebug=none:=by kernel_rfl
theorem Y82:laidOutB Tryz.prog=true:=by kernel_rfl
theorem Y83:Tryz.prog.cellsOf 5=1:=by kernel_rfl
section
variable {H : Type} {enc : TypeId × Value → H} {W : World} {base : Nat} {sp : Nat → Bool} {held : Bool}
theorem Z2g {fuel:Nat}{cs:List Value}{x:DataW H×List MemPlace}(h:DataW.trod enc Tryz.prog W base sp held fuel 35 cs=some x):∃u l,(Sl W u l∧l.length≤maxLen)∧cs=[u]:=by
  rcases open_slice Tryz.underlying35 h with⟨rfl,_⟩|⟨a,G,R,m,n,D,Pl,rfl,_,hl,hm,S,_,hi⟩
  · exact⟨_,[],⟨Z9m W,by simp⟩,rfl⟩
  have T:G≤m:=by rw[S];split<;>omega
  have N:∀i,i<G→∃c:UInt8,W.cell? (a.add i)=some (.int .u8 (c.toNat:Int)):=by
    intro i V;obtain⟨U,h1,h2⟩:=hi i (by omega);rw[Y83,Nat.mul_one] at h1;obtain⟨_,X,J⟩:=World.cells?_some h1;obtain⟨z,hz,_,hw⟩:=DataW.trod_int Tryz.underlying5 h2;have hb:=bounds_u8 hw;refine⟨UInt8.ofNat z.toNat,?_⟩;have e:((UInt8.ofNat z.toNat).toNat:Int)=z:=by rw[UInt8.toNat_ofNat'];omega
    have:=J 0 (by omega);rw[hz] at this;rw[e];have e0:∀b:Addr,b.add 0=b:=fun b=>by unfold Addr.add;simp
    rw[e0] at this
    simpa using this
  refine⟨_,(List.range G).map fun i=>if h:i<G then Classical.choose (N i h) else 0,⟨⟨some a,R,by simp,by simpa using hl,hm,(fun h=>by cases h),fun j x hj=>⟨a,rfl,?_⟩⟩,by simp;omega⟩,rfl⟩;have M:j<G:=by have:=(List.getElem?_eq_some_iff.1 hj).1;simpa using this
  simp[M] at hj;subst hj;exact Classical.choose_spec (N j M)
theorem Y81 {r:Reach}{b0:Nat}{v:Value}{d:DataW H}{ps:List MemPlace}(hval:Value.okWide Tryz.prog W r b0 35 v)(hd:DataW.Trod enc Tryz.prog W base sp held 35 v d ps):∃l,Sl W v l∧l.length≤maxLen:=by
  obtain⟨ao,J,G,rfl⟩:=okWide_slice Tryz.underlying35 hval;obtain⟨D,hf⟩:=hd;obtain⟨u,l,⟨h1,h2⟩,hc⟩:=Z2g hf;simp[Value.cells] at hc;subst hc;exact⟨l,h1,h2⟩
end
end

section
open Go.RowKit Go.ChangeShapes Go.WideShapes Go.ChangeAt

end
end Go.Proofs.YtlkbneflnjmgbaaGreatDoor

/- Contracts and plain laws for superSeals_holds. Conditions: the tables hold their numbers. -/
import Derived.Test.YtdjacgmmidbieaaGreatDoorJ4
open Go renaming World->AA,Value->AB,execOp->AV,Program->AD,Operand->AW,TypeId->AE,Oper->AF,Exit->AG,maxLen->Ag
open Go.Sem renaming run_bind->Ah
open _root_.List renaming length_append->Ao,mem_singleton->Ai,append_nil->Ar,append_assoc->At,map_cons->Ac,mem_cons->Ad,flatten_cons->Aw,length_take->BC,map_map->BE
open _root_.Nat renaming mod_eq_of_lt->AL,le_refl->AM,zero_add->AP,add_zero->Ax,mul_zero->BF
open _root_.Array renaming length_toList->BG
open Go.RowKit
set_option linter.unusedSimpArgs false
set_option linter.unusedVariables false
namespace Go.Proofs.YtdjacgmmidbieaaGreatDoor
section
theorem V8 {P:AD}{a:Act}{W:AA}{o:AF}{b j:Nat}{sub:Array AB}{ty:AE}{x:AW}(ho:o.op=.load ty x)(hx:a.eval x=.pointer (some ⟨b,j,none⟩))(hc:∀i v,sub[i]?=some v→W.cell? ⟨b,j+i,none⟩=some v)
    (hk:(P.underlying ty).map TypeDesc.isRow=some true) (hi:(P.info? ty).map (·.size)=some sub.size):(AV a.eval o).run P W=.ok (.value (.agg sub)) W:=
  J0n (vs:=sub.toList) ho hx (fun i v hv=>hc i v (by simpa using hv)) hk (by simpa using hi)
theorem J14 {P:AD}{w:AA}{o:AF}{a:Act}{x y:AW}{t e:AE}{kk:IntKind}{m k b off j:Nat}(hj:j<m)(ht:P.underlying t=some (.array m e))(he:(P.info? e).map (·.size)=some k)(ho:o.op=.indexAddr t x y)(hx:a.eval x=.pointer (some ⟨b,off,none⟩))(hy:a.eval y=.int kk (j:Int)):
    (AV a.eval o).run P w=.ok (.value (.pointer (some ⟨b,off+j*k,none⟩))) w:=by
  cases hq:P.info? e with
  |none=>simp[hq] at he
  |some i=>
    have hs:i.size=k:=by simpa[hq] using he
    simp[AV,ho,hx,hy,Instr.indexAt,asIntOf,Instr.sureAddr,run_underlying ht,Ah,sizeOf,typeInfo,hq,hs,hj,Addr.add_mid]
theorem J0a {P:AD}{a:Act}{W:AA}{o:AF}{b:Nat}{cs:Array AB}{ty:AE}{x:AW}(ho:o.op=.load ty x)(hx:a.eval x=.pointer (some ⟨b,0,none⟩))(hB:Rd W b cs)
    (hk:(P.underlying ty).map TypeDesc.isRow=some true) (hi:(P.info? ty).map (·.size)=some cs.size):(AV a.eval o).run P W=.ok (.value (.agg cs)) W:=
  J0n (vs:=cs.toList) ho hx (fun i v hv=>by rw[AP];exact hB.1 i v (by simpa using hv)) hk (by simpa using hi)
section
variable {ops : Array AF} {k : Wk} {Q : AG → Act → AA → Prop} {F : List Nat} {w : AA} {H : List As} {l : List AF} {o : AF} {a : Act}
theorem MA (i:Nat){s x:Operand}{v u:Value}{xs ys:List UInt8}{H' :Value→List As}{a' :Value→Act}(hsl:∀W,SH F w W H→Sl W u ys)(hlen:xs.length+ys.length≤140737488355328)(h:∀v',wpM Tryz.prog ops (.L Q) F w (H' v') l (a' v'))(hi:H[i]?=some (.o v xs):=by exact rfl)(hw:Region.wanted o (yielded ops a.tmps)=true:=by exact rfl)
    (ho:o.op=.call {callee:=.builtin .append,args:= #[s,x],argTypes:= #[45,45]}:=by exact rfl) (hs:a.eval s=v:=by exact rfl) (hx:a.eval x=u:=by exact rfl)
    (hH:∀v',H.set i (.o v' (xs++ys))=H' v' :=by intro v';dsimp only[sB,sC];first|done|exact rfl) (hp:∀v,a.put o.dst v=a' v:=by intro b;first|exact pl (by dsimp only[mB,mC];first|done|exact rfl)|exact pn|exact rfl):wpM Tryz.prog ops (.L Q) F w H (o::l) a:=by
  intro W hS;refine Z0e hw ho hs hx (hS.own hi) (hsl W hS) hlen fun v' W' h1 h2 h3 _=> ?_;rw[hp];exact h v' W' (by rw[←hH];exact hS.seto hi h2 h1 h3)
theorem MAz (i:Nat){s x:Operand}{v u:Value}{xs ys:List UInt8}{H' :Value→List As}{a' :Value→Act}(hsl:∀W,SH F w W H→Sl W u ys)(hlen:xs.length+ys.length≤140737488355328)(h:∀v',wpM Tryz.prog ops (.L Q) F w (H' v') l (a' v'))(hi:H[i]?=some (.w v xs):=by exact rfl)(hw:Region.wanted o (yielded ops a.tmps)=true:=by exact rfl)
    (ho:o.op=.call {callee:=.builtin .append,args:= #[s,x],argTypes:= #[45,45]}:=by exact rfl) (hs:a.eval s=v:=by exact rfl) (hx:a.eval x=u:=by exact rfl)
    (hH:∀v',H.set i (.w v' (xs++ys))=H' v' :=by intro v';dsimp only[sB,sC];first|done|exact rfl) (hp:∀v,a.put o.dst v=a' v:=by intro b;first|exact pl (by dsimp only[mB,mC];first|done|exact rfl)|exact pn|exact rfl):wpM Tryz.prog ops (.L Q) F w H (o::l) a:=by
  intro W hS;refine Q8h hw ho hs hx (hS.at_ hi) (hsl W hS) hlen fun v' W' h1 h2 h3=> ?_;rw[hp];exact h v' W' (by rw[←hH];exact hS.setw hi h2 h1 h3)
theorem MAr (i j:Nat){s x:Operand}{v:Value}{es:List (List Value)}{t t2 tS:TypeId}{n g c bytes:Nat}{cs:Array Value}{e:List Value}{H' :Value→List As}{a' :Value→Act}(hlen:es.length+1≤1099511627776)(h:∀v',wpM Tryz.prog ops (.L Q) F w (H' v') l (a' v'))(he:cs.toList=e:=by exact rfl)(hi:H[i]?=some (.r t n v es):=by exact rfl)(hj:H[j]?=some (.b g cs t2):=by exact rfl)
    (hk:cs.size=n:=by first|kernel_rfl|rfl) (h1:cs.all (·.oneCell')=true:=by first|kernel_rfl|rfl) (hk0:0<n:=by decide) (ht:Tryz.prog.underlying tS=some (.slice t):=by as_aux_lemma=>kernel_rfl) (hb:(Tryz.prog.info? t).map (fun i=>(i.zero.map (·.cells.size),i.size,i.bytes))=some (some n,n,bytes):=by as_aux_lemma=>kernel_rfl) (hbb:bytes≤128:=by decide)
    (hw:Region.wanted o (yielded ops a.tmps)=true:=by exact rfl) (ho:o.op=.call {callee:=.builtin .append,args:= #[s,x],argTypes:= #[tS,tS]}:=by exact rfl) (hs:a.eval s=v:=by exact rfl) (hx:a.eval x=.slice (some ⟨g,0,none⟩) 1 c:=by exact rfl)
    (hH:∀v',H.set i (.r t n v' (es++[e]))=H' v' :=by intro v';dsimp only[sB,sC];first|done|exact rfl) (hp:∀v,a.put o.dst v=a' v:=by intro b;first|exact pl (by dsimp only[mB,mC];first|done|exact rfl)|exact pn|exact rfl):wpM Tryz.prog ops (.L Q) F w H (o::l) a:=by
  subst he;intro W hS;refine Q8d hw ho hs hx (hS.row hi) (hS.blk hj) hk h1 hk0 ht hb (Nat.le_trans (Nat.mul_le_mul hlen hbb) (by decide)) (by unfold Ag;omega) fun v' W' h1 h2 h3=> ?_;rw[hp];exact h v' W' (by rw[←hH];exact hS.setr hi h2 h1 h3)
theorem MY {x:Operand}{m:List UInt8}{a' :Value→Act}(hl:m.length≤140737488355328)(h:∀v,wpM Tryz.prog ops (.L Q) F w (.w v m::H) l (a' v))(ht:H.all (SH.tyOk (.o undef []))=true:=by exact rfl)(hw:Region.wanted o (yielded ops a.tmps)=true:=by exact rfl)
    (ho:o.op=.convert 9 45 x:=by exact rfl) (hx:a.eval x=Z9 m:=by exact rfl) (hp:∀v,a.put o.dst v=a' v:=by intro b;first|exact pl (by dsimp only[mB,mC];first|done|exact rfl)|exact pn|exact rfl):wpM Tryz.prog ops (.L Q) F w H (o::l) a:=by
  intro W hS;refine Z0k hl hw ho hx fun v W' h1 h2 h3=> ?_;rw[hp];exact h v W' (hS.new (x:=.w v m) h2 h3 (fun k hk=>Nat.le_of_not_lt fun D=>by have:=h1 k (As.mem_toList hk) D;cases this) rfl ht)
theorem MH (i n:Nat){x y:Operand}{v:Value}{m m' :List UInt8}{a' :Value→Act}(hn:n≤m.length)(h:∀u,wpM Tryz.prog ops k F w (.s u m' ::H) l (a' u))(hi:H[i]?=some (.s v m):=by exact rfl)(hm:m.take n=m' :=by exact rfl)(hw:Region.wanted o (yielded ops a.tmps)=true:=by exact rfl)
    (ho:o.op=.slice 45 x none (some y) none:=by exact rfl) (hx:a.eval x=v:=by exact rfl) (hy:a.eval y=.int .i64 (n:Int):=by exact rfl) (hp:∀v,a.put o.dst v=a' v:=by intro b;first|exact pl (by dsimp only[mB,mC];first|done|exact rfl)|exact pn|exact rfl):wpM Tryz.prog ops k F w H (o::l) a:=by
  subst hm;intro W hS;obtain⟨u,hr,h1,h2,_⟩:=Z7i (hS.sl hi) hn;have hS' :=hS.sub hi h1 h2;have D:∀W,(AV a.eval o).run Tryz.prog W=.ok (.value u) W:=fun W=>by simp[AV,ho,hx,hy,hr W,Ah]
  cases k with
  |L Q=>exact J2r hw (D W) (by rw[hp];exact h u W hS')
  |X E=>exact J3x hw (fun W' _=>D W') (by rw[hp];exact h u W hS')
theorem Mt (i n:Nat){x y:Operand}{v:Value}{m m' :List UInt8}{a' :Value→Act}(hn:n≤m.length)(h:∀u,wpM Tryz.prog ops k F w (.s u m' ::H) l (a' u))(hi:H[i]?=some (.s v m):=by exact rfl)(hm:m.drop n=m' :=by exact rfl)(hw:Region.wanted o (yielded ops a.tmps)=true:=by exact rfl)
    (ho:o.op=.slice 45 x (some y) none none:=by exact rfl) (hx:a.eval x=v:=by exact rfl) (hy:a.eval y=.int .i64 (n:Int):=by exact rfl) (hp:∀v,a.put o.dst v=a' v:=by intro b;first|exact pl (by dsimp only[mB,mC];first|done|exact rfl)|exact pn|exact rfl):wpM Tryz.prog ops k F w H (o::l) a:=by
  subst hm;intro W hS;obtain⟨u,hr,h1,h2⟩:=Z7j (hS.sl hi) hn;have hS' :=hS.sub hi h1 h2;have D:∀W,(AV a.eval o).run Tryz.prog W=.ok (.value u) W:=fun W=>by simp[AV,ho,hx,hy,hr W,Ah]
  cases k with
  |L Q=>exact J2r hw (D W) (by rw[hp];exact h u W hS')
  |X E=>exact J3x hw (fun W' _=>D W') (by rw[hp];exact h u W hS')
theorem J9u {t:AE}{n g j:Nat}{W:AA}{v:AB}{es:List (List AB)}{e:List AB}{c m:Nat}(h:Row t n W v es)(hv:v=.slice (some ⟨g,0,none⟩) m c)(hj:es[j]?=some e):∀i x,e[i]?=some x→W.cell? ⟨g,j*n+i,none⟩=some x:=by
  obtain⟨g',c',e',h'⟩:=h.at hj;rw[hv] at e';injection e' with e1
  injection e1 with e1
  injection e1 with e1
  subst e1;exact h'
theorem MI (i j:Nat){x y:Operand}{v:Value}{es:List (List Value)}{e:List Value}{t tS:TypeId}{n:Nat}{kk:IntKind}{a' :Nat→Act}(hj:es[j]?=some e)(h:∀g c,RowKit.Hid (v=.slice (some ⟨g,0,none⟩) es.length c)→wpM Tryz.prog ops k F w H l (a' g))(hi:H[i]?=some (.r t n v es):=by exact rfl)(hw:Region.wanted o (yielded ops a.tmps)=true:=by exact rfl)
    (ho:o.op=.indexAddr tS x y:=by exact rfl) (hx:a.eval x=v:=by exact rfl) (hy:a.eval y=.int kk (j:Int):=by exact rfl) (ht:Tryz.prog.underlying tS=some (.slice t):=by as_aux_lemma=>kernel_rfl) (hz:(Tryz.prog.info? t).map (·.size)=some n:=by as_aux_lemma=>kernel_rfl)
    (hp:∀g,a.put o.dst (.pointer (some ⟨g,j*n,none⟩))=a' g:=by intro b;first|exact pl (by dsimp only[mB,mC];first|done|exact rfl)|exact pn|exact rfl):wpM Tryz.prog ops k F w H (o::l) a:=by
  intro W hS;have G:=(List.getElem?_eq_some_iff.1 hj).1;obtain⟨g,c,hv,_⟩:=(hS.row hi).at hj
  have D:∀W,(AV a.eval o).run Tryz.prog W=.ok (.value (.pointer (some ⟨g,j*n,none⟩))) W:=fun W=>by
    rw[Q6f G ho (hx.trans hv) hy ht hz,Addr.add_mid,AP]
  cases k with
  |L Q=>exact J2r hw (D W) (by rw[hp];exact h g c (Lib.hid hv) W hS)
  |X E=>exact J3x hw (fun W' _=>D W') (by rw[hp];exact h g c (Lib.hid hv) W hS)
theorem MJ (i j:Nat){x y:Operand}{v:Value}{m:List UInt8}{b:UInt8}{kk:IntKind}{a' :Addr→Act}(hj:m[j]?=some b)(h:∀ad c,RowKit.Hid (v=.slice (some ad) m.length c)→wpM Tryz.prog ops k F w H l (a' ad))(hi:H[i]?=some (.s v m):=by exact rfl)(hw:Region.wanted o (yielded ops a.tmps)=true:=by exact rfl)
    (ho:o.op=.indexAddr 45 x y:=by exact rfl) (hx:a.eval x=v:=by exact rfl) (hy:a.eval y=.int kk (j:Int):=by exact rfl)
    (hp:∀ad,a.put o.dst (.pointer (some (ad.add j)))=a' ad:=by intro b;first|exact pl (by dsimp only[mB,mC];first|done|exact rfl)|exact pn|exact rfl):wpM Tryz.prog ops k F w H (o::l) a:=by
  intro W hS;have G:=(List.getElem?_eq_some_iff.1 hj).1;obtain⟨ad,c,hv,_⟩:=Q6b (hS.sl hi) (by omega);have D:∀W,(AV a.eval o).run Tryz.prog W=.ok (.value (.pointer (some (ad.add j)))) W:=fun W=>J9n G ho (hx.trans hv) hy;cases k with
  |L Q=>exact J2r hw (D W) (by rw[hp];exact h ad c (Lib.hid hv) W hS)
  |X E=>exact J3x hw (fun W' _=>D W') (by rw[hp];exact h ad c (Lib.hid hv) W hS)
end
namespace SH
variable {F : List Nat} {w W W' : AA} {H : List As}
theorem newS {v:AB}{l:List UInt8}(h:SH F w W H)(q:Off [] W W')(hs:Sl W' v l)(hf:∀k,sb v l=some k→W.heap.size≤k):SH F w W' (.s v l::H):=by
  have h' :=h.next q;refine⟨h'.off,fun y hy=> ?_,List.pairwise_cons.2 ⟨fun y hy=>⟨fun h=>by(cases h),fun _ k hk D=> ?_⟩,h'.ap⟩,fun y hy hm k hk G=> ?_⟩
  · rcases Ad.1 hy with rfl|hy
    · exact hs
    exact h'.all y hy
  · exact Nat.not_lt.2 (hf k (As.mem_toList D)) (As.lt (h.all y hy) k hk)
  rcases Ad.1 hy with rfl|hy
  · cases hm
  exact h.old y hy hm k hk G
theorem entp {f:List Nat}{K:AA→Prop}(h:SH [] w W H)(hs:(As.p f K).holds w):SH [] w W (.p f K::H):=by
  refine⟨h.off,fun y hy=> ?_,List.pairwise_cons.2 ⟨fun y hy=>⟨fun h=>by(cases h),fun hm k hk D=> ?_⟩,h.ap⟩,fun y hy hm k hk G=> ?_⟩
  · rcases Ad.1 hy with rfl|hy
    · exact As.keep0 h.off hs
    exact h.all y hy
  · have:=h.old y hy hm k hk (hs.2.1 k D)
    cases this
  rcases Ad.1 hy with rfl|hy
  · cases hm
  exact h.old y hy hm k hk G
end SH
theorem J2s {w W:AA}{b:Nat}{cs:Array AB}(h:Rd w b cs)(hs:w.heap.size≤W.heap.size)(e:W.heap[b]?=w.heap[b]?):Rd W b cs:=
  ⟨fun j v hv=>(AA.cell?_of_block (w:=w) e).trans (h.1 j v hv),Nat.lt_of_lt_of_le h.2 hs⟩
section
variable {ops : Array AF} {k : Wk} {Q : AG → Act → AA → Prop} {F : List Nat} {w : AA} {H : List As} {l : List AF} {o : AF} {a : Act}
theorem MB0 {t:TypeId}{n:Nat}{a' :Value→Act}(h:∀v,wpM Tryz.prog ops (.L Q) F w (.r t n v []::H) l (a' v))(ht:H.all (SH.tyOk (.r t n undef []))=true:=by exact rfl)(hw:Region.wanted o (yielded ops a.tmps)=true:=by exact rfl)
    (hr:∀w,(execOp a.eval o).run Tryz.prog w=.ok (.value (.slice (some ⟨w.heap.size,0,none⟩) 0 0)) (w.alloc (.cells #[] t)):=by intro w;first|kernel_rfl|(go_simp;done)|(go_simp;rfl))
    (hp:∀v,a.put o.dst v=a' v:=by intro b;first|exact pl (by dsimp only[mB,mC];first|done|exact rfl)|exact pn|exact rfl):wpM Tryz.prog ops (.L Q) F w H (o::l) a:=by
  intro W hS;refine Q2t hw (hr W) fun b W' hn hO hB=> ?_;rw[hp];exact h _ W' (hS.new (x:=.r t n (.slice (some ⟨b,0,none⟩) 0 0) []) hO (Z2h (es:=[]) hB rfl (by simp) (Nat.zero_le _)) (fun k hk=>by rw[show k=b from Ai.1 hk];exact hn) rfl ht)
end
end

section
theorem Y7 {P:AD}{a:Act}{o:AF}{x y:AW}{tS t:AE}{k g oo:Nat}{W:AA}{kk:IntKind}{A:Option Addr}{n c j:Nat}(hA:A=some ⟨g,oo,none⟩)(hj:j<n)(ho:o.op=.indexAddr tS x y)(hx:a.eval x=.slice A n c)(hy:a.eval y=.int kk (j:Int))(ht:P.underlying tS=some (.slice t))(hi:(P.info? t).map (·.size)=some k):
    (AV a.eval o).run P W=.ok (.value (.pointer (some ⟨g,oo+j*k,none⟩))) W:=by
  subst hA;rw[Q6f hj ho hx hy ht hi,Addr.add_mid]
def RR (k:Nat)(w:AA)(v:AB)(es:List (List AB)):Prop:=
  ∃A c,v=.slice A es.length c∧es.length≤c∧(A=none→c=0)∧∀(j:Nat)(e:List AB),es[j]?=some e→∃g o,A=some ⟨g,o,none⟩∧∀(i:Nat)(x:AB),e[i]?=some x→w.cell? ⟨g,o+j*k+i,none⟩=some x
theorem RR.ext {k:Nat}{w W:AA}{v:AB}{es:List (List AB)}(h:RR k w v es)(q:Ext w W):RR k W v es:=by
  obtain⟨A,c,h1,h2,h0,h3⟩:=h;refine⟨A,c,h1,h2,h0,fun j e hj=> ?_⟩;obtain⟨g,o,h4,h5⟩:=h3 j e hj;exact⟨g,o,h4,fun i x hx=>U0 (h5 i x hx) q⟩
theorem RR.cellat {k n c j g o:Nat}{w:AA}{A:Option Addr}{es:List (List AB)}{e:List AB}(h:RR k w (.slice A n c) es)(hj:es[j]?=some e)(hA:A=some ⟨g,o,none⟩):∀(i:Nat) (x:AB),e[i]?=some x→w.cell? ⟨g,o+j*k+i,none⟩=some x:=by
  obtain⟨A',c',h1,_,_,h3⟩:=h;injection h1 with h1
  obtain⟨g',o',h4,h5⟩:=h3 j e hj;rw[←h1,hA] at h4;injection h4 with h4
  injection h4 with h6 h7
  subst h6;subst h7;exact h5
theorem Z7w (k:Nat)(w:AA):RR k w (.slice none 0 0) []:=⟨none,0,rfl,AM _,fun _=>rfl,fun j e h=>by simp at h⟩
theorem Row.rr {t:AE}{k:Nat}{w:AA}{v:AB}{es:List (List AB)}(h:Row t k w v es):RR k w v es:=by
  have h0:∃A c,v=.slice A es.length c∧es.length≤c∧(A=none→c=0):=by
    rcases h.1.2 with⟨rfl,hn⟩|⟨g,G,D,rfl,_,hh,hc,_⟩
    · exact⟨none,0,by rw[hn],by omega,fun _=>rfl⟩
    exact⟨_,_,rfl,hc,fun e=>by cases e⟩
  obtain⟨A,c,h1,h2,h3⟩:=h0;refine⟨A,c,h1,h2,h3,fun j e hj=> ?_⟩;obtain⟨g,c',h3,h4⟩:=h.at hj;rw[h1] at h3;injection h3 with h3
  exact⟨g,0,h3,fun i x hx=>by rw[AP];exact h4 i x hx⟩
theorem J42 {P:AD}{tS t:AE}{k m:Nat}{w:AA}{v:AB}{es:List (List AB)}(h:RR k w v es)(hm:m≤es.length)(ht:P.underlying tS=some (.slice t))(hi:(P.info? t).map (·.size)=some k):
    ∃u,(∀W,(Instr.sliceAt tS v none (some (.int .i64 (m:Int))) none).run P W=.ok u W)∧∀W,RR k W v es→RR k W u (es.take m):=by
  obtain⟨A,c,rfl,h1,h0,_⟩:=h
  have hr:∀W,(Instr.sliceAt tS (.slice A es.length c) none (some (.int .i64 (m:Int))) none).run P W=.ok (.slice (if c=0 then A else A.map (·.add 0)) m c) W:=by
    intro W;have D:m≤c:=by omega
    cases hq:P.info? t with
    |none=>simp[hq] at hi
    |some i=>simp[Instr.sliceAt,Instr.slice,Instr.sliceBounds,Instr.sliceBound,asIntOf,run_underlying ht,Ah,sizeOf,typeInfo,hq,D]
  have hA:(if c=0 then A else A.map (·.add 0))=A:=by
    have:∀a:Addr,a.add 0=a:=fun a=>by unfold Addr.add;simp
    cases A<;>simp[this]
  rw[hA] at hr;refine⟨_,hr,fun W hW=> ?_⟩;obtain⟨A',c',he,_,_,h3⟩:=hW;injection he with e1 _ e2
  subst e1 e2;have hl:(es.take m).length=m:=by rw[BC];omega
  refine⟨A,c,by rw[hl],by omega,h0,fun j e hj=>h3 j e ?_⟩;rw[List.getElem?_take] at hj
  split at hj
  · exact hj
  cases hj
theorem J6m {P:AD}{tS t:AE}{k m:Nat}{w:AA}{v:AB}{es:List (List AB)}(h:RR k w v es)(hm:m≤es.length)(ht:P.underlying tS=some (.slice t))(hi:(P.info? t).map (·.size)=some k):
    ∃u,(∀W,(Instr.sliceAt tS v (some (.int .i64 (m:Int))) none none).run P W=.ok u W)∧∀W,RR k W v es→RR k W u (es.drop m):=by
  obtain⟨A,c,rfl,h1,h0,_⟩:=h
  have hr:∀W,(Instr.sliceAt tS (.slice A es.length c) (some (.int .i64 (m:Int))) none none).run P W=.ok (.slice (if c=m then A else A.map (·.add (m*k))) (es.length-m) (c-m)) W:=by
    intro W;cases hq:P.info? t with
    |none=>simp[hq] at hi
    |some i=>
      have hs:i.size=k:=by simpa[hq] using hi
      simp[Instr.sliceAt,Instr.slice,Instr.sliceBounds,Instr.sliceBound,asIntOf,run_underlying ht,Ah,sizeOf,typeInfo,hq,hs,hm]
  refine⟨_,hr,fun W hW=> ?_⟩;obtain⟨A',c',he,_,_,h3⟩:=hW;injection he with e1 _ e2
  subst e1 e2;have hl:(es.drop m).length=es.length-m:=List.length_drop ..;refine⟨_,c-m,by rw[hl],by omega,fun e=> ?_,fun j e hj=> ?_⟩
  · split at e
    · have:=h0 e;omega
    cases A with
    |none=>have:=h0 rfl;omega
    |some ad=>cases e
  rw[List.getElem?_drop] at hj;obtain⟨g,oo,hA,h4⟩:=h3 (m+j) e hj;subst hA
  have D:m+j<es.length:=by
    rcases Nat.lt_or_ge (m+j) es.length with h|h
    · exact h
    rw[List.getElem?_eq_none h] at hj;cases hj
  refine⟨g,oo+m*k,?_,fun i x hx=> ?_⟩
  · rw[if_neg (by omega)]
    show some (Addr.add _ _)=_;rw[Addr.add_mid]
  have:=h4 i x hx;rw[Nat.add_mul,←Nat.add_assoc] at this;exact this
theorem J57 {W:AA}{o:AF}{a:Act}{x y:AW}{t:AE}{l m:List UInt8}{b:Bool}(hb:decide (l=m)=b)(ho:o.op=.binOp .neq 9 x y t)(hx:a.eval x=Z9 l)(hy:a.eval y=Z9 m):(AV a.eval o).run Tryz.prog W=.ok (.value (.bool (!b))) W:=hb▸Z4y ho hx hy
theorem J1i {P:AD}{a:Act}{o:AF}{x y:AW}{tS:AE}{v k u:AB}{W:AA}(hr:∀W,(Instr.sliceAt tS v none (some k) none).run P W=.ok u W)(ho:o.op=.slice tS x none (some y) none)(hx:a.eval x=v)(hy:a.eval y=k):(AV a.eval o).run P W=.ok (.value u) W:=by
  simp[AV,ho,hx,hy,hr W,Ah]
theorem J2j {P:AD}{a:Act}{o:AF}{x y:AW}{tS:AE}{v k u:AB}{W:AA}(hr:∀W,(Instr.sliceAt tS v (some k) none none).run P W=.ok u W)(ho:o.op=.slice tS x (some y) none none)(hx:a.eval x=v)(hy:a.eval y=k):(AV a.eval o).run P W=.ok (.value u) W:=by
  simp[AV,ho,hx,hy,hr W,Ah]
section
variable {ops : Array AF} {Q : AG → Act → AA → Prop} {F : List Nat} {w : AA} {H : List As} {l : List AF} {o : AF} {a : Act}
theorem SH.b2r {t:AE}{k b n:Nat}{cs:Array AB}{es:List (List AB)}{W:AA}(h:SH F w W (.b b cs t::H))(hc:cs.toList=es.flatten)(hl:∀e∈es,e.length=k)(hn:es.length=n)(hm:n≤Ag):SH F w W (.r t k (.slice (some ⟨b,0,none⟩) n n) es::H):=by
  subst hn;exact h.set (i:=0) (x:=.b b cs t) rfl rfl (Off.refl [] W) (fun k hk=>by cases hk) (Z2h (h.blk (i:=0) rfl) hc hl hm) (fun k hk _=>hk) (.inr rfl) (fun _ _ e=>by cases e)
end
end

section
attribute [local irreducible] wpList K1 wpX
theorem RJ {P:AD}{ops:Array AF}{id:Nat}{a:Act}{w:AA}{Q:AG→Act→AA→Prop}{R:Act→AA→Prop}(h:(Code.region id ops true).wp P (Nml R) a w)(hk:∀a' w',R a' w' →Q .normal a' w'):(Code.region id ops true).wp P Q a w:=
  Code.wp_mono (fun e a' w' h' =>by cases e<;>first|exact hk _ _ h' |exact(h' :False).elim) h
section
variable {ops : Array AF} {Q : AG → Act → AA → Prop} {F : List Nat} {w : AA} {H H' : List As} {r : List AF} {o : AF} {a a' : Act}
theorem Q36 {k q:Nat}{u:AB}:∀{es:List (List AB)} {j:Nat} {e:List AB},(∀e∈es,e.length=k)→es[j]?=some e→q<k→es.flatten.set (j*k+q) u=(es.set j (e.set q u)).flatten
  |[],j,e,_,h,_=>by simp at h
  |f::es,0,e,hk,h,hq=>by
    obtain rfl:f=e:=by simpa using h
    rw[Aw,Nat.zero_mul,AP,List.set_append_left _ _ (by rw[hk f (by simp)];exact hq),List.set_cons_zero,Aw]
  |f::es,j+1,e,hk,h,hq=>by
    have hf:=hk f (by simp);have h' :es[j]?=some e:=by simpa using h
    rw[Aw,List.set_append_right _ _ (by rw[hf,Nat.add_mul,Nat.one_mul];omega),hf,show(j+1)*k+q-k=j*k+q by rw[Nat.add_mul,Nat.one_mul];omega,Q36 (fun e he=>hk e (by simp[he])) h' hq,List.set_cons_succ,Aw]
theorem Z7x {ty t:AE}{x y:AW}{g j q k n c:Nat}{v u:AB}{es:List (List AB)}{e:List AB}(hu:u.cells= #[u]∧u.oneCell' =true)(hR:Row t k w v es)(hv:v=.slice (some ⟨g,0,none⟩) n c)(hj:es[j]?=some e)(hq:q<k)(hw:Region.wanted o (yielded ops a.tmps)=true)
    (ho:o.op=.store ty x y) (hx:a.eval x=.pointer (some ⟨g,j*k+q,none⟩)) (hy:a.eval y=u) (hi:(Tryz.prog.info? ty).map (·.size)=some 1)
    (h:∀W,Row t k W v (es.set j (e.set q u))→Off v.ownBlock.toList w W→wpList Tryz.prog ops Q r (a.put o.dst undef) W):wpList Tryz.prog ops Q (o::r) a w:=by
  have J:=(List.getElem?_eq_some_iff.1 hj).1;have M:=hR.2 e (List.mem_of_getElem? hj)
  have R:j*k+q<es.length*k:=by
    have:(j+1)*k≤es.length*k:=Nat.mul_le_mul_right k J;rw[Nat.add_mul] at this;omega
  rcases hR.1.2 with⟨h1,hn⟩|⟨g',G,D,h1,hb,hh,hc,hm,hs,ht⟩
  · omega
  have e1:=h1.symm.trans hv;injection e1 with e1
  injection e1 with e1
  injection e1 with e1
  subst e1;have N:es.length*k≤D.size:=by rw[hs];exact Nat.mul_le_mul_right k hc
  refine Q88 hu hw ho hx hy (show Blk w g' D t from hh) (by omega) hi fun W hO hB=>h W ⟨⟨?_,.inr ⟨g',G,D.setIfInBounds (j*k+q) u,by rw[h1,List.length_set],hb,hB,by rw[List.length_set];exact hc,hm,by rw[Array.size_setIfInBounds];exact hs,?_⟩⟩,fun f hf=> ?_⟩ (by rw[h1];exact hO)
  · rw[←Q36 hR.2 hj hq,List.length_set,List.length_set];exact hR.1.1
  · rw[Array.toList_setIfInBounds,List.length_set,List.take_set,ht,Q36 hR.2 hj hq]
  rcases List.mem_or_eq_of_mem_set hf with hf|rfl
  · exact hR.2 f hf
  rw[List.length_set];exact M
end
end

section
set_option maxRecDepth 100000
theorem J4b (A:Nat):∀n,J0t (J6 A) n=A % 2^(8*n)
  |0=>by rw[BF,Nat.pow_zero,Nat.mod_one];rfl
  |n+1=>by
    show J0t (J6 A) n+(J6 A n).toNat*2^(8*n)=_;rw[J4b A n,Nat.mul_add,Nat.pow_add,Nat.mod_mul,Nat.mul_comm (J6 A n).toNat];rfl
theorem J9r {A B:Nat}(hA:A<2^256)(hB:B<2^256)(h:∀j,j<32→J6 A j=J6 B j):A=B:=by
  have D:∀n,n≤32→J0t (J6 A) n=J0t (J6 B) n:=by
    intro n
    induction n with
    |zero=>intro _;rfl
    |succ n ih=>intro hn;show J0t (J6 A) n+(J6 A n).toNat*_=J0t (J6 B) n+(J6 B n).toNat*_;rw[ih (by omega),h n (by omega)]
  have:=D 32 (by omega);rw[J4b,J4b] at this
  rwa [show 8*32=256 by decide,AL hA,AL hB] at this
theorem Z2m (A B:Nat)(hA:A<2^256)(hB:B<2^256)(w:AA):(Op.equalIn 10000 22 (.agg (J0 .u8 32 (J6 A))) (.agg (J0 .u8 32 (J6 B)))).run Tryz.prog w=.ok (decide (A=B)) w:=by
  have h:=J13 (P:=Tryz.prog) w 9998 22 5 32 .u8 (J0 .u8 32 (J6 A)) (J0 .u8 32 (J6 B)) (J6 A) (J6 B) Tryz.underlying22 Tryz.underlying5 (by kernel_rfl)
    (fun i hi=>Q6 _ _ _ _ hi) (fun i hi=>Q6 _ _ _ _ hi)
  rw[h]
  congr 1
  rw[Bool.eq_iff_iff,J2w,decide_eq_true_iff];exact⟨J9r hA hB,fun h=>by subst h;intro _ _;rfl⟩
def lb (n V:Nat):List UInt8:=(List.range n).map fun j=>UInt8.ofNat (V / 2^(8*j) % 256)
theorem J2 (n V:Nat):(lb n V).length=n:=by simp[lb]
theorem Z0i {n V j:Nat}(hj:j<n):(lb n V)[j]?=some (UInt8.ofNat (V / 2^(8*j) % 256)):=by simp[lb,hj]
theorem Q6i (V j:Nat):((UInt8.ofNat (V / 2^(8*j) % 256)).toNat:Int)=J6 V j:=by
  unfold J6;rw[UInt8.toNat_ofNat',Nat.mod_mod]
theorem J9s (n V:Nat):J9p n (J6 V)=Z9 (lb n V):=by
  unfold J9p Z9 strOfNums lb
  congr 1
  simp only[BE]
  congr 1
theorem J79 (n V:Nat):bs8 (lb n V)=J5g .u8 n (J6 V):=by
  unfold bs8 lb J5g;rw[BE];apply List.map_congr_left;intro j _;simp only[Function.comp,Q6i]
theorem J25 (n:Nat)(f:Nat→Int):(J0 .u8 n f).toList=J5g .u8 n f:=rfl
def le:List UInt8→Nat
  |[]=>0
  |x::r=>x.toNat+256*le r
theorem Q82:∀l:List UInt8,le l<2^(8*l.length)
  |[]=>by decide
  |x::r=>by
    have h:=Q82 r;have hx:=x.toNat_lt;show x.toNat+256*le r<2^(8*(r.length+1));rw[Nat.mul_add,Nat.pow_add];omega
theorem Z2n:∀{l:List UInt8} {i:Nat} {c:UInt8},l[i]?=some c→le l / 2^(8*i) % 256=c.toNat
  |x::r,0,c,h=>by
    obtain rfl:x=c:=by simpa using h
    have hx:=x.toNat_lt;show(x.toNat+256*le r) / 2^0 % 256=_;rw[Nat.pow_zero,Nat.div_one];omega
  |x::r,i+1,c,h=>by
    have hx:=x.toNat_lt;have ih:=Z2n (l:=r) (i:=i) (c:=c) (by simpa using h);show(x.toNat+256*le r) / 2^(8*(i+1)) % 256=_;rw[Nat.mul_add,Nat.add_comm (8*i),Nat.pow_add,←Nat.div_div_eq_div_mul,show(x.toNat+256*le r) / 2^(8*1)=le r by omega];exact ih
theorem J8b (n V:Nat):lb (n+1) V=UInt8.ofNat (V % 256)::lb n (V / 256):=by
  unfold lb;rw[List.range_succ_eq_map,Ac,BE]
  congr 1
  · rw[BF,Nat.pow_zero,Nat.div_one]
  apply List.map_congr_left;intro j _;simp only[Function.comp];rw[Nat.div_div_eq_div_mul,Nat.succ_eq_add_one,Nat.mul_add,Nat.pow_add,Nat.mul_comm (2^(8*j))]
theorem Z7s:∀n V:Nat,V<2^(8*n)→le (lb n V)=V
  |0,V,h=>by
    have:V<1:=h;obtain rfl:V=0:=by omega
    rfl
  |n+1,V,h=>by
    rw[J8b];show(UInt8.ofNat (V % 256)).toNat+256*le (lb n (V / 256))=V;rw[Nat.mul_add,Nat.pow_add] at h;rw[Z7s n (V / 256) (by omega),UInt8.toNat_ofNat'];omega
theorem Y6c:∀l:List UInt8,lb l.length (le l)=l
  |[]=>rfl
  |x::r=>by
    have hx:x.toNat<256:=x.toNat_lt;rw[List.length_cons,J8b];show UInt8.ofNat ((x.toNat+256*le r) % 256)::lb r.length ((x.toNat+256*le r) / 256)=_;rw[show(x.toNat+256*le r) % 256=x.toNat by omega,show(x.toNat+256*le r) / 256=le r by omega,Y6c r]
    congr 1
    exact UInt8.ofNat_toNat
theorem Z0b {l:List UInt8}{n:Nat}(h:l.length=n):lb n (le l)=l:=h▸Y6c l
theorem Y8u (n V:Nat):lb n (V % 2^(8*n))=lb n V:=by
  induction n generalizing V with
  |zero=>rfl
  |succ n ih=>
    rw[J8b,J8b];have e:(2:Nat)^(8*(n+1))=256*2^(8*n):=by rw[show 8*(n+1)=8*n+8 by omega,Nat.pow_add];omega
    rw[e,Nat.mod_mul_right_mod,Nat.mod_mul_right_div_self,ih]
theorem Q81 {n:Nat}{f g:Nat→Int}(h:(J0 .u8 n f).toList=(J0 .u8 n g).toList):J0 .u8 n f=J0 .u8 n g:=by
  rw[←Array.toArray_toList (xs:=J0 .u8 n f),h,Array.toArray_toList]
theorem V2 {w:AA}{b off n c V:Nat}{cs:Array AB}{t:AE}(h:Blk w b cs t)(hc:∀i v,(J0 .u8 n (J6 V))[i]?=some v→cs[off+i]?=some v)(hn:n≤c)(hm:c≤Ag):Sl w (.slice (some ⟨b,off,none⟩) n c) (lb n V):=
  Z7f h (J2 n V).symm hn hm fun j x hj=>by
    have D:j<n:=by have:=(List.getElem?_eq_some_iff.1 hj).1;rwa [J2] at this
    rw[Z0i D] at hj;have:=Option.some.inj hj;subst this;rw[Q6i];exact hc j _ (Q6 _ _ _ _ D)
theorem ap0 {a:Array AB}:∀i v,a[i]?=some v→a[0+i]?=some v:=fun i v h=>by rw[AP];exact h
theorem pv0 {w:AA}:∀(i:Nat) (l:List UInt8),([]:List (List UInt8))[i]?=some l→∃u,([]:List AB)[i]?=some u∧Sl w u l:=fun i l h=>by simp at h
theorem pvc {w:World}{ps:List (List UInt8)}{vs:List Value}{v:Value}{m:List UInt8}(h:Sl w v m)(k:∀(i:Nat) (l:List UInt8),ps[i]?=some l→∃u,vs[i]?=some u∧Sl w u l):
    ∀(i:Nat)(l:List UInt8),(m::ps)[i]?=some l→∃u,(v::vs)[i]?=some u∧Sl w u l
  |0,l,hi=>⟨v,rfl,by
      have e:m=l:=by simpa using hi
      subst e;exact h⟩
  |i+1,l,hi=>k i l (by simpa using hi)
theorem J1w {w:AA}{g:Nat}{cs:Array AB}{ps:List (List UInt8)}{t:AE}(h:Blk w g cs t)(hv:∀(i:Nat) (l:List UInt8),ps[i]?=some l→∃u,cs.toList[i]?=some u∧Sl w u l):
    ∀(i:Nat)(l:List UInt8),ps[i]?=some l→∃ad u,some (⟨g,0,none⟩:Addr)=some ad∧w.cell? (ad.add i)=some u∧Sl w u l:=fun i l hi=>by
  obtain⟨u,h1,h2⟩:=hv i l hi;exact⟨_,u,rfl,by rw[Addr.add_mid,J5 h,AP];simpa using h1,h2⟩
theorem Z7t {w W:AA}{A:Option Addr}{ps:List (List UInt8)}(k:Off [] w W)(h:∀(i:Nat) (l:List UInt8),ps[i]?=some l→∃ad u,A=some ad∧w.cell? (ad.add i)=some u∧Sl w u l):
    ∀(i:Nat)(l:List UInt8),ps[i]?=some l→∃ad u,A=some ad∧W.cell? (ad.add i)=some u∧Sl W u l:=fun i l hi=>by
  obtain⟨ad,u,h1,h2,h3⟩:=h i l hi;exact⟨ad,u,h1,U0 h2 k.ext,h3.off k f0⟩
end

section
inductive Fd where
  |c:AB→Fd
  |a:Nat→Nat→Fd
def Fd.cs:Fd→List AB
  | .c v=>[v]
  | .a n X=>(J0 .u8 n (J6 X)).toList
def Fd.wid:Fd→Nat
  | .c _=>1
  | .a n _=>n
theorem Fd.len (x:Fd):x.cs.length=x.wid:=by
  cases x with
  |c v=>rfl
  |a n X=>show(J0 .u8 n (J6 X)).toList.length=n;rw[BG,J1]
def fcs:List Fd→List AB
  |[]=>[]
  |x::l=>x.cs++fcs l
def fsz:List Fd→Nat
  |[]=>0
  |x::l=>x.wid+fsz l
theorem J43:∀l:List Fd,(fcs l).length=fsz l
  |[]=>rfl
  |x::l=>by show(x.cs++fcs l).length=x.wid+fsz l;rw[Ao,Fd.len,J43 l]
theorem J39:∀l m:List Fd,fcs (l++m)=fcs l++fcs m
  |[],_=>rfl
  |x::l,m=>by show x.cs++fcs (l++m)=x.cs++fcs l++fcs m;rw[J39 l m,At]
def K4 (l:List Fd):Array AB:=(fcs l).toArray
theorem J7 (l:List Fd):(K4 l).size=fsz l:=by unfold K4;rw[List.size_toArray,J43]
theorem J64 (l:List Fd):(K4 l).toList=fcs l:=rfl
theorem J9v (n X:Nat):K4 [.a n X]=J0 .u8 n (J6 X):=by apply Array.toList_inj.1;show(J0 .u8 n (J6 X)).toList++[]=_;rw[Ar]
def Y2p:List Fd→Prop
  |[]=>True
  | .c v::l=>v.oneCell' =true∧Y2p l
  | .a _ _::l=>Y2p l
theorem Q6k:∀{l:List Fd},Y2p l→∀v∈fcs l,v.oneCell' =true
  |[],_,v,h=>by cases h
  | .c u::l,h,v,hv=>by
    rcases List.mem_cons.1 (show v∈u::fcs l from hv) with rfl|hv
    · exact h.1
    · exact Q6k h.2 v hv
  | .a n X::l,h,v,hv=>by
    rcases List.mem_append.1 (show v∈(J0 .u8 n (J6 X)).toList++fcs l from hv) with hv|hv
    · exact Array.all_eq_true_iff_forall_mem.1 (Z8 .u8 n (J6 X)) v (by simpa using hv)
    · exact Q6k (l:=l) h v hv
theorem K2 {l:List Fd}(h:Y2p l):(K4 l).all (·.oneCell')=true:=
  Array.all_eq_true_iff_forall_mem.2 fun v hv=>Q6k h v (by simpa[K4] using hv)
section
variable {l m l' : List Fd} {off N X Y : Nat} {u v : AB}
theorem Q8i (i n:Nat)(hm:(l.drop i).take n=m:=by exact rfl)(ho:fsz (l.take i)=off:=by first|kernel_rfl|exact rfl):∀j v,(K4 m)[j]?=some v→(K4 l)[off+j]?=some v:=by
  subst hm ho;intro j v h;have h1:(fcs ((l.drop i).take n))[j]?=some v:=by simpa[K4] using h
  have e:fcs l=fcs (l.take i)++(fcs ((l.drop i).take n)++fcs ((l.drop i).drop n)):=by rw[←J39,List.take_append_drop,←J39,List.take_append_drop]
  show(fcs l).toArray[_]?=_;rw[List.getElem?_toArray,e,List.getElem?_append_right (by rw[J43];omega),J43,Nat.add_sub_cancel_left,List.getElem?_append_left (List.getElem?_eq_some_iff.1 h1).1];exact h1
theorem J44 {α:Type}{l:List α}{i:Nat}{x:α}(h:l[i]?=some x):(l.drop i).take 1=[x]:=by
  obtain⟨h1,h2⟩:=List.getElem?_eq_some_iff.1 h;rw[List.drop_eq_getElem_cons h1,h2];rfl
theorem J11 (i:Nat)(hi:l[i]?=some (.a N X):=by exact rfl)(ho:fsz (l.take i)=off:=by first|kernel_rfl|exact rfl):∀j v,(J0 .u8 N (J6 X))[j]?=some v→(K4 l)[off+j]?=some v:=by
  rw[←J9v];exact Q8i i 1 (J44 hi) ho
theorem V1 (i:Nat)(hi:l[i]?=some (.c v):=by exact rfl)(ho:fsz (l.take i)=off:=by first|kernel_rfl|exact rfl):(K4 l)[off]?=some v:=by
  have h:=Q8i i 1 (J44 hi) ho 0 v rfl;exact h
theorem Q6l:∀(vs old pre post:List AB),old.length=vs.length→spl (pre++(old++post)).toArray pre.length vs=(pre++(vs++post)).toArray
  |[],old,pre,post,h=>by rw[List.eq_nil_of_length_eq_zero h];rfl
  |u::r,[],pre,post,h=>by cases h
  |u::r,o::old,pre,post,h=>by
    show spl ((pre++(o::old++post)).toArray.setIfInBounds pre.length u) (pre.length+1) r=_
    have e:(pre++(o::old++post)).toArray.setIfInBounds pre.length u=((pre++[u])++(old++post)).toArray:=by
      apply Array.toList_inj.1;rw[Array.toList_setIfInBounds];show(pre++(o::old++post)).set pre.length u=_;rw[List.set_append_right _ _ (AM _),Nat.sub_self];simp
    rw[e,show pre.length+1=(pre++[u]).length by simp,Q6l r old (pre++[u]) post (by simpa using h)];simp
theorem Q37 (i n:Nat)(hl:l.take i++(m++l.drop (i+n))=l' :=by exact rfl)(ho:fsz (l.take i)=off:=by first|kernel_rfl|exact rfl)(hm:fsz m=fsz ((l.drop i).take n):=by first|kernel_rfl|exact rfl):spl (K4 l) off (K4 m).toList=K4 l' :=by
  subst ho hl;have e:fcs l=fcs (l.take i)++(fcs ((l.drop i).take n)++fcs ((l.drop i).drop n)):=by rw[←J39,List.take_append_drop,←J39,List.take_append_drop]
  have h:=Q6l (fcs m) (fcs ((l.drop i).take n)) (fcs (l.take i)) (fcs ((l.drop i).drop n)) (by rw[J43,J43,hm]);rw[←e,J43] at h;show spl (fcs l).toArray _ (fcs m)=(fcs _).toArray;rw[h,J39,J39,List.drop_drop]
theorem J4c {α:Type}:∀{l:List α} {i:Nat} {x y:α},l[i]?=some x→l.set i y=l.take i++([y]++l.drop (i+1))
  |[],_,_,_,h=>by simp at h
  |_::_,0,_,_,_=>rfl
  |_::l,i+1,_,y,h=>congrArg _ (J4c (l:=l) (y:=y) (by simpa using h))
theorem Q8j (i:Nat)(hi:l[i]?=some (.a N X):=by exact rfl)(hl:l.set i (.a N Y)=l' :=by exact rfl)(ho:fsz (l.take i)=off:=by first|kernel_rfl|exact rfl):spl (K4 l) off (J0 .u8 N (J6 Y)).toList=K4 l' :=by
  rw[←J9v];exact Q37 i 1 (by rw[←hl];exact(J4c hi).symm) ho (by rw[J44 hi];rfl)
theorem J3a (i:Nat)(hi:l[i]?=some (.c u):=by exact rfl)(hl:l.set i (.c v)=l' :=by exact rfl)(ho:fsz (l.take i)=off:=by first|kernel_rfl|exact rfl):(K4 l).setIfInBounds off v=K4 l' :=by
  have h:=Q37 (l' :=l') (m:=[.c v]) i 1 (by rw[←hl];exact(J4c hi).symm) ho (by rw[J44 hi];rfl);exact h
end
/-! ### a struct built of parts -/
theorem Q8k (off:Nat):∀(vs:List AB) (k:Nat) (cs:Array AB),(vs.zipIdx k).foldl (fun cs (x:AB×Nat)=>cs.setIfInBounds (off+x.2) x.1) cs=spl cs (off+k) vs
  |[],_,_=>rfl
  |v::vs,k,cs=>by
    show((vs.zipIdx (k+1)).foldl _ (cs.setIfInBounds (off+k) v))=spl (cs.setIfInBounds (off+k) v) (off+k+1) vs;exact Q8k off vs (k+1) _
theorem Y8x {place:Nat→Option (Nat×Nat)}{l l' m:List Fd}{i off n:Nat}{v:AB}{r:List (Nat×AB)}{cs:Option (Array AB)}(h:Instr.fill place (K4 l') r=cs)(hv:v.cells=K4 m)(hs:spl (K4 l) off (K4 m).toList=K4 l')(hp:place i=some (off,n))(hn:fsz m=n)(hb:off+n≤fsz l):Instr.fill place (K4 l) ((i,v)::r)=cs:=by
  unfold Instr.fill;rw[hp];show(if(v.cells.size≠n ||off+v.cells.size>(K4 l).size)=true then none else _)=_;rw[hv,J7,J7,hn,if_neg (by simp;omega)];have h3:=Q8k off (K4 m).toList 0 (K4 l);rw[show(K4 m).zipIdx.foldl (fun cs (x:AB×Nat)=>cs.setIfInBounds (off+x.2) x.1) (K4 l)=((K4 m).toList.zipIdx 0).foldl (fun cs (x:AB×Nat)=>cs.setIfInBounds (off+x.2) x.1) (K4 l) by rw[←Array.foldl_toList,Array.toList_zipIdx],h3,Ax,hs];exact h
theorem Y8y {place:Nat→Option (Nat×Nat)}{l:List Fd}:Instr.fill place (K4 l) []=some (K4 l):=rfl
def plc (P:AD)(t:AE):Option (List (Nat×Nat)):=match P.underlying t with
  |some (.struct fs)=>fs.toList.mapM fun f=>(P.info? f.type).map fun i=>(f.offset,i.size)
  |_=>none
def zer (P:AD)(t:AE):Option (Option (Array AB)):=(P.info? t).map fun i=>i.zero.map (·.cells)
theorem Z7y {P:AD}{t:AE}{zs l:List Fd}{pl:List (Nat×Nat)}{parts:List (Nat×AB)}(hz:zer P t=some (some (K4 zs)))(hp:plc P t=some pl)(hf:Instr.fill (pl.toArray[·]?) (K4 zs) parts=some (K4 l)):P.built t parts=some (K4 l):=by
  unfold zer at hz;unfold plc at hp;unfold AD.built;cases hi:P.info? t with
  |none=>simp[hi] at hz
  |some it=>
    cases hu:P.underlying t with
    |none=>simp[hu] at hp
    |some d=>
      cases d<;>try (simp[hu] at hp;done)
      rename_i fs;cases hq:it.zero with
      |none=>simp[hi,hq] at hz
      |some z=>
        have hz' :z.cells=K4 zs:=by simpa[hi,hq] using hz
        simp only[hu] at hp;simp only[hq,hp,hz'];exact hf
def Y8z:List Fd→List (Nat×List Fd)→List Fd
  |l,[]=>l
  |l,(j,m)::r=>Y8z (l.take j++(m++l.drop (j+m.length))) r
def bck (pl:List (Nat×Nat)):List Fd→List Nat→List (Nat×List Fd)→Bool
  |_,[],[]=>true
  |l,i::is,(j,m)::r=>(match pl.toArray[i]? with
    |some (off,n)=>Nat.beq (fsz m) n && Nat.beq (fsz (l.take j)) off && Nat.beq (fsz m) (fsz ((l.drop j).take m.length)) && Nat.ble (off+n) (fsz l)
    |none=>false) && bck pl (l.take j++(m++l.drop (j+m.length))) is r
  |_,_,_=>false
inductive BV:List (Nat×AB)→List (Nat×List Fd)→Prop
  |n:BV [] []
  |c {i j:Nat} {v:AB} {m:List Fd} {r:List (Nat×AB)} {s:List (Nat×List Fd)} (h:v.cells=K4 m) (t:BV r s):BV ((i,v)::r) ((j,m)::s)
theorem Z7z {pl:List (Nat×Nat)}:∀{parts:List (Nat×Value)} {ms:List (Nat×List Fd)},BV parts ms→∀l:List Fd,bck pl l (parts.map (·.1)) ms=true→Instr.fill (pl.toArray[·]?) (K4 l) parts=some (K4 (Y8z l ms))
  |_,_,.n,l,_=>rfl
  |_,_,.c (i:=i) (j:=j) (m:=m) h t,l,hc=>by
    simp only[List.map_cons,bck,Bool.and_eq_true] at hc;obtain⟨h1,h2⟩:=hc;cases hq:pl.toArray[i]? with
    |none=>rw[hq] at h1;cases h1
    |some q=>
      obtain⟨off,n⟩:=q;rw[hq] at h1;simp only[Bool.and_eq_true] at h1;obtain⟨⟨⟨a,b⟩,c⟩,d⟩:=h1;exact Y8x (l' :=l.take j++(m++l.drop (j+m.length))) (Z7z t _ h2) h (Q37 j m.length rfl (Nat.eq_of_beq_eq_true b) (Nat.eq_of_beq_eq_true c)) hq (Nat.eq_of_beq_eq_true a) (Nat.le_of_ble_eq_true d)
theorem Z2o {P:AD}{a:Act}{W:AA}{o:AF}{t:AE}{xs:List (Nat×AW)}{parts:List (Nat×AB)}{zs l:List Fd}{pl:List (Nat×Nat)}(ho:o.op=.build t xs.toArray)(hx:xs.map (fun x=>(x.1,a.eval x.2))=parts)(hz:zer P t=some (some (K4 zs)))(hp:plc P t=some pl)(hf:Instr.fill (pl.toArray[·]?) (K4 zs) parts=some (K4 l)):
    (AV a.eval o).run P W=.ok (.value (.agg (K4 l))) W:=by
  have hb:=Z7y hz hp hf;unfold AV;simp only[ho,List.map_toArray,Ah,run_build W t _ _ (show P.built t (xs.map fun x=>(x.1,a.eval x.2)).toArray.toList=_ by rw[hx];exact hb),Result.andThen_ok];rfl
/-! ### a text copied over a part that is nought -/
structure CpOk (off N:Nat)(l:List UInt8)(cs new:Array AB):Prop where
  new:(cs.toList.take off++(bs8 (l.take N)++cs.toList.drop (off+min N l.length))).toArray=new
  le:off+N≤cs.size
theorem J7m (ms:List (Nat×List Fd)){P:Program}{a:Act}{W:World}{o:Oper}{t:TypeId}{xs:List (Nat×Operand)}{parts:List (Nat×Value)}{zs l:List Fd}{pl:List (Nat×Nat)}(ho:o.op=.build t xs.toArray)(hx:xs.map (fun x=>(x.1,a.eval x.2))=parts)(hz:zer P t=some (some (K4 zs)))(hp:plc P t=some pl)(hv:BV parts ms)(hl:Y8z zs ms=l:=by kernel_rfl)(hc:bck pl zs (parts.map (·.1)) ms=true:=by kernel_rfl):
    (execOp a.eval o).run P W=.ok (.value (.agg (K4 l))) W:=
  Z2o ho hx hz hp (by rw[←hl];exact Z7z hv zs hc)
theorem agl {l:List Fd}{j:Nat}(h:Nat.ble (j+1) (fsz l)=true:=by kernel_rfl):j<(K4 l).size:=by rw[J7];exact Nat.le_of_ble_eq_true h
theorem MRa {P:Program}{ops:Array Oper}{Q:Exit→Act→World→Prop}{F:List Nat}{w:World}{H H' :List As}{l:List Oper}{o:Oper}{a a' :Act}(i:Nat){g:Nat}{cells old:Array Value}{t ty:TypeId}{x y:Operand}(h:wpM P ops (.L Q) F w H' l a')(hi:H[i]?=some (.b g old t):=by exact rfl)(hw:Region.wanted o (yielded ops a.tmps)=true:=by exact rfl)(ho:o.op=.store ty x y:=by exact rfl)
    (hx:a.eval x=.pointer (some ⟨g,0,none⟩):=by exact rfl) (hy:a.eval y=.agg cells:=by exact rfl) (hz:(P.info? ty).map (·.size)=some cells.size:=by rw[J7];kernel_rfl) (hs:old.size=cells.size:=by first|(rw[J7,J7];simp only[V31,V32,V33];done)|(rw[J7,J7];rfl)|rfl) (h1:cells.all (·.oneCell')=true:=by first|kernel_rfl|exact Z8 _ _ _)
    (hH:H.set i (.b g cells t)=H' :=by dsimp only[sB,sC];first|done|exact rfl) (hp:a.put o.dst undef=a' :=by first|exact pl (by dsimp only[mB,mC];first|done|exact rfl)|exact pn|exact rfl):wpM P ops (.L Q) F w H (o::l) a:=MR i h hi hw ho hx hy hz hs h1 hH hp
theorem V34 (n X:Nat):(J0 .u8 n (J6 X)).toList=bs8 (lb n X):=by rw[J25,←J79]
theorem Y90 {fs fs' :List Fd}{N X Y i off:Nat}{l:List UInt8}(hi:fs[i]?=some (.a N X))(hf:fs.set i (.a N Y)=fs')(ho:fsz (fs.take i)=off)(hc:bs8 (l.take N)++(J0 .u8 N (J6 X)).toList.drop (min N l.length)=(J0 .u8 N (J6 Y)).toList):CpOk off N l (K4 fs) (K4 fs'):=by
  have e:fcs fs=fcs (fs.take i)++((J0 .u8 N (J6 X)).toList++fcs (fs.drop (i+1))):=by
    have h1:fs=fs.take i++([.a N X]++fs.drop (i+1)):=by
      have h2:=J4c (y:=Fd.a N X) hi;rw[←h2];obtain⟨h3,h4⟩:=List.getElem?_eq_some_iff.1 hi;rw[←h4,List.set_getElem_self]
    conv=>lhs;rw[h1,J39,J39]
    show _++(((J0 .u8 N (J6 X)).toList++[])++_)=_;rw[Ar]
  have hp:(fcs (fs.take i)).length=off:=by rw[J43];exact ho
  have hz:(J0 .u8 N (J6 X)).toList.length=N:=by rw[BG,J1]
  have hm:min N l.length≤N:=Nat.min_le_left _ _;refine⟨?_,?_⟩
  · apply Array.toList_inj.1
    show _=fcs fs';rw[←hf,J4c hi,J39,J39,J64,e];show List.take off (_++_)++(_++List.drop _ (_++_))=_++(((J0 .u8 N (J6 Y)).toList++[])++_)
    rw[Ar,List.take_append_of_le_length (by omega),List.take_of_length_le (by omega),List.drop_append,List.drop_eq_nil_of_le (by omega),List.nil_append,hp,Nat.add_sub_cancel_left,List.drop_append_of_le_length (by omega),←At (bs8 _),hc]
  rw[J7,←J43,e,Ao,Ao,hp,hz];omega
theorem V35 (i:Nat){fs fs' :List Fd}{N X Y off:Nat}(hi:fs[i]?=some (.a N X))(hf:fs.set i (.a N Y)=fs')(ho:fsz (fs.take i)=off):CpOk off N (lb N Y) (K4 fs) (K4 fs'):=
  Y90 hi hf ho (by rw[J2,Nat.min_self,List.drop_eq_nil_of_le (by rw[BG,J1];omega),Ar,List.take_of_length_le (by rw[J2];omega),V34])
section
variable {ops : Array AF} {Q : AG → Act → AA → Prop} {F : List Nat} {w : AA} {H H' : List As} {r : List AF} {o : AF} {a a' : Act}
theorem Z53 {x y:Operand}{l:List UInt8}{g off:Nat}{cur new:Array Value}{t:TypeId}{N c:Nat}(hB:Blk w g cur t)(hok:CpOk off N l cur new)(hw:Region.wanted o (yielded ops a.tmps)=true)
    (ho:o.op=.call {callee:=.builtin .copy,args:= #[x,y],argTypes:= #[45,9]}) (hx:a.eval x=.slice (some ⟨g,off,none⟩) N c) (hy:a.eval y=Z9 l)
    (h:∀W,Off [g] w W→Blk W g new t→wpList Tryz.prog ops Q r (a.put o.dst (goInt ((min N l.length:Nat):Int))) W):wpList Tryz.prog ops Q (o::r) a w:=by
  obtain⟨M,S⟩:=hok;have D:(bs8 (l.take N)).length=min N l.length:=by rw[X8,BC]
  have J:=run_storeCells_at Tryz.prog g off t (bs8 (l.take N)) 0 cur w hB (by rw[D];omega) (Q1w _);rw[Ax,D,At,M] at J;have h4:Blk (w.setRow g new) g new t:=X6 hB _;have R:=J4w l;have G:=J91 l 0 (min N l.length);have ht:l.take (min N l.length)=l.take N:=by rw[List.take_eq_take_iff];omega
  rw[List.drop_zero,ht] at G;refine J6h hw (v:=goInt ((min N l.length:Nat):Int)) (W:=w.setRow g new) ?_ (h _ ⟨rfl,rfl,rfl,by simp,fun k _ hk=>setRow_other w g k _ (by simpa using hk)⟩ h4);unfold AV;simp only[ho,resolve,invoke,builtin,Ah,Sem.run_pure,Result.andThen_ok,List.map_toArray,Ac,List.map_nil,hx,hy];cases hq:Tryz.prog.info? 5 with
  |none=>have h0:=J6j;rw[hq] at h0;cases h0
  |some i=>
    have hi:i.size=1:=by have h0:=J6j;rw[hq] at h0;simpa using h0
    have hst' :(storeCells ⟨g,off,none⟩ ((l.take N).map fun b=>AB.int .u8 (b.toNat:Int))).run Tryz.prog w=.ok () (w.setRow g new):=J;simp[Builtin.copy_,run_underlying Tryz.underlying45,Builtin.lenOf,Builtin.firstCells,sizeOf,typeInfo,hq,hi,Z9,R,G,Ah,bs8,←List.map_take];rw[show List.take (l.length.min N) l=List.take N l by rw[List.take_eq_take_iff];show min (min l.length N) l.length=_;omega,hst',show l.length.min N=min N l.length from Nat.min_comm _ _];simp
theorem MCq (i:Nat){x y:Operand}{l:List UInt8}{b off N c:Nat}{cs new:Array Value}{t:TypeId}(hok:CpOk off N l cs new)(h:wpM Tryz.prog ops (.L Q) F w H' r a')(hi:H[i]?=some (.b b cs t):=by exact rfl)(hw:Region.wanted o (yielded ops a.tmps)=true:=by exact rfl)
    (ho:o.op=.call {callee:=.builtin .copy,args:= #[x,y],argTypes:= #[45,9]}:=by exact rfl) (hx:a.eval x=.slice (some ⟨b,off,none⟩) N c:=by exact rfl) (hy:a.eval y=Z9 l:=by exact rfl)
    (hH:H.set i (.b b new t)=H' :=by dsimp only[sB,sC];first|done|exact rfl) (hp:a.put o.dst (goInt ((min N l.length:Nat):Int))=a' :=by first|exact pl (by dsimp only[mB,mC];first|done|exact rfl)|exact pn|exact rfl):wpM Tryz.prog ops (.L Q) F w H (o::r) a:=by
  subst hp hH;intro W hS;exact Z53 (hS.blk hi) hok hw ho hx hy fun W' hO hB=>h W' (hS.setb hi hO hB)
end
section
variable {P : AD} {ops : Array AF} {k : Wk} {K : Act → AA → Prop} {t : Tr} {G : List As} {F : List Nat} {w : AA} {H : List As} {l : List AF} {o : AF} {a a' : Act}
theorem Mk (i:Nat){b j:Nat}{cs sub:Array Value}{t ty:TypeId}{x:Operand}(h:wpM P ops k F w H l a')(hi:H[i]?=some (.b b cs t):=by exact rfl)(hw:Region.wanted o (yielded ops a.tmps)=true:=by exact rfl)(ho:o.op=.load ty x:=by exact rfl)(hx:a.eval x=.pointer (some ⟨b,j,none⟩):=by exact rfl)(hs:∀i v,sub[i]?=some v→cs[j+i]?=some v)
    (hk:(P.underlying ty).map TypeDesc.isRow=some true:=by as_aux_lemma=>kernel_rfl) (hz:(P.info? ty).map (·.size)=some sub.size:=by first|(rw[J1];kernel_rfl)|(rw[J7];kernel_rfl)) (hp:a.put o.dst (.agg sub)=a' :=by first|exact pl (by dsimp only[mB,mC];first|done|exact rfl)|exact pn|exact rfl):wpM P ops k F w H (o::l) a:=Ml i hs h hi hw ho hx hk hz hp
theorem Tk (n:Nat){i b j:Nat}{cs sub:Array Value}{tt ty:TypeId}{x:Operand}(h:wpP P ops K F w G H t a')(hi:G[n]?=some (.b b cs tt):=by exact rfl)(hoo:ops.toList[i]?=some o:=by exact rfl)(hw:Region.wanted o (yielded ops a.tmps)=true:=by exact rfl)(ho:o.op=.load ty x:=by exact rfl)(hx:a.eval x=.pointer (some ⟨b,j,none⟩):=by exact rfl)(hs:∀i v,sub[i]?=some v→cs[j+i]?=some v)
    (hk:(P.underlying ty).map TypeDesc.isRow=some true:=by as_aux_lemma=>kernel_rfl) (hz:(P.info? ty).map (·.size)=some sub.size:=by first|(rw[J1];kernel_rfl)|(rw[J7];kernel_rfl)) (hp:a.put o.dst (.agg sub)=a' :=by first|exact pl (by dsimp only[mB,mC];first|done|exact rfl)|exact pn|exact rfl):wpP P ops K F w G H (.q i t) a:=Tl n hs h hi hoo hw ho hx hk hz hp
theorem Mq {Q:Exit→Act→World→Prop}{H' :List As}(i:Nat){g off:Nat}{cells old new:Array Value}{t ty:TypeId}{x y:Operand}(h:wpM P ops (.L Q) F w H' l a')(hi:H[i]?=some (.b g old t):=by exact rfl)(hw:Region.wanted o (yielded ops a.tmps)=true:=by exact rfl)(ho:o.op=.store ty x y:=by exact rfl)
    (hx:a.eval x=.pointer (some ⟨g,off,none⟩):=by exact rfl) (hy:a.eval y=.agg cells:=by exact rfl) (hc:spl old off cells.toList=new) (hz:(P.info? ty).map (·.size)=some cells.size:=by first|(rw[J1];kernel_rfl)|(rw[J7];kernel_rfl)) (hs:off+cells.size≤old.size) (h1:cells.all (·.oneCell')=true:=by exact Z8 _ _ _)
    (hH:H.set i (.b g new t)=H' :=by dsimp only[sB,sC];first|done|exact rfl) (hp:a.put o.dst undef=a' :=by first|exact pl (by dsimp only[mB,mC];first|done|exact rfl)|exact pn|exact rfl):wpM P ops (.L Q) F w H (o::l) a:=Mr i hc h hi hw ho hx hy hz hs h1 hH hp
end
end

section
def fbR (v:AB)(es:List (List AB)):List Nat:=match v,es with
  | .slice (some a) _ _,_::_=>[a.block]
  |_,_=>[]
theorem RR.keep {k:Nat}{w W:AA}{v:AB}{es:List (List AB)}(h:RR k w v es)(e:∀b∈fbR v es,W.heap[b]?=w.heap[b]?):RR k W v es:=by
  obtain⟨A,c,rfl,h2,h0,h3⟩:=h;refine⟨A,c,rfl,h2,h0,fun j x hj=> ?_⟩;obtain⟨g,o,h4,h5⟩:=h3 j x hj;refine⟨g,o,h4,fun i y hy=> ?_⟩;subst h4
  have hb:W.heap[g]?=w.heap[g]?:=by
    refine e g ?_;cases es with
    |nil=>simp at hj
    |cons f fs=>exact Ai.2 rfl
  rw[←h5 i y hy];unfold AA.cell?;rw[hb]
theorem RR.pholds {k:Nat}{w:AA}{v:AB}{es:List (List AB)}(hk:0<k)(hes:∀e∈es,e.length=k)(h:RR k w v es):(As.p (fbR v es) (fun W=>RR k W v es)).holds w:=by
  refine⟨h,fun b hb=> ?_,fun W _ e=>h.keep e⟩;obtain⟨A,c,rfl,h2,h0,h3⟩:=h;cases A with
  |none=>cases es<;>cases hb
  |some a=>
    cases es with
    |nil=>cases hb
    |cons f fs=>
      obtain⟨g,o,h4,h5⟩:=h3 0 f rfl;have hf:=hes f (by simp);have h6:=h5 0 f[0] (List.getElem?_eq_getElem (by omega));rw[Ai.1 hb,Option.some.inj h4];have h7:=AA.block_lt_of_cell? w _ h6;exact h7
theorem Y2o {t:AE}{k:Nat}{w:AA}{v:AB}{es:List (List AB)}(h:Row t k w v es):∀b∈fbR v es,b∈v.ownBlock.toList:=fun b hb=>by
  rcases h.1.2 with⟨rfl,_⟩|⟨g,G,D,rfl,_⟩
  · cases es<;>cases hb
  · cases es with
    |nil=>cases hb
    |cons f fs=>exact hb
end
end Go.Proofs.YtdjacgmmidbieaaGreatDoor

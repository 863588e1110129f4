/- Contracts and plain laws for custumalPast_holds. Conditions: the tables hold their numbers. -/
import Derived.Test.YteehbddkcnkhfaaGreatDoorJ28
open Go.RowKit
set_option linter.unusedSimpArgs false
set_option linter.unusedVariables false
namespace Go.Proofs.YteehbddkcnkhfaaGreatDoor
section
def Num (ms:List Md):Prop:=∀(l:List UInt8) (i:Nat) (m:Md),(ms.filter fun m=>decide (m.l=l))[i]?=some m→m.ver=i+1
theorem Z6z {ms:List Md}(h:Num ms)(l x:List UInt8)(e:Nat):Num (ms++[⟨l,x,e,vct ms l+1⟩]):=by
  intro l' i m hm;rw[List.filter_append] at hm
  by_cases hl:l=l'
  · subst hl
    rw[show List.filter (fun m:Md=>decide (m.l=l)) [⟨l,x,e,vct ms l+1⟩]=[⟨l,x,e,vct ms l+1⟩] by simp] at hm;rcases Nat.lt_or_ge i (ms.filter fun m:Md=>decide (m.l=l)).length with hi|hi
    · rw[List.getElem?_append_left hi] at hm;exact h l i m hm
    rw[List.getElem?_append_right hi] at hm
    have h0:i-(ms.filter fun m:Md=>decide (m.l=l)).length=0:=by
      rcases Nat.eq_zero_or_pos (i-(ms.filter fun m:Md=>decide (m.l=l)).length) with h0|h0
      · exact h0
      rw[List.getElem?_eq_none (by simp;omega)] at hm;cases hm
    rw[h0] at hm;obtain rfl:=Option.some.inj hm;show vct ms l+1=i+1;unfold vct;omega
  rw[show List.filter (fun m:Md=>decide (m.l=l')) [⟨l,x,e,vct ms l+1⟩]=[] by simp[hl],List.append_nil] at hm;exact h l' i m hm
theorem Z1o {e:Nat}:∀(ps:List J4u) {ms:List Md},Num ms→Num (mdp ms e ps)
  |[],_,h=>h
  |p::ps,ms,h=>Z1o ps (Z6z h p.1 p.2 e)
theorem Z1p:∀(r:List (List J4u)) {ms:List Md} {e:Nat},Num ms→Num (mdS ms e r)
  |[],_,_,h=>h
  |q::r,_,_,h=>Z1p r (Z1o q h)
def Ord (ms:List Md)(e:Nat):Prop:=ms.Pairwise (fun a b=>a.ep≤b.ep)∧∀m∈ms,m.ep≤e
theorem Z1q {e:Nat}(ps:List J4u){ms:List Md}(h:Ord ms e):Ord (mdp ms e ps) e:=by
  obtain⟨t,h1,h2,_⟩:=Q5p (e:=e) (ps:=ps) (ms:=ms);rw[h1];refine⟨List.pairwise_append.2 ⟨h.1,?_,fun a ha b hb=>by rw[h2 b hb];exact h.2 a ha⟩,fun m hm=>(List.mem_append.1 hm).elim (h.2 m) fun hm=>Nat.le_of_eq (h2 m hm)⟩;exact List.pairwise_iff_getElem.2 fun i j hi hj _=>by rw[h2 _ (List.getElem_mem hi),h2 _ (List.getElem_mem hj)];exact Nat.le_refl _
theorem Z1r:∀(r:List (List J4u)) {ms:List Md} {e:Nat},Ord ms e→(mdS ms e r).Pairwise (fun a b=>a.ep≤b.ep)
  |[],_,_,h=>h.1
  |q::r,ms,e,h=>Z1r r (e:=e+1) ⟨(Z1q q h).1,fun m hm=>Nat.le_succ_of_le ((Z1q q h).2 m hm)⟩
theorem J7h:∀{q:List Md},q.Pairwise (fun a b=>a.ep≤b.ep)→∀e,q.filter (fun m=>decide (m.ep≤e))=q.take (q.filter fun m=>decide (m.ep≤e)).length
  |[],_,_=>rfl
  |a::r,h,e=>by
    have hr:=List.pairwise_cons.1 h
    by_cases ha:a.ep≤e
    · rw[List.filter_cons_of_pos (by simpa using ha),List.length_cons,List.take_succ_cons,←J7h hr.2 e]
    · have h0:(a::r).filter (fun m=>decide (m.ep≤e))=[]:=List.filter_eq_nil_iff.2 fun m hm=>by
        rcases List.mem_cons.1 hm with rfl|hm
        · simpa using ha
        · have:=hr.1 m hm;simp;omega
      rw[h0];rfl
namespace DD
def ofl (D:DD)(l:List UInt8):List Md:=D.made.filter fun m=>decide (m.l=l)
def cnt (D:DD)(l:List UInt8)(e:Nat):Nat:=((D.ofl l).filter fun m=>decide (m.ep≤e)).length
theorem ofl_num (D:DD)(l:List UInt8){i:Nat}{m:Md}(h:(D.ofl l)[i]?=some m):m.ver=i+1:=Z1p D.puts (ms:=[]) (fun _ _ _ h=>by cases h) l i m h
theorem ofl_ord (D:DD)(l:List UInt8):(D.ofl l).Pairwise (fun a b=>a.ep≤b.ep):=(Z1r D.puts (ms:=[]) (e:=0) ⟨.nil,fun m hm=>by cases hm⟩).filter _
theorem cnt_le (D:DD)(l:List UInt8)(e:Nat):D.cnt l e≤(D.ofl l).length:=List.length_filter_le _ _
theorem cnt_mono (D:DD)(l:List UInt8){e f:Nat}(h:e≤f):D.cnt l e≤D.cnt l f:=by
  unfold cnt
  have h1:(D.ofl l).filter (fun m=>decide (m.ep≤e))=((D.ofl l).filter fun m=>decide (m.ep≤f)).filter fun m=>decide (m.ep≤e):=by
    rw[List.filter_filter];refine List.filter_congr fun m _=> ?_
    by_cases hm:m.ep≤e
    · rw[decide_eq_true hm,decide_eq_true (show m.ep≤f by omega)];rfl
    rw[decide_eq_false hm];rfl
  rw[h1];exact List.length_filter_le _ _
theorem Q2m (D:DD)(l:List UInt8)(e:Nat):D.lastM l e=((D.ofl l).take (D.cnt l e)).getLastD mdZ:=by
  unfold lastM cnt;show((D.ofl l).filter _).getLastD mdZ=_
  conv=>lhs;rw[J7h (D.ofl_ord l) e]
theorem Q9r {D:DD}{l:List UInt8}{e:Nat}(h:D.cnt l e=0):D.lastM l e=mdZ:=by rw[Q2m,h,List.take_zero];rfl
theorem lastM_at {D:DD}{l:List UInt8}{e:Nat}(h:0<D.cnt l e):(D.ofl l)[D.cnt l e-1]?=some (D.lastM l e):=by
  have hl:=D.cnt_le l e;rw[Q2m,List.getLastD_eq_getLast?,List.getLast?_eq_getElem?,List.length_take,Nat.min_eq_left hl,List.getElem?_take_of_lt (by omega),List.getElem?_eq_getElem (by omega)];rfl
theorem lastM_ver (D:DD)(l:List UInt8)(e:Nat):(D.lastM l e).ver=D.cnt l e:=by
  rcases Nat.eq_zero_or_pos (D.cnt l e) with h|h
  · rw[Q9r h,h];rfl
  rw[D.ofl_num l (lastM_at h)];omega
theorem Q4i {D:DD}{l:List UInt8}{i:Nat}{m:Md}(h:(D.ofl l)[i]?=some m)(e:Nat):m.ep≤e↔i<D.cnt l e:=by
  have hf:=J7h (D.ofl_ord l) e;have hi:=(List.getElem?_eq_some_iff.1 h).1;constructor
  · intro hm
    rcases Nat.lt_or_ge i (D.cnt l e) with h1|h1
    · exact h1
    -- the filtered list holds m, which stands at i
    exfalso;have hq:=List.pairwise_iff_getElem.1 (D.ofl_ord l)
    have S:∀j,j≤i→∀mj,(D.ofl l)[j]?=some mj→mj.ep≤e:=fun j hj mj G=>by
      rcases Nat.lt_or_ge j i with R|U
      · obtain⟨M,ej⟩:=List.getElem?_eq_some_iff.1 G
        obtain⟨N,ei⟩:=List.getElem?_eq_some_iff.1 h;have:=hq j i M N R;rw[ej,ei] at this;omega
      obtain rfl:j=i:=by omega
      rw[h] at G;obtain rfl:=Option.some.inj G;exact hm
    have h2:(D.ofl l).take (i+1)=((D.ofl l).take (i+1)).filter fun m=>decide (m.ep≤e):=(List.filter_eq_self.2 fun m' T=>by
      obtain⟨j,hj⟩:=List.mem_iff_getElem?.1 T
      have J:j<i+1:=by
        have:=(List.getElem?_eq_some_iff.1 hj).1;rw[List.length_take] at this;omega
      rw[List.getElem?_take_of_lt J] at hj
      simpa using S j (by omega) m' hj).symm
    have h3:List.Sublist (((D.ofl l).take (i+1)).filter fun m:Md=>decide (m.ep≤e)) ((D.ofl l).filter fun m:Md=>decide (m.ep≤e)):=(List.take_sublist _ _).filter _;have h4:=h3.length_le;rw[←h2,List.length_take] at h4;have h5:((D.ofl l).filter fun m=>decide (m.ep≤e)).length=D.cnt l e:=rfl;omega
  intro hc
  have h1:((D.ofl l).filter fun m=>decide (m.ep≤e))[i]?=some m:=by
    rw[hf,List.getElem?_take_of_lt (show i<((D.ofl l).filter fun m:Md=>decide (m.ep≤e)).length from hc)];exact h
  simpa using(List.mem_filter.1 (List.mem_of_getElem? h1)).2
def vup (D:DD)(l:List UInt8)(e i:Nat):Nat:=min i (D.cnt l e)
theorem vup_yes {D:DD}{l:List UInt8}{e i:Nat}{m:Md}(h:(D.ofl l)[i]?=some m)(he:m.ep≤e):m.ver=D.vup l e (i+1):=by
  have h1:=(Q4i h e).1 he;rw[D.ofl_num l h];unfold vup;omega
theorem vup_no {D:DD}{l:List UInt8}{e i:Nat}{m:Md}(h:(D.ofl l)[i]?=some m)(he:¬m.ep≤e):D.vup l e (i+1)=D.vup l e i:=by
  have h1:¬i<D.cnt l e:=fun hc=>he ((Q4i h e).2 hc);unfold vup;omega
theorem vup_end {D:DD}{l:List UInt8}{e:Nat}:D.vup l e (D.ofl l).length=(D.lastM l e).ver:=by
  rw[lastM_ver];unfold vup;have:=D.cnt_le l e;omega
def rts (D:DD)(e j:Nat):List Nat:=(List.range' e j).map fun i=>rs (D.tree i)
def lks (D:DD)(e j:Nat):List Nat:=(List.range' e j).map D.link
theorem rts_snoc (D:DD)(e j:Nat):D.rts e (j+1)=D.rts e j++[rs (D.tree (e+j))]:=by unfold rts;rw[J92,List.map_append];rfl
theorem lks_snoc (D:DD)(e j:Nat):D.lks e (j+1)=D.lks e j++[D.link (e+j)]:=by unfold lks;rw[J92,List.map_append];rfl
theorem Z70 {D:DD}{e j i:Nat}(h:i<j):(D.lks e j)[i]?=some (D.link (e+i)):=by unfold lks;rw[List.getElem?_map,List.getElem?_range' h];simp
theorem Y98 {D:DD}{e j i:Nat}(h:i<j):(D.rts e j)[i]?=some (rs (D.tree (e+i))):=by unfold rts;rw[List.getElem?_map,List.getElem?_range' h];simp
theorem stand (D:DD)(e j:Nat):Z6t D.id (e+1) (D.link e) (D.rts (e+1) j) (D.lks (e+1) j):=by
  refine⟨by unfold rts lks;simp,fun i x y hx hy=> ?_⟩
  have hi:i<j:=by
    have:=(List.getElem?_eq_some_iff.1 hx).1;unfold lks at this;simpa using this
  rw[Z70 hi] at hx;rw[Y98 hi] at hy;obtain rfl:=Option.some.inj hx;obtain rfl:=Option.some.inj hy;have e1:e+1+i=e+i+1:=by omega
  rw[e1];show lkn D.id ((e+i+1:Nat):Int) (rs (D.tree (e+i+1))) (D.link (e+i))=_
  congr 1
  cases i with
  |zero=>rfl
  |succ i=>
    show _=(D.lks (e+1) j).getD i 0;rw[List.getD_eq_getElem?_getD,Z70 (by omega)];show _=D.link (e+1+i)
    congr 1;omega
end DD
def mP (m:Md):Nat×Nat×List UInt8:=(m.ep,m.ver,m.x)
theorem Y99 {D:DD}{y:LD}{l:List UInt8}{v:Value}(w:World)(hD:DK D y w)(hL:LOk D y)(hK:DOk D)(hs:Sl w v l)(hl:1≤l.length∧l.length≤32):
    Calls Tryz.prog 18 #[.pointer (some ⟨y.p,0,none⟩),v] w fun e w' => ∃x:{x:Value×List En // x.2.map enP=(D.ofl l).map mP},e=.returned (.tuple #[x.1.1,.int .i64 (if D.ofl l=[] then 10 else 0)])∧SH [] w w' [.r 101 3 x.1.1 (x.1.2.map enC),obT (ebs x.1.2)]:=by
  have G:D.ofl l=[]→(Calls Tryz.prog 18 #[.pointer (some ⟨y.p,0,none⟩),v] w fun e w' =>X5 (.tuple #[.slice none 0 0,.int .i64 10]) w w' e)→Calls Tryz.prog 18 #[.pointer (some ⟨y.p,0,none⟩),v] w fun e w' => ∃x:{x:Value×List En // x.2.map enP=(D.ofl l).map mP},e=.returned (.tuple #[x.1.1,.int .i64 (if D.ofl l=[] then 10 else 0)])∧SH [] w w' [.r 101 3 x.1.1 (x.1.2.map enC),obT (ebs x.1.2)]:=by
    intro h0 hc;refine hc.mono fun e w' ⟨h1,h2⟩=>⟨⟨(.slice none 0 0,[]),by rw[h0];rfl⟩,by rw[h1,if_pos h0],?_⟩
    have hS:=(SH.nil [] w).next (J0b h2);have hS:=hS.obnil rfl;exact hS.rnil 101 3 rfl
  by_cases h1:l∈D.labs
  · obtain⟨a,ha,M⟩:=hL.accU h1
    subst M;have he:a.es.map enP=(D.ofl a.l).map mP:=hL.e a ha;have J:a.es.length=(D.ofl a.l).length:=by have:=congrArg List.length he;rw[List.length_map,List.length_map] at this;exact this
    rcases Nat.eq_zero_or_pos a.es.length with h0|h0
    · have hz:D.ofl a.l=[]:=List.eq_nil_of_length_eq_zero (by omega)
      exact G hz (Y39 w hD hL hK hs ha h0)
    have hz:D.ofl a.l≠[]:=fun h=>by rw[h] at J;rw[J] at h0;exact absurd h0 (Nat.lt_irrefl 0)
    refine(Y3a w hD hL hK hs ha h0).mono fun e w' ⟨x,q1,q2⟩=>⟨⟨x.1,x.2.trans he⟩,by rw[if_neg hz];exact q1,q2⟩
  have hz:D.ofl l=[]:=List.filter_eq_nil_iff.2 fun m hm hc=>by
    have N:m.l=l:=by simpa using hc
    exact h1 (DD.mem_labs.2 ⟨(m.l,m.x),List.mem_append.2 (.inl (DD.made_mem hm).2),N⟩)
  exact G hz (Y3b w hD hL hK hs h1 hl)
end

section
namespace DD
def prow (D:DD)(e:Nat):List J4u:=(D.puts++[D.waits])[e]?.getD []
def pre (D:DD)(e i:Nat):DD:={D with puts:=D.puts.take e,waits:=(D.prow e).take i}
theorem Y2z {D:DD}{e:Nat}(h:e<D.puts.length):D.puts[e]?=some (D.prow e):=by
  unfold prow;rw[List.getElem?_append_left h,List.getElem?_eq_getElem h];rfl
theorem rnd {D:DD}(hK:DOk D){k m i:Nat}{qs:List Pv}{y:Pv}(hm:m=max k 1)(hk:k<D.puts.length)(hq:qs.map pvP=(D.puts[k]?).getD [])(hy:qs[i]?=some y):(D.prow m)[i]?=some (y.l,y.x):=by
  have h1:((D.puts[k]?).getD [])[i]?=some (y.l,y.x):=by rw[←hq,List.getElem?_map,hy];rfl
  rcases Nat.eq_zero_or_pos k with h0|h0
  · rw[h0,hK.zero] at h1;cases h1
  have e:m=k:=by omega
  rw[e];rw[Y2z hk] at h1;exact h1
end DD
end

section
section
variable {ops : Array Oper} {Q : Exit → Act → World → Prop} {w : World} {r : List Oper} {o : Oper} {a a' : Act} {F : List Nat} {H H' : List As}
end
def Bent (qs q' :List Pv)(i:Nat):Prop:=q'.length=qs.length∧∀j,i≤j→q'[j]?=qs[j]?
theorem Bent.zero (qs:List Pv):Bent qs qs 0:=⟨rfl,fun _ _=>rfl⟩
theorem Bent.next {qs q' :List Pv}{i:Nat}(h:Bent qs q' i):Bent qs q' (i+1):=⟨h.1,fun j hj=>h.2 j (by omega)⟩
theorem Bent.set {qs q' :List Pv}{i:Nat}{y:Pv}(h:Bent qs q' i):Bent qs (q'.set i y) (i+1):=⟨by rw[List.length_set];exact h.1,fun j hj=>by rw[List.getElem?_set_ne (by omega)];exact h.2 j (by omega)⟩
theorem V42 {bs:List (Value×List UInt8)}{W:World}{k:Nat}{v:Value}{l:List UInt8}(h:obK bs W)(yh:bs[k]?=some (v,l)):Sl W v l:=(h.1 _ (List.mem_of_getElem? yh)).sl
end

section
set_option maxHeartbeats 3000000
set_option maxRecDepth 100000
attribute [local irreducible] wpList Y5 wpX
open S8 (Kn GA kP)
theorem RR.form2 {k:Nat}{w:World}{v:Value}{es:List (List Value)}(h:RR k w v es):∃A c,v=.slice A es.length c:=by
 obtain⟨A,c,e,_⟩:=h;exact⟨A,c,e⟩
theorem RR.addr {k n c j:Nat}{w:World}{A:Option Addr}{es:List (List Value)}{e:List Value}(h:RR k w (.slice A n c) es)(hj:es[j]?=some e):∃g o,A=some ⟨g,o,none⟩:=by
 obtain⟨A',c',e1,_,_,h3⟩:=h;obtain⟨g,o,h4,_⟩:=h3 j e hj;injection e1 with e1
 exact⟨g,o,e1.trans h4⟩
attribute [local irreducible] eI be8 hs4 lb J33 J25 K8 xt hm pbs DD.tree DD.link rs S8.kP S8.kN S8.kD ofT ebs lk0 sE sL sN opn bnd ahd bsd ixN pfN erN J18 DD.links DD.trees DD.play DD.putD DD.sealD fnd DD.lk DD.lkE J60

end
end Go.Proofs.YteehbddkcnkhfaaGreatDoor

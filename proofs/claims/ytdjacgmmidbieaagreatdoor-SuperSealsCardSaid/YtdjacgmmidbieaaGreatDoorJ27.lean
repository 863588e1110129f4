/- Contracts and plain laws for superSeals_holds. Conditions: the tables hold their numbers. -/
import Derived.Test.YtdjacgmmidbieaaGreatDoorJ26
open Go renaming World->AA,Value->AB,bodyPost_ret->BH,Calls->BI,TypeId->AE,IntKind->AI
open Go.Lib renaming hid->BK
open Go.IntKind renaming wrap_i64->AJ
open _root_.List renaming length_append->Ao,length_cons->AY,nil_append->BU,append_nil->Ar,append_assoc->At,length_nil->Av,getElem?_eq_getElem->Aj,getElem?_map->Bd,take_length->Be,length_drop->AZ,length_map->Bc,flatten_cons->Aw,take_append->Bi,length_take->BC
open _root_.Nat renaming zero_add->AP,le_of_ble_eq_true->Bh
open _root_.Array renaming getElem?_toList->Bg,length_toList->BG
open Go.RowKit
set_option maxRecDepth 100000
set_option linter.unusedSimpArgs false
set_option linter.unusedVariables false
namespace Go.Proofs.YtdjacgmmidbieaaGreatDoor
section
theorem V33:fsz []=0:=rfl
theorem V32 (v:AB)(l:List Fd):fsz (.c v::l)=1+fsz l:=rfl
theorem V31 (n X:Nat)(l:List Fd):fsz (.a n X::l)=n+fsz l:=rfl
theorem Q39 {k:Nat}:∀{es:List (List AB)} {m:Nat},(∀e∈es,e.length=k)→(es.take m).flatten=es.flatten.take (m*k)
  |[],m,_=>by simp
  |e::es,0,_=>by simp
  |e::es,m+1,h=>by
    have he:=h e (by simp);rw[List.take_succ_cons,Aw,Aw,Q39 (fun x hx=>h x (by simp[hx])),Bi,he,show(m+1)*k-k=m*k by rw[Nat.add_mul,Nat.one_mul];omega,List.take_of_length_le (l:=e) (by rw[he,Nat.add_mul,Nat.one_mul];omega)]
theorem Q58 {k:Nat}:∀{es:List (List AB)},(∀e∈es,e.length=k)→es.flatten.length=es.length*k
  |[],_=>by simp
  |e::es,h=>by rw[Aw,Ao,Q58 (fun x hx=>h x (by simp[hx])),h e (by simp),AY,Nat.add_mul,Nat.one_mul];omega
theorem Y2t {t:AE}{k:Nat}{w:AA}{A:Option Addr}{n c:Nat}{es:List (List AB)}(h:Row t k w (.slice A n c) es):n=es.length∧n≤c:=by
  rcases h.1.2 with⟨h1,hn⟩|⟨g,G,D,h1,_,_,hc,_⟩
  · injection h1 with _ h2 h3;omega
  injection h1 with _ h2 h3;omega
theorem Z54 {t:AE}{k m:Nat}{w:AA}{A:Option Addr}{n c:Nat}{es:List (List AB)}(h:Row t k w (.slice A n c) es)(hm:m≤es.length):Row t k w (.slice A m c) (es.take m):=by
  have hl:(es.take m).length=m:=by rw[BC];omega
  have he:∀e∈es.take m,e.length=k:=fun e h' =>h.2 e (List.mem_of_mem_take h');refine⟨⟨Q58 he,?_⟩,he⟩;rcases h.1.2 with⟨h1,hn⟩|⟨g,J,D,h1,hb,hh,hc,G,hs,ht⟩
  · injection h1 with h1 h2 h3
    subst h1 h3;obtain rfl:m=0:=by omega
    exact .inl ⟨rfl,hl⟩
  injection h1 with h1 h2 h3
  subst h1 h3;refine .inr ⟨g,c,D,by rw[hl],hb,hh,by rw[hl];omega,G,hs,?_⟩;rw[Q39 h.2,←ht,List.take_take,hl,Nat.min_eq_left (Nat.mul_le_mul_right k hm)]
theorem Q8l {P:Program}{a:Act}{o:Oper}{x y:Operand}{tS t:AE}{k m:Nat}{w:AA}{A:Option Addr}{n c:Nat}{es:List (List AB)}(h:Row t k w (.slice A n c) es)(hm:m≤es.length)(ho:o.op=.slice tS x none (some y) none)(hx:a.eval x=.slice A n c)(hy:a.eval y=.int .i64 (m:Int))(ht:P.underlying tS=some (.slice t))(hi:(P.info? t).map (·.size)=some k):
    (execOp a.eval o).run P w=.ok (.value (.slice A m c)) w:=by
  obtain⟨hn,G⟩:=Y2t h
  have hr:(Instr.sliceAt tS (.slice A n c) none (some (.int .i64 (m:Int))) none).run P w=.ok (.slice A m c) w:=by
    have D:m≤c:=by omega
    have hA:(if c=0 then A else A.map (·.add 0))=A:=by
      have:∀a:Addr,a.add 0=a:=fun a=>by unfold Addr.add;simp
      cases A<;>simp[this]
    cases hq:P.info? t with
    |none=>simp[hq] at hi
    |some i=>
      have h1:(Instr.sliceAt tS (.slice A n c) none (some (.int .i64 (m:Int))) none).run P w=.ok (.slice (if c=0 then A else A.map (·.add 0)) m c) w:=by
        simp[Instr.sliceAt,Instr.slice,Instr.sliceBounds,Instr.sliceBound,asIntOf,run_underlying ht,Sem.run_bind,sizeOf,typeInfo,hq,D]
      rw[hA] at h1;exact h1
  simp[execOp,ho,hx,hy,hr,Sem.run_bind]
theorem SH.rhead {F:List Nat}{w W:AA}{H:List As}{i k m n c:Nat}{t:AE}{A:Option Addr}{es:List (List AB)}(h:SH F w W H)(hi:H[i]?=some (.r t k (.slice A n c) es))(hm:m≤es.length):SH F w W (H.set i (.r t k (.slice A m c) (es.take m))):=
  h.set hi rfl (Off.refl [] W) (fun k hk=>by cases hk) (Z54 (h.row hi) hm) (fun b hb _=>by
    cases A with
    |none=>cases hb
    |some a=>exact hb) (.inr rfl) (fun _ _ e=>by cases e)
theorem Q59 {k:Nat}{es:List (List AB)}{j:Nat}{e f:List AB}(h:∀e∈es,e.length=k)(hj:es[j]?=some e)(hf:f.length=k):es.flatten.take (j*k)++(f++es.flatten.drop (j*k+k))=(es.set j f).flatten:=by
  induction es generalizing j with
  |nil=>simp at hj
  |cons g es ih=>
    have hg:=h g (by simp);cases j with
    |zero=>
      rw[Nat.zero_mul,List.take_zero,BU,AP,List.set_cons_zero,Aw,Aw,List.drop_left' hg]
    |succ j=>
      have e1:(j+1)*k=k+j*k:=by rw[Nat.add_mul,Nat.one_mul];omega
      rw[List.set_cons_succ,Aw,Aw,←ih (fun x hx=>h x (by simp[hx])) (by simpa using hj),e1,Bi,hg,List.take_of_length_le (by omega),show k+j*k-k=j*k by omega,List.drop_append,hg,List.drop_of_length_le (by omega),show k+j*k+k-k=j*k+k by omega,BU,At]
theorem Z2r {cur:Array AB}{j:Nat}{vs:List AB}(h:j+vs.length≤cur.size):(spl cur j vs).toList=cur.toList.take j++(vs++cur.toList.drop (j+vs.length)):=by
  have hz:cur.toList.length=cur.size:=BG;have hl:(cur.toList.take j).length=j:=by rw[BC];omega
  have e:cur=(cur.toList.take j++((cur.toList.drop j).take vs.length++cur.toList.drop (j+vs.length))).toArray:=by
    apply Array.toList_inj.1;show _=cur.toList.take j++((cur.toList.drop j).take vs.length++cur.toList.drop (j+vs.length))
    rw[←List.drop_drop,List.take_append_drop,List.take_append_drop]
  have h2:=Q6l vs ((cur.toList.drop j).take vs.length) (cur.toList.take j) (cur.toList.drop (j+vs.length)) (by rw[BC,AZ];omega);rw[hl,←e] at h2;rw[h2]
theorem Z55 {α:Type}{l m:List α}{a N:Nat}(ha:a+m.length≤N)(hN:N≤l.length):(l.take a++(m++l.drop (a+m.length))).take N=(l.take N).take a++(m++(l.take N).drop (a+m.length)):=by
  have e:l.take a=(l.take N).take a:=by rw[List.take_take,Nat.min_eq_left (by omega)]
  have e2:l.drop (a+m.length)=(l.take N).drop (a+m.length)++l.drop N:=by
    conv=>lhs;rw[←List.take_append_drop N l]
    rw[List.drop_append_of_le_length (by rw[BC];omega)]
  rw[e,e2,←At m,←At,List.take_left' (by rw[Ao,Ao,BC,AZ,BC];omega)]
section
variable {ops : Array Oper} {Q : Exit → Act → AA → Prop} {w : AA} {r : List Oper} {o : Oper} {a a' : Act} {F : List Nat} {H H' : List As}
theorem Z80 {ty t:AE}{x y:Operand}{g j k n c:Nat}{v:AB}{cs:Array AB}{es:List (List AB)}{e:List AB}(h1:cs.all (·.oneCell')=true)(hcs:cs.size=k)(hR:Row t k w v es)(hv:v=.slice (some ⟨g,0,none⟩) n c)(hj:es[j]?=some e)(hw:Region.wanted o (yielded ops a.tmps)=true)
    (ho:o.op=.store ty x y) (hx:a.eval x=.pointer (some ⟨g,j*k,none⟩)) (hy:a.eval y=.agg cs) (hi:(Tryz.prog.info? ty).map (·.size)=some k)
    (h:∀W,Row t k W v (es.set j cs.toList)→Off v.ownBlock.toList w W→wpList Tryz.prog ops Q r (a.put o.dst undef) W):wpList Tryz.prog ops Q (o::r) a w:=by
  have R:=(List.getElem?_eq_some_iff.1 hj).1;have D:cs.toList.length=k:=by rw[BG];exact hcs
  have M:j*k+k≤es.length*k:=by
    have:(j+1)*k≤es.length*k:=Nat.mul_le_mul_right k R;rw[Nat.add_mul,Nat.one_mul] at this;exact this
  rcases hR.1.2 with⟨h2,hn⟩|⟨g',N,G,h2,hb,hh,hc,hm,hs,ht⟩
  · omega
  have e1:=h2.symm.trans hv;injection e1 with e1
  injection e1 with e1
  injection e1 with e1
  subst e1;have S:es.length*k≤G.size:=by rw[hs];exact Nat.mul_le_mul_right k hc
  have hz:G.toList.length=G.size:=BG;have J:j*k+cs.toList.length≤G.size:=by rw[D];omega
  refine Q6a (v:=.agg cs) hw ho hx hy (show Blk w g' G t from hh) (by show _+cs.size≤_;omega) (by show _=some cs.size;rw[hcs];exact hi) h1 fun W hO (hB:Blk W g' (spl G (j*k) cs.toList) t)=>h W ⟨⟨?_,.inr ⟨g',N,spl G (j*k) cs.toList,by rw[h2,List.length_set],hb,hB,by rw[List.length_set];exact hc,hm,?_,?_⟩⟩,fun f hf=> ?_⟩ (by rw[h2];exact hO)
  · rw[←Q59 hR.2 hj D,List.length_set,Ao,Ao,BC,AZ,hR.1.1,D];omega
  · have h3:=congrArg List.length (Z2r J)
    rw[Ao,Ao,BC,AZ,D] at h3;rw[←hs,←BG,h3];omega
  · rw[List.length_set,Z2r J,Z55 (by rw[D];exact M) (by omega),ht,D,Q59 hR.2 hj D]
  rcases List.mem_or_eq_of_mem_set hf with hf|rfl
  · exact hR.2 f hf
  exact D
theorem MPE (i:Nat){ty t:TypeId}{x y:Operand}{g j k n c:Nat}{v:Value}{cs:Array Value}{es:List (List Value)}{e:List Value}(hj:es[j]?=some e)(hv:v=.slice (some ⟨g,0,none⟩) n c)(hcs:cs.size=k)(h1:cs.all (·.oneCell')=true)(h:wpM Tryz.prog ops (.L Q) F w H' r a')(hi:H[i]?=some (.r t k v es):=by exact rfl)(hw:Region.wanted o (yielded ops a.tmps)=true:=by exact rfl)
    (ho:o.op=.store ty x y:=by exact rfl) (hx:a.eval x=.pointer (some ⟨g,0+j*k,none⟩):=by exact rfl) (hy:a.eval y=.agg cs:=by exact rfl) (hz:(Tryz.prog.info? ty).map (·.size)=some k:=by kernel_rfl)
    (hH:H.set i (.r t k v (es.set j cs.toList))=H' :=by dsimp only[sB,sC];first|done|exact rfl) (hp:a.put o.dst undef=a' :=by first|exact pl (by dsimp only[mB,mC];first|done|exact rfl)|exact pn|exact rfl):wpM Tryz.prog ops (.L Q) F w H (o::r) a:=by
  subst hp hH;intro W hS;exact Z80 h1 hcs (hS.row hi) hv hj hw ho (hx.trans (by rw[AP])) hy hz fun W' h1 h2=>h W' (hS.setr hi h2 h1 (fun z hz _=>by rw[hz];simp))
end
end

section
set_option maxHeartbeats 3000000
attribute [local irreducible] wpList K1 wpX
open S8 (Kn GA kP sig vfy)
def pkC (c:List Nat):List AB:=fcs [.a 32 (mth c),.c (.int .i64 (c.length:Int))]
theorem Z03 {W:AA}{A:Option Addr}{n cp i g o:Nat}{cs:List (List Nat)}{d:List Nat}(h:RR 33 W (.slice A n cp) (cs.map pkC))(dh:cs[i]?=some d)(hA:A=some ⟨g,o,none⟩):∀(j:Nat) (v:AB),(K4 [.a 32 (mth d),.c (.int .i64 (d.length:Int))])[j]?=some v→W.cell? ⟨g,o+i*33+j,none⟩=some v:=fun j v hv=>
 RR.cellat h (by rw[Bd,dh];rfl) hA j v (by unfold pkC;rw[←J64,Bg];exact hv)
theorem Y1r (cs:List (List Nat))(c:List Nat):¬0<cs.length∨(∃d,cs[cs.length-1]?=some d∧0<cs.length∧d.length=c.length)∨(∃d,cs[cs.length-1]?=some d∧0<cs.length∧d.length≠c.length):=by
 rcases Nat.eq_zero_or_pos cs.length with h|h
 ·
  exact .inl (by omega)
 obtain⟨d,hd⟩:∃d,cs[cs.length-1]?=some d:=⟨_,Aj (by omega)⟩
 rcases Classical.em (d.length=c.length) with e|e
 ·
  exact .inr (.inl ⟨d,hd,h,e⟩)
 exact .inr (.inr ⟨d,hd,h,e⟩)
theorem Y5x {cs:List (List Nat)}{c:List Nat}(h:¬0<cs.length):∀d,cs[cs.length-1]?=some d→d.length≠c.length:=fun d hd=>absurd (List.getElem?_eq_some_iff.1 hd).1 (by omega)
theorem V21 {cs:List (List Nat)}{ls:List Nat}(h:¬0<cs.length)(hf:cs.flatten=ls.take ls.length):ls=[]:=by
 rw[Be,List.length_eq_zero_iff.1 (show cs.length=0 by omega)] at hf;exact hf.symm
theorem Y5y:Dec []:=⟨fun c hc=>(by cases hc),.nil⟩
theorem Q5z (cs:List (List Nat))(c:List Nat):(cs++[c]).flatten=cs.flatten++c:=by rw[List.flatten_append,Aw,List.flatten_nil,Ar]
theorem Z1z {l:List Nat}{i x:Nat}(h:l[i]?=some x):l.take (i+1)=l.take i++[x]:=by rw[List.take_add_one,h];rfl
theorem V22 {q:Prop}(w:AA)(hG:GT q w):BI Tryz.prog 54 #[.slice none 0 0] w fun e w' =>V4 (.agg (J0 .u8 32 (J6 (hs4 [])))) w w' e:=
 J5n rfl [] none 0 rfl (by simp) (by simp) w (fun i l h=>by simp at h) hG.1
theorem J1s {α β:Type}(f:α→β)(l:List α)(x:α):List.map f l++[f x]=List.map f (l++[x]):=by rw[List.map_append];rfl
attribute [local irreducible] eI be8 hs4 lb kTx vTx sTx eS rs ofT sE sL sN pkf S8.sig S8.vfy S8.kP S8.kN S8.kD

theorem J2t:zer Tryz.prog 195=some (some (K4 [.a 32 0,.c (.int .i64 0)])):=by kernel_rfl
theorem J2u:plc Tryz.prog 195=some [(0,32),(32,1)]:=by kernel_rfl
theorem Y1s {n:Nat}(h1:1≤n)(hn:n≤4611686018427387904)(w:AA):
  BI Tryz.prog 95 #[.int .i64 (n:Int)] w fun e w' =>V4 (.int .i64 (hfn n:Int)) w w' e:=by
 have hS:=SH.nil [] w
 go_enter Tryz.func95,Tryz.ntmps95
 go_wp2_with fail
 go_loopw [3] (fun kk wr=> ∃(f:Nat)(k:Nat),(0<k)∧(k≤n)∧(n≤k+f)∧(RowKit.Hid (hlf n f k=hfn n))∧(kk=.int .i64 (k:Int))∧SH [] w wr [])
  (fun kk _=>(n:Int).toNat-(intOf kk).toNat)
 case atStart=>exact⟨n,1,Nat.one_pos,h1,Nat.le_add_left n 1,BK rfl,rfl,hS⟩
 clear hS
 case round=>
  obtain⟨f,k,N,J,M,G,rfl,hS⟩:=hrel
  by_cases D:k<n-k
  ·
   go_upto_region 2 with fail;refine RL hS ?_;clear hS;(iterate 3 refine MV ?_);refine MW ?_ (v:=.int .i64 ((n:Int)-(k:Int))) (hv:=by intro W;go_simp;(try simp only[AI.wrap_i64]);omega);refine Wto ?_;refine MZ fun W hS=> ?_;go_upto_region 3 with fail;refine RL hS ?_;clear hS;refine MV ?_;refine MW ?_ (v:=.int .i64 ((k*2:Nat):Int)) (hv:=by intro W;go_simp;(try simp only[AI.wrap_i64]);omega);refine MV ?_;refine MZ fun W hS=> ?_;go_wp2;go_roundw
   case rel=>exact⟨(f-1),(k*2),by omega,by omega,by omega,BK (by rw[←G.out,←Z01 (show k<n-k by omega)];congr 1;omega),by go_num,hS⟩
   case measure=>simp[intOf];omega
  go_upto_region 2 with fail;refine RL hS ?_;clear hS;(iterate 3 refine MV ?_);refine MW ?_ (v:=.int .i64 ((n:Int)-(k:Int))) (hv:=by intro W;go_simp;(try simp only[AI.wrap_i64]);omega);refine Wfo ?_;refine MZ fun W hS=> ?_;go_wp2;exact BH (v:=.int .i64 (k:Int)) (by simp only[results,Tryz.results95];go_simp) rfl ⟨by rw[←G.out,Z02 _ (by omega)],hS.ext⟩
theorem Q0g {n:Nat}(h1:1≤n)(hn:n≤4611686018427387904)(w:AA):
  BI Tryz.prog 49 #[.int .i64 (n:Int)] w fun e w' =>V4 (.int .i64 (hfn n:Int)) w w' e:=by
 have hS:=SH.nil [] w
 go_enter Tryz.func49,Tryz.ntmps49
 go_wp2_with fail
 go_loopw [3] (fun kk wr=> ∃(f:Nat)(k:Nat),(0<k)∧(k≤n)∧(n≤k+f)∧(RowKit.Hid (hlf n f k=hfn n))∧(kk=.int .i64 (k:Int))∧SH [] w wr [])
  (fun kk _=>(n:Int).toNat-(intOf kk).toNat)
 case atStart=>exact⟨n,1,Nat.one_pos,h1,Nat.le_add_left n 1,BK rfl,rfl,hS⟩
 clear hS
 case round=>
  obtain⟨f,k,N,J,M,G,rfl,hS⟩:=hrel
  by_cases D:k<n-k
  ·
   go_upto_region 2 with fail;refine RL hS ?_;clear hS;(iterate 3 refine MV ?_);refine MW ?_ (v:=.int .i64 ((n:Int)-(k:Int))) (hv:=by intro W;go_simp;(try simp only[AI.wrap_i64]);omega);refine Wto ?_;refine MZ fun W hS=> ?_;go_upto_region 3 with fail;refine RL hS ?_;clear hS;refine MV ?_;refine MW ?_ (v:=.int .i64 ((k*2:Nat):Int)) (hv:=by intro W;go_simp;(try simp only[AI.wrap_i64]);omega);refine MV ?_;refine MZ fun W hS=> ?_;go_wp2;go_roundw
   case rel=>exact⟨(f-1),(k*2),by omega,by omega,by omega,BK (by rw[←G.out,←Z01 (show k<n-k by omega)];congr 1;omega),by go_num,hS⟩
   case measure=>simp[intOf];omega
  go_upto_region 2 with fail;refine RL hS ?_;clear hS;(iterate 3 refine MV ?_);refine MW ?_ (v:=.int .i64 ((n:Int)-(k:Int))) (hv:=by intro W;go_simp;(try simp only[AI.wrap_i64]);omega);refine Wfo ?_;refine MZ fun W hS=> ?_;go_wp2;exact BH (v:=.int .i64 (k:Int)) (by simp only[results,Tryz.results49];go_simp) rfl ⟨by rw[←G.out,Z02 _ (by omega)],hS.ext⟩
theorem Q0h {q:Prop}(a b:Nat)(w:AA)(hG:GT q w):
  BI Tryz.prog 133 #[.agg (J0 .u8 32 (J6 a)),.agg (J0 .u8 32 (J6 b))] w fun e w' =>V4 (.agg (J0 .u8 32 (J6 (nN a b)))) w w' e:=by
 have hS:=SH.nil [] w
 go_enter Tryz.func133,Tryz.ntmps133
 go_upto_region 0 with fail;refine RL hS ?_;clear hS;refine MN (z:=J0 .u8 32 (J6 a)) (t:=22) ?_;intro K9;refine MN (z:=J0 .u8 32 (J6 b)) (t:=22) ?_;intro D;refine MN (z:=J0 .u8 32 (J6 0)) (t:=22) ?_;intro N;refine MZ fun W hS=> ?_;go_upto_region 1 with fail;refine RTp [1,2] (.q 1 (.q 2 (.e 0 (.e 3 (.e 4 (.e 5 .z)))))) hS ?_;clear hS;refine TW ?_ (v:=.slice (some ⟨K9,0,none⟩) 32 32);refine TW ?_ (v:=.slice (some ⟨D,0,none⟩) 32 32);refine TE (fun _ h=>h.pick [1,2]) ?_;refine MO (m:=[1]) (n:=1) (z:= #[.int .u8 1]) ?_;intro J;refine TNp [0,2,3] [1,2] ?_;refine TE (fun _ h=>h.pick [0,2,3]) ?_;refine MB (z:= #[J,.slice (some ⟨K9,0,none⟩) 32 32,.slice (some ⟨D,0,none⟩) 32 32]) (t:=45) (n:=3) (c:=3) ?_ (hr:=fun W hS=>J0p [J,.slice (some ⟨K9,0,none⟩) 32 32,.slice (some ⟨D,0,none⟩) 32 32] rfl rfl (vsc (V9 (hS.osl (i:=0) rfl)).1 (vsc (V9 (V2 (V:=a) (n:=32) (off:=0) (c:=32) (hS.blk (i:=3) rfl) ap0 (by decide) (by decide))).1 (vsc (V9 (V2 (V:=b) (n:=32) (off:=0) (c:=32) (hS.blk (i:=2) rfl) ap0 (by decide) (by decide))).1 vs0))) Tryz.underlying158 (by kernel_rfl) (by kernel_rfl) rfl (by decide) (by decide));intro M;refine TNp [0,1,3,4] [1,2,3] ?_;refine TE (fun _ h=>h.pick [0,1,3,4]) ?_;obtain⟨U1,G⟩:=exh (hs4 ([1]++(lb 32 a)++(lb 32 b)));refine MC (v:=.agg (J0 .u8 32 (J6 U1))) (fun W hS=>J5n G.out [[1],lb 32 a,lb 32 b] (some ⟨M,0,none⟩) 3 (by simp only[Aw,List.flatten_nil,Ar,BU,At,List.cons_append]) (by first|omega|(simp only[lA,lM,lT,lD,lC,lN,J2,Y0,Z3,Q7];omega)) (by simp) W (J1w (hS.blk (i:=0) rfl) (pvc (hS.osl (i:=1) rfl) (pvc (V2 (V:=a) (n:=32) (off:=0) (c:=32) (hS.blk (i:=4) rfl) ap0 (by decide) (by decide)) (pvc (V2 (V:=b) (n:=32) (off:=0) (c:=32) (hS.blk (i:=3) rfl) ap0 (by decide) (by decide)) pv0)))) (J29 hG.1 hS.ext)) ?_;refine TNp [0,1,3,4] [0,1,2,3] ?_;refine TE (fun _ h=>h.pick [0,1,3,4]) ?_;refine MR 2 ?_;refine TNp [0,1,3,4] [0,1,2,3] ?_;refine TZ (fun _ h=>h.pick [0,1,3,4]) fun W hS=> ?_;have e_:=G.out;subst e_;go_wp2;exact BH (Z5 rfl rfl (hS.blk (i:=2) rfl) (by kernel_rfl) (by rw[J1];kernel_rfl)) rfl ⟨rfl,hS.ext⟩
theorem Y5z {q:Prop}(hr:q)(a b:Nat)(w:AA)(hG:GT q w):
  BI Tryz.prog 50 #[Z9 (lb 32 a),Z9 (lb 32 b)] w fun e w' =>V4 (Z9 (lb 32 (nN a b))) w w' e:=by
 have hS:=SH.nil [] w
 go_enter Tryz.func50,Tryz.ntmps50
 go_upto_region 1 with fail;refine RL hS ?_;clear hS;refine MV ?_;refine MW ?_ (v:=Z9 ([1]++(lb 32 a))) (hv:=fun _=>J1d (l:=[1]) (m:=(lb 32 a)) rfl rfl rfl (by first|omega|(simp only[lA,lM,lT,lD,lC,lN,J2,Y0,Z3,Q7];omega)));refine MV ?_;refine MW ?_ (v:=Z9 (([1]++(lb 32 a))++(lb 32 b))) (hv:=fun _=>J1d (l:=([1]++(lb 32 a))) (m:=(lb 32 b)) rfl rfl rfl (by first|omega|(simp only[lA,lM,lT,lD,lC,lN,J2,Y0,Z3,Q7];omega)));obtain⟨U1,D⟩:=exh (hs4 (([1]++(lb 32 a))++(lb 32 b)));refine MC (v:=Z9 (lb 32 U1)) (fun W hS=>J4g D.out (by first|omega|(simp only[lA,lM,lT,lD,lC,lN,J2,Y0,Z3,Q7];omega)) W (J5h (hG.2 hr) hS.ext)) ?_;refine MV ?_;refine MZ fun W hS=> ?_;go_wp2;exact BH (v:=Z9 (lb 32 U1)) (by simp only[results,Tryz.results50];go_simp) rfl ⟨(by(try rw[D.out]);first|done|rfl),hS.ext⟩
attribute [local irreducible] nN
theorem V23 (cs:List (List Nat)):¬0<cs.length∨∃d,cs[cs.length-1]?=some d∧0<cs.length:=by
 rcases Nat.eq_zero_or_pos cs.length with h|h
 ·
  exact .inl (by omega)
 exact .inr ⟨_,Aj (by omega),h⟩
theorem J8o {q:Prop}{ls:List Nat}{v:AB}(hn:ls.length≤1000000)(w:AA)(hG:GT q w)(hp:RR 32 w v (ls.map X4)):
  BI Tryz.prog 93 #[v] w fun e w' =>V4 (.agg (J0 .u8 32 (J6 (mth ls)))) w w' e:=by
 obtain⟨Ap,cp,rfl,Ξ,Δ⟩:=RR.opf hp;have hS:=SH.nil [] w
 go_enter Tryz.func93,Tryz.ntmps93
 go_upto_region 0 with fail;refine RL hS ?_;clear hS;refine MN (z:=J0 .u8 32 (J6 0)) (t:=22) ?_;intro K9;refine MZ fun W hS=> ?_;go_upto_region 2 with fail;refine RL hS ?_;clear hS;refine MV ?_;refine MV ?_;refine W0 ?_;refine MZ fun W hS=> ?_;have hS:=hS.rnil 195 33 rfl
 go_wp2_with fail
 go_loopw [3,12] (fun uv ii wr=> ∃(i:Nat)(cs:List (List Nat)) (A:Option Addr) (J:Nat),(i≤ls.length)∧(Dec cs)∧(RowKit.Hid (cs.flatten=ls.take i))∧(cs.length≤i)∧(uv=.slice A cs.length J)∧(ii=.int .i64 (i:Int))∧SH [] w wr [.r 195 33 (.slice A cs.length J) (List.map pkC cs),.b K9 (J0 .u8 32 (J6 0)) 22])
  (fun uv ii _=>ls.length-(intOf ii).toNat)
 case atStart=>exact⟨0,[],none,0,Nat.zero_le _,Y5y,BK rfl,Nat.le_refl _,rfl,rfl,hS⟩
 clear hS
 case round=>
  obtain⟨i,cs,A,J,hi,ζ,δ,θ,rfl,rfl,hS⟩:=hrel
  by_cases Z:i<ls.length
  ·
   obtain⟨x,xh⟩:∃x,ls[i]?=some x:=⟨_,Aj Z⟩
   obtain⟨gp,op,η,ω⟩:=Δ.out i x xh;have τ:=BK η;clear η;go_upto_region 3 with fail;refine RL hS ?_;clear hS;refine Wto ?_;refine MZ fun W hS=> ?_;go_upto_region 4 with fail;refine RL hS ?_;clear hS;refine MW ?_ (v:=.pointer (some ⟨gp,op+i*32,none⟩)) (hv:=fun _=>Y7 τ.out Z rfl rfl rfl Tryz.underlying37 (by kernel_rfl));refine MF (v:=.agg (J0 .u8 32 (J6 x))) (fun W hS=>V8 rfl rfl (fun i_ v hv=>U0 (ω i_ v (by simpa using hv)) hS.ext) (by kernel_rfl) (by rw[J1];kernel_rfl)) ?_;refine MN (z:=J0 .u8 32 (J6 0)) (t:=22) ?_;intro Ψ;refine MR 0 ?_ (hz:=by rw[J1];kernel_rfl) (hs:=by first|rw[J1,J1]|rw[J1]);refine MZ fun W hS=> ?_;go_upto_region 5 with fail;refine RL hS ?_;clear hS;refine ML 0 ?_;refine MF (v:=.agg (K4 [.a 32 x,.c (.int .i64 1)])) (fun W hS=>J7m [(0,[.a 32 x]),(1,[.c (.int .i64 1)])] rfl rfl J2t J2u (.c ((J9v _ _).symm) (.c rfl .n))) ?_;refine MN (z:=K4 [.a 32 0,.c (.int .i64 0)]) (t:=195) ?_;intro ψ;refine MRa 0 ?_ (h1:=by exact(K2 ⟨rfl,trivial⟩));refine MZ fun W hS=> ?_;have ξ:cs.flatten++[x]=ls.take (i+1):=by rw[δ.out,Z1z xh]
   have χ:=Z4i x
   go_wp2_with fail
   go_loopw [3] (fun uv wr=> ∃(cs:List (List Nat)) (c:List Nat) (A:Option Addr) (J:Nat),(Fit cs c)∧(RowKit.Hid (cs.flatten++c=ls.take (i+1)))∧(cs.length≤i)∧(uv=.slice A cs.length J)∧SH [] w wr [.r 195 33 (.slice A cs.length J) (List.map pkC cs),.b ψ (K4 [.a 32 (mth c),.c (.int .i64 ((c).length:Int))]) 195,.b K9 (J0 .u8 32 (J6 0)) 22])
    (fun uv _=>J70 uv)
   case atStart=>exact⟨cs,[x],A,J,Y5w ζ x,BK ξ,θ,rfl,(by rw[χ];exact(hS.pick [2,0,3]))⟩
   clear hS
   case round=>
    obtain⟨cs,c,A,J,R,X,θ,rfl,hS⟩:=hrel;have D1:c.length≤ls.length:=by have h_:=congrArg List.length X.out;rw[Ao,BC] at h_;omega
    rcases Y1r cs c with γ|⟨d,Y,N,V⟩|⟨d,Y,N,V⟩
    ·
     have α:=BK (Y5x (c:=c) γ);go_upto_region 6 with fail;refine RTh (.q 0 (.q 1 (.q 2 (.q 3 (.q 4 (.q 5 (.q 6 (.q 7 (.q 8 (.q 9 (.q 10 (.q 11 (.q 12 (.q 13 (.q 14 .z))))))))))))))) hS ?_;clear hS;refine TV ?_;refine TF (v:=.int .i64 ((List.map pkC cs).length:Int)) rfl (fun W hS=>J0x (hS.row (i:=0) rfl) rfl rfl Tryz.underlying193) ?_;refine TW ?_ (v:=.bool false) (hv:=by intro W;go_simp;first|done|omega|exact List.length_eq_zero_iff.1 (by omega)|exact fun h_=>(by rw[h_] at N;exact absurd N (by decide)));refine Tf ?_;(iterate 10 refine TS ?_);refine Tf ?_;refine TZ (fun _ h=>h) fun W hS=> ?_;go_upto_region 10 with fail;refine RL hS ?_;clear hS;refine MV ?_;refine ML 1 ?_ (hs:=by rw[J7];kernel_rfl);refine MB (z:=(K4 [.a 32 (mth c),.c (.int .i64 ((c).length:Int))])) (t:=195) (n:=1) (c:=1) ?_ (hr:=fun W _=>J0d rfl rfl rfl Tryz.underlying193 (by rw[J7];kernel_rfl) (by rw[J7];kernel_rfl) (by rw[J7];exact Bh (by kernel_rfl)) (by rw[J7];exact Bh (by kernel_rfl)));intro D4;refine MAr 1 0 (tS:=193) (bytes:=40) (es:=(List.map pkC cs)) (by first|omega|(simp only[lA,lM,lT,lD,lC,lN,J2,Y0,Z3,Q7];omega)) (e:=pkC c) (hk:=by rw[J7];kernel_rfl) (h1:=by exact(K2 ⟨rfl,trivial⟩)) (cs:=(K4 [.a 32 (mth c),.c (.int .i64 ((c).length:Int))])) ?_;intro D0;refine MV ?_;refine MZ fun W hS=> ?_;obtain⟨Γ,φ,μ⟩:=Row.form (ls:=cs++[c]) (f:=pkC) (by have h_:=hS.row (i:=1) rfl;rw[J1s] at h_;exact h_);go_wp2;go_roundw
     case rel=>exact⟨i+1,cs++[c],Γ,φ,by omega,Z4o R α.out,BK (by rw[Q5z];exact X.out),by rw[Ao];simp only[AY,Av];omega,μ,by go_num,(by have h_:=(hS.pick [1,3]);rw[J1s,μ] at h_;exact h_)⟩
     case measure=>simp[intOf];omega
    ·
     have D:=BK V;clear V;have hd:=Y;obtain⟨Aq,cq,U,_,S⟩:=RR.opf (hS.row (i:=0) rfl).rr;obtain⟨gk,ok,G,_⟩:=S.out (cs.length-1) d hd;injection U with eA e2_ e3_
     clear e2_ e3_;rw[←eA] at G;have M:=BK G;clear G S eA;go_upto_region 6 with fail;refine RTh (.q 0 (.q 1 (.q 2 (.q 3 (.q 4 (.q 5 (.q 6 (.q 7 (.q 8 (.q 9 (.q 10 (.q 11 (.q 12 (.q 13 (.q 14 .z))))))))))))))) hS ?_;clear hS;refine TV ?_;refine TF (v:=.int .i64 ((List.map pkC cs).length:Int)) rfl (fun W hS=>J0x (hS.row (i:=0) rfl) rfl rfl Tryz.underlying193) ?_;refine TW ?_ (v:=.bool true) (hv:=by intro W;go_simp;first|done|omega|exact List.length_eq_zero_iff.1 (by omega)|exact fun h_=>(by rw[h_] at N;exact absurd N (by decide)));refine Tt ?_;refine TV ?_;refine TV ?_;refine TF (v:=.int .i64 ((List.map pkC cs).length:Int)) rfl (fun W hS=>J0x (hS.row (i:=0) rfl) rfl rfl Tryz.underlying193) ?_;refine TW ?_ (v:=.int .i64 ((cs.length-1:Nat):Int)) (hv:=by intro W;go_simp;(try simp only[AI.wrap_i64]);omega);refine TW ?_ (v:=.pointer (some ⟨gk,ok+(cs.length-1)*33,none⟩)) (hv:=fun _=>Y7 M.out (show cs.length-1<cs.length by omega) rfl rfl rfl Tryz.underlying193 (by kernel_rfl));refine TW ?_ (v:=.pointer (some ⟨gk,ok+(cs.length-1)*33+32,none⟩));refine TF (v:=.int .i64 ((d).length:Int)) rfl (fun W hS=>V6 rfl rfl ((Z03 (hS.row (i:=0) rfl).rr hd M.out) 32 (.int .i64 ((d).length:Int)) (show(K4 [.a 32 (mth d),.c (.int .i64 ((d).length:Int))])[32]?=some (.int .i64 ((d).length:Int)) from(V1 (off:=32) 1))) (by kernel_rfl)) ?_;refine TV ?_;refine TG 1 ?_ (v:=.int .i64 ((c).length:Int)) (hj:=(V1 (off:=32) 1));refine TW ?_ (v:=.bool true) (hv:=by intro W;go_simp;have h_:=D.out;omega);refine Tt ?_;refine TZ (fun _ h=>h) fun W hS=> ?_;go_upto_region 7 with fail;refine RL hS ?_;clear hS;refine MV ?_;refine MV ?_;refine MF (v:=.int .i64 ((List.map pkC cs).length:Int)) (fun W hS=>J0x (hS.row (i:=0) rfl) rfl rfl Tryz.underlying193) ?_;refine MW ?_ (v:=.int .i64 ((cs.length-1:Nat):Int)) (hv:=by intro W;go_simp;(try simp only[AI.wrap_i64]);omega);refine MW ?_ (v:=.pointer (some ⟨gk,ok+(cs.length-1)*33,none⟩)) (hv:=fun _=>Y7 M.out (show cs.length-1<cs.length by omega) rfl rfl rfl Tryz.underlying193 (by kernel_rfl));refine MF (v:=.agg (K4 [.a 32 (mth d),.c (.int .i64 ((d).length:Int))])) (fun W hS=>V8 rfl rfl (fun i_ v hv=>(Z03 (hS.row (i:=0) rfl).rr hd M.out) i_ v (by simpa using hv)) (by kernel_rfl) (by rw[J7];kernel_rfl)) ?_;refine MN (z:=K4 [.a 32 0,.c (.int .i64 0)]) (t:=195) ?_;intro Ω;refine MRa 0 ?_ (h1:=by exact(K2 ⟨rfl,trivial⟩));refine MZ fun W hS=> ?_;go_upto_region 8 with fail;refine RL hS ?_;clear hS;refine MV ?_;refine MV ?_;refine MF (v:=.int .i64 ((List.map pkC cs).length:Int)) (fun W hS=>J0x (hS.row (i:=1) rfl) rfl rfl Tryz.underlying193) ?_;refine MW ?_ (v:=.int .i64 ((cs.length-1:Nat):Int)) (hv:=by intro W;go_simp;(try simp only[AI.wrap_i64]);omega);refine MF (v:=(.slice A (cs.length-1) J)) (fun W hS=>Q8l (m:=cs.length-1) (hS.row (i:=1) rfl) (by rw[Bc];omega) rfl rfl rfl Tryz.underlying193 (by kernel_rfl)) ?_;refine MT (fun W hS=>hS.rhead (i:=1) (m:=cs.length-1) rfl (by rw[Bc];omega)) ?_;refine MV ?_;refine MZ fun W hS=> ?_;go_upto_region 9 with fail;refine RTp [0,1,3] (.q 0 (.q 1 (.q 2 (.q 5 (.b 3 (.b 4 (.e 6 (.q 7 (.q 8 (.e 9 .z)))) 6 (.q 7 (.e 4 (.q 8 (.e 9 .z))))) 6 (.q 7 (.e 3 (.e 4 (.q 8 (.e 9 .z)))))))))) hS ?_;clear hS;refine TV ?_;refine Tk 0 ?_ (sub:=J0 .u8 32 (J6 (mth d))) (hs:=(J11 (off:=0) 0));refine TV ?_;refine TV ?_;refine TB (fun _ h=>h.pick [0,1,3]) ?_ ?_
     ·
      refine Mk 2 ?_ (sub:=J0 .u8 32 (J6 (mth c))) (hs:=(J11 (off:=0) 0));refine TNp [0,1,3] [0,1,2] ?_;refine TB (fun _ h=>h.pick [0,1,3]) ?_ ?_
      ·
       obtain⟨U1,T⟩:=exh (nN (mth d) (mth c));refine MC (v:=.agg (J0 .u8 32 (J6 U1))) (fun W hS=>(by rw[T.out];exact Q0h (mth d) (mth c) W (Y5 hG hS.ext))) ?_;refine TNp [0,1,3] [0,1,2] ?_;refine TE (fun _ h=>h.pick [0,1,3]) ?_;refine MG 2 ?_ (v:=.int .i64 ((c).length:Int)) (hj:=(V1 (off:=32) 1));refine TNp [0,1,3] [0,1,2] ?_;refine TW ?_ (v:=.int .i64 (((d++c).length:Nat):Int)) (hv:=by intro W;rw[Ao];have h_:=D.out;go_simp;(try simp only[AI.wrap_i64]);omega);refine TF (v:=.agg (K4 [.a 32 U1,.c (.int .i64 (((d++c).length:Nat):Int))])) rfl (fun W hS=>J7m [(0,[.a 32 U1]),(1,[.c (.int .i64 (((d++c).length:Nat):Int))])] rfl rfl J2t J2u (.c ((J9v _ _).symm) (.c rfl .n))) ?_;refine TE (fun _ h=>h.pick [0,1,3]) ?_;refine MRa 2 ?_ (h1:=by exact(K2 ⟨rfl,trivial⟩));refine TNp [0,1,3] [0,1,2] ?_;refine TZ (fun _ h=>h.pick [0,1,3]) fun W hS=> ?_;go_wp2;go_roundw
       case rel=>exact⟨cs.take (cs.length-1),d++c,A,J,(J3h R hd D.out).1,BK ((J3h R hd D.out).2.2.trans X.out),by rw[BC];omega,by rw[BC,Nat.min_eq_left (by omega)],(by have h_:=(hS.pick [1,2,3]);rw[T.out,←List.map_take,←(J3h R hd D.out).2.1] at h_;rw[BC,Nat.min_eq_left (by omega)];exact h_)⟩
       case measure=>show(cs.length-1:Nat)<cs.length;omega
      refine MG 2 ?_ (v:=.int .i64 ((c).length:Int)) (hj:=(V1 (off:=32) 1));refine TNp [0,1,3] [0,1,2] ?_;refine TW ?_ (v:=.int .i64 (((d++c).length:Nat):Int)) (hv:=by intro W;rw[Ao];have h_:=D.out;go_simp;(try simp only[AI.wrap_i64]);omega);refine TE (fun _ h=>h.pick [0,1,3]) ?_;obtain⟨U1,T⟩:=exh (nN (mth d) (mth c));refine MC (v:=.agg (J0 .u8 32 (J6 U1))) (fun W hS=>(by rw[T.out];exact Q0h (mth d) (mth c) W (Y5 hG hS.ext))) ?_;refine TNp [0,1,3] [0,1,2] ?_;refine TF (v:=.agg (K4 [.a 32 U1,.c (.int .i64 (((d++c).length:Nat):Int))])) rfl (fun W hS=>J7m [(0,[.a 32 U1]),(1,[.c (.int .i64 (((d++c).length:Nat):Int))])] rfl rfl J2t J2u (.c ((J9v _ _).symm) (.c rfl .n))) ?_;refine TE (fun _ h=>h.pick [0,1,3]) ?_;refine MRa 2 ?_ (h1:=by exact(K2 ⟨rfl,trivial⟩));refine TNp [0,1,3] [0,1,2] ?_;refine TZ (fun _ h=>h.pick [0,1,3]) fun W hS=> ?_;go_wp2;go_roundw
      case rel=>exact⟨cs.take (cs.length-1),d++c,A,J,(J3h R hd D.out).1,BK ((J3h R hd D.out).2.2.trans X.out),by rw[BC];omega,by rw[BC,Nat.min_eq_left (by omega)],(by have h_:=(hS.pick [1,2,3]);rw[T.out,←List.map_take,←(J3h R hd D.out).2.1] at h_;rw[BC,Nat.min_eq_left (by omega)];exact h_)⟩
      case measure=>show(cs.length-1:Nat)<cs.length;omega
     refine MG 2 ?_ (v:=.int .i64 ((c).length:Int)) (hj:=(V1 (off:=32) 1));refine TNp [0,1,3] [0,1,2] ?_;refine TW ?_ (v:=.int .i64 (((d++c).length:Nat):Int)) (hv:=by intro W;rw[Ao];have h_:=D.out;go_simp;(try simp only[AI.wrap_i64]);omega);refine TE (fun _ h=>h.pick [0,1,3]) ?_;refine Mk 2 ?_ (sub:=J0 .u8 32 (J6 (mth c))) (hs:=(J11 (off:=0) 0));refine TNp [0,1,3] [0,1,2] ?_;refine TE (fun _ h=>h.pick [0,1,3]) ?_;obtain⟨U1,T⟩:=exh (nN (mth d) (mth c));refine MC (v:=.agg (J0 .u8 32 (J6 U1))) (fun W hS=>(by rw[T.out];exact Q0h (mth d) (mth c) W (Y5 hG hS.ext))) ?_;refine TNp [0,1,3] [0,1,2] ?_;refine TF (v:=.agg (K4 [.a 32 U1,.c (.int .i64 (((d++c).length:Nat):Int))])) rfl (fun W hS=>J7m [(0,[.a 32 U1]),(1,[.c (.int .i64 (((d++c).length:Nat):Int))])] rfl rfl J2t J2u (.c ((J9v _ _).symm) (.c rfl .n))) ?_;refine TE (fun _ h=>h.pick [0,1,3]) ?_;refine MRa 2 ?_ (h1:=by exact(K2 ⟨rfl,trivial⟩));refine TNp [0,1,3] [0,1,2] ?_;refine TZ (fun _ h=>h.pick [0,1,3]) fun W hS=> ?_;go_wp2;go_roundw
     case rel=>exact⟨cs.take (cs.length-1),d++c,A,J,(J3h R hd D.out).1,BK ((J3h R hd D.out).2.2.trans X.out),by rw[BC];omega,by rw[BC,Nat.min_eq_left (by omega)],(by have h_:=(hS.pick [1,2,3]);rw[T.out,←List.map_take,←(J3h R hd D.out).2.1] at h_;rw[BC,Nat.min_eq_left (by omega)];exact h_)⟩
     case measure=>show(cs.length-1:Nat)<cs.length;omega
    have D:=BK V;clear V;have hd:=Y;have α:=BK (show ∀d,cs[cs.length-1]?=some d→d.length≠c.length from fun d9 h=>by obtain rfl:=Option.some.inj (hd.symm.trans h);exact D.out);obtain⟨Aq,cq,U,_,S⟩:=RR.opf (hS.row (i:=0) rfl).rr;obtain⟨gk,ok,G,_⟩:=S.out (cs.length-1) d hd;injection U with eA e2_ e3_
    clear e2_ e3_;rw[←eA] at G;have M:=BK G;clear G S eA;go_upto_region 6 with fail;refine RTh (.q 0 (.q 1 (.q 2 (.q 3 (.q 4 (.q 5 (.q 6 (.q 7 (.q 8 (.q 9 (.q 10 (.q 11 (.q 12 (.q 13 (.q 14 .z))))))))))))))) hS ?_;clear hS;refine TV ?_;refine TF (v:=.int .i64 ((List.map pkC cs).length:Int)) rfl (fun W hS=>J0x (hS.row (i:=0) rfl) rfl rfl Tryz.underlying193) ?_;refine TW ?_ (v:=.bool true) (hv:=by intro W;go_simp;first|done|omega|exact List.length_eq_zero_iff.1 (by omega)|exact fun h_=>(by rw[h_] at N;exact absurd N (by decide)));refine Tt ?_;refine TV ?_;refine TV ?_;refine TF (v:=.int .i64 ((List.map pkC cs).length:Int)) rfl (fun W hS=>J0x (hS.row (i:=0) rfl) rfl rfl Tryz.underlying193) ?_;refine TW ?_ (v:=.int .i64 ((cs.length-1:Nat):Int)) (hv:=by intro W;go_simp;(try simp only[AI.wrap_i64]);omega);refine TW ?_ (v:=.pointer (some ⟨gk,ok+(cs.length-1)*33,none⟩)) (hv:=fun _=>Y7 M.out (show cs.length-1<cs.length by omega) rfl rfl rfl Tryz.underlying193 (by kernel_rfl));refine TW ?_ (v:=.pointer (some ⟨gk,ok+(cs.length-1)*33+32,none⟩));refine TF (v:=.int .i64 ((d).length:Int)) rfl (fun W hS=>V6 rfl rfl ((Z03 (hS.row (i:=0) rfl).rr hd M.out) 32 (.int .i64 ((d).length:Int)) (show(K4 [.a 32 (mth d),.c (.int .i64 ((d).length:Int))])[32]?=some (.int .i64 ((d).length:Int)) from(V1 (off:=32) 1))) (by kernel_rfl)) ?_;refine TV ?_;refine TG 1 ?_ (v:=.int .i64 ((c).length:Int)) (hj:=(V1 (off:=32) 1));refine TW ?_ (v:=.bool false) (hv:=by intro W;go_simp;have h_:=D.out;omega);refine Tf ?_;refine TZ (fun _ h=>h) fun W hS=> ?_;go_upto_region 10 with fail;refine RL hS ?_;clear hS;refine MV ?_;refine ML 1 ?_ (hs:=by rw[J7];kernel_rfl);refine MB (z:=(K4 [.a 32 (mth c),.c (.int .i64 ((c).length:Int))])) (t:=195) (n:=1) (c:=1) ?_ (hr:=fun W _=>J0d rfl rfl rfl Tryz.underlying193 (by rw[J7];kernel_rfl) (by rw[J7];kernel_rfl) (by rw[J7];exact Bh (by kernel_rfl)) (by rw[J7];exact Bh (by kernel_rfl)));intro D3;refine MAr 1 0 (tS:=193) (bytes:=40) (es:=(List.map pkC cs)) (by first|omega|(simp only[lA,lM,lT,lD,lC,lN,J2,Y0,Z3,Q7];omega)) (e:=pkC c) (hk:=by rw[J7];kernel_rfl) (h1:=by exact(K2 ⟨rfl,trivial⟩)) (cs:=(K4 [.a 32 (mth c),.c (.int .i64 ((c).length:Int))])) ?_;intro D5;refine MV ?_;refine MZ fun W hS=> ?_;obtain⟨σ,ρ,ε⟩:=Row.form (ls:=cs++[c]) (f:=pkC) (by have h_:=hS.row (i:=1) rfl;rw[J1s] at h_;exact h_);go_wp2;go_roundw
    case rel=>exact⟨i+1,cs++[c],σ,ρ,by omega,Z4o R α.out,BK (by rw[Q5z];exact X.out),by rw[Ao];simp only[AY,Av];omega,ε,by go_num,(by have h_:=(hS.pick [1,3]);rw[J1s,ε] at h_;exact h_)⟩
    case measure=>simp[intOf];omega
  obtain rfl:i=ls.length:=by omega
  go_upto_region 3 with fail;refine RL hS ?_;clear hS;refine Wfo ?_;refine MZ fun W hS=> ?_;rcases V23 cs with γ|⟨d,Y,N⟩
  ·
   go_upto_region 12 with fail;refine RL hS ?_;clear hS;refine MV ?_;refine MF (v:=.int .i64 ((List.map pkC cs).length:Int)) (fun W hS=>J0x (hS.row (i:=0) rfl) rfl rfl Tryz.underlying193) ?_;refine MW ?_ (v:=.bool true) (hv:=by intro W;go_simp;first|done|omega|exact List.length_eq_zero_iff.1 (by omega)|exact fun h_=>(by rw[h_] at N;exact absurd N (by decide)));refine MZ fun W hS=> ?_;go_upto_region 13 with fail;refine RL hS ?_;clear hS;refine MC (v:=.agg (J0 .u8 32 (J6 (hs4 [])))) (fun W hS=>V22 W (Y5 hG hS.ext)) ?_;refine MR 1 ?_ (hz:=by rw[J1];kernel_rfl) (hs:=by first|rw[J1,J1]|rw[J1]);refine MZ fun W hS=> ?_;go_wp2;exact BH (Z5 rfl rfl (hS.blk (i:=1) rfl) (by kernel_rfl) (by rw[J1];kernel_rfl)) rfl ⟨by rw[←Q7w,V21 γ δ.out],hS.ext⟩
  have hd:=Y;obtain⟨Aq,cq,U,_,S⟩:=RR.opf (hS.row (i:=0) rfl).rr;obtain⟨gk,ok,G,_⟩:=S.out (cs.length-1) d hd;injection U with eA e2_ e3_
  clear e2_ e3_;rw[←eA] at G;have M:=BK G;clear G S eA;go_upto_region 12 with fail;refine RL hS ?_;clear hS;refine MV ?_;refine MF (v:=.int .i64 ((List.map pkC cs).length:Int)) (fun W hS=>J0x (hS.row (i:=0) rfl) rfl rfl Tryz.underlying193) ?_;refine MW ?_ (v:=.bool false) (hv:=by intro W;go_simp;first|done|omega|exact List.length_eq_zero_iff.1 (by omega)|exact fun h_=>(by rw[h_] at N;exact absurd N (by decide)));refine MZ fun W hS=> ?_;go_upto_region 14 with fail;refine RL hS ?_;clear hS;refine MV ?_;refine MV ?_;refine MF (v:=.int .i64 ((List.map pkC cs).length:Int)) (fun W hS=>J0x (hS.row (i:=0) rfl) rfl rfl Tryz.underlying193) ?_;refine MW ?_ (v:=.int .i64 ((cs.length-1:Nat):Int)) (hv:=by intro W;go_simp;(try simp only[AI.wrap_i64]);omega);refine MW ?_ (v:=.pointer (some ⟨gk,ok+(cs.length-1)*33,none⟩)) (hv:=fun _=>Y7 M.out (show cs.length-1<cs.length by omega) rfl rfl rfl Tryz.underlying193 (by kernel_rfl));refine MW ?_ (v:=.pointer (some ⟨gk,ok+(cs.length-1)*33,none⟩));refine MF (v:=.agg (J0 .u8 32 (J6 (mth d)))) (fun W hS=>V8 rfl rfl (fun i_ v hv=>(Z03 (hS.row (i:=0) rfl).rr hd M.out) i_ v (by have h_:=(show ∀(j_:Nat)(v_:AB),(J0 .u8 32 (J6 (mth d)))[j_]?=some v_→(K4 [.a 32 (mth d),.c (.int .i64 ((d).length:Int))])[0+j_]?=some v_ from(J11 (off:=0) 0)) i_ v hv;rw[AP] at h_;first|exact h_|(rw[Bg];exact h_))) (by kernel_rfl) (by rw[J1];kernel_rfl)) ?_;refine MN (z:=J0 .u8 32 (J6 0)) (t:=22) ?_;intro Θ;refine MR 0 ?_ (hz:=by rw[J1];kernel_rfl) (hs:=by first|rw[J1,J1]|rw[J1]);refine MZ fun W hS=> ?_;go_upto_region 15 with fail;refine RL hS ?_;clear hS;refine MV ?_;refine MF (v:=.int .i64 ((List.map pkC cs).length:Int)) (fun W hS=>J0x (hS.row (i:=1) rfl) rfl rfl Tryz.underlying193) ?_;refine MW ?_ (v:=.int .i64 ((cs.length:Int)-2)) (hv:=by intro W;go_simp;(try simp only[AI.wrap_i64]);omega);refine MV ?_;refine MZ fun W hS=> ?_
  go_wp2_with fail
  go_loopw [9] (fun kk wr=> ∃(k:Nat),(k<cs.length)∧(kk=.int .i64 ((k:Int)-1))∧SH [] w wr [.r 195 33 (.slice A cs.length J) (List.map pkC cs),.b Θ (J0 .u8 32 (J6 (pkf (List.drop k cs)))) 22,.b K9 (J0 .u8 32 (J6 0)) 22])
   (fun kk _=>(intOf kk+1).toNat)
  case atStart=>exact⟨(cs.length-1),by omega,by rw[show((cs.length-1:Nat):Int)-1=(cs.length:Int)-2 by omega],(by rw[Y1p hd];exact(hS.pick [1,0,2]))⟩
  clear hS
  case round=>
   obtain⟨k,hk,rfl,hS⟩:=hrel
   by_cases ν:0<k
   ·
    obtain⟨d9,β⟩:∃d,cs[k-1]?=some d:=⟨_,Aj (by omega)⟩
    obtain⟨Aq,cq,U,_,S⟩:=RR.opf (hS.row (i:=0) rfl).rr;obtain⟨gk,ok,G,_⟩:=S.out (k-1) d9 β;injection U with eA e2_ e3_
    clear e2_ e3_;rw[←eA] at G;have M:=BK G;clear G S eA;go_upto_region 16 with fail;refine RL hS ?_;clear hS;refine MV ?_;refine Wto ?_;refine MZ fun W hS=> ?_;go_upto_region 18 with fail;refine RTp [0,2] (.q 0 (.q 1 (.q 2 (.q 3 (.q 4 (.e 5 (.e 6 (.e 7 .z)))))))) hS ?_;clear hS;refine TV ?_;refine TW ?_ (v:=.int .i64 ((k-1:Nat):Int)) (hv:=by intro W;go_simp;omega);refine TW ?_ (v:=.pointer (some ⟨gk,ok+(k-1)*33,none⟩)) (hv:=fun _=>Y7 M.out (show k-1<cs.length by omega) rfl rfl rfl Tryz.underlying193 (by kernel_rfl));refine TW ?_ (v:=.pointer (some ⟨gk,ok+(k-1)*33,none⟩));refine TF (v:=.agg (J0 .u8 32 (J6 (mth d9)))) rfl (fun W hS=>V8 rfl rfl (fun i_ v hv=>(Z03 (hS.row (i:=0) rfl).rr β M.out) i_ v (by have h_:=(show ∀(j_:Nat)(v_:AB),(J0 .u8 32 (J6 (mth d9)))[j_]?=some v_→(K4 [.a 32 (mth d9),.c (.int .i64 ((d9).length:Int))])[0+j_]?=some v_ from(J11 (off:=0) 0)) i_ v hv;rw[AP] at h_;first|exact h_|(rw[Bg];exact h_))) (by kernel_rfl) (by rw[J1];kernel_rfl)) ?_;refine TE (fun _ h=>h.pick [0,2]) ?_;refine ML 1 ?_;refine TNp [0,2] [0,1] ?_;refine TE (fun _ h=>h.pick [0,2]) ?_;obtain⟨U2,κ⟩:=exh (nN (mth d9) (pkf (List.drop k cs)));refine MC (v:=.agg (J0 .u8 32 (J6 U2))) (fun W hS=>(by rw[κ.out];exact Q0h (mth d9) (pkf (List.drop k cs)) W (Y5 hG hS.ext))) ?_;refine TNp [0,2] [0,1] ?_;refine TE (fun _ h=>h.pick [0,2]) ?_;refine MR 1 ?_ (hz:=by rw[J1];kernel_rfl) (hs:=by first|rw[J1,J1]|rw[J1]);refine TNp [0,2] [0,1] ?_;refine TZ (fun _ h=>h.pick [0,2]) fun W hS=> ?_;go_wp2;go_roundw
    case rel=>exact⟨(k-1),by omega,by rw[show((k-1:Nat):Int)-1=(k:Int)-1-1 by omega],(by have e_:=Y1o β (by omega);rw[show k-1+1=k by omega] at e_;rw[e_,←κ.out];exact hS)⟩
    case measure=>simp[intOf];omega
   go_upto_region 16 with fail;refine RL hS ?_;clear hS;refine MV ?_;refine Wfo ?_;refine MZ fun W hS=> ?_;go_upto_region 19 with fail;refine RL hS ?_;clear hS;refine ML 1 ?_;refine MR 2 ?_ (hz:=by rw[J1];kernel_rfl) (hs:=by first|rw[J1,J1]|rw[J1]);refine MZ fun W hS=> ?_;go_wp2;exact BH (Z5 rfl rfl (hS.blk (i:=2) rfl) (by kernel_rfl) (by rw[J1];kernel_rfl)) rfl ⟨by rw[show k=0 from by omega,List.drop_zero,Z4m ζ,δ.out,Be],hS.ext⟩
end

section
def Rv (ls es:List Nat)(k:Nat):Prop:=es.length=ls.length∧∀p,p<ls.length→es[p]?=if p<k∨ls.length≤p+k then ls[ls.length-1-p]? else ls[p]?
theorem V80 (ls:List Nat):Rv ls ls 0:=⟨rfl,fun p hp=>by rw[if_neg (by omega)]⟩
theorem Z4p {ls es:List Nat}{k a b:Nat}(h:Rv ls es k)(hk:k+1+k<ls.length)(ha:es[k]?=some a)(hb:es[ls.length-1-k]?=some b):Rv ls ((es.set k b).set (ls.length-1-k) a) (k+1):=by
  refine⟨by rw[List.length_set,List.length_set];exact h.1,fun p hp=> ?_⟩;have h1:=h.2 k (by omega);rw[if_neg (by omega),ha] at h1;have h2:=h.2 (ls.length-1-k) (by omega);rw[if_neg (by omega),hb] at h2;rw[List.getElem?_set]
  by_cases e1:ls.length-1-k=p
  · rw[if_pos e1,if_pos (by rw[List.length_set,h.1];omega),if_pos (by omega),show ls.length-1-p=k by omega];exact h1
  rw[if_neg e1,List.getElem?_set]
  by_cases e2:k=p
  · subst e2
    rw[if_pos rfl,if_pos (by rw[h.1];omega),if_pos (by omega)];exact h2
  rw[if_neg e2,h.2 p hp]
  by_cases e3:p<k∨ls.length≤p+k
  · rw[if_pos e3,if_pos (by omega)]
  rw[if_neg e3,if_neg (by omega)]
theorem V24 {ls es:List Nat}{k:Nat}(h:Rv ls es k)(hk:ls.length≤2*k+1):es=ls.reverse:=by
  apply List.ext_getElem?;intro p;rcases Nat.lt_or_ge p ls.length with hp|hp
  · rw[h.2 p hp,List.getElem?_reverse hp]
    by_cases e:p<k∨ls.length≤p+k
    · rw[if_pos e]
    rw[if_neg e,show ls.length-1-p=p by omega]
  rw[List.getElem?_eq_none (by rw[h.1];exact hp),List.getElem?_eq_none (by rw[List.length_reverse];exact hp)]
theorem Y60 {t:AE}{k:Nat}{w:AA}{v:AB}{es:List (List AB)}(h:Row t k w v es)(hp:0<es.length):∃g c,v=.slice (some ⟨g,0,none⟩) es.length c:=by
  rcases h.1.2 with⟨_,hn⟩|⟨g,D,G,h1,_⟩
  · omega
  exact⟨g,D,h1⟩
end

section
set_option maxHeartbeats 3000000
attribute [local irreducible] wpList K1 wpX
attribute [local irreducible] eI be8 hs4 lb kTx vTx sTx eS rs ofT sE sL sN nN pkf

theorem Q13 {ls:List Nat}{v:AB}(hn:ls.length≤1000000)(w:AA)(h_:SH (SH.feet [.r 22 32 v (ls.map X4)]) w w [.r 22 32 v (ls.map X4)]):
  BI Tryz.prog 96 #[v] w fun e w' =>e=.returned (.tuple #[])∧SH (SH.feet [.r 22 32 v (ls.map X4)]) w w' [.r 22 32 v (ls.reverse.map X4)]:=by
 have hS:=h_;clear h_
 go_enter Tryz.func96,Tryz.ntmps96
 go_upto_region 0 with fail;refine RL hS ?_;clear hS;refine MV ?_;refine MF (v:=.int .i64 ((List.map X4 ls).length:Int)) (fun W hS=>J0x (hS.row (i:=0) rfl) rfl rfl Tryz.underlying37) ?_;refine MW ?_ (v:=.int .i64 ((ls.length:Int)-1)) (hv:=by intro W;rw[Bc];go_simp;(try simp only[AI.wrap_i64]);omega);refine W0 ?_;refine MV ?_;refine MZ fun W hS=> ?_
 go_wp2_with fail
 go_loopw [2,3] (fun ii jj wr=> ∃(k:Nat)(es:List Nat),(Rv ls es k)∧(2*k≤ls.length)∧(ii=.int .i64 (k:Int))∧(jj=.int .i64 ((ls.length:Int)-1-(k:Int)))∧SH (SH.feet [.r 22 32 v (ls.map X4)]) w wr [.r 22 32 v (List.map X4 es)])
  (fun ii jj _=>(intOf jj-intOf ii+1).toNat)
 case atStart=>exact⟨0,ls,V80 ls,by omega,rfl,by rw[show((0:Nat):Int)=0 from rfl,Int.sub_zero],hS⟩
 clear hS
 case round=>
  obtain⟨k,es,D,R,rfl,rfl,hS⟩:=hrel
  by_cases J:k+1+k<ls.length
  ·
   have M:k<ls.length:=by omega
   have G:ls.length-1-k<ls.length:=by omega
   obtain⟨a,ha⟩:∃x,es[k]?=some x:=⟨_,Aj (by rw[D.1];exact M)⟩
   obtain⟨b,hb⟩:∃x,es[ls.length-1-k]?=some x:=⟨_,Aj (by rw[D.1];exact G)⟩
   obtain⟨g0,c0,N⟩:=Y60 (hS.row (i:=0) rfl) (by rw[Bc,D.1];omega);rw[Bc,D.1] at N;subst N;go_upto_region 1 with fail;refine RL hS ?_;clear hS;refine MV ?_;refine MV ?_;refine Wto ?_;refine MZ fun W hS=> ?_;go_upto_region 3 with fail;refine RTp [] (.q 0 (.q 1 (.q 2 (.q 3 (.q 4 (.q 5 (.q 6 (.q 8 (.q 9 (.q 10 (.b 7 (.e 11 (.q 12 (.e 13 (.q 14 (.e 15 .z))))) 11 (.e 7 (.q 12 (.e 13 (.q 14 (.e 15 .z)))))))))))))))) hS ?_;clear hS;(iterate 3 refine TV ?_);refine TW ?_ (v:=.int .i64 ((ls.length-1-k:Nat):Int)) (hv:=by intro W;go_simp;omega);refine TV ?_;refine TW ?_ (v:=.int .i64 ((ls.length-1-k:Nat):Int)) (hv:=by intro W;go_simp;omega);refine TW ?_ (v:=.pointer (some ⟨g0,0+(ls.length-1-k)*32,none⟩)) (hv:=fun _=>Y7 (rfl:(some (⟨g0,0,none⟩:Addr))=some ⟨g0,0,none⟩) G rfl rfl rfl Tryz.underlying37 (by kernel_rfl));refine TV ?_;refine TV ?_;refine TW ?_ (v:=.pointer (some ⟨g0,0+k*32,none⟩)) (hv:=fun _=>Y7 (rfl:(some (⟨g0,0,none⟩:Addr))=some ⟨g0,0,none⟩) M rfl rfl rfl Tryz.underlying37 (by kernel_rfl));refine TB (fun _ h=>h.pick []) ?_ ?_
   ·
    refine MF (v:=.agg (J0 .u8 32 (J6 b))) (fun W hS=>V8 rfl rfl (fun i_ v hv=>(RR.cellat (hS.row (i:=0) rfl).rr (by rw[Bd,hb];rfl) rfl) i_ v (by simpa using hv)) (by kernel_rfl) (by rw[J1];kernel_rfl)) ?_;refine TNp [] [] ?_;refine TE (fun _ h=>h.pick []) ?_;refine MF (v:=.agg (J0 .u8 32 (J6 a))) (fun W hS=>V8 rfl rfl (fun i_ v hv=>(RR.cellat (hS.row (i:=0) rfl).rr (by rw[Bd,ha];rfl) rfl) i_ v (by simpa using hv)) (by kernel_rfl) (by rw[J1];kernel_rfl)) ?_;refine TNp [] [] ?_;refine TW ?_ (v:=.pointer (some ⟨g0,0+k*32,none⟩)) (hv:=fun _=>Y7 (rfl:(some (⟨g0,0,none⟩:Addr))=some ⟨g0,0,none⟩) M rfl rfl rfl Tryz.underlying37 (by kernel_rfl));refine TE (fun _ h=>h.pick []) ?_;refine MPE 0 (j:=k) (es:=(List.map X4 es)) (e:=(X4 a)) (by rw[Bd,ha];rfl) rfl (J1 _ _ _) (Z8 _ _ _) ?_;refine TNp [] [] ?_;refine TW ?_ (v:=.pointer (some ⟨g0,0+(ls.length-1-k)*32,none⟩)) (hv:=fun _=>Y7 (rfl:(some (⟨g0,0,none⟩:Addr))=some ⟨g0,0,none⟩) G rfl rfl rfl Tryz.underlying37 (by kernel_rfl));refine TE (fun _ h=>h.pick []) ?_;refine MPE 0 (j:=(ls.length-1-k)) (es:=(List.set (List.map X4 es) k (X4 b))) (e:=(X4 b)) (by rw[List.getElem?_set_ne (show k≠ls.length-1-k by omega),Bd,hb];rfl) rfl (J1 _ _ _) (Z8 _ _ _) ?_;refine TNp [] [] ?_;refine TZ (fun _ h=>h.pick []) fun W hS=> ?_;go_wp2;go_roundw
    case rel=>exact⟨k+1,(es.set k b).set (ls.length-1-k) a,Z4p D J ha hb,by omega,by go_num,by rw[show(ls.length:Int)-1-((k+1:Nat):Int)=(ls.length:Int)-1-(k:Int)-1 by omega],(by have h_:=hS;rw[show List.set (List.set (List.map X4 es) k (X4 b)) (ls.length-1-k) (X4 a)=List.map X4 ((es.set k b).set (ls.length-1-k) a) from by rw[List.map_set,List.map_set]] at h_;exact h_)⟩
    case measure=>simp[intOf];omega
   refine MF (v:=.agg (J0 .u8 32 (J6 a))) (fun W hS=>V8 rfl rfl (fun i_ v hv=>(RR.cellat (hS.row (i:=0) rfl).rr (by rw[Bd,ha];rfl) rfl) i_ v (by simpa using hv)) (by kernel_rfl) (by rw[J1];kernel_rfl)) ?_;refine TNp [] [] ?_;refine TE (fun _ h=>h.pick []) ?_;refine MF (v:=.agg (J0 .u8 32 (J6 b))) (fun W hS=>V8 rfl rfl (fun i_ v hv=>(RR.cellat (hS.row (i:=0) rfl).rr (by rw[Bd,hb];rfl) rfl) i_ v (by simpa using hv)) (by kernel_rfl) (by rw[J1];kernel_rfl)) ?_;refine TNp [] [] ?_;refine TW ?_ (v:=.pointer (some ⟨g0,0+k*32,none⟩)) (hv:=fun _=>Y7 (rfl:(some (⟨g0,0,none⟩:Addr))=some ⟨g0,0,none⟩) M rfl rfl rfl Tryz.underlying37 (by kernel_rfl));refine TE (fun _ h=>h.pick []) ?_;refine MPE 0 (j:=k) (es:=(List.map X4 es)) (e:=(X4 a)) (by rw[Bd,ha];rfl) rfl (J1 _ _ _) (Z8 _ _ _) ?_;refine TNp [] [] ?_;refine TW ?_ (v:=.pointer (some ⟨g0,0+(ls.length-1-k)*32,none⟩)) (hv:=fun _=>Y7 (rfl:(some (⟨g0,0,none⟩:Addr))=some ⟨g0,0,none⟩) G rfl rfl rfl Tryz.underlying37 (by kernel_rfl));refine TE (fun _ h=>h.pick []) ?_;refine MPE 0 (j:=(ls.length-1-k)) (es:=(List.set (List.map X4 es) k (X4 b))) (e:=(X4 b)) (by rw[List.getElem?_set_ne (show k≠ls.length-1-k by omega),Bd,hb];rfl) rfl (J1 _ _ _) (Z8 _ _ _) ?_;refine TNp [] [] ?_;refine TZ (fun _ h=>h.pick []) fun W hS=> ?_;go_wp2;go_roundw
   case rel=>exact⟨k+1,(es.set k b).set (ls.length-1-k) a,Z4p D J ha hb,by omega,by go_num,by rw[show(ls.length:Int)-1-((k+1:Nat):Int)=(ls.length:Int)-1-(k:Int)-1 by omega],(by have h_:=hS;rw[show List.set (List.set (List.map X4 es) k (X4 b)) (ls.length-1-k) (X4 a)=List.map X4 ((es.set k b).set (ls.length-1-k) a) from by rw[List.map_set,List.map_set]] at h_;exact h_)⟩
   case measure=>simp[intOf];omega
  rw[V24 D (by omega)] at hS;go_upto_region 1 with fail;refine RL hS ?_;clear hS;refine MV ?_;refine MV ?_;refine Wfo ?_;refine MZ fun W hS=> ?_;go_wp2;exact bodyPost_end (v:=.tuple #[]) (by simp only[results,Tryz.results96];go_simp) rfl ⟨rfl,hS⟩
end
end Go.Proofs.YtdjacgmmidbieaaGreatDoor

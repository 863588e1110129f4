/- Contracts and plain laws for superSeals_holds. Conditions: the tables hold their numbers. -/
import Derived.Test.YtdjacgmmidbieaaGreatDoorJ17
import Derived.Test.YtdjacgmmidbieaaGreatDoorS8SgC
import Derived.Test.YtdjacgmmidbieaaGreatDoorN8a
open Go renaming World->AA,Value->AB,bodyPost_ret->BH,execOp->AV,wpList->AC,Calls->BI,Operand->AW,TypeId->AE,Oper->AF,IntKind->AI
open Go.Lib renaming hid->BK
open Go.IntKind renaming wrap_i64->AJ,wrap_u64->AK
open Go.Sem renaming run_bind->Ah
open _root_.List renaming length_append->Ao,length_cons->AY,length_nil->Av,getElem?_eq_getElem->Aj
open _root_.Nat renaming le_refl->AM,zero_le->An,lt_of_le_of_lt->AN,lt_trans->BL,zero_add->AP,add_zero->Ax
open Go.RowKit
set_option maxRecDepth 100000
set_option linter.unusedSimpArgs false
set_option linter.unusedVariables false
namespace Go.Proofs.YtdjacgmmidbieaaGreatDoor
section
variable {ops : Array AF} {Q : Exit → Act → AA → Prop} {w : AA} {r : List AF} {o : AF} {a a' : Act} {F : List Nat} {H H' : List As} {k : Wk}
theorem Z81 {ty t:AE}{x y:AW}{b j:Nat}{cs:Array AB}{fz:Nat×Nat}{v:AB}(hv:v.cells= #[v]∧v.oneCell' =true)(hw:Region.wanted o (yielded ops a.tmps)=true)(ho:o.op=.store ty x y)(hx:a.eval x=.pointer (some ⟨b,j,none⟩))(hy:a.eval y=v)
    (hB:w.heap[b]?=some (.cells cs t fz)) (hf:fz.1=fz.2∨cs.size≤fz.1) (hs:j<cs.size) (hi:(Tryz.prog.info? ty).map (·.size)=some 1)
    (h:∀W,Off [b] w W→W.heap[b]?=some (.cells (cs.setIfInBounds j v) t fz)→AC Tryz.prog ops Q r (a.put o.dst undef) W):AC Tryz.prog ops Q (o::r) a w:=by
  unfold AC;rw[if_pos hw];refine .inl ?_;unfold AF.wp;have hc:(w.cell? ⟨b,j,none⟩).isSome=true:=by rw[cell_of_row w b j cs t fz hB,Array.getElem?_eq_getElem hs];rfl
  have hf:w.frozen? ⟨b,j,none⟩=false:=by
    simp[AA.frozen?,hB];omega
  have:=run_storeCells_cells (P:=Tryz.prog) b j [v] 0 w (fun k hk=>by
      have:k=0:=by simpa using hk
      subst this;simpa using hc) (fun k hk=>by
      have:k=0:=by simpa using hk
      subst this;simpa using hf) (fun u hu=>by rw[List.mem_singleton.1 hu];exact hv.2)
  have hr:(AV a.eval o).run Tryz.prog w=.ok .skip (w.setCell ⟨b,j,none⟩ v):=by
    cases hq:Tryz.prog.info? ty with
    |none=>simp[hq] at hi
    |some i=>
      have G:i.size=1:=by simpa[hq] using hi
      simp only[Ax,AA.setCells] at this;simp[AV,ho,hx,hy,Ah,Instr.storeAt,Instr.sureAddr,storeVar,sizeOf,typeInfo,hq,G,hv.1,this]
  rw[hr];refine h _ ⟨rfl,rfl,rfl,by simp[AA.setCell],fun k _ hk=>Below.heap_setCell w ⟨b,j,none⟩ v k (by simpa using hk)⟩ ?_;have D:=lt_of_block hB;have h' :w.heap[b]=.cells cs t fz:=by simpa[Array.getElem?_eq_getElem D] using hB
  show(w.heap.modify b _)[b]?=_;rw[Array.getElem?_eq_getElem (by simpa using D),Array.getElem_modify_self,h'];rfl
theorem MIw (i j:Nat){x y:Operand}{v:Value}{l:List UInt8}{kk:IntKind}{a' :Nat→Act}(hj:j<l.length)(h:∀g c,RowKit.Hid (v=.slice (some ⟨g,0,none⟩) l.length c)→wpM Tryz.prog ops k F w H r (a' g))(hi:H[i]?=some (.w v l):=by exact rfl)(hw:Region.wanted o (yielded ops a.tmps)=true:=by exact rfl)
    (ho:o.op=.indexAddr 45 x y:=by exact rfl) (hx:a.eval x=v:=by exact rfl) (hy:a.eval y=.int kk (j:Int):=by exact rfl)
    (hp:∀g,a.put o.dst (.pointer (some ⟨g,0+j,none⟩))=a' g:=by intro b;first|exact pl (by dsimp only[mB,mC];first|done|exact rfl)|exact pn|exact rfl):wpM Tryz.prog ops k F w H (o::r) a:=by
  intro W hS;obtain⟨g,G,cs,fz,hv,_⟩:=(hS.at_ hi:Owz W v l)
  have D:∀W,(AV a.eval o).run Tryz.prog W=.ok (.value (.pointer (some ⟨g,0+j,none⟩))) W:=fun W=>by rw[J9n hj ho (hx.trans hv) hy,Addr.add_mid]
  cases k with
  |L Q=>exact J2r hw (D W) (by rw[hp];exact h g G (BK hv) W hS)
  |X E=>exact J3x hw (fun W' _=>D W') (by rw[hp];exact h g G (BK hv) W hS)
theorem MPw (i:Nat){ty:TypeId}{x y:Operand}{g j n c:Nat}{u v:Value}{l l' :List UInt8}(hj:j<l.length)(hv:v=.slice (some ⟨g,0,none⟩) n c)(hl:(bs8 l).set j u=bs8 l')(hn:l'.length=l.length)(h:wpM Tryz.prog ops (.L Q) F w H' r a')(hi:H[i]?=some (.w v l):=by exact rfl)(hw:Region.wanted o (yielded ops a.tmps)=true:=by exact rfl)
    (ho:o.op=.store ty x y:=by exact rfl) (hx:a.eval x=.pointer (some ⟨g,0+j,none⟩):=by exact rfl) (hy:a.eval y=u:=by exact rfl) (hu:u.cells= #[u]∧u.oneCell' =true:=by exact⟨rfl,rfl⟩) (hz:(Tryz.prog.info? ty).map (·.size)=some 1:=by kernel_rfl)
    (hH:H.set i (.w v l')=H' :=by dsimp only[sB,sC];first|done|exact rfl) (hp:a.put o.dst undef=a' :=by first|exact pl (by dsimp only[mB,mC];first|done|exact rfl)|exact pn|exact rfl):wpM Tryz.prog ops (.L Q) F w H (o::r) a:=by
  subst hp hH;intro W hS;obtain⟨g',D,cs,fz,e,hh,hf,hc,hm,hs,ht⟩:=(hS.at_ hi:Owz W v l)
  rw[hv] at e;injection e with e1 e2 e3
  injection e1 with e1
  injection e1 with e1
  subst e1 e3;refine Z81 hu hw ho (hx.trans (by rw[AP])) hy hh hf (by omega) hz fun W' hO hB=>h W' (hS.setw hi (by rw[hv];exact hO) ⟨g,c,_,fz,by rw[hn,hv,e2],hB,by rw[Array.size_setIfInBounds];exact hf,by rw[hn];exact hc,hm,by rw[Array.size_setIfInBounds];exact hs,by rw[hn,Array.toList_setIfInBounds,List.take_set,ht,hl]⟩ (fun k hk _=>by rw[hk];simp))
end
end Go.Proofs.YtdjacgmmidbieaaGreatDoor

namespace Go.Proofs.YtdjacgmmidbieaaGreatDoor.S8
section
set_option maxHeartbeats 1500000
attribute [local irreducible] wpList K1 wpX
theorem Z90 (X:Nat)(w:AA):BI Tryz.prog 74 #[A16 X] w fun e w' =>V4 (Z9 (lb 32 X)) w w' e:=by
 rw[←J9s];exact rbytes_c X w
theorem Y9r {X Y Z i x y:Nat}{a:Pr}(r:RD X Y Z a)(ei:i=pw Z (PP-2))(ex:x=X*i % PP)(ey:y=Y*i % PP)(ho:x % 2=1):enc a=y+2^255:=by
 obtain⟨h1,h2⟩:=Q70 r ei ex ey;unfold enc;rw[←h1,←h2,ho]
theorem Y9s {X Y Z i x y:Nat}{a:Pr}(r:RD X Y Z a)(ei:i=pw Z (PP-2))(ex:x=X*i % PP)(ey:y=Y*i % PP)(ho:¬x % 2=1):enc a=y:=by
 obtain⟨h1,h2⟩:=Q70 r ei ex ey;have:x % 2=0:=by omega
 unfold enc;rw[←h1,←h2,this,Nat.mul_zero,Ax]
theorem Y9t {V:Nat}(hV:V<2^255):(J0 .u8 32 (J6 V)).setIfInBounds 31 (.int .u8 (bits .or .u8 (J6 V 31) 128))=J0 .u8 32 (J6 (V+2^255)):=by rw[Y9];exact Y6u hV
theorem Y9u {V V' :Nat}{v:AB}(he:(J0 .u8 32 (J6 V)).setIfInBounds 31 v=J0 .u8 32 (J6 V')):(bs8 (lb 32 V)).set 31 v=bs8 (lb 32 V'):=by
 rw[J79,J79,←J25,←J25,←he,Array.toList_setIfInBounds]
theorem zat {W:AA}{v:AB}{V g n c:Nat}(hv:v=.slice (some ⟨g,0,none⟩) n c)(h:Sl W v (lb 32 V)):W.cell? ⟨g,0+31,none⟩=some (.int .u8 (J6 V 31)):=by
 subst hv;have h1:=J9o (j:=31) h (Z0i (by decide));rw[Q6i,Addr.add_mid] at h1;exact h1

theorem Y9v {X1 Y1 Z1:Nat}{p1:Pr}(h1:RD X1 Y1 Z1 p1):
  ∀w,BI Tryz.prog 39 #[.agg (p3 X1 Y1 Z1)] w fun e w' =>V4 (Z9 (lb 32 (enc p1))) w w' e:=by
 have N:=Y9w Z1 (Q5 h1.z);obtain⟨N1,G⟩:=exn (pw Z1 (PP-2));rw[←G] at N;have α:=bpp G;have V:=Q5 α;have U:=BK G;clear G;have S:=J2n X1 N1 (Q5 h1.x) V;obtain⟨N2,M⟩:=exn (X1*N1 % PP);rw[←M] at S;have Z:=bpp M;have η:=Q5 Z;have Y:=BK M;clear M;have R:=J2n Y1 N1 (Q5 h1.y) V;obtain⟨N3,J⟩:=exn (Y1*N1 % PP);rw[←J] at R;have T:=bpp J;have ξ:=Q5 T;have X:=BK J;clear J;intro w;have hS:=SH.nil [] w
 go_enter Tryz.func39,Tryz.ntmps39
 go_upto_region 0 with fail;refine RL hS ?_;clear hS;refine MN (z:=p3 X1 Y1 Z1) (t:=89) ?_;intro μ;refine MV ?_;refine MZ fun W hS=> ?_;go_upto_region 1 with fail;refine RL hS ?_;clear hS;refine MV ?_;refine Ml 0 Y9x ?_;refine MC (v:=.agg (J0 .i64 16 (Q9 N1))) (fun W hS=>N W) ?_;refine MN (z:=J0 .i64 16 (Q9 0)) (t:=87) ?_;intro θ;refine MR 0 ?_;refine MZ fun W hS=> ?_;go_upto_region 2 with fail;refine RXn 8 [⟨8,4,J0 .i64 16 (Q9 0),87⟩,⟨9,5,J0 .i64 16 (Q9 0),87⟩] hS ?_ (by simp only[List.forall_mem_cons];exact⟨⟨_,rfl,rfl,rfl,fun _ _=>by kernel_rfl⟩,⟨_,rfl,rfl,rfl,fun _ _=>by kernel_rfl⟩,fun _ h=>by cases h⟩);clear hS;refine MV ?_;refine Ml 1 Z91 ?_;refine ML 0 ?_;refine MC (v:=.agg (J0 .i64 16 (Q9 N2))) (fun W hS=>S W) ?_;refine MV ?_;refine Ml 1 Z92 ?_;refine ML 0 ?_;refine MC (v:=.agg (J0 .i64 16 (Q9 N3))) (fun W hS=>R W) ?_;refine MZB fun γ=> ?_;refine MR 0 ?_;refine MR 1 ?_;refine MZn fun W hS=> ?_;go_upto_region 3 with fail;refine RL hS ?_;clear hS;refine ML 1 ?_;refine MC (v:=Z9 (lb 32 N3)) (fun W hS=>Z90 N3 W) ?_;refine MY (m:=(lb 32 N3)) (by first|omega|(rw[J2];decide)) ?_;intro ε;refine MV ?_;refine MZ fun W hS=> ?_
 by_cases ho:N2 % 2=1
 ·
  have D:=BK ho;clear ho;go_upto_region 4 with fail;refine RL hS ?_;clear hS;refine MW ?_ (v:=.pointer (some ⟨(γ 8),0+0,none⟩)) (hv:=fun _=>X3 Tryz.underlying87 (by decide));refine MG 1 ?_ (j:=0+0) (v:=.int .i64 ((Q9 N2) 0)) (hj:=ag0 (by decide));refine MW ?_ (v:=.int .i64 1) (hv:=by intro W;exact Q5d D.out rfl rfl rfl);refine Wt ?_;refine MZ fun W hS=> ?_;go_upto_region 5 with fail;refine RL hS ?_;clear hS;refine MV ?_;refine MV ?_;refine MIw 0 31 (l:=lb 32 N3) (by rw[J2];decide) ?_;intro ζ ν δ;refine MF (v:=.int .u8 (J6 N3 31)) (fun W hS=>V6 rfl rfl (zat δ.out (hS.ozl (i:=0) rfl)) (by kernel_rfl)) ?_;refine MW ?_ (v:=.int .u8 (bits .or .u8 (J6 N3 31) 128)) (hv:=by intro W;exact Z35 rfl rfl rfl rfl);refine MIw 0 31 (l:=lb 32 N3) (by rw[J2];decide) ?_;intro ρ κ β;refine MPw 0 (j:=31) (l:=lb 32 N3) (l' :=lb 32 (N3+2^255)) (by rw[J2];decide) β.out (Y9u (Y9t (BL T Q71))) (by rw[J2,J2]) ?_;refine MZ fun W hS=> ?_;go_upto_region 6 with fail;refine RL hS ?_;clear hS;refine MV ?_;refine MF (v:=Z9 (lb 32 (N3+2^255))) (fun W hS=>J1j (hS.ozl (i:=0) rfl) rfl rfl) ?_;refine MV ?_;refine MZ fun W hS=> ?_;go_wp2;rw[Y9r h1 U.out Y.out X.out D.out];exact BH (v:=Z9 (lb 32 (N3+2^255))) (by simp only[results,Tryz.results39];go_simp) rfl ⟨rfl,hS.ext⟩
 have D:=BK ho;clear ho;go_upto_region 4 with fail;refine RL hS ?_;clear hS;refine MW ?_ (v:=.pointer (some ⟨(γ 8),0+0,none⟩)) (hv:=fun _=>X3 Tryz.underlying87 (by decide));refine MG 1 ?_ (j:=0+0) (v:=.int .i64 ((Q9 N2) 0)) (hj:=ag0 (by decide));refine MW ?_ (v:=.int .i64 0) (hv:=by intro W;exact Q5d (show N2 % 2=0 by have:=D.out;omega) rfl rfl rfl);refine Wf ?_;refine MZ fun W hS=> ?_;go_upto_region 6 with fail;refine RL hS ?_;clear hS;refine MV ?_;refine MF (v:=Z9 (lb 32 N3)) (fun W hS=>J1j (hS.ozl (i:=0) rfl) rfl rfl) ?_;refine MV ?_;refine MZ fun W hS=> ?_;go_wp2;rw[Y9s h1 U.out Y.out X.out D.out];exact BH (v:=Z9 (lb 32 N3)) (by simp only[results,Tryz.results39];go_simp) rfl ⟨rfl,hS.ext⟩
end

section
set_option maxHeartbeats 1500000
attribute [local irreducible] wpList K1 wpX
abbrev T3:=Nat×Nat×Nat
def qc (s:T3):Array AB:=p3 s.1 s.2.1 s.2.2
def RQ (s:T3)(a:Pr):Prop:=RD s.1 s.2.1 s.2.2 a
theorem J1p {s:T3}:(qc s).size=48:=J0r
theorem Z0y {s:T3}:(qc s).all (·.oneCell')=true:=Q3j
structure DStep (P:T3)(n j:Nat)(s g s' :T3):Prop where
 tw:∀w,BI Tryz.prog 76 #[.agg (qc s),.agg (qc s)] w fun e w' =>V4 (.agg (qc g)) w w' e
 ad:n / 2^j % 2=1→∀w,BI Tryz.prog 76 #[.agg (qc g),.agg (qc P)] w fun e w' =>V4 (.agg (qc s')) w w' e
 no:¬n / 2^j % 2=1→s' =g
theorem V44 {P s:T3}{a:Pr}{n j:Nat}(hP:RQ P a)(hs:RQ s (pm a (n / 2^(j+1)))):∃g s',DStep P n j s g s' ∧RQ s' (pm a (n / 2^j)):=by
 obtain⟨x,y,z,r,c⟩:=Z3e hs hs
 by_cases h:n / 2^j % 2=1
 ·
  obtain⟨x',y',z',r',c'⟩:=Z3e r hP;exact⟨(x,y,z),(x',y',z'),⟨c,fun _=>c',fun h0=>absurd h h0⟩,by rw[Q8u hP.on h];exact r'⟩
 exact⟨(x,y,z),(x,y,z),⟨c,fun h0=>absurd h0 h,fun _=>rfl⟩,by rw[Z3b hP.on (by omega)];exact r⟩
theorem V45 {P s0:T3}{a:Pr}{n J:Nat}(hP:RQ P a)(h0:RQ s0 (pm a (n / 2^J))):∀m,m≤J→∃f g:Nat→T3,f J=s0∧(∀j,J-m≤j→j≤J→RQ (f j) (pm a (n / 2^j)))∧∀j,J-m≤j→j<J→DStep P n j (f (j+1)) (g j) (f j)
 |0,_=>⟨fun _=>s0,fun _=>s0,rfl,fun j h1 h2=>by rw[show j=J by omega];exact h0,fun j h1 h2=>by omega⟩
 |m+1,hm=>by
  obtain⟨f,g,e0,e1,e2⟩:=V45 hP h0 m (by omega);obtain⟨k,hk⟩:∃k,k=J-1-m:=⟨_,rfl⟩
  obtain⟨x,s',st,hr⟩:=V44 (j:=k) hP (e1 (k+1) (by omega) (by omega));refine⟨fun j=>if j=k then s' else f j,fun j=>if j=k then x else g j,?_,fun j h1 h2=> ?_,fun j h1 h2=> ?_⟩
  ·
   show(if J=k then s' else f J)=s0;rw[if_neg (by omega)];exact e0
  ·
   show RQ (if j=k then s' else f j) _
   by_cases h:j=k
   ·
    rw[if_pos h,h];exact hr
   ·
    rw[if_neg h];exact e1 j (by omega) h2
  ·
   show DStep P n j (if j+1=k then s' else f (j+1)) (if j=k then x else g j) (if j=k then s' else f j);rw[if_neg (by omega)]
   by_cases h:j=k
   ·
    rw[if_pos h,if_pos h,h];exact st
   ·
    rw[if_neg h,if_neg h];exact e2 j (by omega) h2

theorem Q8v {w:AA}{o:AF}{a:Act}{x y:AW}{t t' :AE}{p r:Nat}(h:p % 2=r)(hp:p<256)(ho:o.op=.binOp .rem t x y t')(hx:a.eval x=.int .u8 (p:Int))(hy:a.eval y=.int .u8 2):(AV a.eval o).run Tryz.prog w=.ok (.value (.int .u8 (r:Int))) w:=by
 rw[←h];exact Z7k (P:=Tryz.prog) (q:=2) (by decide) hp ho hx hy
theorem Q8w {X1 Y1 Z1:Nat}{p1:Pr}(h1:RD X1 Y1 Z1 p1)(l:List UInt8)(hl:l.length<1099511627776):
  ∃X Y Z,RD X Y Z (pm p1 (le l))∧∀w,BI Tryz.prog 40 #[.agg (p3 X1 Y1 Z1),Z9 l] w fun e w' =>V4 (.agg (p3 X Y Z)) w w' e:=by
 obtain⟨f,gg,α,ε,ζ⟩:=V45 (P:=(X1,Y1,Z1)) (s0:=(0,1,1)) (n:=le l) (J:=8*l.length) h1 (by rw[Nat.div_eq_of_lt (Q82 l)];exact Y3i) (8*l.length) (AM _);have δ:=BK α;clear α;refine⟨(f 0).1,(f 0).2.1,(f 0).2.2,(by have:=ε 0 (by omega) (An _);rw[Nat.pow_zero,Nat.div_one] at this;exact this),fun w=> ?_⟩;have hS:=SH.nil [] w
 go_enter Tryz.func40,Tryz.ntmps40
 go_upto_region 0 with fail;refine RL hS ?_;clear hS;refine MN (z:=p3 X1 Y1 Z1) (t:=89) ?_;intro K9;refine MN (z:=p3 0 0 0) (t:=89) ?_;intro β;refine MZ fun W hS=> ?_;go_upto_region 1 with fail;refine RL hS ?_;clear hS;refine MC (v:=.agg (p3 0 1 1)) (fun W hS=>Y3h W) ?_;refine MN (z:=p3 0 0 0) (t:=89) ?_;intro γ;refine MR 0 ?_ (hz:=by rw[J0r];kernel_rfl) (hs:=by first|rw[J0r,J0r]|rw[J0r]|kernel_rfl) (h1:=Q3j);refine MZ fun W hS=> ?_;go_upto_region 2 with fail;refine RL hS ?_;clear hS;refine MV ?_;refine MW ?_ (v:=.int .i64 (l.length:Int)) (hv:=fun _=>Q2v (l:=l) rfl rfl);refine MW ?_ (v:=.int .i64 ((l.length:Int)-1)) (hv:=by intro W;exact Z93 (by omega) rfl rfl rfl);refine MV ?_;refine MZ fun W hS=> ?_
 go_wp2_with fail
 go_loopw [6] (fun si wr=> ∃(m:Nat),(m≤l.length)∧(si=.int .i64 ((m:Int)-1))∧SH [] w wr [.b γ (qc (f (8*m))) 89,.b β (p3 0 0 0) 89,.b K9 (p3 X1 Y1 Z1) 89])
  (fun si _=>(intOf si+1).toNat)
 case atStart=>exact⟨l.length,AM _,rfl,(by rw[δ.out];exact hS)⟩
 clear hS
 case round=>
  obtain⟨m,hm,rfl,hS⟩:=hrel
  by_cases hz:m=0
  ·
   subst hz;go_upto_region 3 with fail;refine RL hS ?_;clear hS;refine MV ?_;refine Wf ?_;refine MZ fun W hS=> ?_;go_upto_region 11 with fail;refine RL hS ?_;clear hS;refine ML 0 ?_ (hs:=by rw[J1p];kernel_rfl);refine MR 1 ?_ (hz:=by rw[J1p];kernel_rfl) (hs:=by first|rw[J0r,J1p]|rw[J1p]|kernel_rfl) (h1:=Z0y);refine MZ fun W hS=> ?_;go_wp2;exact BH (Z5 rfl rfl (hS.blk (i:=1) rfl) (by kernel_rfl) (by rw[J1p];kernel_rfl)) rfl ⟨rfl,hS.ext⟩
  obtain⟨i,rfl⟩:∃i,m=i+1:=⟨m-1,by omega⟩
  rw[show((i+1:Nat):Int)-1=(i:Int) by omega];go_upto_region 3 with fail;refine RL hS ?_;clear hS;refine MV ?_;refine Wt ?_;refine MZ fun W hS=> ?_
  go_wp2_with fail
  go_loopw [7] (fun sk wr=> ∃(r:Nat),(r≤8)∧(sk=.int .i64 ((r:Int)-1))∧SH [] w wr [.b γ (qc (f (8*i+r))) 89,.b β (p3 0 0 0) 89,.b K9 (p3 X1 Y1 Z1) 89])
   (fun sk _=>(intOf sk+1).toNat)
  case atStart=>exact⟨8,AM _,rfl,(by rw[show 8*i+8=8*(i+1) by omega];exact hS)⟩
  clear hS
  case round=>
   obtain⟨r,hr,rfl,hS⟩:=hrel
   by_cases V:r=0
   ·
    subst V;go_upto_region 6 with fail;refine RL hS ?_;clear hS;refine MV ?_;refine Wf ?_;refine MZ fun W hS=> ?_;go_wp2;go_roundw
    case rel=>exact⟨i,by omega,by go_num,hS⟩
    case measure=>first|(simp[intOf];done)|(simp[intOf];omega)
   obtain⟨q,rfl⟩:∃q,r=q+1:=⟨r-1,by omega⟩
   have T:=ζ (8*i+q) (by omega) (by omega);rw[show((q+1:Nat):Int)-1=(q:Int) by omega];go_upto_region 6 with fail;refine RL hS ?_;clear hS;refine MV ?_;refine Wt ?_;refine MZ fun W hS=> ?_;go_upto_region 8 with fail;refine RL hS ?_;clear hS;refine ML 0 ?_ (hs:=by rw[J1p];kernel_rfl);refine ML 0 ?_ (hs:=by rw[J1p];kernel_rfl);refine MC (v:=.agg (qc (gg (8*i+q)))) (fun W hS=>T.tw W) ?_;refine MR 0 ?_ (hz:=by rw[J1p];kernel_rfl) (hs:=by first|rw[J1p,J1p]|rw[J1p]|kernel_rfl) (h1:=Z0y);refine MZ fun W hS=> ?_
   by_cases D:le l / 2^(8*i+q) % 2=1
   ·
    obtain⟨cc,M⟩:∃c,l[i]?=some c:=⟨_,Aj (by omega)⟩
    have U:cc.toNat / 2^q<256:=AN (Nat.div_le_self _ _) (UInt8.toNat_lt _);have S:=BK M;have N:cc.toNat / 2^q % 2=1:=by rw[Z94 M (by omega)];exact D
    have R:=BK N;clear N M;have G:=BK D;clear D;go_upto_region 9 with fail;refine RL hS ?_;clear hS;refine MV ?_;refine MV ?_;refine MW ?_ (v:=.int .u8 (cc.toNat:Int)) (hv:=by intro W;exact Q04 S.out rfl rfl rfl);refine MV ?_;refine MW ?_ (v:=.int .u8 ((cc.toNat / 2^q:Nat):Int)) (hv:=by intro W;exact Q8x (by omega) rfl rfl rfl);refine MW ?_ (v:=.int .u8 1) (hv:=by intro W;exact Q8v R.out U rfl rfl rfl);refine Wt ?_;refine MZ fun W hS=> ?_;go_upto_region 10 with fail;refine RL hS ?_;clear hS;refine ML 0 ?_ (hs:=by rw[J1p];kernel_rfl);refine ML 2 ?_ (hs:=by rw[J0r];kernel_rfl);refine MC (v:=.agg (qc (f (8*i+q)))) (fun W hS=>T.ad G.out W) ?_;refine MR 0 ?_ (hz:=by rw[J1p];kernel_rfl) (hs:=by first|rw[J1p,J1p]|rw[J1p]|kernel_rfl) (h1:=Z0y);refine MZ fun W hS=> ?_;go_wp2;go_roundw
    case rel=>exact⟨q,by omega,by go_num,hS⟩
    case measure=>first|(simp[intOf];done)|(simp[intOf];omega)
   obtain⟨cc,M⟩:∃c,l[i]?=some c:=⟨_,Aj (by omega)⟩
   have U:cc.toNat / 2^q<256:=AN (Nat.div_le_self _ _) (UInt8.toNat_lt _);have S:=BK M;have N:cc.toNat / 2^q % 2=0:=by rw[Z94 M (by omega)];omega
   have R:=BK N;clear N M;have G:=BK D;clear D;go_upto_region 9 with fail;refine RL hS ?_;clear hS;refine MV ?_;refine MV ?_;refine MW ?_ (v:=.int .u8 (cc.toNat:Int)) (hv:=by intro W;exact Q04 S.out rfl rfl rfl);refine MV ?_;refine MW ?_ (v:=.int .u8 ((cc.toNat / 2^q:Nat):Int)) (hv:=by intro W;exact Q8x (by omega) rfl rfl rfl);refine MW ?_ (v:=.int .u8 0) (hv:=by intro W;exact Q8v R.out U rfl rfl rfl);refine Wf ?_;refine MZ fun W hS=> ?_;go_wp2;go_roundw
   case rel=>exact⟨q,by omega,by go_num,(by rw[T.no G.out];exact hS)⟩
   case measure=>first|(simp[intOf];done)|(simp[intOf];omega)
end

section
attribute [local irreducible] wpList K1 wpX

end

section
attribute [local irreducible] wpList K1 wpX

end

section
set_option maxHeartbeats 1000000
attribute [local irreducible] wpList K1 wpX
open Sc (LL J1r)
variable {kn : Kn}
section
variable {w : AA} {o : AF} {a : Act} {x y : AW} {t : AE}
theorem Z5x {l:List UInt8}{n:Nat}(hn:n≤l.length)(ho:o.op=.slice t x (some y) none none)(ht:Tryz.prog.underlying t=some .string)(hx:a.eval x=Z9 l)(hy:a.eval y=.int .i64 (n:Int)):(AV a.eval o).run Tryz.prog w=.ok (.value (Z9 (l.drop n))) w:=by
 have h1:=J4w l;have h2:=J91 l n l.length;rw[List.take_length] at h2;unfold AV;simp only[ho,hx,hy,Z9,Option.map];simp[Instr.sliceAt,Instr.slice,Instr.sliceBounds,Instr.sliceBound,asIntOf,run_underlying ht,Ah,h1,h2,hn]
theorem Y45 {V:Nat}(ho:o.op=.slice t x none (some y) none)(ht:Tryz.prog.underlying t=some .string)(hx:a.eval x=Z9 (lb 64 V))(hy:a.eval y=.int .i64 32):(AV a.eval o).run Tryz.prog w=.ok (.value (Z9 (lb 32 (lo V)))) w:=by
 have h:=Z4z (w:=w) (n:=32) (by rw[J2];decide) ho ht hx hy;rw[Z9y,List.take_left' (J2 _ _)] at h;exact h
theorem Y46 {V:Nat}(ho:o.op=.slice t x (some y) none none)(ht:Tryz.prog.underlying t=some .string)(hx:a.eval x=Z9 (lb 64 V))(hy:a.eval y=.int .i64 32):(AV a.eval o).run Tryz.prog w=.ok (.value (Z9 (lb 32 (hi V)))) w:=by
 have h:=Z5x (w:=w) (n:=32) (by rw[J2];decide) ho ht hx hy;rw[Z9y,List.drop_left' (J2 _ _)] at h;exact h
end
theorem Q7g {H:Nat}{l:List UInt8}(hH:H=hs l)(hlen:l.length≤70368744177664)(w:AA)(hG:GR w):BI Tryz.prog 37 #[Z9 l] w fun e w' =>V4 (Z9 (lb 64 H)) w w' e:=by
 rw[hH,←Y07];exact Y92 l hlen w hG
theorem Z18 {X n T:Nat}(hX:X=T % LL)(hT:T<2^(8*n))(hn:n≤700)(w:AA):BI Tryz.prog 84 #[Z9 (lb n T)] w fun e w' =>V4 (A16 X) w w' e:=by
 rw[hX,←J9s];exact Sc.rof_c n T hT hn w
theorem Z5y {X V:Nat}(hX:X=clN V)(w:AA):BI Tryz.prog 38 #[Z9 (lb 32 V)] w fun e w' =>V4 (Z9 (lb 32 X)) w w' e:=by
 rw[hX,←J9s,←J9s,←Z0f 32 (J1r (J6 V)) (J6 (clN V)) fun j hj=>(Q2z _ (Q3r V) 32 j hj).symm];exact Sc.rclamp_c (J6 V) (J2v V) w
theorem Q5g (X:Nat)(w:AA):BI Tryz.prog 85 #[A16 X] w fun e w' =>V4 (Z9 (lb 32 X)) w w' e:=by
 rw[←J9s];exact Sc.rbytes_c X w
theorem Y47 {Z X Y:Nat}(hZ:Z=X*Y % LL)(hX:X<LL)(hY:Y<LL)(w:AA):BI Tryz.prog 87 #[A16 X,A16 Y] w fun e w' =>V4 (A16 Z) w w' e:=hZ▸Sc.rmul_c X Y hX (BL hY J1c) w
theorem Y48 {Z X Y:Nat}(hZ:Z=(X+Y) % LL)(hX:X<LL)(hY:Y<LL)(w:AA):BI Tryz.prog 86 #[A16 X,A16 Y] w fun e w' =>V4 (A16 Z) w w' e:=hZ▸Sc.radd_c X Y hX hY w
theorem Z3q {X X1 Y1 Z1:Nat}{p1:Pr}(h1:RD X1 Y1 Z1 p1)(hX:X=enc p1)(w:AA):BI Tryz.prog 39 #[.agg (p3 X1 Y1 Z1)] w fun e w' =>V4 (Z9 (lb 32 X)) w w' e:=hX▸Y9v h1 w

theorem Z19 (S:Nat):
  ∀w,GR w→BI Tryz.prog 13 #[Z9 (lb 32 S)] w fun e w' =>V4 (.agg #[Z9 (lb 32 (kN S)),Z9 (lb 32 (kD S)),Z9 (lb 32 (kP S))]) w w' e:=by
 obtain⟨U1,J⟩:=exh (hs (lb 32 S));obtain⟨U2,D⟩:=exn (clN (lo U1));have R:U2<2^256:=by rw[D];exact Z17 _
 have M:=BK D;clear D;obtain⟨x1,y2,z3,r4,c5⟩:=Q8w Z3d (lb 32 U2) (by rw[J2];decide);rw[Z7s 32 U2 R] at r4;obtain⟨U3,G⟩:=exn (enc (pm BP U2));have T:U3<2^256:=by rw[G];exact J9b _
 have N:=BK G;clear G;intro w hG;have hS:=SH.nil [] w
 go_enter Tryz.func13,Tryz.ntmps13
 go_upto_region 0 with fail;refine RL hS ?_;clear hS;refine MN (z:= #[Z9 [],Z9 [],Z9 []]) (t:=47) ?_;intro K9;refine MZ fun W hS=> ?_;go_upto_region 1 with fail;refine RL hS ?_;clear hS;refine MV ?_;refine MC (v:=Z9 (lb 64 U1)) (fun W hS=>Q7g J.out (by first|omega|(simp only[Ao,AY,Av,J2];omega)) W (GR_ext hG hS.ext)) ?_;refine MV ?_;refine MZ fun W hS=> ?_;go_upto_region 2 with fail;refine RL hS ?_;clear hS;refine MV ?_;refine MW ?_ (v:=Z9 (lb 32 (lo U1))) (hv:=by intro W;exact Y45 rfl Tryz.underlying9 rfl rfl);refine MC (v:=Z9 (lb 32 U2)) (fun W hS=>Z5y M.out W) ?_;refine MV ?_;refine MZ fun W hS=> ?_;go_upto_region 3 with fail;refine RX 8 hS ?_;clear hS;refine MV ?_;refine MV ?_;refine MW ?_ (v:=Z9 (lb 32 (hi U1))) (hv:=by intro W;exact Y46 rfl Tryz.underlying9 rfl rfl);refine MC (v:=.agg (p3 BX BY 1)) (fun W hS=>Z3c W) ?_;refine MV ?_;refine MC (v:=.agg (p3 x1 y2 z3)) (fun W hS=>c5 W) ?_;refine MC (v:=Z9 (lb 32 U3)) (fun W hS=>Z3q r4 N.out W) ?_;refine MW ?_ (v:=.agg #[Z9 (lb 32 U2),Z9 (lb 32 (hi U1)),Z9 (lb 32 U3)]) (hv:=by intro W;kernel_rfl);refine MZt ?_;refine MR 0 ?_;refine MZn fun W hS=> ?_;go_wp2;rw[show #[Z9 (lb 32 U2),Z9 (lb 32 (hi U1)),Z9 (lb 32 U3)]= #[Z9 (lb 32 (kN S)),Z9 (lb 32 (kD S)),Z9 (lb 32 (kP S))] by rw[N.out,M.out,J.out];rfl] at hS;exact BH (Z5 rfl rfl (hS.blk (i:=0) rfl) (by kernel_rfl) (by kernel_rfl)) rfl ⟨rfl,hS.ext⟩
theorem rspreadN_c {N D P S:Nat}(hN:N=kN S)(hD:D=kD S)(hP:P=kP S)(w:AA)(hG:GR w):
  BI Tryz.prog 13 #[Z9 (lb 32 S)] w fun e w' =>V4 (.agg #[Z9 (lb 32 N),Z9 (lb 32 D),Z9 (lb 32 P)]) w w' e:=by
 rw[hN,hD,hP];exact Z19 S w hG
theorem Y49 (S:Nat)(L:List UInt8)(hL:L.length≤1099511627776):
  ∀w,GR w→BI Tryz.prog 44 #[Z9 (lb 32 S),Z9 L] w fun e w' =>V4 (Z9 (lb 64 (sig S L))) w w' e:=by
 obtain⟨U1,V⟩:=exn (kN S);have χ:U1<2^256:=by rw[V];exact Y7f _
 have θ:=BK V;clear V;obtain⟨U2,U⟩:=exn (kD S);have Δ:U2<2^256:=by rw[U];exact Y7g _
 have μ:=BK U;clear U;obtain⟨U3,α⟩:=exn (kP S);have Ψ:U3<2^256:=by rw[α];exact kP_lt _
 have η:=BK α;clear α;obtain⟨U4,Z⟩:=exh (hs ((lb 32 U2)++L));obtain⟨U5,T⟩:=exn (U4 % LL);have κ:U5<LL:=by rw[T];exact mLL _
 have ψ:U5<2^256:=BL κ J1c;have ξ:=BK T;clear T;obtain⟨x1,y2,z3,r4,c5⟩:=Q8w Z3d (lb 32 U5) (by rw[J2];decide);rw[Z7s 32 U5 ψ] at r4;obtain⟨U6,X⟩:=exn (enc (pm BP U5));have φ:U6<2^256:=by rw[X];exact J9b _
 have ρ:=BK X;clear X;obtain⟨U7,Y⟩:=exh (hs (((lb 32 U6)++(lb 32 U3))++L));obtain⟨U8,δ⟩:=exn (U7 % LL);have ε:U8<LL:=by rw[δ];exact mLL _
 have Ξ:U8<2^256:=BL ε J1c;have ν:=BK δ;clear δ;obtain⟨U9,R⟩:=exn (U1 % LL);have ζ:U9<LL:=by rw[R];exact mLL _
 have Ω:U9<2^256:=BL ζ J1c;have σ:=BK R;clear R;obtain⟨M,G⟩:=exn (U8*U9 % LL);have β:M<LL:=by rw[G];exact mLL _
 have Γ:M<2^256:=BL β J1c;have N:=BK G;clear G;obtain⟨D,J⟩:=exn ((U5+M) % LL);have τ:D<LL:=by rw[J];exact mLL _
 have ω:D<2^256:=BL τ J1c;have γ:=BK J;clear J;intro w hG;have hS:=SH.nil [] w
 go_enter Tryz.func44,Tryz.ntmps44
 go_upto_region 1 with fail;refine RL hS ?_;clear hS;refine MV ?_;refine MC (v:=.agg #[Z9 (lb 32 U1),Z9 (lb 32 U2),Z9 (lb 32 U3)]) (fun W hS=>rspreadN_c θ.out μ.out η.out W (GR_ext hG hS.ext)) ?_;refine MN (z:= #[Z9 [],Z9 [],Z9 []]) (t:=47) ?_;intro Θ;refine MR 0 ?_;refine MZ fun W hS=> ?_;go_upto_region 2 with fail;refine RL hS ?_;clear hS;refine MV ?_;refine MG 0 ?_ (v:=Z9 (lb 32 U2));refine MV ?_;refine MW ?_ (v:=Z9 ((lb 32 U2)++L)) (hv:=fun _=>J1d (l:=(lb 32 U2)) (m:=L) rfl rfl rfl (by first|omega|(simp only[Ao,AY,Av,J2];omega)));refine MC (v:=Z9 (lb 64 U4)) (fun W hS=>Q7g Z.out (by first|omega|(simp only[Ao,AY,Av,J2];omega)) W (GR_ext hG hS.ext)) ?_;refine MC (v:=.agg (J0 .i64 16 (Q9 U5))) (fun W hS=>Z18 (n:=64) ξ.out (by rw[Z.out];exact Q7f _) (by decide) W) ?_;refine MN (z:=J0 .i64 16 (Q9 0)) (t:=144) ?_;intro D1;refine MR 0 ?_;refine MZ fun W hS=> ?_;go_upto_region 3 with fail;refine RS hS ?_;clear hS;refine MC (v:=.agg (p3 BX BY 1)) (fun W hS=>Z3c W) ?_;refine ML 0 ?_;refine MC (v:=Z9 (lb 32 U5)) (fun W hS=>Q5g U5 W) ?_;refine MC (v:=.agg (p3 x1 y2 z3)) (fun W hS=>c5 W) ?_;refine MC (v:=Z9 (lb 32 U6)) (fun W hS=>Z3q r4 ρ.out W) ?_;refine MV ?_;refine MZx fun W hS=> ?_;go_upto_region 4 with fail;refine RL hS ?_;clear hS;refine MV ?_;refine MV ?_;refine MG 1 ?_ (v:=Z9 (lb 32 U3));refine MW ?_ (v:=Z9 ((lb 32 U6)++(lb 32 U3))) (hv:=fun _=>J1d (l:=(lb 32 U6)) (m:=(lb 32 U3)) rfl rfl rfl (by first|omega|(simp only[Ao,AY,Av,J2];omega)));refine MV ?_;refine MW ?_ (v:=Z9 (((lb 32 U6)++(lb 32 U3))++L)) (hv:=fun _=>J1d (l:=((lb 32 U6)++(lb 32 U3))) (m:=L) rfl rfl rfl (by first|omega|(simp only[Ao,AY,Av,J2];omega)));refine MC (v:=Z9 (lb 64 U7)) (fun W hS=>Q7g Y.out (by first|omega|(simp only[Ao,AY,Av,J2];omega)) W (GR_ext hG hS.ext)) ?_;refine MC (v:=.agg (J0 .i64 16 (Q9 U8))) (fun W hS=>Z18 (n:=64) ν.out (by rw[Y.out];exact Q7f _) (by decide) W) ?_;refine MN (z:=J0 .i64 16 (Q9 0)) (t:=144) ?_;intro D0;refine MR 0 ?_;refine MZ fun W hS=> ?_;go_upto_region 5 with fail;refine RS hS ?_;clear hS;refine MV ?_;refine ML 1 ?_;refine ML 0 ?_;refine MV ?_;refine MG 2 ?_ (v:=Z9 (lb 32 U1));refine MC (v:=.agg (J0 .i64 16 (Q9 U9))) (fun W hS=>Z18 (n:=32) σ.out χ (by decide) W) ?_;refine MC (v:=.agg (J0 .i64 16 (Q9 M))) (fun W hS=>Y47 N.out ε ζ W) ?_;refine MC (v:=.agg (J0 .i64 16 (Q9 D))) (fun W hS=>Y48 γ.out κ β W) ?_;refine MC (v:=Z9 (lb 32 D)) (fun W hS=>Q5g D W) ?_;refine MW ?_ (v:=Z9 ((lb 32 U6)++(lb 32 D))) (hv:=fun _=>J1d (l:=(lb 32 U6)) (m:=(lb 32 D)) rfl rfl rfl (by first|omega|(simp only[Ao,AY,Av,J2];omega)));refine MV ?_;refine MZx fun W hS=> ?_;go_wp2;rw[show sig S L=U6+2^256*D by rw[γ.out,N.out,σ.out,ν.out,Y.out,ρ.out,ξ.out,Z.out,η.out,μ.out,θ.out];rfl,←Z3n φ];exact BH (v:=Z9 ((lb 32 U6)++(lb 32 D))) (by simp only[results,Tryz.results44];go_simp) rfl ⟨rfl,hS.ext⟩
end

section
attribute [local irreducible] wpList
variable {kn : Kn}
open Sc (LL J1r)
theorem sig_lt (S:Nat)(L:List UInt8):sig S L<2^(256+256):=by
  have h1:=Y08 S L;have h2:sT S L<2^256:=BL (Y7k S L) J1c;refine Nat.lt_of_lt_of_eq ?_ (Nat.pow_add 2 256 256).symm;unfold sig;generalize (2:Nat)^256=T at*;have:T*(sT S L+1)≤T*T:=Nat.mul_le_mul_left T h2;rw[Nat.mul_add] at this;omega
theorem signN_c (hd:kn.d)(hb:kn.b){X S:Nat}{L:List UInt8}(hX:X=sig S L)(v:AB)(L' :List UInt8)(hL:L.length≤1099511627776)(w:AA)(hG:GA kn w)(hs:Sl w v L):
    BI Tryz.prog 33 #[.agg (J0 .u8 32 (J6 S)),v] w fun e w' =>V4 (.agg (J0 .u8 64 (J6 X))) w w' e:=hX▸V0q hd hb S v L hL w hG hs
theorem verifyN_c (hd:kn.d)(hb:kn.b)(hc:kn.c){X V G:Nat}{L:List UInt8}(hX:X=vfy V L G)(hV:V<2^256)(hG2:G<2^(256+256))(v:AB)(L' :List UInt8)(hL:L.length≤1099511627776)(w:AA)(hG:GA kn w)(hs:Sl w v L):
    BI Tryz.prog 45 #[.agg (J0 .u8 32 (J6 V)),v,.agg (J0 .u8 64 (J6 G))] w fun e w' =>V4 (.int .i64 (X:Int)) w w' e:=hX▸Y06 hd hb hc hV hG2 v L hL w hG hs
theorem rsignN_c {X S:Nat}{L:List UInt8}(hX:X=sig S L)(L' :List UInt8)(hL:L.length≤1099511627776)(w:AA)(hG:GR w):
    BI Tryz.prog 44 #[Z9 (lb 32 S),Z9 L] w fun e w' =>V4 (Z9 (lb 64 X)) w w' e:=hX▸Y49 S L hL w hG
theorem sign_back (S:Nat)(L:List UInt8):vfy (kP S) L (sig S L)=0:=by
  have hN:=Q1b Q02 (kN S);have hd:dOk (kP S)=true∧dPt (kP S)=pm BP (kN S):=Y3q hN;have hk:vK (kP S) L (sig S L)=sK S L:=by unfold vK;rw[Y09];rfl
  have e1:pm BP (sT S L)=J15 (pm BP (sR S L)) (pm (pm BP (kN S)) (sK S L)):=by
    unfold sT;rw[Z14,Q3m Q02,Z14,Nat.mul_comm,Z11 Q02,Z14]
  have hp:vP (kP S) L (sig S L)=pm BP (sR S L):=by
    unfold vP;rw[hk,Y0a,hd.2,e1,Z3h,Q3l (Q1b Q02 _) (Q1b hN _) (Q78 (Q1b hN _)),Z9b (Q1b hN _),Z3g]
  unfold vfy;rw[Y0a,if_neg (Nat.not_le.2 (Y7k S L)),hd.1,if_neg (by decide),hp,Y09,if_pos (by rfl)]

end
end Go.Proofs.YtdjacgmmidbieaaGreatDoor.S8

namespace Go.Proofs.YtdjacgmmidbieaaGreatDoor
section

def xo4 (p q:Int):Int:=bits .xor .u32 p q
def an4 (p q:Int):Int:=bits .and .u32 p q
def oo4 (p q:Int):Int:=bits .or .u32 p q
def nt4 (p:Int):Int:=bits .xor .u32 4294967295 p
def ad4 (p q:Int):Int:=AI.wrap .u32 (p+q)
def sl4 (p:Int)(n:Nat):Int:=AI.wrap .u32 (p*2^n)
def sr4 (p:Int)(n:Nat):Int:=p / 2^n
def rt4 (p:Int)(n:Nat):Int:=oo4 (sr4 p n) (sl4 p (32-n))
theorem Y0e (p q:Int):oo4 p q=oo4 q p:=by unfold oo4;simp only[bits,BitVec.or_comm]
section
variable {P : Program} {w : AA} {o : AF} {a : Act} {x y : AW} {t t' : AE} {p q : Int}
theorem J59 (ho:o.op=.binOp .xor t x y t')(hx:a.eval x=.int .u32 p)(hy:a.eval y=.int .u32 q):(AV a.eval o).run P w=.ok (.value (.int .u32 (xo4 p q))) w:=by
  simp only[AV,ho,hx,hy];rfl
theorem J7w (ho:o.op=.binOp .and t x y t')(hx:a.eval x=.int .u32 p)(hy:a.eval y=.int .u32 q):(AV a.eval o).run P w=.ok (.value (.int .u32 (an4 p q))) w:=by
  simp only[AV,ho,hx,hy];rfl
theorem Z3t (ho:o.op=.binOp .or t x y t')(hx:a.eval x=.int .u32 p)(hy:a.eval y=.int .u32 q):(AV a.eval o).run P w=.ok (.value (.int .u32 (oo4 p q))) w:=by
  simp only[AV,ho,hx,hy];rfl
theorem J3d (ho:o.op=.binOp .add t x y t')(hx:a.eval x=.int .u32 p)(hy:a.eval y=.int .u32 q):(AV a.eval o).run P w=.ok (.value (.int .u32 (ad4 p q))) w:=by
  simp only[AV,ho,hx,hy];rfl
theorem Y0i (ho:o.op=.unOp .xor t x)(hx:a.eval x=.int .u32 p):(AV a.eval o).run P w=.ok (.value (.int .u32 (nt4 p))) w:=by
  simp only[AV,ho,hx];rfl
theorem Q98 {k:AI}{n:Nat}(hn:n≤32)(ho:o.op=.binOp .shl t x y t')(hx:a.eval x=.int .u32 p)(hy:a.eval y=.int k (n:Int)):(AV a.eval o).run P w=.ok (.value (.int .u32 (sl4 p n))) w:=by
  have h:min ((n:Int)).toNat AI.u32.bits=n:=by rw[Int.toNat_natCast];exact Nat.min_eq_left hn
  simp only[AV,ho,hx,hy,eqGuard,binOp,Ah];simp[Op.shift,h,sl4,go_sem,Ah]
theorem J7v {k:AI}{n:Nat}(hn:n≤32)(ho:o.op=.binOp .shr t x y t')(hx:a.eval x=.int .u32 p)(hy:a.eval y=.int k (n:Int)):(AV a.eval o).run P w=.ok (.value (.int .u32 (sr4 p n))) w:=by
  have h:min ((n:Int)).toNat AI.u32.bits=n:=by rw[Int.toNat_natCast];exact Nat.min_eq_left hn
  simp only[AV,ho,hx,hy,eqGuard,binOp,Ah];simp[Op.shift,h,sr4,go_sem,Ah]
end
end

section
set_option maxHeartbeats 1500000
attribute [local irreducible] wpList

theorem V54 (n:Nat)(h1:1≤n)(h2:n≤31):bits .and .u64 (18446744073709551616-(n:Int)) 31=((32-n:Nat):Int):=by
  obtain⟨m,hm⟩:∃m:Nat,m=18446744073709551616-n:=⟨_,rfl⟩
  have e:(18446744073709551616-(n:Int))=(m:Int):=by omega
  have G:(BitVec.ofInt 64 31).toNat=2^5-1:=by decide
  have D:(BitVec.ofInt 64 (m:Int) &&& BitVec.ofInt 64 31).toNat=m % 2^5:=by
    rw[BitVec.toNat_and,BitVec.toNat_ofInt,G,Nat.and_two_pow_sub_one_eq_mod];omega
  rw[e];show AI.u64.wrap ((BitVec.ofInt 64 (m:Int) &&& BitVec.ofInt 64 31).toNat:Nat)=_;rw[D,AI.wrap_u64];omega
def J1q (p:Int)(a b c:Nat):Int:=xo4 (xo4 (rt4 p a) (rt4 p b)) (sr4 p c)
def J9f (p:Int)(a b c:Nat):Int:=xo4 (xo4 (rt4 p a) (rt4 p b)) (rt4 p c)

theorem Y4f (p:Int)(n:Nat)(h1:1≤n)(h2:n≤31)(w:AA):
  BI Tryz.prog 164 #[.int .u32 p,.int .i64 (-(n:Int))] w fun e w' =>V4 (.int .u32 (rt4 p n)) w w' e:=by
 have n0:(1:Int)≤(n:Int):=by omega
 have n1:(n:Int)≤31:=by omega
 have ha:=V54 n h1 h2;have D:Off [] w w:=Off.refl _ _
 go_enter Tryz.func164,Tryz.ntmps164
 go_upto_region 1 with fail;refine wp_region_lit ?_;refine Lv ?_;refine Lw ?_ (v:=.int .u64 (18446744073709551616-(n:Int))) (hv:=by go_simp;(try simp only[AI.wrap_u64,AI.wrap_i64]);(try omega));refine Lw ?_ (v:=.int .u64 (((32-n:Nat):Int))) (hv:=by first|(go_simp;done)|(go_simp;(try rw[ha]);(try omega)));refine Lv ?_;refine V5 ?_;go_upto_region 2 with fail;refine wp_region_lit ?_;refine Lv ?_;refine Lv ?_;refine Lw ?_ (v:=.int .u32 (sl4 p (32-n))) (hv:=Q98 (n:=(32-n)) (by omega) rfl rfl rfl);refine Lv ?_;refine Lv ?_;refine Lw ?_ (v:=.int .u64 ((n:Int))) (hv:=by go_simp;(try simp only[AI.wrap_u64,AI.wrap_i64]);(try omega));refine Lw ?_ (v:=.int .u32 (sr4 p n)) (hv:=J7v (n:=n) (by omega) rfl rfl rfl);refine Lw ?_ (v:=.int .u32 (oo4 (sl4 p (32-n)) (sr4 p n))) (hv:=Z3t rfl rfl rfl);refine Lv ?_;refine V5 ?_;go_wp2;exact BH (v:=.int .u32 (oo4 (sl4 p (32-n)) (sr4 p n))) (by simp only[results,Tryz.results164];go_simp) rfl ⟨congrArg (fun z=>Ending.returned (.int .u32 z)) (Y0e _ _),D.ext⟩
theorem Q0a (p:Int)(n:Nat)(h1:1≤n)(h2:n≤31)(w:AA):
  BI Tryz.prog 162 #[.int .u32 p,.int .i64 (n:Int)] w fun e w' =>V4 (.int .u32 (rt4 p n)) w w' e:=by
 have n0:(1:Int)≤(n:Int):=by omega
 have n1:(n:Int)≤31:=by omega
 have D:Off [] w w:=Off.refl _ _
 go_enter Tryz.func162,Tryz.ntmps162
 go_upto_region 1 with fail;refine wp_region_lit ?_;refine Lv ?_;refine Lv ?_;refine Lw ?_ (v:=.int .i64 (-(n:Int))) (hv:=by go_simp;(try simp only[AI.wrap_u64,AI.wrap_i64]);(try omega));refine Lr ?_ (Y4f p n h1 h2 w);intro W1 hO;replace D:=D.o hO;clear hO;refine Lv ?_;refine V5 ?_;go_wp2;exact BH (v:=.int .u32 (rt4 p n)) (by simp only[results,Tryz.results162];go_simp) rfl ⟨rfl,D.ext⟩
theorem Y0f (p:Int)(a b c:Nat)(ha:1≤a∧a≤31)(hb:1≤b∧b≤31)(hc:1≤c∧c≤31)(w:AA):
  BI Tryz.prog 154 #[.int .u32 p,.int .i64 (a:Int),.int .i64 (b:Int),.int .i64 (c:Int)] w fun e w' =>V4 (.int .u32 (J9f p a b c)) w w' e:=by
 have D:Off [] w w:=Off.refl _ _
 go_enter Tryz.func154,Tryz.ntmps154
 go_upto_region 1 with fail;refine wp_region_lit ?_;refine Lv ?_;refine Lv ?_;refine Lr ?_ (Q0a p a (by omega) (by omega) w);intro W1 hO;replace D:=D.o hO;clear hO;refine Lv ?_;refine Lv ?_;refine Lr ?_ (Q0a p b (by omega) (by omega) W1);intro W2 hO;replace D:=D.o hO;clear hO;refine Lw ?_ (v:=.int .u32 (xo4 (rt4 p a) (rt4 p b))) (hv:=J59 rfl rfl rfl);refine Lv ?_;refine Lv ?_;refine Lr ?_ (Q0a p c (by omega) (by omega) W2);intro W3 hO;replace D:=D.o hO;clear hO;refine Lw ?_ (v:=.int .u32 (xo4 (xo4 (rt4 p a) (rt4 p b)) (rt4 p c))) (hv:=J59 rfl rfl rfl);refine Lv ?_;refine V5 ?_;go_wp2;exact BH (v:=.int .u32 (xo4 (xo4 (rt4 p a) (rt4 p b)) (rt4 p c))) (by simp only[results,Tryz.results154];go_simp) rfl ⟨rfl,D.ext⟩
theorem Q99 (p:Int)(a b c:Nat)(ha:1≤a∧a≤31)(hb:1≤b∧b≤31)(hc:1≤c∧c≤31)(w:AA):
  BI Tryz.prog 161 #[.int .u32 p,.int .i64 (a:Int),.int .i64 (b:Int),.int .i64 (c:Int)] w fun e w' =>V4 (.int .u32 (J1q p a b c)) w w' e:=by
 have D:Off [] w w:=Off.refl _ _
 go_enter Tryz.func161,Tryz.ntmps161
 go_upto_region 1 with fail;refine Rx 12 ?_;refine Xv ?_;refine Xv ?_;refine Xf ?_ (fun W hW=>Q0a p a (by omega) (by omega) W);refine Xv ?_;refine Xv ?_;refine Xf ?_ (fun W hW=>Q0a p b (by omega) (by omega) W);refine Xw ?_ (v:=.int .u32 (xo4 (rt4 p a) (rt4 p b))) (hv:=fun _ _=>J59 rfl rfl rfl);refine Xv ?_;refine Xv ?_;refine Xw ?_ (v:=.int .u32 (sr4 p c)) (hv:=fun _ _=>J7v (n:=c) (by omega) rfl rfl rfl);refine Xw ?_ (v:=.int .u32 (xo4 (xo4 (rt4 p a) (rt4 p b)) (sr4 p c))) (hv:=fun _ _=>J59 rfl rfl rfl);refine Xv ?_;refine J0o fun W1 hE=> ?_;have hO:=J1v hE;replace D:=D.o hO;clear hO hE;refine LN ?_;go_wp2;exact BH (v:=.int .u32 (xo4 (xo4 (rt4 p a) (rt4 p b)) (sr4 p c))) (by simp only[results,Tryz.results161];go_simp) rfl ⟨rfl,D.ext⟩
end

section
set_option maxHeartbeats 1500000
attribute [local irreducible] wpList K1 wpX

theorem Y4g {w:AA}{o:AF}{a:Act}{x:AW}{c:UInt8}(ho:o.op=.convert 5 197 x)(hx:a.eval x=.int .u8 (c.toNat:Int)):(AV a.eval o).run Tryz.prog w=.ok (.value (.int .u32 (c.toNat:Int))) w:=by
 have hc:=c.toNat_lt;have hw:AI.wrap .u32 (c.toNat:Int)=(c.toNat:Int):=by rw[AI.wrap_u32];omega
 simp[AV,ho,hx,convert,run_underlying Tryz.underlying5,run_underlying Tryz.underlying197,Ah,Conv.intToInt,hw]
theorem Z5z {w:AA}{o:AF}{a:Act}{x y:AW}{adr:Addr}{n c:Nat}(hl:64≤n)(hn:n≤c)(ho:o.op=.slice 45 x none (some y) none)(hx:a.eval x=.slice (some adr) n c)(hy:a.eval y=.int .i64 64):(AV a.eval o).run Tryz.prog w=.ok (.value (.slice (some adr) 64 c)) w:=by
 have J:64≤c:=by omega
 have G:¬c=0:=by omega
 have h1:=J6j;have D:adr.add 0=adr:=by unfold Addr.add;simp
 cases hq:Tryz.prog.info? 5 with
 |none=>simp[hq] at h1
 |some i=>simp[AV,ho,hx,hy,Instr.sliceAt,Instr.slice,Instr.sliceBounds,Instr.sliceBound,asIntOf,run_underlying Tryz.underlying45,Ah,sizeOf,typeInfo,hq,J,G,D];intro h_;omega
def J36 (b:Nat→Int)(i:Nat):Nat→Int
 |0=>0
 |k+1=>oo4 (sl4 (J36 b i k) 8) (b (4*i+k))
def sg4 (f:Nat→Int)(i:Nat):Int:=ad4 (ad4 (ad4 (f (i-16)) (J1q (f (i-15)) 7 18 3)) (f (i-7))) (J1q (f (i-2)) 17 19 10)
def Q0 (b:Nat→Int):Nat→Nat→Int
 |0=>fun _=>0
 |i+1=>upd (Q0 b i) i (if i<16 then J36 b i 4 else sg4 (Q0 b i) i)
theorem Z3u {b:Nat→Int}{i:Nat}(h:16≤i):upd (Q0 b i) i (sg4 (Q0 b i) i)=Q0 b (i+1):=by
 show _=upd (Q0 b i) i (if i<16 then J36 b i 4 else sg4 (Q0 b i) i);rw[if_neg (by omega)]
theorem Z3v (b:Nat→Int):∀i,i≤16→∀j,Q0 b i j=if j<i then J36 b j 4 else 0
 |0,_,j=>by simp[Q0]
 |i+1,h,j=>by
  show upd (Q0 b i) i (if i<16 then J36 b i 4 else sg4 (Q0 b i) i) j=_;rw[if_pos (by omega)];unfold upd
  by_cases hj:j=i
  ·
   rw[if_pos hj,if_pos (by omega),hj]
  ·
   rw[if_neg hj,Z3v b i (by omega) j]
   by_cases hl:j<i
   ·
    rw[if_pos hl,if_pos (by omega)]
   ·
    rw[if_neg hl,if_neg (by omega)]
def J6p (b:Nat→Int)(n j:Nat):Int:=if j<n / 4 then J36 b j 4 else if j=n / 4 then J36 b j (n % 4) else 0
theorem Z60 (b:Nat→Int)(n:Nat):upd (J6p b n) (n / 4) (oo4 (sl4 (J6p b n (n / 4)) 8) (b n))=J6p b (n+1):=by
 funext j
 have e:J6p b n (n / 4)=J36 b (n / 4) (n % 4):=by unfold J6p;rw[if_neg (by omega),if_pos rfl]
 have hb:b n=b (4*(n / 4)+n % 4):=by rw[Nat.div_add_mod]
 rw[e,hb];show(if j=n / 4 then J36 b (n / 4) (n % 4+1) else J6p b n j)=J6p b (n+1) j;unfold J6p
 by_cases hm:n % 4=3
 ·
  have h1:(n+1) / 4=n / 4+1:=by omega
  have h2:(n+1) % 4=0:=by omega
  rw[h1,h2,hm]
  by_cases hj:j=n / 4
  ·
   rw[if_pos hj,if_pos (by omega),hj]
  rw[if_neg hj]
  by_cases hl:j<n / 4
  ·
   rw[if_pos hl,if_pos (by omega)]
  rw[if_neg hl,if_neg hj,if_neg (by omega)]
  split
  ·
   rfl
  rfl
 have h1:(n+1) / 4=n / 4:=by omega
 have h2:(n+1) % 4=n % 4+1:=by omega
 rw[h1,h2]
 by_cases hj:j=n / 4
 ·
  rw[if_pos hj,if_neg (by omega),if_pos hj,hj]
 rw[if_neg hj]
 by_cases hl:j<n / 4
 ·
  rw[if_pos hl,if_pos hl]
 rw[if_neg hl,if_neg hj,if_neg hl,if_neg hj]
theorem Y0g (b:Nat→Int):J6p b 64=Q0 b 16:=by
 funext j
 rw[Z3v b 16 (AM _) j];unfold J6p
 by_cases h:j<16
 ·
  rw[if_pos (by omega),if_pos h]
 rw[if_neg (by omega),if_neg h]
 split
 ·
  rename_i h2;rw[show 64 % 4=0 by rfl];rfl
 rfl
theorem Z61 (b:Nat→Int):J6p b 0=fun _=>0:=by
 funext j
 unfold J6p;rw[if_neg (by omega)]
 split<;>rfl

theorem Z62 (l:List UInt8)(adr:Addr)(c:Nat)(hl:64≤l.length)(hc:l.length≤c)(w:AA)(hs:Sl w (.slice (some adr) l.length c) l):
  BI Tryz.prog 153 #[.slice (some adr) l.length c] w fun e w' =>V4 (.agg (J0 .u32 64 (Q0 (bt l) 64))) w w' e:=by
 have hS:=SH.nil [] w
 go_enter Tryz.func153,Tryz.ntmps153
 go_upto_region 0 with fail;refine RL hS ?_;clear hS;refine MN (z:=J0 .u32 64 (fun _=>0)) (t:=213) ?_;intro K9;refine MZ fun W hS=> ?_;go_upto_region 1 with fail;refine RL hS ?_;clear hS;refine MN (z:=J0 .u32 64 (fun _=>0)) (t:=213) ?_;intro D;refine MZ fun W hS=> ?_;go_upto_region 2 with fail;refine RL hS ?_;clear hS;refine MV ?_;refine MW ?_ (v:=.slice (some adr) 64 c) (hv:=fun _=>Z5z hl hc rfl rfl rfl);refine MW ?_ (v:=.int .i64 64);refine W0 ?_;refine MZ fun W hS=> ?_
 go_wp2_with fail
 go_loopw [9] (fun ii wr=> ∃(n:Nat),(n≤64)∧(ii=.int .i64 (n:Int))∧SH [] w wr [.b D (J0 .u32 64 (J6p (bt l) n)) 213,.b K9 (J0 .u32 64 (fun _=>0)) 213])
  (fun ii _=>64-(intOf ii).toNat)
 case atStart=>exact⟨0,An _,rfl,(by rw[Z61];exact hS)⟩
 clear hS
 case round=>
  obtain⟨n,hn,rfl,hS⟩:=hrel
  by_cases G:n<64
  ·
   go_upto_region 3 with fail;refine RL hS ?_;clear hS;refine Wt ?_;refine MZ fun W hS=> ?_;go_upto_region 5 with fail;refine RX 14 hS ?_;clear hS;refine MV ?_;refine MW ?_ (v:=.int .i64 (((n / 4:Nat):Int))) (hv:=by intro W;go_simp;(try simp only[AI.wrap_u64,AI.wrap_i64]);(try omega));refine MV ?_;refine MW ?_ (v:=.int .i64 (((n / 4:Nat):Int))) (hv:=by intro W;go_simp;(try simp only[AI.wrap_u64,AI.wrap_i64]);(try omega));refine MW ?_ (v:=.pointer (some ⟨D,0+(n / 4),none⟩)) (hv:=fun _=>X3 Tryz.underlying213 (by omega));refine MG 0 ?_ (j:=0+(n / 4)) (v:=.int .u32 ((J6p (bt l) n) (n / 4))) (hj:=ag0 (by omega));refine MW ?_ (v:=.int .u32 (sl4 ((J6p (bt l) n) (n / 4)) 8)) (hv:=fun _=>Q98 (n:=8) (by decide) rfl rfl rfl);refine MV ?_;refine MV ?_;refine MW ?_ (v:=.pointer (some (adr.add n))) (hv:=fun _=>J9n (j:=n) (by omega) rfl rfl rfl);refine MF (v:=.int .u8 ((l.getD n 0).toNat:Int)) (fun W hS=>V6 rfl rfl (J9o (J3j hs hS.ext) (J1h (by omega))) (by kernel_rfl)) ?_;refine MW ?_ (v:=.int .u32 (bt l n)) (hv:=by intro W;exact Y4g rfl rfl);refine MW ?_ (v:=.int .u32 (oo4 (sl4 ((J6p (bt l) n) (n / 4)) 8) (bt l n))) (hv:=fun _=>Z3t rfl rfl rfl);refine MW ?_ (v:=.pointer (some ⟨D,0+(n / 4),none⟩)) (hv:=fun _=>X3 Tryz.underlying213 (by omega));refine MZt ?_;refine MP 0 (v:=.int .u32 (oo4 (sl4 ((J6p (bt l) n) (n / 4)) 8) (bt l n))) (cs' :=J0 .u32 64 (upd (J6p (bt l) n) (n / 4) (oo4 (sl4 ((J6p (bt l) n) (n / 4)) 8) (bt l n)))) ?_ (hs:=by rw[J1,AP];omega) (hc:=by rw[AP];exact Y9 _ _ _ _ _);refine MZn fun W hS=> ?_;go_wp2;go_roundw
   case rel=>exact⟨n+1,by omega,by go_num,(by rw[←Z60];exact hS)⟩
   case measure=>simp[intOf];omega
  obtain rfl:n=64:=by omega
  rw[Y0g] at hS;go_upto_region 3 with fail;refine RL hS ?_;clear hS;refine Wf ?_;refine MZ fun W hS=> ?_
  go_wp2_with fail
  go_loopw [5] (fun ii wr=> ∃(i:Nat),(16≤i∧i≤64)∧(ii=.int .i64 (i:Int))∧SH [] w wr [.b D (J0 .u32 64 (Q0 (bt l) i)) 213,.b K9 (J0 .u32 64 (fun _=>0)) 213])
   (fun ii _=>64-(intOf ii).toNat)
  case atStart=>exact⟨16,⟨AM _,by decide⟩,rfl,hS⟩
  clear hS
  case round=>
   obtain⟨i,⟨hi,M⟩,rfl,hS⟩:=hrel
   by_cases J:i<64
   ·
    go_upto_region 8 with fail;refine RL hS ?_;clear hS;refine MV ?_;refine Wt ?_;refine MZ fun W hS=> ?_;go_upto_region 10 with fail;refine RX 23 hS ?_;clear hS;refine MV ?_;refine MV ?_;refine MW ?_ (v:=.int .i64 (((i-16:Nat):Int))) (hv:=by intro W;go_simp;(try simp only[AI.wrap_u64,AI.wrap_i64]);(try omega));refine MW ?_ (v:=.pointer (some ⟨D,0+(i-16),none⟩)) (hv:=fun _=>X3 Tryz.underlying213 (by omega));refine MG 0 ?_ (j:=0+(i-16)) (v:=.int .u32 ((Q0 (bt l) i) (i-16))) (hj:=ag0 (by omega));refine MV ?_;refine MW ?_ (v:=.int .i64 (((i-15:Nat):Int))) (hv:=by intro W;go_simp;(try simp only[AI.wrap_u64,AI.wrap_i64]);(try omega));refine MW ?_ (v:=.pointer (some ⟨D,0+(i-15),none⟩)) (hv:=fun _=>X3 Tryz.underlying213 (by omega));refine MG 0 ?_ (j:=0+(i-15)) (v:=.int .u32 ((Q0 (bt l) i) (i-15))) (hj:=ag0 (by omega));refine MC (v:=.int .u32 (J1q ((Q0 (bt l) i) (i-15)) 7 18 3)) (fun W hS=>Q99 ((Q0 (bt l) i) (i-15)) 7 18 3 (by decide) (by decide) (by decide) W) ?_;refine MW ?_ (v:=.int .u32 (ad4 ((Q0 (bt l) i) (i-16)) (J1q ((Q0 (bt l) i) (i-15)) 7 18 3))) (hv:=fun _=>J3d rfl rfl rfl);refine MV ?_;refine MW ?_ (v:=.int .i64 (((i-7:Nat):Int))) (hv:=by intro W;go_simp;(try simp only[AI.wrap_u64,AI.wrap_i64]);(try omega));refine MW ?_ (v:=.pointer (some ⟨D,0+(i-7),none⟩)) (hv:=fun _=>X3 Tryz.underlying213 (by omega));refine MG 0 ?_ (j:=0+(i-7)) (v:=.int .u32 ((Q0 (bt l) i) (i-7))) (hj:=ag0 (by omega));refine MW ?_ (v:=.int .u32 (ad4 (ad4 ((Q0 (bt l) i) (i-16)) (J1q ((Q0 (bt l) i) (i-15)) 7 18 3)) ((Q0 (bt l) i) (i-7)))) (hv:=fun _=>J3d rfl rfl rfl);refine MV ?_;refine MW ?_ (v:=.int .i64 (((i-2:Nat):Int))) (hv:=by intro W;go_simp;(try simp only[AI.wrap_u64,AI.wrap_i64]);(try omega));refine MW ?_ (v:=.pointer (some ⟨D,0+(i-2),none⟩)) (hv:=fun _=>X3 Tryz.underlying213 (by omega));refine MG 0 ?_ (j:=0+(i-2)) (v:=.int .u32 ((Q0 (bt l) i) (i-2))) (hj:=ag0 (by omega));refine MC (v:=.int .u32 (J1q ((Q0 (bt l) i) (i-2)) 17 19 10)) (fun W hS=>Q99 ((Q0 (bt l) i) (i-2)) 17 19 10 (by decide) (by decide) (by decide) W) ?_;refine MW ?_ (v:=.int .u32 (ad4 (ad4 (ad4 ((Q0 (bt l) i) (i-16)) (J1q ((Q0 (bt l) i) (i-15)) 7 18 3)) ((Q0 (bt l) i) (i-7))) (J1q ((Q0 (bt l) i) (i-2)) 17 19 10))) (hv:=fun _=>J3d rfl rfl rfl);refine MW ?_ (v:=.pointer (some ⟨D,0+i,none⟩)) (hv:=fun _=>X3 Tryz.underlying213 (by omega));refine MZt ?_;refine MP 0 (v:=.int .u32 (ad4 (ad4 (ad4 ((Q0 (bt l) i) (i-16)) (J1q ((Q0 (bt l) i) (i-15)) 7 18 3)) ((Q0 (bt l) i) (i-7))) (J1q ((Q0 (bt l) i) (i-2)) 17 19 10))) (cs' :=J0 .u32 64 (upd (Q0 (bt l) i) i (ad4 (ad4 (ad4 ((Q0 (bt l) i) (i-16)) (J1q ((Q0 (bt l) i) (i-15)) 7 18 3)) ((Q0 (bt l) i) (i-7))) (J1q ((Q0 (bt l) i) (i-2)) 17 19 10)))) ?_ (hs:=by rw[J1,AP];omega) (hc:=by rw[AP];exact Y9 _ _ _ _ _);refine MZn fun W hS=> ?_;go_wp2;go_roundw
    case rel=>exact⟨i+1,⟨by omega,by omega⟩,by go_num,(by rw[←Z3u hi];exact hS)⟩
    case measure=>simp[intOf];omega
   obtain rfl:i=64:=by omega
   go_upto_region 8 with fail;refine RL hS ?_;clear hS;refine MV ?_;refine Wf ?_;refine MZ fun W hS=> ?_;go_upto_region 11 with fail;refine RL hS ?_;clear hS;refine ML 0 ?_;refine MR 1 ?_;refine MZ fun W hS=> ?_;go_wp2;refine BH (Z5 rfl rfl (hS.blk (i:=1) rfl) (by kernel_rfl) (by rw[J1];kernel_rfl)) rfl ⟨rfl,hS.ext⟩
end
end Go.Proofs.YtdjacgmmidbieaaGreatDoor

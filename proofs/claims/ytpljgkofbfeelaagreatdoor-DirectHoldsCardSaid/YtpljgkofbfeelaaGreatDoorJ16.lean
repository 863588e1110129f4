/- Contracts and plain laws for directHolds_holds. Conditions: the tables hold their numbers. -/
import Derived.Test.YtpljgkofbfeelaaGreatDoorJ15
open Go renaming World->AA,Value->AB,bodyPost_ret->BC,execOp->AQ,Calls->Az,IntKind->AG
open Go.IntKind renaming wrap_i64->BD,wrap_u64->AH
open Go.Sem renaming run_bind->Ad
open _root_.List renaming length_append->Ai,length_cons->AV,mem_singleton->Ae,nil_append->BM,append_nil->Aj,append_assoc->Ak,length_nil->Al,getElem?_eq_getElem->Af,length_drop->AW,length_replicate->BE,map_cons->AX,map_nil->Ag
open _root_.Nat renaming le_refl->AJ,zero_le->Ah,le_trans->AZ,zero_add->AL,add_zero->Ao,mul_one->AO
open Go.RowKit
set_option maxRecDepth 100000
set_option linter.unusedSimpArgs false
set_option linter.unusedVariables false
namespace Go.Proofs.YtpljgkofbfeelaaGreatDoor
section

theorem J8o {w:AA}{ad:Addr}{n c:Nat}{l:List UInt8}(h:Sl w (.slice (some ad) n c) l):∀j u,(bs8 l)[j]?=some u→w.cell? (ad.add j)=some u:=fun j u hu=>by
  simp only[bs8,List.getElem?_map,Option.map_eq_some_iff] at hu;obtain⟨x,hx,rfl⟩:=hu;exact Q4l h hx
theorem Z18 (w:AA){l:List UInt8}{cap n:Nat}{z:Array AB}(hn:n=l.length)(hc:l.length≤cap)(hm:cap≤maxLen):Sl (w.drew.alloc (.cells ((bs8 l).toArray++z) 5)) (.slice (some ⟨w.heap.size,0,none⟩) n cap) l:=
  Y11 (cs:=(bs8 l).toArray++z) (t:=5) (by exact heap_alloc_new w.drew _) hn (by omega) hm fun j x hj=>by
    have h1:=Q7r hj;have h2:j<(bs8 l).length:=(List.getElem?_eq_some_iff.1 h1).1;rw[AL,Array.getElem?_append_left (by simpa using h2)]
    simpa using h1
theorem Q2c (w:AA)(ty:TypeId){A:Option Addr}{u:AB}{l m:List UInt8}(hv:Sl w (.slice A l.length l.length) l)(hu:Sl w u m)(hlen:l.length+m.length≤140737488355328):
    ∃v' W,(Builtin.append_ #[22,22] ty #[.slice A l.length l.length,u]).run Tryz.prog w=.ok v' W∧Sl W v' (l++m)∧Off [] w W∧((m=[]∧v' =.slice A l.length l.length)∨v'.ownBlock=some w.heap.size):=by
  obtain⟨i,hi,hz,G,T⟩:=info_parts J5p;have ht:=Tryz.underlying22;obtain⟨B,c,rfl,hc,hm,h0,J⟩:=id hu
  by_cases N:m=[]
  · subst N
    refine⟨_,w,?_,by rw[Aj];exact hv,Off.refl _ _,.inl ⟨rfl,rfl⟩⟩;cases A<;>cases B<;>simp[Builtin.append_,run_underlying ht,sizeOf,typeInfo,hi,Builtin.lenOf,Builtin.firstCells,storeCells,loadCells,loadCellsFrom]
  have R:0<m.length:=List.length_pos_iff.2 N;rcases B with _|ad
  · obtain⟨ad,h,_⟩:=J 0 m[0] (Af R);cases h
  have M:=fun o=>grownCap_ge w (l.length+m.length) o 5;have U:=fun o=>grownCap_le_maxLen w (l.length+m.length) o 5 (by unfold maxLen;omega);rcases A with _|b
  · have hl:l=[]:=by
      cases l with
      |nil=>rfl
      |cons x r=>obtain⟨_,_,h,_,_,_,D⟩:=hv;obtain⟨ad,h2,_⟩:=D 0 x rfl;cases h;cases h2
    subst hl;have hr:=run_append_nil (P:=Tryz.prog) (w:=w) 22 ty 5 i (.int .u8 0) ht hi hz ad m.length c (bs8 m) (by rw[Q9,G,AO]) (J8o hu) R (by omega) (by rw[T];omega);refine⟨_,_,hr,?_,J1t ((Below.refl _ _).drew.alloc (AJ _) _),.inr rfl⟩;have hg:=M 0;have S:=U 0;simp only[Al,AL] at hg S;exact Z18 w rfl hg S
  have hr:=run_append_grow (P:=Tryz.prog) (w:=w) 22 ty 5 i (.int .u8 0) ht hi hz b l.length l.length (bs8 l) (by rw[Q9,G,AO]) (J8o hv) ad m.length c (bs8 m) (by rw[Q9,G,AO]) (J8o hu) (by omega) (by omega) (by rw[T];exact growslice_fits (by omega) (by omega));refine⟨_,_,hr,?_,J1t ((Below.refl _ _).drew.alloc (AJ _) _),.inr rfl⟩;rw[show(bs8 l).toArray++(bs8 m).toArray=(bs8 (l++m)).toArray by rw[J49];simp];exact Z18 w (by rw[Ai]) (by rw[Ai];exact M _) (U _)
theorem Z8d {w:AA}{v:AB}{l:List UInt8}(hs:Sl w v l):∃A,(∀W,(Instr.sliceAt 22 v none (some (.int .i64 (l.length:Int))) (some (.int .i64 (l.length:Int)))).run Tryz.prog W=.ok (.slice A l.length l.length) W)∧Sl w (.slice A l.length l.length) l∧(∀x,(AB.slice A l.length l.length).ownBlock=some x→v.ownBlock=some x):=by
  obtain⟨A,c,rfl,h1,h2,h0,h3⟩:=hs
  have hA:A.map (fun a:Addr=>a.add 0)=A:=by
    have:∀a:Addr,a.add 0=a:=fun a=>by unfold Addr.add;simp
    cases A<;>simp[this]
  refine⟨A,fun W=> ?_,⟨A,l.length,rfl,AJ _,AZ h1 h2,fun h=> ?_,h3⟩,fun x hx=>by cases A<;>exact hx⟩
  · have D:l.length≤c:=h1
    have h1:=J59;cases hq:Tryz.prog.info? 5 with
    |none=>simp[hq] at h1
    |some i=>simp[Instr.sliceAt,Instr.slice,Instr.sliceBounds,Instr.sliceBound,asIntOf,run_underlying Tryz.underlying22,Ad,sizeOf,typeInfo,hq,D,hA]
  have:=h0 h;omega
end

section
section
variable {ops : Array Oper} {k : Wk} {Q : Exit → Act → AA → Prop} {F : List Nat} {w : AA} {H : List As} {l : List Oper} {o : Oper} {a : Act}
theorem MQ (i:Nat){x y z:Operand}{v:Value}{m:List UInt8}{a' :Value→Act}(h:∀A,wpM Tryz.prog ops k F w (.s (.slice A m.length m.length) m::H) l (a' (.slice A m.length m.length)))(hi:H[i]?=some (.s v m):=by exact rfl)(hw:Region.wanted o (yielded ops a.tmps)=true:=by exact rfl)
    (ho:o.op=.slice 22 x none (some y) (some z):=by exact rfl) (hx:a.eval x=v:=by exact rfl) (hy:a.eval y=.int .i64 (m.length:Int):=by exact rfl) (hz:a.eval z=.int .i64 (m.length:Int):=by exact rfl) (hp:∀v,a.put o.dst v=a' v:=by intro b;first|exact pl (by dsimp only[mB,mC];first|done|exact rfl)|exact pn|exact rfl):wpM Tryz.prog ops k F w H (o::l) a:=by
  intro W hS;obtain⟨A,hr,h1,h2⟩:=Z8d (hS.sl hi)
  have hS' :=hS.sub hi h1 fun x hx=>by
    have hm:m≠[]:=fun e=>by subst e;unfold sb at hx;rw[if_pos rfl] at hx;cases hx
    unfold sb;rw[if_neg hm];exact h2 x (J3d hx)
  have D:∀W,(AQ a.eval o).run Tryz.prog W=.ok (.value (.slice A m.length m.length)) W:=fun W=>by simp[AQ,ho,hx,hy,hz,hr W,Ad]
  cases k with
  |L Q=>exact J3s hw (D W) (by rw[hp];exact h A W hS')
  |X E=>exact J4e hw (fun W' _=>D W') (by rw[hp];exact h A W hS')
theorem MAt (i:Nat){s x:Operand}{A:Option Addr}{u:Value}{xs ys:List UInt8}{a' :Value→Act}(hsl:∀W,SH F w W H→Sl W u ys)(hlen:xs.length+ys.length≤140737488355328)(h:∀v',wpM Tryz.prog ops (.L Q) F w (.s v' (xs++ys)::H) l (a' v'))(hi:H[i]?=some (.s (.slice A xs.length xs.length) xs):=by exact rfl)(hw:Region.wanted o (yielded ops a.tmps)=true:=by exact rfl)
    (ho:o.op=.call {callee:=.builtin .append,args:= #[s,x],argTypes:= #[22,22]}:=by exact rfl) (hs:a.eval s=.slice A xs.length xs.length:=by exact rfl) (hx:a.eval x=u:=by exact rfl)
    (hp:∀v,a.put o.dst v=a' v:=by intro b;first|exact pl (by dsimp only[mB,mC];first|done|exact rfl)|exact pn|exact rfl):wpM Tryz.prog ops (.L Q) F w H (o::l) a:=by
  intro W hS;obtain⟨v',W',D,h1,h2,h3⟩:=Q2c W o.type (hS.sl hi) (hsl W hS) hlen
  have hS' :SH F w W' (.s v' (xs++ys)::H):=by
    rcases h3 with⟨e1,e2⟩|h3
    · subst e1 e2
      refine(hS.next h2).sub hi h1 ?_;rw[Aj];exact J2n
    refine hS.newS h2 h1 fun k hk=> ?_;have:=J3d hk;rw[h3] at this;exact Nat.le_of_eq (Option.some.inj this)
  refine J38 hw (v:=v') (W:=W') ?_ (by rw[hp];exact h v' W' hS');unfold AQ;simp only[ho,resolve,invoke,builtin,Ad,Sem.run_pure,Result.andThen_ok,List.map_toArray,AX,Ag,hs,hx,D]
end
theorem Z19 (h:Nat→Int)(L m:List UInt8)(u:AB)(hl:64≤L.length)(hm:m=L.take 64)(w:AA)(hs:Sl w u m)(hG:GS4 w):Az Tryz.prog 156 #[.agg (J0 .u32 8 h),u] w fun e w' =>V5 (.agg (J0 .u32 8 (J7o h (bt L)))) w w' e:=by
  have G:m.length=64:=by rw[hm,List.length_take];omega
  obtain⟨ad,c,rfl,_⟩:=Q7t hs (by omega);have D:m.length≤c:=by obtain⟨A,c',e,h1,_⟩:=hs;injection e with _ _ e;omega
  have hc:=Y3v h m ad c (by omega) D w hs hG
  rw[show J7o h (bt L)=J7o h (bt m) from Q5b fun j hj=>by
    unfold bt;rw[hm,List.getD_eq_getElem?_getD,List.getD_eq_getElem?_getD,List.getElem?_take_of_lt hj]]
  exact hc
abbrev gs4:As:=.p [14,11] GS4
theorem Q1n {w:AA}(h:GS4 w):gs4.holds w:=
  ⟨h,fun k hk=>by
    rcases List.mem_cons.1 hk with rfl|hk
    · exact h.1.2
    · rw[Ae.1 hk];exact h.2.2,fun W hs he=>⟨J39 h.1 hs (he _ (by simp)),J39 h.2 hs (he _ (by simp))⟩⟩
end

section
set_option maxHeartbeats 1500000
attribute [local irreducible] wpList Z9 wpX
theorem Q3z (p:Nat)(v u:AB)(F b:List UInt8)(hlen:F.length+b.length≤140737488355200)(w:AA)(h_:SH (SH.feet [.b p (hcs v F) 260,.o v (hr4 F),.s u b,gs4]) w w [.b p (hcs v F) 260,.o v (hr4 F),.s u b,gs4]):
  Az Tryz.prog 112 #[.pointer (some ⟨p,0,none⟩),u] w fun e w' => ∃v',e=.returned (.tuple #[])∧SH (SH.feet [.b p (hcs v F) 260,.o v (hr4 F),.s u b,gs4]) w w' [.b p (hcs v' (F++b)) 260,.o v' (hr4 (F++b)),.s u b,gs4]:=by
 have R:=Z3g F;have hS:=h_;clear h_
 go_enter Tryz.func112,Tryz.ntmps112
 go_upto_region 1 with fail;refine RL hS ?_;clear hS;(iterate 3 refine MV ?_);refine MG 0 ?_ (v:=.int .i64 (F.length:Int)) (hj:=Z15);refine MV ?_;refine MF (v:=.int .i64 (b.length:Int)) (fun W hS=>Q8 (hS.sl (i:=2) rfl) rfl rfl) ?_;refine MW ?_ (v:=.int .i64 ((F++b).length:Int)) (hv:=by intro W;go_simp;(try simp only[Ai,AG.wrap_i64]);(try omega));refine MV ?_;refine MV ?_;refine MP 0 (v:=.int .i64 ((F++b).length:Int)) (cs' :=hc8 (hw4 F) v (.int .i64 ((F++b).length:Int))) ?_ (hs:=by rw[Q8s];decide) (hc:=Z16);refine MZ fun W hS=> ?_;go_upto_region 2 with fail;refine RX 16 hS ?_;clear hS;(iterate 3 refine MV ?_);refine MG 0 ?_ (v:=v) (hj:=Q3q);(iterate 3 refine MV ?_);refine MG 0 ?_ (v:=v) (hj:=Q3q);refine MF (v:=.int .i64 ((hr4 F).length:Int)) (fun W hS=>Q8 (hS.osl (i:=1) rfl) rfl rfl) ?_;(iterate 3 refine MV ?_);refine MG 0 ?_ (v:=v) (hj:=Q3q);refine MF (v:=.int .i64 ((hr4 F).length:Int)) (fun W hS=>Q8 (hS.osl (i:=1) rfl) rfl rfl) ?_;refine MT (fun W hS=>hS.read (i:=1) rfl (hS.osl (i:=1) rfl) J2n) ?_;refine MQ 1 ?_;intro X;refine MV ?_;refine MZt ?_;refine MAt 0 (xs:=hr4 F) (ys:=b) (fun W hS=>(hS.sl (i:=3) rfl)) (by omega) ?_;intro T;refine MV ?_;refine MZn fun W hS=> ?_;rw[Z6o F b] at hS
 go_wp2_with fail
 go_loopw [4] (fun sv wr=> ∃(k:Nat)(a:AB),(64*k≤(hr4 F++b).length)∧(a=sv)∧SH (SH.feet [.b p (hcs v F) 260,.o v (hr4 F),.s u b,gs4]) w wr [.b p (hc8 (Hs4 (F++b) (F.length / 64+k)) v (.int .i64 ((F++b).length:Int))) 260,.s a (List.drop (64*k) (hr4 F++b)),.s u b,gs4])
  (fun sv _=>Q2q sv)
 case atStart=>exact⟨0,_,Ah _,rfl,(hS.pick [2,0,4,5])⟩
 clear hS
 case round=>
  obtain⟨k,a,hk,rfl,hS⟩:=hrel;have lb:=J6p (hS.sl (i:=1) rfl)
  by_cases hz:64≤(List.drop (64*k) (hr4 F++b)).length
  ·
   go_upto_region 3 with fail;refine RL hS ?_;clear hS;refine MV ?_;refine MF (v:=.int .i64 ((List.drop (64*k) (hr4 F++b)).length:Int)) (fun W hS=>Q8 (hS.sl (i:=1) rfl) rfl rfl) ?_;refine MW ?_ (v:=.bool true) (hv:=by intro W;have D:=hz;simp only[AW,Ai] at D;go_simp;omega);refine MZ fun W hS=> ?_;go_upto_region 4 with fail;refine RX 10 hS ?_;clear hS;(iterate 4 refine MV ?_);refine Ml 0 Z14 ?_;refine MV ?_;refine MH 1 64 (m' :=(List.take 64 (List.drop (64*k) (hr4 F++b)))) (by exact hz) ?_;intro N;refine MC (v:=.agg (J0 .u32 8 (J7o (Hs4 (F++b) (F.length / 64+k)) (bt (List.drop (64*k) (hr4 F++b)))))) (fun W hS=>Z19 (Hs4 (F++b) (F.length / 64+k)) (List.drop (64*k) (hr4 F++b)) (List.take 64 (List.drop (64*k) (hr4 F++b))) N hz rfl W (hS.sl (i:=0) rfl) (hS.pp (i:=4) rfl)) ?_;refine MV ?_;refine MV ?_;refine MZt ?_;refine Mr 1 (new:=hc8 (J7o (Hs4 (F++b) (F.length / 64+k)) (bt (List.drop (64*k) (hr4 F++b)))) v (.int .i64 ((F++b).length:Int))) Z17 ?_ (hs:=by rw[Q8s,J1];decide);refine MZn fun W hS=> ?_;go_upto_region 5 with fail;refine RL hS ?_;clear hS;refine MV ?_;refine Mt 2 64 (m' :=(List.drop (64*(k+1)) (hr4 F++b))) (by exact hz) ?_ (hm:=Q5c _ _);intro S;refine MV ?_;refine MZ fun W hS=> ?_;have la:=J6p (hS.sl (i:=0) rfl);simp only[AW] at la lb hz;rw[Y3x] at hS;go_wp2;go_roundw
   case rel=>exact⟨k+1,_,by omega,rfl,(hS.pick [2,0,4,5])⟩
   case measure=>simp only[la,lb];omega
  go_upto_region 3 with fail;refine RL hS ?_;clear hS;refine MV ?_;refine MF (v:=.int .i64 ((List.drop (64*k) (hr4 F++b)).length:Int)) (fun W hS=>Q8 (hS.sl (i:=1) rfl) rfl rfl) ?_;refine MW ?_ (v:=.bool false) (hv:=by intro W;have D:=hz;simp only[AW,Ai] at D;go_simp;omega);refine MZ fun W hS=> ?_;obtain⟨J,M⟩:=Y80 (F:=F) (b:=b) (k:=k) (by simp only[AW] at hz;omega);rw[J,M] at hS;clear J M;have U:=Z3g (F++b);go_upto_region 6 with fail;refine RL hS ?_;clear hS;refine MV ?_;refine MO (m:=[]) (n:=0) (z:= #[]) ?_;intro V;refine MV ?_;refine MA 0 (xs:=[]) (ys:=(hr4 (F++b))) (fun W hS=>(hS.sl (i:=2) rfl)) (by first|omega|(simp only[Ai,AW,Al];omega)) ?_;intro G;refine MT (fun W hS=>by rw[BM] at hS;exact hS) ?_;refine MV ?_;refine MV ?_;refine MP 1 (v:=G) (cs' :=hc8 (hw4 (F++b)) G (.int .i64 ((F++b).length:Int))) ?_ (hv:=fun W hS=>J6 (hS.osl (i:=0) rfl)) (hs:=by rw[Q8s];decide) (hc:=Z3f);refine MZ fun W hS=> ?_;go_wp2;exact bodyPost_end (v:=.tuple #[]) (by simp only[results,Tryz.results112];go_simp) rfl ⟨_,rfl,hS.pick [1,0,3,4]⟩
end

section
set_option maxHeartbeats 1500000
attribute [local irreducible] wpList Z9 wpX
theorem Q3r {w:AA}{o:Oper}{a:Act}{x:Operand}{p:Int}(ho:o.op=.convert 257 5 x)(hx:a.eval x=.int .u32 p):(AQ a.eval o).run Tryz.prog w=.ok (.value (.int .u8 (w8 p))) w:=by
 simp[AQ,ho,hx,convert,run_underlying Tryz.underlying5,run_underlying Tryz.underlying257,Ad,Conv.intToInt,w8]
theorem Y81 {w:AA}:(isAgg 257).run Tryz.prog w=.ok false w:=by
 simp[isAgg,run_underlying Tryz.underlying257,Ad]
theorem K1d (x:Int):sr4 x 0=x:=by unfold sr4;simp

theorem Z3s (p:Nat)(v:AB)(F:List UInt8)(hlen:F.length≤70368744177664)(w:AA)(hkB:Blk w p (hcs v F) 260)(hrS:Sl w v (hr4 F))(hG:GS4 w):
  Az Tryz.prog 113 #[.pointer (some ⟨p,0,none⟩)] w fun e w' =>V5 (.agg (J0 .u8 32 (sm4 F))) w w' e:=by
 have HG:=Lib.hid hG;clear hG;have hS:=SH.nil [] w;have α:=Z3g F;have hN:zc4 (hr4 F).length=zc4 F.length:=by rw[J7p,Y3y]
 have Y:=(J8p (hr4 F).length).2;obtain⟨PD,N⟩:∃PD,PD=(J07 F).drop (64*(F.length / 64)):=⟨_,rfl⟩
 have J:PD.length=64*nb4 (hr4 F).length:=by have h1:=Q2t F;have h2:=Z1a F;rw[N,AW,h1];omega
 have M:=Lib.hid N;clear N
 go_enter Tryz.func113,Tryz.ntmps113
 go_upto_region 0 with fail;refine RL hS ?_;clear hS;refine MN (z:=J0 .u8 32 (fun _=>0)) (t:=23) ?_;intro K9;refine MZ fun W hS=> ?_;go_upto_region 3 with fail;refine RL hS ?_;clear hS;refine MO (m:=[]) (n:=0) (z:= #[]) ?_;intro ζ;(iterate 3 refine MV ?_);refine MF (v:=v) (fun W hS=>Q6 rfl rfl (by rw[J3 (J4 hkB hS.ext)];exact Q3q) (by kernel_rfl)) ?_;refine MA 0 (xs:=[]) (ys:=(hr4 F)) (fun W hS=>(K4 hrS hS.ext)) (by first|omega|(simp only[Ai,AV,Al,BE,AW,J3i];omega)) ?_;intro ε;refine MT (fun W hS=>by rw[BM] at hS;exact hS) ?_;refine MO (m:=[128]) (n:=1) (z:= #[.int .u8 128]) ?_;intro Z;refine MA 1 (xs:=(hr4 F)) (ys:=[128]) (fun W hS=>(hS.osl (i:=0) rfl)) (by first|omega|(simp only[Ai,AV,Al,BE,AW,J3i];omega)) ?_;intro δ;refine MV ?_;refine MZ fun W hS=> ?_
 go_wp2_with fail
 go_loopw [3] (fun sv wr=> ∃(k:Nat)(bv:AB),(k≤zc4 (hr4 F).length)∧(bv=sv)∧SH [] w wr [.o bv (hr4 F++[128]++List.replicate k 0),.b K9 (J0 .u8 32 (fun _=>0)) 23])
  (fun sv _=>F.length+300-Q2q sv)
 case atStart=>exact⟨0,_,Ah _,rfl,(by have h_:=(hS.pick [1,2]);rw[List.replicate_zero,Aj];exact h_)⟩
 clear hS
 case round=>
  obtain⟨k,bv,hk,rfl,hS⟩:=hrel;have lb:=J6p (hS.osl (i:=0) rfl)
  by_cases hz:k<zc4 (hr4 F).length
  ·
   have U:=Y3z hz;go_upto_region 4 with fail;refine RL hS ?_;clear hS;refine MV ?_;refine MF (v:=.int .i64 ((hr4 F++[128]++List.replicate k 0).length:Int)) (fun W hS=>Q8 (hS.osl (i:=0) rfl) rfl rfl) ?_;refine MW ?_ (v:=.int .i64 ((((hr4 F).length+1+k) % 64:Nat):Int)) (hv:=by intro W;go_simp;(try simp only[Ai,AV,Al,BE]);rw[Int.tmod_eq_emod_of_nonneg (by omega)];omega);refine MW ?_ (v:=.bool true) (hv:=by intro W;go_simp;omega);refine MZ fun W hS=> ?_;go_upto_region 5 with fail;refine RL hS ?_;clear hS;refine MV ?_;refine MO (m:=[0]) (n:=1) (z:= #[.int .u8 0]) ?_;intro γ;refine MA 1 (xs:=(hr4 F++[128]++List.replicate k 0)) (ys:=[0]) (fun W hS=>(hS.osl (i:=0) rfl)) (by first|omega|(simp only[Ai,AV,Al,BE,AW,J3i];omega)) ?_;intro θ;refine MV ?_;refine MZ fun W hS=> ?_;have la:=J6p (hS.osl (i:=1) rfl);simp only[Ai,AV,Al,BE] at la lb;go_wp2;go_roundw
   case rel=>exact⟨k+1,_,by omega,rfl,(by have h_:=(hS.pick [1,2]);rw[Ak _ (List.replicate k 0),←List.replicate_succ'] at h_;exact h_)⟩
   case measure=>simp only[la,lb];omega
  obtain rfl:k=zc4 (hr4 F).length:=by omega
  have U:=(J8p (hr4 F).length).1;go_upto_region 4 with fail;refine RL hS ?_;clear hS;refine MV ?_;refine MF (v:=.int .i64 ((hr4 F++[128]++List.replicate (zc4 (hr4 F).length) 0).length:Int)) (fun W hS=>Q8 (hS.osl (i:=0) rfl) rfl rfl) ?_;refine MW ?_ (v:=.int .i64 ((((hr4 F).length+1+zc4 (hr4 F).length) % 64:Nat):Int)) (hv:=by intro W;go_simp;(try simp only[Ai,AV,Al,BE]);rw[Int.tmod_eq_emod_of_nonneg (by omega)];omega);refine MW ?_ (v:=.bool false) (hv:=by intro W;first|(go_simp;done)|(go_simp;omega));refine MZ fun W hS=> ?_
  go_wp2_with fail
  go_loopw [3,4] (fun sv ii wr=> ∃(k:Nat)(bv:AB),(k≤8)∧(bv=sv)∧(ii=.int .i64 (7-(k:Int)))∧SH [] w wr [.o bv (hr4 F++[128]++List.replicate (zc4 (hr4 F).length) 0++bk (8*F.length) k),.b K9 (J0 .u8 32 (fun _=>0)) 23])
   (fun sv ii _=>(intOf ii+1).toNat)
  case atStart=>exact⟨0,_,Ah _,rfl,rfl,(by rw[V0s];exact hS)⟩
  clear hS
  case round=>
   obtain⟨k,bv,hk,rfl,rfl,hS⟩:=hrel
   by_cases R:k<8
   ·
    go_upto_region 7 with fail;refine RL hS ?_;clear hS;refine MV ?_;refine MW ?_ (v:=.bool true) (hv:=by intro W;go_simp;omega);refine MZ fun W hS=> ?_;go_upto_region 9 with fail;refine RL hS ?_;clear hS;(iterate 4 refine MV ?_);refine MF (v:=.int .i64 (F.length:Int)) (fun W hS=>Q6 rfl rfl (by rw[J3 (J4 hkB hS.ext)];exact Z15) (by kernel_rfl)) ?_;refine MW ?_ (v:=.int .u64 ((F.length:Nat):Int)) (hv:=by intro W;go_simp;(try simp only[AG.wrap_u64]);omega);refine MW ?_ (v:=.int .u64 ((8*F.length:Nat):Int)) (hv:=by intro W;rw[show((8*F.length:Nat):Int)=sl ((F.length:Nat):Int) 3 from(by unfold sl;rw[AG.wrap_u64];omega)];exact Q3k (n:=3) (by decide) rfl rfl rfl);refine MV ?_;refine MW ?_ (v:=.int .i64 (((8*(7-k):Nat):Int))) (hv:=by intro W;go_simp;(try simp only[AG.wrap_u64,AG.wrap_i64]);(try omega));refine MW ?_ (v:=.int .u64 (sr ((8*F.length:Nat):Int) (8*(7-k)))) (hv:=fun _=>J95 (n:=8*(7-k)) (by omega) rfl rfl rfl);refine MW ?_ (v:=.int .u8 ((u8 ((8*F.length) / 2^(8*(7-k)))).toNat:Int)) (hv:=by intro W;rw[←Y30 (8*F.length) (8*(7-k)) _ rfl];exact Z33 rfl rfl);refine MO (m:=[u8 ((8*F.length) / 2^(8*(7-k)))]) (n:=1) (z:= #[.int .u8 ((u8 ((8*F.length) / 2^(8*(7-k)))).toNat:Int)]) ?_;intro β;refine MA 1 (xs:=(hr4 F++[128]++List.replicate (zc4 (hr4 F).length) 0++bk (8*F.length) k)) (ys:=[u8 ((8*F.length) / 2^(8*(7-k)))]) (fun W hS=>(hS.osl (i:=0) rfl)) (by first|omega|(simp only[Ai,AV,Al,BE,AW,J3i];omega)) ?_;intro T;refine MV ?_;refine MZ fun W hS=> ?_;go_wp2;go_roundw
    case rel=>exact⟨k+1,T,by omega,rfl,by first|go_num|(go_simp;omega),(by rw[V0t];exact(hS.pick [1,2]))⟩
    case measure=>simp[intOf];omega
   obtain rfl:k=8:=by omega
   rw[V0u] at hS;go_upto_region 7 with fail;refine RL hS ?_;clear hS;refine MV ?_;refine MW ?_ (v:=.bool false) (hv:=by intro W;first|(go_simp;done)|(go_simp;omega));refine MZ fun W hS=> ?_;go_upto_region 10 with fail;refine RL hS ?_;clear hS;(iterate 3 refine MV ?_);refine MF (v:=.agg (J0 .u32 8 (hw4 F))) (fun W hS=>V4 rfl rfl (fun i v hv=>by rw[J3 (J4 hkB hS.ext)];exact Z14 i v hv) (by kernel_rfl) (by first|kernel_rfl|(rw[J1];kernel_rfl))) ?_;refine MN (z:=J0 .u32 8 (fun _=>0)) (t:=258) ?_;intro V;refine MR 0 ?_;refine MZ fun W hS=> ?_;rw[hN,←Z8e,←M.out] at hS;rw[Y82 F] at hS;have hS:=hS.read (i:=1) rfl (hS.osl (i:=1) rfl) J2n
   go_wp2_with fail
   go_loopw [3] (fun sv wr=> ∃(j:Nat)(u:AB),(j≤nb4 (hr4 F).length)∧(u=sv)∧SH [] w wr [.b V (J0 .u32 8 (Hs4 (J07 F) (F.length / 64+j))) 258,.s u (List.drop (64*j) PD),.b K9 (J0 .u8 32 (fun _=>0)) 23])
    (fun sv _=>Q2q sv)
   case atStart=>exact⟨0,_,Ah _,rfl,hS⟩
   clear hS
   case round=>
    obtain⟨j,u,hj,rfl,hS⟩:=hrel;have lb:=J6p (hS.sl (i:=1) rfl)
    by_cases S:j<nb4 (hr4 F).length
    ·
     have G:64≤(List.drop (64*j) PD).length:=by rw[AW,J];omega
     go_upto_region 11 with fail;refine RL hS ?_;clear hS;refine MV ?_;refine MF (v:=.int .i64 ((List.drop (64*j) PD).length:Int)) (fun W hS=>Q8 (hS.sl (i:=1) rfl) rfl rfl) ?_;refine MW ?_ (v:=.bool true) (hv:=by intro W;go_simp;(try simp only[AW,J]);omega);refine MZ fun W hS=> ?_;go_upto_region 13 with fail;refine RX 4 hS ?_;clear hS;refine ML 0 ?_;refine MV ?_;refine MH 1 64 (m:=(List.drop (64*j) PD)) (m' :=(List.take 64 (List.drop (64*j) PD))) (by exact G) ?_;intro X;refine MC (v:=.agg (J0 .u32 8 (J7o (Hs4 (J07 F) (F.length / 64+j)) (bt (List.drop (64*j) PD))))) (fun W hS=>Z19 (Hs4 (J07 F) (F.length / 64+j)) (List.drop (64*j) PD) (List.take 64 (List.drop (64*j) PD)) X G rfl W (hS.sl (i:=0) rfl) (J0h HG.out hS.ext)) ?_;refine MZt ?_;refine MR 1 ?_;refine MZn fun W hS=> ?_;go_upto_region 12 with fail;refine RL hS ?_;clear hS;refine MV ?_;refine Mt 2 64 (m:=(List.drop (64*j) PD)) (m' :=(List.drop (64*(j+1)) PD)) (by exact G) ?_ (hm:=Q5c _ _);intro η;refine MV ?_;refine MZ fun W hS=> ?_;have la:=J6p (hS.sl (i:=0) rfl);simp only[AW,J] at la lb;rw[M.out,Z8f,←M.out] at hS;go_wp2;go_roundw
     case rel=>exact⟨j+1,_,by omega,rfl,(hS.pick [2,0,4])⟩
     case measure=>simp only[la,lb];omega
    obtain rfl:j=nb4 (hr4 F).length:=by omega
    rw[Z1a] at hS;go_upto_region 11 with fail;refine RL hS ?_;clear hS;refine MV ?_;refine MF (v:=.int .i64 ((List.drop (64*nb4 (hr4 F).length) PD).length:Int)) (fun W hS=>Q8 (hS.sl (i:=1) rfl) rfl rfl) ?_;refine MW ?_ (v:=.bool false) (hv:=by intro W;first|(go_simp;done)|(go_simp;(try simp only[AW,J]);omega));refine MZ fun W hS=> ?_;go_upto_region 14 with fail;refine RL hS ?_;clear hS;refine MN (z:=J0 .u8 32 (fun _=>0)) (t:=23) ?_;intro D;refine MZ fun W hS=> ?_;go_upto_region 15 with fail;refine RL hS ?_;clear hS;refine ML 1 ?_;refine W0 ?_;refine MZ fun W hS=> ?_
    go_wp2_with fail
    go_loopw [59] (fun ii wr=> ∃(i:Nat),(i≤8)∧(ii=.int .i64 (i:Int))∧SH [] w wr [.b D (J0 .u8 32 (J7v (Hs4 (J07 F) (nb4 F.length)) (4*i))) 23,.b K9 (J0 .u8 32 (fun _=>0)) 23])
     (fun ii _=>8-(intOf ii).toNat)
    case atStart=>exact⟨0,Ah _,rfl,(by rw[Nat.mul_zero,Z3h];exact(hS.pick [0,3]))⟩
    clear hS
    case round=>
     obtain⟨i,hi,rfl,hS⟩:=hrel
     by_cases h8:i<8
     ·
      go_upto_region 16 with fail;refine RL hS ?_;clear hS;refine Wt ?_;refine MZ fun W hS=> ?_;go_upto_region 17 with fail;refine RL hS ?_;clear hS;refine MV ?_;refine MW ?_ (v:=.int .u32 (Hs4 (J07 F) (nb4 F.length) i)) (hv:=fun _=>Q8o (m:=8) h8 Tryz.underlying258 (by kernel_rfl) Y81 rfl rfl rfl);refine MV ?_;refine MV ?_;refine MZ fun W hS=> ?_;go_upto_region 18 with fail;refine RL hS ?_;clear hS;refine MV ?_;refine MW ?_ (v:=.int .i64 (((4*i:Nat):Int))) (hv:=by intro W;go_simp;(try simp only[AG.wrap_u64,AG.wrap_i64]);(try omega));refine MV ?_;refine MW ?_ (v:=.int .i64 (((4*i:Nat):Int))) (hv:=by intro W;go_simp;(try simp only[AG.wrap_u64,AG.wrap_i64]);(try omega));refine MW ?_ (v:=.int .i64 (((4*i+1:Nat):Int))) (hv:=by intro W;go_simp;(try simp only[AG.wrap_u64,AG.wrap_i64]);(try omega));refine MV ?_;refine MW ?_ (v:=.int .i64 (((4*i:Nat):Int))) (hv:=by intro W;go_simp;(try simp only[AG.wrap_u64,AG.wrap_i64]);(try omega));refine MW ?_ (v:=.int .i64 (((4*i+2:Nat):Int))) (hv:=by intro W;go_simp;(try simp only[AG.wrap_u64,AG.wrap_i64]);(try omega));refine MV ?_;refine MW ?_ (v:=.int .i64 (((4*i:Nat):Int))) (hv:=by intro W;go_simp;(try simp only[AG.wrap_u64,AG.wrap_i64]);(try omega));refine MW ?_ (v:=.int .i64 (((4*i+3:Nat):Int))) (hv:=by intro W;go_simp;(try simp only[AG.wrap_u64,AG.wrap_i64]);(try omega));refine MV ?_;refine MW ?_ (v:=.int .u32 (sr4 (Hs4 (J07 F) (nb4 F.length) i) 24)) (hv:=fun _=>J8m (n:=24) (by decide) rfl rfl rfl);refine MW ?_ (v:=.int .u8 (w8 (sr4 (Hs4 (J07 F) (nb4 F.length) i) 24))) (hv:=by intro W;exact Q3r rfl rfl);refine MV ?_;refine MW ?_ (v:=.int .u32 (sr4 (Hs4 (J07 F) (nb4 F.length) i) 16)) (hv:=fun _=>J8m (n:=16) (by decide) rfl rfl rfl);refine MW ?_ (v:=.int .u8 (w8 (sr4 (Hs4 (J07 F) (nb4 F.length) i) 16))) (hv:=by intro W;exact Q3r rfl rfl);refine MV ?_;refine MW ?_ (v:=.int .u32 (sr4 (Hs4 (J07 F) (nb4 F.length) i) 8)) (hv:=fun _=>J8m (n:=8) (by decide) rfl rfl rfl);refine MW ?_ (v:=.int .u8 (w8 (sr4 (Hs4 (J07 F) (nb4 F.length) i) 8))) (hv:=by intro W;exact Q3r rfl rfl);refine MV ?_;refine MW ?_ (v:=.int .u8 (w8 (sr4 (Hs4 (J07 F) (nb4 F.length) i) 0))) (hv:=by intro W;rw[K1d];exact Q3r rfl rfl);refine MW ?_ (v:=.pointer (some ⟨D,0+(4*i),none⟩)) (hv:=fun _=>rxa Tryz.underlying23 (by omega));refine MP 0 (v:=.int .u8 (w8 (sr4 (Hs4 (J07 F) (nb4 F.length) i) 24))) (cs' :=J0 .u8 32 (J7v (Hs4 (J07 F) (nb4 F.length)) (4*i+1))) ?_ (hs:=by rw[J1,AL];omega) (hc:=by rw[AL,V1];exact congrArg (J0 .u8 32) (J7q (Hs4 (J07 F) (nb4 F.length)) i 0 (by decide)));refine MW ?_ (v:=.pointer (some ⟨D,0+(4*i+1),none⟩)) (hv:=fun _=>rxa Tryz.underlying23 (by omega));refine MP 0 (v:=.int .u8 (w8 (sr4 (Hs4 (J07 F) (nb4 F.length) i) 16))) (cs' :=J0 .u8 32 (J7v (Hs4 (J07 F) (nb4 F.length)) (4*i+2))) ?_ (hs:=by rw[J1,AL];omega) (hc:=by rw[AL,V1];exact congrArg (J0 .u8 32) (J7q (Hs4 (J07 F) (nb4 F.length)) i 1 (by decide)));refine MW ?_ (v:=.pointer (some ⟨D,0+(4*i+2),none⟩)) (hv:=fun _=>rxa Tryz.underlying23 (by omega));refine MP 0 (v:=.int .u8 (w8 (sr4 (Hs4 (J07 F) (nb4 F.length) i) 8))) (cs' :=J0 .u8 32 (J7v (Hs4 (J07 F) (nb4 F.length)) (4*i+3))) ?_ (hs:=by rw[J1,AL];omega) (hc:=by rw[AL,V1];exact congrArg (J0 .u8 32) (J7q (Hs4 (J07 F) (nb4 F.length)) i 2 (by decide)));refine MW ?_ (v:=.pointer (some ⟨D,0+(4*i+3),none⟩)) (hv:=fun _=>rxa Tryz.underlying23 (by omega));refine MP 0 (v:=.int .u8 (w8 (sr4 (Hs4 (J07 F) (nb4 F.length) i) 0))) (cs' :=J0 .u8 32 (J7v (Hs4 (J07 F) (nb4 F.length)) (4*i+4))) ?_ (hs:=by rw[J1,AL];omega) (hc:=by rw[AL,V1];exact congrArg (J0 .u8 32) (J7q (Hs4 (J07 F) (nb4 F.length)) i 3 (by decide)));refine MZ fun W hS=> ?_;go_wp2;go_roundw
      case rel=>exact⟨i+1,by omega,by go_num,(by rw[show 4*(i+1)=4*i+4 by omega];exact hS)⟩
      case measure=>simp[intOf];omega
     obtain rfl:i=8:=by omega
     rw[show 4*8=32 by rfl,Z8g] at hS;go_upto_region 16 with fail;refine RL hS ?_;clear hS;refine Wf ?_;refine MZ fun W hS=> ?_;go_upto_region 20 with fail;refine RL hS ?_;clear hS;refine ML 0 ?_;refine MR 1 ?_;refine MZ fun W hS=> ?_;go_wp2;refine BC (Z6 rfl rfl (hS.blk (i:=1) rfl) (by kernel_rfl) (by rw[J1];kernel_rfl)) rfl ⟨rfl,hS.ext⟩
theorem V5n (ps:List (List UInt8))(A:Option Addr)(c:Nat)(F:List UInt8)(hF:ps.flatten=F)(hlen:F.length≤70368744177664)(hpn:ps.length≤9223372036854775000)(w:AA)(hps:∀i l,ps[i]?=some l→∃ad u,A=some ad∧w.cell? (ad.add i)=some u∧Sl w u l)(hG:GS4 w):
  Az Tryz.prog 62 #[.slice A ps.length c] w fun e w' =>V5 (.agg (J0 .u8 32 (sm4 F))) w w' e:=by
 have HG:=Lib.hid hG;have R:=Lib.hid hps;clear hG hps;have hS:=SH.nil [] w
 go_enter Tryz.func62,Tryz.ntmps62
 go_upto_region 0 with fail;refine RL hS ?_;clear hS;refine MN (z:=J0 .u8 32 (fun _=>0)) (t:=23) ?_;intro K9;refine MZ fun W hS=> ?_;go_upto_region 1 with fail;refine RL hS ?_;clear hS;refine ME (fun W hS=>(Z96 W (J0h HG.out hS.ext)).mono fun e W' ⟨p,h1,h2,h3,h4⟩=>⟨p,h1,(hS.new (x:=.b p _ _) h3 h4.1 (fun k hk=>by rw[Ae.1 hk];exact h2) rfl rfl).onil rfl⟩) ?_;intro p6;refine MV ?_;refine MZ fun W hS=> ?_;go_upto_region 2 with fail;refine RL hS ?_;clear hS;refine MV ?_;refine MV ?_;refine W0 ?_;refine MZ fun W hS=> ?_
 go_wp2_with fail
 go_loopw [9] (fun ii wr=> ∃(i:Nat)(bv:AB),(i≤ps.length)∧(ii=.int .i64 (i:Int))∧SH [] w wr [.b p6 (hcs bv (List.take i ps).flatten) 260,.o bv (hr4 (List.take i ps).flatten),.b K9 (J0 .u8 32 (fun _=>0)) 23])
  (fun ii _=>ps.length-(intOf ii).toNat)
 case atStart=>exact⟨0,(.slice none 0 0),Ah _,rfl,(by rw[List.take_zero,List.flatten_nil];exact(hS.pick [1,0,2]))⟩
 clear hS
 case round=>
  obtain⟨i,bv,hi,rfl,hS⟩:=hrel
  by_cases D:i<ps.length
  ·
   obtain⟨l_,G⟩:∃l,ps[i]?=some l:=⟨_,Af D⟩
   obtain⟨T,u_,S,J,M⟩:=R.out i l_ G;have U:(List.take i ps).flatten.length+l_.length≤F.length:=by rw[←hF,←Ai,←J5c G];exact Q40 _ _
   go_upto_region 3 with fail;refine RL hS ?_;clear hS;refine Wt ?_;refine MZ fun W hS=> ?_;go_upto_region 4 with fail;refine RL hS ?_;clear hS;refine MW ?_ (v:=.pointer (some (T.add i))) (hv:=fun _=>Q78 (j:=i) D rfl (by rw[←S];rfl) rfl);refine MF (v:=u_) (fun W hS=>Q6 rfl rfl (J19 J hS.ext) (by kernel_rfl)) ?_;refine MV ?_;refine MZ fun W hS=> ?_;go_upto_region 5 with fail;refine RL hS ?_;clear hS;refine MV ?_;refine MV ?_;refine ME (V:=fun _=> .tuple #[]) (fun W hS=>Z97 [2,3,1,0] [4] ((hS.ent M).entp (Q1n HG.out)) (fun hS=>Q3z p6 bv u_ (List.take i ps).flatten l_ (by omega) W hS) (fun _=>⟨.inr ⟨rfl,rfl⟩,.inr ⟨rfl,rfl⟩,.inl (by simp),.inl (by simp),trivial⟩)) ?_;intro N;refine MD 2 ?_;refine MD 2 ?_;refine MZ fun W hS=> ?_;go_wp2;go_roundw
   case rel=>exact⟨i+1,N,by omega,by go_num,(by rw[J5c G];exact hS)⟩
   case measure=>simp[intOf];omega
  obtain rfl:i=ps.length:=by omega
  rw[List.take_length,hF] at hS;go_upto_region 3 with fail;refine RL hS ?_;clear hS;refine Wf ?_;refine MZ fun W hS=> ?_;go_upto_region 7 with fail;refine RL hS ?_;clear hS;refine MV ?_;refine MC (v:=.agg (J0 .u8 32 (sm4 F))) (fun W hS=>Z3s p6 bv F hlen W (hS.blk (i:=0) rfl) (hS.osl (i:=1) rfl) (J0h HG.out hS.ext)) ?_;refine MR 2 ?_;refine MZ fun W hS=> ?_;go_wp2;refine BC (Z6 rfl rfl (hS.blk (i:=2) rfl) (by kernel_rfl) (by rw[J1];kernel_rfl)) rfl ⟨rfl,hS.ext⟩
end

section
attribute [local irreducible] wpList Z9 wpX
def lf (k v:Nat):Array AB:=J0 .u8 32 (J2 k)++J0 .u8 32 (J2 v)
section
variable {k v : Nat}
theorem J06:(lf k v).size=64:=by unfold lf;rw[Array.size_append,J1,J1]
theorem Q85:(lf k v).all (·.oneCell')=true:=by unfold lf;rw[Array.all_append,J0b,J0b];rfl
theorem Z2j:∀i u,(J0 .u8 32 (J2 k))[i]?=some u→(lf k v)[0+i]?=some u:=fun i u h=>by rw[AL];exact J2p h
theorem V3l:∀i u,(J0 .u8 32 (J2 v))[i]?=some u→(lf k v)[32+i]?=some u:=fun i u h=>J69 (J1 _ _ _) h
end
def pfc (s:AB)(th:Bool)(a x:Nat):Array AB:= #[s,.bool th]++lf a x
section
variable {s : AB} {th : Bool} {a x : Nat}
theorem J6c:(pfc s th a x).size=66:=by unfold pfc;rw[Array.size_append,J06];rfl
theorem V3m (h:s.oneCell' =true):(pfc s th a x).all (·.oneCell')=true:=by unfold pfc;rw[Array.all_append,Q85];simp[h];rfl
theorem Z04:(pfc s th a x)[0]?=some s:=by unfold pfc;rw[Array.getElem?_append_left (by simp)];rfl
theorem Z05:(pfc s th a x)[1]?=some (.bool th):=by unfold pfc;rw[Array.getElem?_append_left (by simp)];rfl
theorem V8f:∀i v,(lf a x)[i]?=some v→(pfc s th a x)[2+i]?=some v:=fun i v h=>by unfold pfc;exact J69 rfl h
theorem Y1r:∀i v,(J0 .u8 32 (J2 a))[i]?=some v→(pfc s th a x)[2+i]?=some v:=fun i v h=>V8f i v (by have h_:=Z2j (v:=x) i v h;rwa [AL] at h_)
theorem V8g:∀i v,(J0 .u8 32 (J2 x))[i]?=some v→(pfc s th a x)[34+i]?=some v:=fun i v h=>by
 have h_:=V8f (s:=s) (th:=th) (32+i) v (V3l (k:=a) i v h)
 rwa [show 2+(32+i)=34+i by omega] at h_
end
section
variable {s : AB} {th : Bool} {a x k y : Nat} {v : AB}
theorem pfl (s:AB)(th:Bool)(a x:Nat):(pfc s th a x).toList=s:: .bool th::(lf a x).toList:=by unfold pfc;simp
end
abbrev Lf:=Nat×Nat
theorem Q9c {A B:Nat}(h:A=B)(w:AA):(Op.equalIn 10000 23 (.agg (J0 .u8 32 (J2 A))) (.agg (J0 .u8 32 (J2 B)))).run Tryz.prog w=.ok true w:=by
 subst h;rw[J1q (P:=Tryz.prog) w 9998 23 5 32 .u8 (J0 .u8 32 (J2 A)) (J0 .u8 32 (J2 A)) (J2 A) (J2 A) Tryz.underlying23 Tryz.underlying5 (by kernel_rfl) (fun i hi=>Z8 _ _ _ _ hi) (fun i hi=>Z8 _ _ _ _ hi)];rw[(J46 _ _ _).2 fun _ _=>rfl]
theorem eqB (d:Nat)(A B:Nat)(hA:A<2^256)(hB:B<2^256)(xs ys:Array AB)(hx:∀i,i<32→xs[i]?=some (.int .u8 (J2 A i)))(hy:∀i,i<32→ys[i]?=some (.int .u8 (J2 B i)))(w:AA):(Op.equalIn (d+2) 23 (.agg xs) (.agg ys)).run Tryz.prog w=.ok (decide (A=B)) w:=by
 rw[J1q (P:=Tryz.prog) w d 23 5 32 .u8 xs ys (J2 A) (J2 B) Tryz.underlying23 Tryz.underlying5 (by kernel_rfl) hx hy]
 congr 1
 rw[Bool.eq_iff_iff,J46,decide_eq_true_iff];exact⟨J8v hA hB,fun h=>by subst h;intro _ _;rfl⟩
theorem Z5f (A B:Nat)(hA:A<2^256)(hB:B<2^256)(w:AA):(Op.equalIn 10000 23 (.agg (J0 .u8 32 (J2 A))) (.agg (J0 .u8 32 (J2 B)))).run Tryz.prog w=.ok (decide (A=B)) w:=
 eqB 9998 A B hA hB _ _ (fun i hi=>Z8 _ _ _ _ hi) (fun i hi=>Z8 _ _ _ _ hi) w
end

section
set_option maxHeartbeats 1500000
attribute [local irreducible] wpList

theorem J37 (p:Int)(hp:W4 p)(n:Nat)(h1:1≤n)(h2:n≤31)(w:AA):
  Az Tryz.prog 136 #[.int .i64 p,.int .i64 (n:Int)] w fun e w' =>V5 (.int .i64 (rt4 p n)) w w' e:=by
 have n0:(1:Int)≤(n:Int):=by omega
 have n1:(n:Int)≤31:=by omega
 have hs:=V0y hp h1 h2;have ht:=Y4h hp h1 h2;clear hp;have D:Off [] w w:=Off.refl _ _
 go_enter Tryz.func136,Tryz.ntmps136
 go_upto_region 1 with fail;refine Rx 10 ?_;refine Xv ?_;refine Xv ?_;refine Xw ?_ (v:=.int .i64 (p / 2^n)) (hv:=fun _ _=>by exact J2c (n:=n) (by omega) rfl rfl rfl);refine Xv ?_;refine Xv ?_;refine Xw ?_ (v:=.int .i64 (((32-n:Nat):Int))) (hv:=fun _ _=>by go_simp;(try simp only[AG.wrap_u64,AG.wrap_i64]);(try omega));refine Xw ?_ (v:=.int .i64 (p*2^(32-n))) (hv:=fun _ _=>by rw[←hs];exact J9d (n:=32-n) (by omega) rfl rfl rfl);refine Xw ?_ (v:=.int .i64 (bits .or .i64 (p / 2^n) (p*2^(32-n)))) (hv:=fun _ _=>by exact Q1c rfl rfl rfl);refine Xw ?_ (v:=.int .i64 (rt4 p n)) (hv:=fun _ _=>by rw[←ht];exact J4c rfl rfl rfl);refine Xv ?_;refine J3r fun W1 hE=> ?_;have hO:=J1t hE;replace D:=D.o hO;clear hO hE;refine LN ?_;go_wp2;exact BC (v:=.int .i64 (rt4 p n)) (by simp only[results,Tryz.results136];go_simp) rfl ⟨rfl,D.ext⟩
end

section
def GR4 (w:AA):Prop:=Rd w 7 (J0 .i64 64 K6)∧Rd w 6 (J0 .i64 8 hf4)
theorem Q0h {w W:AA}(h:GR4 w)(e:Ext w W):GR4 W:=⟨h.1.ext e,h.2.ext e⟩
theorem Y4i:W4 0:=⟨by decide,by decide⟩
theorem V6e (l:List UInt8)(j:Nat):W4 (bt l j):=by have:=Q3w l j;unfold W4;omega
theorem Q72:∀(l:List Int) (i:Nat),l.all (fun x=>decide (0≤x∧x<4294967296))=true→W4 (l.getD i 0)
  |[],i,_=>by simp;exact Y4i
  |x::r,0,h=>by simp at h⊢;exact h.1
  |x::r,i+1,h=>by
    have h' :(r.all (fun x=>decide (0≤x∧x<4294967296)))=true:=by simp only[List.all_cons,Bool.and_eq_true] at h;exact h.2
    have:=Q72 r i h'
    simpa using this
theorem Y8n (i:Nat):W4 (K6 i):=Q72 _ _ (by decide)
theorem V6f (i:Nat):W4 (hf4 i):=Q72 _ _ (by decide)
theorem V0z {b:Nat→Int}(hb:∀j,W4 (b j))(i:Nat):∀k,W4 (J3j b i k)
  |0=>Y4i
  |k+1=>Y8l Y8m (hb _)
theorem Q93 {x:Int}(hx:W4 x)(p q r:Nat):W4 (J1z x p q r):=J51 (J51 (J2m hx) (J2m hx)) (Z3o hx)
theorem Q73 {x:Int}(hx:W4 x)(p q r:Nat):W4 (Q0i x p q r):=J51 (J51 (J2m hx) (J2m hx)) (J2m hx)
theorem V10 {f:Nat→Int}{i:Nat}{x:Int}(hf:∀j,W4 (f j))(hx:W4 x):∀j,W4 (upd f i x j):=fun j=>by unfold upd;split;exact hx;exact hf j
theorem Q74 {b:Nat→Int}(hb:∀j,W4 (b j)):∀i j,W4 (Q0 b i j)
  |0,_=>Y4i
  |i+1,j=>V10 (Q74 hb i) (by
      split
      · exact V0z hb i 4
      · exact Z3n) j
theorem V11 {k w v:Nat→Int}{i:Nat}(hv:∀j,W4 (v j)):∀j,W4 (Z1l k w i v j):=fun j=>by
  unfold Z1l
  split<;>first|exact Z3n|exact hv _|exact Y4i
theorem Q75 {k w v:Nat→Int}(hv:∀j,W4 (v j)):∀i j,W4 (Q1 k w v i j)
  |0,j=>hv j
  |i+1,j=>V11 (Q75 hv i) j
theorem V6g (P:List UInt8):∀j i,W4 (Hs4 P j i)
  |0,i=>V6f i
  |_+1,_=>Z3n
theorem V6h {h v:Nat→Int}(hh:∀j,W4 (h j))(i j:Nat):W4 (mx4 h v i j):=by unfold mx4;split;exact Z3n;exact hh j
/-! ### a word out of four bytes -/
theorem Z3p {x c:Int}(h0:0≤x)(h1:x<16777216)(hc0:0≤c)(hc1:c<256):oo4 (sl4 x 8) c=x*256+c:=by
  obtain⟨a,rfl⟩:=Int.eq_ofNat_of_zero_le h0;obtain⟨b,rfl⟩:=Int.eq_ofNat_of_zero_le hc0;have e:sl4 (a:Int) 8=((a*256:Nat):Int):=by unfold sl4;rw[AG.wrap_u32];omega
  have hb:b<2^8:=by omega
  rw[e,V0w (by omega) (by omega),Nat.mul_comm,show(256:Nat)=2^8 by decide,←Nat.two_pow_add_eq_or_of_lt hb];omega
theorem Y4j {b:Nat→Int}(hb:∀j,0≤b j∧b j≤255)(i:Nat):J3j b i 4=b (4*i)*16777216+b (4*i+1)*65536+b (4*i+2)*256+b (4*i+3):=by
  have h0:=hb (4*i);have h1:=hb (4*i+1);have h2:=hb (4*i+2);have h3:=hb (4*i+3)
  have e1:J3j b i 1=b (4*i):=by
    show oo4 (sl4 0 8) (b (4*i+0))=_;rw[Ao,Z3p (by omega) (by omega) (by omega) (by omega)];omega
  have e2:J3j b i 2=b (4*i)*256+b (4*i+1):=by
    show oo4 (sl4 (J3j b i 1) 8) (b (4*i+1))=_;rw[e1,Z3p (by omega) (by omega) (by omega) (by omega)]
  have e3:J3j b i 3=(b (4*i)*256+b (4*i+1))*256+b (4*i+2):=by
    show oo4 (sl4 (J3j b i 2) 8) (b (4*i+2))=_;rw[e2,Z3p (by omega) (by omega) (by omega) (by omega)]
  show oo4 (sl4 (J3j b i 3) 8) (b (4*i+3))=_;rw[e3,Z3p (by omega) (by omega) (by omega) (by omega)];omega
theorem Q3x (k:Nat){x c:Nat}(hk:k≤32)(hx:x<2^30)(hc:c<2^k):bits .or .i64 ((x*2^k:Nat):Int) (c:Int)=((x*2^k+c:Nat):Int):=by
  have h1:2^k≤2^32:=Nat.pow_le_pow_right (by decide) hk
  have h2:x*2^k<2^63:=by
    calc x*2^k≤x*2^32:=Nat.mul_le_mul_left _ h1
      _<2^63:=by omega
  rw[V6a h2 (Nat.lt_of_lt_of_le hc (AZ h1 (by decide))),Nat.mul_comm,←Nat.two_pow_add_eq_or_of_lt hc]
theorem Z8w {a b c d:Int}(ha:0≤a∧a≤255)(hb:0≤b∧b≤255)(hc:0≤c∧c≤255)(hd:0≤d∧d≤255):
    bits .or .i64 (bits .or .i64 (bits .or .i64 (a*2^24) (b*2^16)) (c*2^8)) d=a*16777216+b*65536+c*256+d:=by
  obtain⟨a,rfl⟩:=Int.eq_ofNat_of_zero_le ha.1;obtain⟨b,rfl⟩:=Int.eq_ofNat_of_zero_le hb.1;obtain⟨c,rfl⟩:=Int.eq_ofNat_of_zero_le hc.1;obtain⟨d,rfl⟩:=Int.eq_ofNat_of_zero_le hd.1;have e1:((a:Int)*2^24)=((a*2^24:Nat):Int):=by omega
  have e2:((b:Int)*2^16)=((b*2^16:Nat):Int):=by omega
  have e3:((c:Int)*2^8)=((c*2^8:Nat):Int):=by omega
  rw[e1,e2,e3,Q3x 24 (by decide) (by omega) (by omega),show a*2^24+b*2^16=(a*256+b)*2^16 by omega,Q3x 16 (by decide) (by omega) (by omega),
    show(a*256+b)*2^16+c*2^8=(a*65536+b*256+c)*2^8 by omega,Q3x 8 (by decide) (by omega) (by omega)]
  omega
/-! ### sums with one mask -/
theorem V12 (f:Nat→Int)(i:Nat):sg4 f i=(f (i-16)+J1z (f (i-15)) 7 18 3+f (i-7)+J1z (f (i-2)) 17 19 10) % 4294967296:=by
  unfold sg4;simp only[Q1m];generalize J1z (f (i-15)) 7 18 3=a;generalize J1z (f (i-2)) 17 19 10=b;omega
def rTs (k w:Nat→Int)(i:Nat)(v:Nat→Int):Int:=v 7+Q0i (v 4) 6 11 25+xo4 (an4 (v 4) (v 5)) (an4 (nt4 (v 4)) (v 6))+k i+w i
def rUs (v:Nat→Int):Int:=Q0i (v 0) 2 13 22+xo4 (xo4 (an4 (v 0) (v 1)) (an4 (v 0) (v 2))) (an4 (v 1) (v 2))
theorem Z8x (k w:Nat→Int)(i:Nat)(v:Nat→Int):rT4 k w i v=rTs k w i v % 4294967296:=by
  unfold rT4 rTs;simp only[Q1m];generalize Q0i (v 4) 6 11 25=a;generalize xo4 (an4 (v 4) (v 5)) (an4 (nt4 (v 4)) (v 6))=b;omega
theorem V13 (v:Nat→Int):rU4 v=rUs v % 4294967296:=by unfold rU4 rUs;rw[Q1m]
theorem V14 {k w v:Nat→Int}(i:Nat)(hk:W4 (k i))(hw:W4 (w i))(hv:∀j,W4 (v j)):0≤rTs k w i v∧rTs k w i v<21474836480:=by
  have h1:=hv 7;have h2:=Q73 (hv 4) 6 11 25;have h3:=J51 (J4l (hv 4) (hv 5)) (J4l (Z3m (hv 4)) (hv 6));unfold rTs W4 at*;omega
theorem V15 {v:Nat→Int}(hv:∀j,W4 (v j)):0≤rUs v∧rUs v<8589934592:=by
  have h2:=Q73 (hv 0) 2 13 22;have h3:=J51 (J51 (J4l (hv 0) (hv 1)) (J4l (hv 0) (hv 2))) (J4l (hv 1) (hv 2));unfold rUs W4 at*;omega
theorem K2b (k w:Nat→Int)(i:Nat)(v:Nat→Int):(rTs k w i v+rUs v) % 4294967296=Z1l k w i v 0:=by
  show _=ad4 (rT4 k w i v) (rU4 v);rw[Z8x,V13,Q1m];omega
theorem V6i (k w:Nat→Int)(i:Nat)(v:Nat→Int):(v 3+rTs k w i v) % 4294967296=Z1l k w i v 4:=by
  show _=ad4 (v 3) (rT4 k w i v);rw[Z8x,Q1m];omega
/-! ### the bytes of the words -/
def bo4 (H:Nat→Int)(j:Nat):UInt8:=u8 (ob4 H j).toNat
theorem Z8y (H:Nat→Int)(j:Nat):((bo4 H j).toNat:Int)=ob4 H j:=by
  have:=Y8q (sr4 (H (j / 4)) (8*(3-j % 4)));unfold bo4;rw[J62];unfold ob4;omega
theorem Q0j (H:Nat→Int)(i k:Nat)(hk:k<4):w8 (sr4 (H i) (8*(3-k)))=((bo4 H (4*i+k)).toNat:Int):=by
  rw[Z8y];unfold ob4;rw[show(4*i+k) / 4=i by omega,show(4*i+k) % 4=k by omega]
def wb4 (H:Nat→Int)(n:Nat):List UInt8:=(List.range n).map (bo4 H)
theorem J45 (H:Nat→Int)(n:Nat):(wb4 H n).length=n:=by simp[wb4]
theorem Z90 (H:Nat→Int)(i:Nat):wb4 H (4*i)++[bo4 H (4*i+0),bo4 H (4*i+1),bo4 H (4*i+2),bo4 H (4*i+3)]=wb4 H (4*(i+1)):=by
  unfold wb4;rw[show 4*(i+1)=4*i+3+1 by omega];simp only[List.range_succ,List.map_append,AX,Ag,Ak,Ao,List.cons_append,BM]
def Z1m (l:List UInt8):List UInt8:=wb4 (Hs4 (J07 l) (nb4 l.length)) 32
def hs4 (l:List UInt8):Nat:=le (Z1m l)
theorem Q2g (l:List UInt8):(Z1m l).length=32:=J45 _ _
theorem Z1n (l:List UInt8):(J0 .u8 32 (sm4 l)).toList=bs8 (Z1m l):=by
  unfold J0 bs8 Z1m wb4;rw[List.map_map];simp only[List.map_inj_left,Function.comp];intro j _;rw[Z8y];rfl
theorem Z3q (F:List UInt8):Z1m F=lb 32 (hs4 F):=(Q76 (Q2g F)).symm
theorem Z91 (F:List UInt8):J0 .u8 32 (sm4 F)=J0 .u8 32 (J2 (hs4 F)):=Q94 (by rw[Z1n,Z3q,J9s,J2v])
theorem J7y (F:List UInt8):hs4 F<2^256:=by have:=Q95 (Z1m F);rwa [Q2g] at this
end
end Go.Proofs.YtpljgkofbfeelaaGreatDoor

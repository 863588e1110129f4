/- Contracts and plain laws for bundleAny_holds. Conditions: the tables hold their numbers. -/
import Derived.Test.YtlkbneflnjmgbaaGreatDoorJ14
open Go.RowKit
set_option maxRecDepth 100000
set_option linter.unusedSimpArgs false
set_option linter.unusedVariables false
namespace Go.Proofs.YtlkbneflnjmgbaaGreatDoor
section

theorem J9d {w:World}{ad:Addr}{n c:Nat}{l:List UInt8}(h:Sl w (.slice (some ad) n c) l):∀j u,(bs8 l)[j]?=some u→w.cell? (ad.add j)=some u:=fun j u hu=>by
  simp only[bs8,List.getElem?_map,Option.map_eq_some_iff] at hu;obtain⟨x,hx,rfl⟩:=hu;exact Y1a h hx
theorem Z18 (w:World){l:List UInt8}{cap n:Nat}{z:Array Value}(hn:n=l.length)(hc:l.length≤cap)(hm:cap≤maxLen):Sl (w.drew.alloc (.cells ((bs8 l).toArray++z) 5)) (.slice (some ⟨w.heap.size,0,none⟩) n cap) l:=
  Z25 (cs:=(bs8 l).toArray++z) (t:=5) (by exact heap_alloc_new w.drew _) hn (by omega) hm fun j x hj=>by
    have h1:=Q3e hj;have h2:j<(bs8 l).length:=(List.getElem?_eq_some_iff.1 h1).1;rw[Nat.zero_add,Array.getElem?_append_left (by simpa using h2)]
    simpa using h1
theorem Q2e (w:World)(ty:TypeId){A:Option Addr}{u:Value}{l m:List UInt8}(hv:Sl w (.slice A l.length l.length) l)(hu:Sl w u m)(hlen:l.length+m.length≤140737488355328):
    ∃v' W,(Builtin.append_ #[35,35] ty #[.slice A l.length l.length,u]).run Tryz.prog w=.ok v' W∧Sl W v' (l++m)∧Off [] w W∧((m=[]∧v' =.slice A l.length l.length)∨v'.ownBlock=some w.heap.size):=by
  obtain⟨i,hi,hz,G,N⟩:=info_parts J7t;have ht:=Tryz.underlying35;obtain⟨B,c,rfl,hc,hm,h0,J⟩:=id hu
  by_cases U:m=[]
  · subst U
    refine⟨_,w,?_,by rw[List.append_nil];exact hv,Off.refl _ _,.inl ⟨rfl,rfl⟩⟩;cases A<;>cases B<;>simp[Builtin.append_,run_underlying ht,sizeOf,typeInfo,hi,Builtin.lenOf,Builtin.firstCells,storeCells,loadCells,loadCellsFrom]
  have T:0<m.length:=List.length_pos_iff.2 U;rcases B with _|ad
  · obtain⟨ad,h,_⟩:=J 0 m[0] (List.getElem?_eq_getElem T);cases h
  have R:=fun o=>grownCap_ge w (l.length+m.length) o 5;have M:=fun o=>grownCap_le_maxLen w (l.length+m.length) o 5 (by unfold maxLen;omega);rcases A with _|b
  · have hl:l=[]:=by
      cases l with
      |nil=>rfl
      |cons x r=>obtain⟨_,_,h,_,_,_,D⟩:=hv;obtain⟨ad,h2,_⟩:=D 0 x rfl;cases h;cases h2
    subst hl;have hr:=run_append_nil (P:=Tryz.prog) (w:=w) 35 ty 5 i (.int .u8 0) ht hi hz ad m.length c (bs8 m) (by rw[V7,G,Nat.mul_one]) (J9d hu) T (by omega) (by rw[N];omega);refine⟨_,_,hr,?_,J0b ((Below.refl _ _).drew.alloc (Nat.le_refl _) _),.inr rfl⟩;have hg:=R 0;have S:=M 0;simp only[List.length_nil,Nat.zero_add] at hg S;exact Z18 w rfl hg S
  have hr:=run_append_grow (P:=Tryz.prog) (w:=w) 35 ty 5 i (.int .u8 0) ht hi hz b l.length l.length (bs8 l) (by rw[V7,G,Nat.mul_one]) (J9d hv) ad m.length c (bs8 m) (by rw[V7,G,Nat.mul_one]) (J9d hu) (by omega) (by omega) (by rw[N];exact growslice_fits (by omega) (by omega));refine⟨_,_,hr,?_,J0b ((Below.refl _ _).drew.alloc (Nat.le_refl _) _),.inr rfl⟩;rw[show(bs8 l).toArray++(bs8 m).toArray=(bs8 (l++m)).toArray by rw[Q0g];simp];exact Z18 w (by rw[List.length_append]) (by rw[List.length_append];exact R _) (M _)
theorem Z8i {w:World}{v:Value}{l:List UInt8}(hs:Sl w v l):∃A,(∀W,(Instr.sliceAt 35 v none (some (.int .i64 (l.length:Int))) (some (.int .i64 (l.length:Int)))).run Tryz.prog W=.ok (.slice A l.length l.length) W)∧Sl w (.slice A l.length l.length) l∧(∀x,(Value.slice A l.length l.length).ownBlock=some x→v.ownBlock=some x):=by
  obtain⟨A,c,rfl,h1,h2,h0,h3⟩:=hs
  have hA:A.map (fun a:Addr=>a.add 0)=A:=by
    have:∀a:Addr,a.add 0=a:=fun a=>by unfold Addr.add;simp
    cases A<;>simp[this]
  refine⟨A,fun W=> ?_,⟨A,l.length,rfl,Nat.le_refl _,Nat.le_trans h1 h2,fun h=> ?_,h3⟩,fun x hx=>by cases A<;>exact hx⟩
  · have D:l.length≤c:=h1
    have h1:=J6g;cases hq:Tryz.prog.info? 5 with
    |none=>simp[hq] at h1
    |some i=>simp[Instr.sliceAt,Instr.slice,Instr.sliceBounds,Instr.sliceBound,asIntOf,run_underlying Tryz.underlying35,Sem.run_bind,sizeOf,typeInfo,hq,D,hA]
  have:=h0 h;omega
end

section
section
variable {ops : Array Oper} {k : Wk} {Q : Exit → Act → World → Prop} {F : List Nat} {w : World} {H : List As} {l : List Oper} {o : Oper} {a : Act}
theorem MQ (i:Nat){x y z:Operand}{v:Value}{m:List UInt8}{a' :Value→Act}(h:∀A,wpM Tryz.prog ops k F w (.s (.slice A m.length m.length) m::H) l (a' (.slice A m.length m.length)))(hi:H[i]?=some (.s v m):=by exact rfl)(hw:Region.wanted o (yielded ops a.tmps)=true:=by exact rfl)
    (ho:o.op=.slice 35 x none (some y) (some z):=by exact rfl) (hx:a.eval x=v:=by exact rfl) (hy:a.eval y=.int .i64 (m.length:Int):=by exact rfl) (hz:a.eval z=.int .i64 (m.length:Int):=by exact rfl) (hp:∀v,a.put o.dst v=a' v:=by intro b;first|exact pl (by dsimp only[mB,mC];first|done|exact rfl)|exact pn|exact rfl):wpM Tryz.prog ops k F w H (o::l) a:=by
  intro W hS;obtain⟨A,hr,h1,h2⟩:=Z8i (hS.sl hi)
  have hS' :=hS.sub hi h1 fun x hx=>by
    have hm:m≠[]:=fun e=>by subst e;unfold sb at hx;rw[if_pos rfl] at hx;cases hx
    unfold sb;rw[if_neg hm];exact h2 x (J2x hx)
  have D:∀W,(execOp a.eval o).run Tryz.prog W=.ok (.value (.slice A m.length m.length)) W:=fun W=>by simp[execOp,ho,hx,hy,hz,hr W,Sem.run_bind]
  cases k with
  |L Q=>exact J1r hw (D W) (by rw[hp];exact h A W hS')
  |X E=>exact J0d hw (fun W' _=>D W') (by rw[hp];exact h A W hS')
theorem MAt (i:Nat){s x:Operand}{A:Option Addr}{u:Value}{xs ys:List UInt8}{a' :Value→Act}(hsl:∀W,SH F w W H→Sl W u ys)(hlen:xs.length+ys.length≤140737488355328)(h:∀v',wpM Tryz.prog ops (.L Q) F w (.s v' (xs++ys)::H) l (a' v'))(hi:H[i]?=some (.s (.slice A xs.length xs.length) xs):=by exact rfl)(hw:Region.wanted o (yielded ops a.tmps)=true:=by exact rfl)
    (ho:o.op=.call {callee:=.builtin .append,args:= #[s,x],argTypes:= #[35,35]}:=by exact rfl) (hs:a.eval s=.slice A xs.length xs.length:=by exact rfl) (hx:a.eval x=u:=by exact rfl)
    (hp:∀v,a.put o.dst v=a' v:=by intro b;first|exact pl (by dsimp only[mB,mC];first|done|exact rfl)|exact pn|exact rfl):wpM Tryz.prog ops (.L Q) F w H (o::l) a:=by
  intro W hS;obtain⟨v',W',D,h1,h2,h3⟩:=Q2e W o.type (hS.sl hi) (hsl W hS) hlen
  have hS' :SH F w W' (.s v' (xs++ys)::H):=by
    rcases h3 with⟨e1,e2⟩|h3
    · subst e1 e2
      refine(hS.next h2).sub hi h1 ?_;rw[List.append_nil];exact J1e
    refine hS.newS h2 h1 fun k hk=> ?_;have:=J2x hk;rw[h3] at this;exact Nat.le_of_eq (Option.some.inj this)
  refine J5i hw (v:=v') (W:=W') ?_ (by rw[hp];exact h v' W' hS');unfold execOp;simp only[ho,resolve,invoke,builtin,Sem.run_bind,Sem.run_pure,Result.andThen_ok,List.map_toArray,List.map_cons,List.map_nil,hs,hx,D]
end
theorem Z19 (h:Nat→Int)(L m:List UInt8)(u:Value)(hl:64≤L.length)(hm:m=L.take 64)(w:World)(hs:Sl w u m)(hG:GS4 w):Calls Tryz.prog 133 #[.agg (J0 .u32 8 h),u] w fun e w' =>Ret (.agg (J0 .u32 8 (J85 h (bt L)))) w w' e:=by
  have G:m.length=64:=by rw[hm,List.length_take];omega
  obtain⟨ad,c,rfl,_⟩:=Q1d hs (by omega);have D:m.length≤c:=by obtain⟨A,c',e,h1,_⟩:=hs;injection e with _ _ e;omega
  have hc:=Y51 h m ad c (by omega) D w hs hG
  rw[show J85 h (bt L)=J85 h (bt m) from Q5b fun j hj=>by
    unfold bt;rw[hm,List.getD_eq_getElem?_getD,List.getD_eq_getElem?_getD,List.getElem?_take_of_lt hj]]
  exact hc
abbrev gs4:As:=.p [10,2] GS4
theorem Q21 {w:World}(h:GS4 w):gs4.holds w:=
  ⟨h,fun k hk=>by
    rcases List.mem_cons.1 hk with rfl|hk
    · exact h.1.2
    · rw[List.mem_singleton.1 hk];exact h.2.2,fun W hs he=>⟨J3i h.1 hs (he _ (by simp)),J3i h.2 hs (he _ (by simp))⟩⟩
end

section
set_option maxHeartbeats 1500000
attribute [local irreducible] wpList Z6 wpX
theorem Q42 (p:Nat)(v u:Value)(F b:List UInt8)(hlen:F.length+b.length≤140737488355200)(w:World)(h_:SH (SH.feet [.b p (hcs v F) 239,.o v (hr4 F),.s u b,gs4]) w w [.b p (hcs v F) 239,.o v (hr4 F),.s u b,gs4]):
  Calls Tryz.prog 96 #[.pointer (some ⟨p,0,none⟩),u] w fun e w' => ∃v',e=.returned (.tuple #[])∧SH (SH.feet [.b p (hcs v F) 239,.o v (hr4 F),.s u b,gs4]) w w' [.b p (hcs v' (F++b)) 239,.o v' (hr4 (F++b)),.s u b,gs4]:=by
 have V:=Z3h F;have hS:=h_;clear h_
 go_enter Tryz.func96,Tryz.ntmps96
 go_upto_region 1 with fail;refine RL hS ?_;clear hS;(iterate 3 refine MV ?_);refine MG 0 ?_ (v:=.int .i64 (F.length:Int)) (hj:=J44);refine MV ?_;refine MF (v:=.int .i64 (b.length:Int)) (fun W hS=>X5 (hS.sl (i:=2) rfl) rfl rfl) ?_;refine MW ?_ (v:=.int .i64 ((F++b).length:Int)) (hv:=by intro W;go_simp;(try simp only[List.length_append,IntKind.wrap_i64]);(try omega));refine MV ?_;refine MV ?_;refine MP 0 (v:=.int .i64 ((F++b).length:Int)) (cs' :=hc8 (hw4 F) v (.int .i64 ((F++b).length:Int))) ?_ (hs:=by rw[Q8x];decide) (hc:=Z16);refine MZ fun W hS=> ?_;go_upto_region 2 with fail;refine RX 16 hS ?_;clear hS;(iterate 3 refine MV ?_);refine MG 0 ?_ (v:=v) (hj:=Q3n);(iterate 3 refine MV ?_);refine MG 0 ?_ (v:=v) (hj:=Q3n);refine MF (v:=.int .i64 ((hr4 F).length:Int)) (fun W hS=>X5 (hS.osl (i:=1) rfl) rfl rfl) ?_;(iterate 3 refine MV ?_);refine MG 0 ?_ (v:=v) (hj:=Q3n);refine MF (v:=.int .i64 ((hr4 F).length:Int)) (fun W hS=>X5 (hS.osl (i:=1) rfl) rfl rfl) ?_;refine MT (fun W hS=>hS.read (i:=1) rfl (hS.osl (i:=1) rfl) J1e) ?_;refine MQ 1 ?_;intro T;refine MV ?_;refine MZt ?_;refine MAt 0 (xs:=hr4 F) (ys:=b) (fun W hS=>(hS.sl (i:=3) rfl)) (by omega) ?_;intro S;refine MV ?_;refine MZn fun W hS=> ?_;rw[Z6e F b] at hS
 go_wp2_with fail
 go_loopw [4] (fun sv wr=> ∃(k:Nat)(a:Value),(64*k≤(hr4 F++b).length)∧(a=sv)∧SH (SH.feet [.b p (hcs v F) 239,.o v (hr4 F),.s u b,gs4]) w wr [.b p (hc8 (Hs4 (F++b) (F.length / 64+k)) v (.int .i64 ((F++b).length:Int))) 239,.s a (List.drop (64*k) (hr4 F++b)),.s u b,gs4])
  (fun sv _=>Q54 sv)
 case atStart=>exact⟨0,_,Nat.zero_le _,rfl,(hS.pick [2,0,4,5])⟩
 clear hS
 case round=>
  obtain⟨k,a,hk,rfl,hS⟩:=hrel;have lb:=J96 (hS.sl (i:=1) rfl)
  by_cases hz:64≤(List.drop (64*k) (hr4 F++b)).length
  ·
   go_upto_region 3 with fail;refine RL hS ?_;clear hS;refine MV ?_;refine MF (v:=.int .i64 ((List.drop (64*k) (hr4 F++b)).length:Int)) (fun W hS=>X5 (hS.sl (i:=1) rfl) rfl rfl) ?_;refine MW ?_ (v:=.bool true) (hv:=by intro W;have D:=hz;simp only[List.length_drop,List.length_append] at D;go_simp;omega);refine MZ fun W hS=> ?_;go_upto_region 4 with fail;refine RX 10 hS ?_;clear hS;(iterate 4 refine MV ?_);refine Ml 0 Z15 ?_;refine MV ?_;refine MH 1 64 (m' :=(List.take 64 (List.drop (64*k) (hr4 F++b)))) (by exact hz) ?_;intro N;refine MC (v:=.agg (J0 .u32 8 (J85 (Hs4 (F++b) (F.length / 64+k)) (bt (List.drop (64*k) (hr4 F++b)))))) (fun W hS=>Z19 (Hs4 (F++b) (F.length / 64+k)) (List.drop (64*k) (hr4 F++b)) (List.take 64 (List.drop (64*k) (hr4 F++b))) N hz rfl W (hS.sl (i:=0) rfl) (hS.pp (i:=4) rfl)) ?_;refine MV ?_;refine MV ?_;refine MZt ?_;refine Mr 1 (new:=hc8 (J85 (Hs4 (F++b) (F.length / 64+k)) (bt (List.drop (64*k) (hr4 F++b)))) v (.int .i64 ((F++b).length:Int))) Z17 ?_ (hs:=by rw[Q8x,J1];decide);refine MZn fun W hS=> ?_;go_upto_region 5 with fail;refine RL hS ?_;clear hS;refine MV ?_;refine Mt 2 64 (m' :=(List.drop (64*(k+1)) (hr4 F++b))) (by exact hz) ?_ (hm:=Q5c _ _);intro R;refine MV ?_;refine MZ fun W hS=> ?_;have la:=J96 (hS.sl (i:=0) rfl);simp only[List.length_drop] at la lb hz;rw[Y53] at hS;go_wp2;go_roundw
   case rel=>exact⟨k+1,_,by omega,rfl,(hS.pick [2,0,4,5])⟩
   case measure=>simp only[la,lb];omega
  go_upto_region 3 with fail;refine RL hS ?_;clear hS;refine MV ?_;refine MF (v:=.int .i64 ((List.drop (64*k) (hr4 F++b)).length:Int)) (fun W hS=>X5 (hS.sl (i:=1) rfl) rfl rfl) ?_;refine MW ?_ (v:=.bool false) (hv:=by intro W;have D:=hz;simp only[List.length_drop,List.length_append] at D;go_simp;omega);refine MZ fun W hS=> ?_;obtain⟨G,J⟩:=Y9n (F:=F) (b:=b) (k:=k) (by simp only[List.length_drop] at hz;omega);rw[G,J] at hS;clear G J;have X:=Z3h (F++b);go_upto_region 6 with fail;refine RL hS ?_;clear hS;refine MV ?_;refine MO (m:=[]) (n:=0) (z:= #[]) ?_;intro U;refine MV ?_;refine MA 0 (xs:=[]) (ys:=(hr4 (F++b))) (fun W hS=>(hS.sl (i:=2) rfl)) (by first|omega|(simp only[List.length_append,List.length_drop,List.length_nil];omega)) ?_;intro M;refine MT (fun W hS=>by rw[List.nil_append] at hS;exact hS) ?_;refine MV ?_;refine MV ?_;refine MP 1 (v:=M) (cs' :=hc8 (hw4 (F++b)) M (.int .i64 ((F++b).length:Int))) ?_ (hv:=fun W hS=>Q1 (hS.osl (i:=0) rfl)) (hs:=by rw[Q8x];decide) (hc:=Z3g);refine MZ fun W hS=> ?_;go_wp2;exact bodyPost_end (v:=.tuple #[]) (by simp only[results,Tryz.results96];go_simp) rfl ⟨_,rfl,hS.pick [1,0,3,4]⟩
end

section
set_option maxHeartbeats 1500000
attribute [local irreducible] wpList Z6 wpX
theorem Q3o {w:World}{o:Oper}{a:Act}{x:Operand}{p:Int}(ho:o.op=.convert 236 5 x)(hx:a.eval x=.int .u32 p):(execOp a.eval o).run Tryz.prog w=.ok (.value (.int .u8 (w8 p))) w:=by
 simp[execOp,ho,hx,convert,run_underlying Tryz.underlying5,run_underlying Tryz.underlying236,Sem.run_bind,Conv.intToInt,w8]
theorem Y9o {w:World}:(isAgg 236).run Tryz.prog w=.ok false w:=by
 simp[isAgg,run_underlying Tryz.underlying236,Sem.run_bind]
theorem K1m (x:Int):sr4 x 0=x:=by unfold sr4;simp

theorem Z41 (p:Nat)(v:Value)(F:List UInt8)(hlen:F.length≤70368744177664)(w:World)(hkB:Blk w p (hcs v F) 239)(hrS:Sl w v (hr4 F))(hG:GS4 w):
  Calls Tryz.prog 97 #[.pointer (some ⟨p,0,none⟩)] w fun e w' =>Ret (.agg (J0 .u8 32 (sm4 F))) w w' e:=by
 have HG:=Lib.hid hG;clear hG;have hS:=SH.nil [] w;have ω:=Z3h F;have hN:zc4 (hr4 F).length=zc4 F.length:=by rw[J86,Y54]
 have τ:=(Q5d (hr4 F).length).2;obtain⟨PD,M⟩:∃PD,PD=(J2t F).drop (64*(F.length / 64)):=⟨_,rfl⟩
 have J:PD.length=64*nb4 (hr4 F).length:=by have h1:=Z1a F;have h2:=Z1b F;rw[M,List.length_drop,h1];omega
 have N:=Lib.hid M;clear M
 go_enter Tryz.func97,Tryz.ntmps97
 go_upto_region 0 with fail;refine RL hS ?_;clear hS;refine MN (z:=J0 .u8 32 (fun _=>0)) (t:=22) ?_;intro Z8;refine MZ fun W hS=> ?_;go_upto_region 3 with fail;refine RL hS ?_;clear hS;refine MO (m:=[]) (n:=0) (z:= #[]) ?_;intro κ;(iterate 3 refine MV ?_);refine MF (v:=v) (fun W hS=>Z9 rfl rfl (by rw[J4 (J3 hkB hS.ext)];exact Q3n) (by kernel_rfl)) ?_;refine MA 0 (xs:=[]) (ys:=(hr4 F)) (fun W hS=>(J0i hrS hS.ext)) (by first|omega|(simp only[List.length_append,List.length_cons,List.length_nil,List.length_replicate,List.length_drop];omega)) ?_;intro η;refine MT (fun W hS=>by rw[List.nil_append] at hS;exact hS) ?_;refine MO (m:=[128]) (n:=1) (z:= #[.int .u8 128]) ?_;intro χ;refine MA 1 (xs:=(hr4 F)) (ys:=[128]) (fun W hS=>(hS.osl (i:=0) rfl)) (by first|omega|(simp only[List.length_append,List.length_cons,List.length_nil,List.length_replicate,List.length_drop];omega)) ?_;intro ζ;refine MV ?_;refine MZ fun W hS=> ?_
 go_wp2_with fail
 go_loopw [3] (fun sv wr=> ∃(k:Nat)(bv:Value),(k≤zc4 (hr4 F).length)∧(bv=sv)∧SH [] w wr [.o bv (hr4 F++[128]++List.replicate k 0),.b Z8 (J0 .u8 32 (fun _=>0)) 22])
  (fun sv _=>F.length+300-Q54 sv)
 case atStart=>exact⟨0,_,Nat.zero_le _,rfl,(by have h_:=(hS.pick [1,2]);rw[List.replicate_zero,List.append_nil];exact h_)⟩
 clear hS
 case round=>
  obtain⟨k,bv,hk,rfl,hS⟩:=hrel;have lb:=J96 (hS.osl (i:=0) rfl)
  by_cases hz:k<zc4 (hr4 F).length
  ·
   have S:=V6u hz;go_upto_region 4 with fail;refine RL hS ?_;clear hS;refine MV ?_;refine MF (v:=.int .i64 ((hr4 F++[128]++List.replicate k 0).length:Int)) (fun W hS=>X5 (hS.osl (i:=0) rfl) rfl rfl) ?_;refine MW ?_ (v:=.int .i64 ((((hr4 F).length+1+k) % 64:Nat):Int)) (hv:=by intro W;go_simp;(try simp only[List.length_append,List.length_cons,List.length_nil,List.length_replicate]);rw[Int.tmod_eq_emod_of_nonneg (by omega)];omega);refine MW ?_ (v:=.bool true) (hv:=by intro W;go_simp;omega);refine MZ fun W hS=> ?_;go_upto_region 5 with fail;refine RL hS ?_;clear hS;refine MV ?_;refine MO (m:=[0]) (n:=1) (z:= #[.int .u8 0]) ?_;intro ν;refine MA 1 (xs:=(hr4 F++[128]++List.replicate k 0)) (ys:=[0]) (fun W hS=>(hS.osl (i:=0) rfl)) (by first|omega|(simp only[List.length_append,List.length_cons,List.length_nil,List.length_replicate,List.length_drop];omega)) ?_;intro β;refine MV ?_;refine MZ fun W hS=> ?_;have la:=J96 (hS.osl (i:=1) rfl);simp only[List.length_append,List.length_cons,List.length_nil,List.length_replicate] at la lb;go_wp2;go_roundw
   case rel=>exact⟨k+1,_,by omega,rfl,(by have h_:=(hS.pick [1,2]);rw[List.append_assoc _ (List.replicate k 0),←List.replicate_succ'] at h_;exact h_)⟩
   case measure=>simp only[la,lb];omega
  obtain rfl:k=zc4 (hr4 F).length:=by omega
  have S:=(Q5d (hr4 F).length).1;go_upto_region 4 with fail;refine RL hS ?_;clear hS;refine MV ?_;refine MF (v:=.int .i64 ((hr4 F++[128]++List.replicate (zc4 (hr4 F).length) 0).length:Int)) (fun W hS=>X5 (hS.osl (i:=0) rfl) rfl rfl) ?_;refine MW ?_ (v:=.int .i64 ((((hr4 F).length+1+zc4 (hr4 F).length) % 64:Nat):Int)) (hv:=by intro W;go_simp;(try simp only[List.length_append,List.length_cons,List.length_nil,List.length_replicate]);rw[Int.tmod_eq_emod_of_nonneg (by omega)];omega);refine MW ?_ (v:=.bool false) (hv:=by intro W;first|(go_simp;done)|(go_simp;omega));refine MZ fun W hS=> ?_
  go_wp2_with fail
  refine wp_loop_rounds 9 ?_;rw[rounds_succ];go_upto_region 9 with fail;refine RL hS ?_;clear hS;(iterate 4 refine MV ?_);refine MF (v:=.int .i64 (F.length:Int)) (fun W hS=>Z9 rfl rfl (by rw[J4 (J3 hkB hS.ext)];exact J44) (by kernel_rfl)) ?_;refine MW ?_ (v:=.int .u64 ((F.length:Nat):Int)) (hv:=by intro W;go_simp;(try simp only[IntKind.wrap_u64]);omega);refine MW ?_ (v:=.int .u64 ((8*F.length:Nat):Int)) (hv:=by intro W;rw[show((8*F.length:Nat):Int)=sl ((F.length:Nat):Int) 3 from(by unfold sl;rw[IntKind.wrap_u64];omega)];exact J41 (n:=3) (by decide) rfl rfl rfl);refine MW ?_ (v:=.int .i64 7);refine MW ?_ (v:=.int .i64 56);refine MW ?_ (v:=.int .u64 (sr ((8*F.length:Nat):Int) 56)) (hv:=fun _=>J1b (n:=56) (by decide) rfl rfl rfl);refine MW ?_ (v:=.int .u8 ((u8 ((8*F.length) / 72057594037927936)).toNat:Int)) (hv:=by intro W;rw[←J3l (8*F.length) 56 72057594037927936 (by decide)];exact J30 rfl rfl);refine MO (m:=[u8 ((8*F.length) / 72057594037927936)]) (n:=1) (z:= #[.int .u8 ((u8 ((8*F.length) / 72057594037927936)).toNat:Int)]) ?_;intro ξ;refine MA 1 (xs:=(hr4 F++[128]++List.replicate (zc4 (hr4 F).length) 0)) (ys:=[u8 ((8*F.length) / 72057594037927936)]) (fun W hS=>(hS.osl (i:=0) rfl)) (by first|omega|(simp only[List.length_append,List.length_cons,List.length_nil,List.length_replicate,List.length_drop];omega)) ?_;intro μ;refine MV ?_;refine MZ fun W hS=> ?_
  go_wp2_with fail
  rw[rounds_succ];go_upto_region 9 with fail;refine RL hS ?_;clear hS;(iterate 4 refine MV ?_);refine MF (v:=.int .i64 (F.length:Int)) (fun W hS=>Z9 rfl rfl (by rw[J4 (J3 hkB hS.ext)];exact J44) (by kernel_rfl)) ?_;refine MW ?_ (v:=.int .u64 ((F.length:Nat):Int)) (hv:=by intro W;go_simp;(try simp only[IntKind.wrap_u64]);omega);refine MW ?_ (v:=.int .u64 ((8*F.length:Nat):Int)) (hv:=by intro W;rw[show((8*F.length:Nat):Int)=sl ((F.length:Nat):Int) 3 from(by unfold sl;rw[IntKind.wrap_u64];omega)];exact J41 (n:=3) (by decide) rfl rfl rfl);refine MW ?_ (v:=.int .i64 6);refine MW ?_ (v:=.int .i64 48);refine MW ?_ (v:=.int .u64 (sr ((8*F.length:Nat):Int) 48)) (hv:=fun _=>J1b (n:=48) (by decide) rfl rfl rfl);refine MW ?_ (v:=.int .u8 ((u8 ((8*F.length) / 281474976710656)).toNat:Int)) (hv:=by intro W;rw[←J3l (8*F.length) 48 281474976710656 (by decide)];exact J30 rfl rfl);refine MD 0 ?_;refine MO (m:=[u8 ((8*F.length) / 281474976710656)]) (n:=1) (z:= #[.int .u8 ((u8 ((8*F.length) / 281474976710656)).toNat:Int)]) ?_;intro γ;refine MA 1 (xs:=((hr4 F++[128]++List.replicate (zc4 (hr4 F).length) 0)++[u8 ((8*F.length) / 72057594037927936)])) (ys:=[u8 ((8*F.length) / 281474976710656)]) (fun W hS=>(hS.osl (i:=0) rfl)) (by first|omega|(simp only[List.length_append,List.length_cons,List.length_nil,List.length_replicate,List.length_drop];omega)) ?_;intro θ;refine MV ?_;refine MZ fun W hS=> ?_
  go_wp2_with fail
  rw[rounds_succ];go_upto_region 9 with fail;refine RL hS ?_;clear hS;(iterate 4 refine MV ?_);refine MF (v:=.int .i64 (F.length:Int)) (fun W hS=>Z9 rfl rfl (by rw[J4 (J3 hkB hS.ext)];exact J44) (by kernel_rfl)) ?_;refine MW ?_ (v:=.int .u64 ((F.length:Nat):Int)) (hv:=by intro W;go_simp;(try simp only[IntKind.wrap_u64]);omega);refine MW ?_ (v:=.int .u64 ((8*F.length:Nat):Int)) (hv:=by intro W;rw[show((8*F.length:Nat):Int)=sl ((F.length:Nat):Int) 3 from(by unfold sl;rw[IntKind.wrap_u64];omega)];exact J41 (n:=3) (by decide) rfl rfl rfl);refine MW ?_ (v:=.int .i64 5);refine MW ?_ (v:=.int .i64 40);refine MW ?_ (v:=.int .u64 (sr ((8*F.length:Nat):Int) 40)) (hv:=fun _=>J1b (n:=40) (by decide) rfl rfl rfl);refine MW ?_ (v:=.int .u8 ((u8 ((8*F.length) / 1099511627776)).toNat:Int)) (hv:=by intro W;rw[←J3l (8*F.length) 40 1099511627776 (by decide)];exact J30 rfl rfl);refine MD 0 ?_;refine MO (m:=[u8 ((8*F.length) / 1099511627776)]) (n:=1) (z:= #[.int .u8 ((u8 ((8*F.length) / 1099511627776)).toNat:Int)]) ?_;intro Γ;refine MA 1 (xs:=(((hr4 F++[128]++List.replicate (zc4 (hr4 F).length) 0)++[u8 ((8*F.length) / 72057594037927936)])++[u8 ((8*F.length) / 281474976710656)])) (ys:=[u8 ((8*F.length) / 1099511627776)]) (fun W hS=>(hS.osl (i:=0) rfl)) (by first|omega|(simp only[List.length_append,List.length_cons,List.length_nil,List.length_replicate,List.length_drop];omega)) ?_;intro V;refine MV ?_;refine MZ fun W hS=> ?_
  go_wp2_with fail
  rw[rounds_succ];go_upto_region 9 with fail;refine RL hS ?_;clear hS;(iterate 4 refine MV ?_);refine MF (v:=.int .i64 (F.length:Int)) (fun W hS=>Z9 rfl rfl (by rw[J4 (J3 hkB hS.ext)];exact J44) (by kernel_rfl)) ?_;refine MW ?_ (v:=.int .u64 ((F.length:Nat):Int)) (hv:=by intro W;go_simp;(try simp only[IntKind.wrap_u64]);omega);refine MW ?_ (v:=.int .u64 ((8*F.length:Nat):Int)) (hv:=by intro W;rw[show((8*F.length:Nat):Int)=sl ((F.length:Nat):Int) 3 from(by unfold sl;rw[IntKind.wrap_u64];omega)];exact J41 (n:=3) (by decide) rfl rfl rfl);refine MW ?_ (v:=.int .i64 4);refine MW ?_ (v:=.int .i64 32);refine MW ?_ (v:=.int .u64 (sr ((8*F.length:Nat):Int) 32)) (hv:=fun _=>J1b (n:=32) (by decide) rfl rfl rfl);refine MW ?_ (v:=.int .u8 ((u8 ((8*F.length) / 4294967296)).toNat:Int)) (hv:=by intro W;rw[←J3l (8*F.length) 32 4294967296 (by decide)];exact J30 rfl rfl);refine MD 0 ?_;refine MO (m:=[u8 ((8*F.length) / 4294967296)]) (n:=1) (z:= #[.int .u8 ((u8 ((8*F.length) / 4294967296)).toNat:Int)]) ?_;intro ρ;refine MA 1 (xs:=((((hr4 F++[128]++List.replicate (zc4 (hr4 F).length) 0)++[u8 ((8*F.length) / 72057594037927936)])++[u8 ((8*F.length) / 281474976710656)])++[u8 ((8*F.length) / 1099511627776)])) (ys:=[u8 ((8*F.length) / 4294967296)]) (fun W hS=>(hS.osl (i:=0) rfl)) (by first|omega|(simp only[List.length_append,List.length_cons,List.length_nil,List.length_replicate,List.length_drop];omega)) ?_;intro ψ;refine MV ?_;refine MZ fun W hS=> ?_
  go_wp2_with fail
  rw[rounds_succ];go_upto_region 9 with fail;refine RL hS ?_;clear hS;(iterate 4 refine MV ?_);refine MF (v:=.int .i64 (F.length:Int)) (fun W hS=>Z9 rfl rfl (by rw[J4 (J3 hkB hS.ext)];exact J44) (by kernel_rfl)) ?_;refine MW ?_ (v:=.int .u64 ((F.length:Nat):Int)) (hv:=by intro W;go_simp;(try simp only[IntKind.wrap_u64]);omega);refine MW ?_ (v:=.int .u64 ((8*F.length:Nat):Int)) (hv:=by intro W;rw[show((8*F.length:Nat):Int)=sl ((F.length:Nat):Int) 3 from(by unfold sl;rw[IntKind.wrap_u64];omega)];exact J41 (n:=3) (by decide) rfl rfl rfl);refine MW ?_ (v:=.int .i64 3);refine MW ?_ (v:=.int .i64 24);refine MW ?_ (v:=.int .u64 (sr ((8*F.length:Nat):Int) 24)) (hv:=fun _=>J1b (n:=24) (by decide) rfl rfl rfl);refine MW ?_ (v:=.int .u8 ((u8 ((8*F.length) / 16777216)).toNat:Int)) (hv:=by intro W;rw[←J3l (8*F.length) 24 16777216 (by decide)];exact J30 rfl rfl);refine MD 0 ?_;refine MO (m:=[u8 ((8*F.length) / 16777216)]) (n:=1) (z:= #[.int .u8 ((u8 ((8*F.length) / 16777216)).toNat:Int)]) ?_;intro φ;refine MA 1 (xs:=(((((hr4 F++[128]++List.replicate (zc4 (hr4 F).length) 0)++[u8 ((8*F.length) / 72057594037927936)])++[u8 ((8*F.length) / 281474976710656)])++[u8 ((8*F.length) / 1099511627776)])++[u8 ((8*F.length) / 4294967296)])) (ys:=[u8 ((8*F.length) / 16777216)]) (fun W hS=>(hS.osl (i:=0) rfl)) (by first|omega|(simp only[List.length_append,List.length_cons,List.length_nil,List.length_replicate,List.length_drop];omega)) ?_;intro δ;refine MV ?_;refine MZ fun W hS=> ?_
  go_wp2_with fail
  rw[rounds_succ];go_upto_region 9 with fail;refine RL hS ?_;clear hS;(iterate 4 refine MV ?_);refine MF (v:=.int .i64 (F.length:Int)) (fun W hS=>Z9 rfl rfl (by rw[J4 (J3 hkB hS.ext)];exact J44) (by kernel_rfl)) ?_;refine MW ?_ (v:=.int .u64 ((F.length:Nat):Int)) (hv:=by intro W;go_simp;(try simp only[IntKind.wrap_u64]);omega);refine MW ?_ (v:=.int .u64 ((8*F.length:Nat):Int)) (hv:=by intro W;rw[show((8*F.length:Nat):Int)=sl ((F.length:Nat):Int) 3 from(by unfold sl;rw[IntKind.wrap_u64];omega)];exact J41 (n:=3) (by decide) rfl rfl rfl);refine MW ?_ (v:=.int .i64 2);refine MW ?_ (v:=.int .i64 16);refine MW ?_ (v:=.int .u64 (sr ((8*F.length:Nat):Int) 16)) (hv:=fun _=>J1b (n:=16) (by decide) rfl rfl rfl);refine MW ?_ (v:=.int .u8 ((u8 ((8*F.length) / 65536)).toNat:Int)) (hv:=by intro W;rw[←J3l (8*F.length) 16 65536 (by decide)];exact J30 rfl rfl);refine MD 0 ?_;refine MO (m:=[u8 ((8*F.length) / 65536)]) (n:=1) (z:= #[.int .u8 ((u8 ((8*F.length) / 65536)).toNat:Int)]) ?_;intro α;refine MA 1 (xs:=((((((hr4 F++[128]++List.replicate (zc4 (hr4 F).length) 0)++[u8 ((8*F.length) / 72057594037927936)])++[u8 ((8*F.length) / 281474976710656)])++[u8 ((8*F.length) / 1099511627776)])++[u8 ((8*F.length) / 4294967296)])++[u8 ((8*F.length) / 16777216)])) (ys:=[u8 ((8*F.length) / 65536)]) (fun W hS=>(hS.osl (i:=0) rfl)) (by first|omega|(simp only[List.length_append,List.length_cons,List.length_nil,List.length_replicate,List.length_drop];omega)) ?_;intro ε;refine MV ?_;refine MZ fun W hS=> ?_
  go_wp2_with fail
  rw[rounds_succ];go_upto_region 9 with fail;refine RL hS ?_;clear hS;(iterate 4 refine MV ?_);refine MF (v:=.int .i64 (F.length:Int)) (fun W hS=>Z9 rfl rfl (by rw[J4 (J3 hkB hS.ext)];exact J44) (by kernel_rfl)) ?_;refine MW ?_ (v:=.int .u64 ((F.length:Nat):Int)) (hv:=by intro W;go_simp;(try simp only[IntKind.wrap_u64]);omega);refine MW ?_ (v:=.int .u64 ((8*F.length:Nat):Int)) (hv:=by intro W;rw[show((8*F.length:Nat):Int)=sl ((F.length:Nat):Int) 3 from(by unfold sl;rw[IntKind.wrap_u64];omega)];exact J41 (n:=3) (by decide) rfl rfl rfl);refine MW ?_ (v:=.int .i64 1);refine MW ?_ (v:=.int .i64 8);refine MW ?_ (v:=.int .u64 (sr ((8*F.length:Nat):Int) 8)) (hv:=fun _=>J1b (n:=8) (by decide) rfl rfl rfl);refine MW ?_ (v:=.int .u8 ((u8 ((8*F.length) / 256)).toNat:Int)) (hv:=by intro W;rw[←J3l (8*F.length) 8 256 (by decide)];exact J30 rfl rfl);refine MD 0 ?_;refine MO (m:=[u8 ((8*F.length) / 256)]) (n:=1) (z:= #[.int .u8 ((u8 ((8*F.length) / 256)).toNat:Int)]) ?_;intro Z;refine MA 1 (xs:=(((((((hr4 F++[128]++List.replicate (zc4 (hr4 F).length) 0)++[u8 ((8*F.length) / 72057594037927936)])++[u8 ((8*F.length) / 281474976710656)])++[u8 ((8*F.length) / 1099511627776)])++[u8 ((8*F.length) / 4294967296)])++[u8 ((8*F.length) / 16777216)])++[u8 ((8*F.length) / 65536)])) (ys:=[u8 ((8*F.length) / 256)]) (fun W hS=>(hS.osl (i:=0) rfl)) (by first|omega|(simp only[List.length_append,List.length_cons,List.length_nil,List.length_replicate,List.length_drop];omega)) ?_;intro Δ;refine MV ?_;refine MZ fun W hS=> ?_
  go_wp2_with fail
  rw[rounds_succ];go_upto_region 9 with fail;refine RL hS ?_;clear hS;(iterate 4 refine MV ?_);refine MF (v:=.int .i64 (F.length:Int)) (fun W hS=>Z9 rfl rfl (by rw[J4 (J3 hkB hS.ext)];exact J44) (by kernel_rfl)) ?_;refine MW ?_ (v:=.int .u64 ((F.length:Nat):Int)) (hv:=by intro W;go_simp;(try simp only[IntKind.wrap_u64]);omega);refine MW ?_ (v:=.int .u64 ((8*F.length:Nat):Int)) (hv:=by intro W;rw[show((8*F.length:Nat):Int)=sl ((F.length:Nat):Int) 3 from(by unfold sl;rw[IntKind.wrap_u64];omega)];exact J41 (n:=3) (by decide) rfl rfl rfl);refine W0 ?_;refine W0 ?_;refine MW ?_ (v:=.int .u64 (sr ((8*F.length:Nat):Int) 0)) (hv:=fun _=>J1b (n:=0) (by decide) rfl rfl rfl);refine MW ?_ (v:=.int .u8 ((u8 (8*F.length)).toNat:Int)) (hv:=by intro W;rw[←Z5z (8*F.length)];exact J30 rfl rfl);refine MD 0 ?_;refine MO (m:=[u8 (8*F.length)]) (n:=1) (z:= #[.int .u8 ((u8 (8*F.length)).toNat:Int)]) ?_;intro Y;refine MA 1 (xs:=((((((((hr4 F++[128]++List.replicate (zc4 (hr4 F).length) 0)++[u8 ((8*F.length) / 72057594037927936)])++[u8 ((8*F.length) / 281474976710656)])++[u8 ((8*F.length) / 1099511627776)])++[u8 ((8*F.length) / 4294967296)])++[u8 ((8*F.length) / 16777216)])++[u8 ((8*F.length) / 65536)])++[u8 ((8*F.length) / 256)])) (ys:=[u8 (8*F.length)]) (fun W hS=>(hS.osl (i:=0) rfl)) (by first|omega|(simp only[List.length_append,List.length_cons,List.length_nil,List.length_replicate,List.length_drop];omega)) ?_;intro X;refine MV ?_;refine MZ fun W hS=> ?_
  go_wp2_with fail
  rw[rounds_succ];go_upto_region 10 with fail;refine RL hS ?_;clear hS;(iterate 3 refine MV ?_);refine MF (v:=.agg (J0 .u32 8 (hw4 F))) (fun W hS=>J0k (vs:=(J0 .u32 8 (hw4 F)).toList) rfl rfl (fun i v hv=>by rw[J4 (J3 hkB hS.ext)];exact Z15 i v (by simpa using hv)) (by kernel_rfl) (by first|kernel_rfl|(simp only[Array.length_toList];rw[J1];kernel_rfl))) ?_;refine MN (z:=J0 .u32 8 (fun _=>0)) (t:=237) ?_;intro T;refine MR 0 ?_;refine MZ fun W hS=> ?_;rw[Z61,hN,←Z8j,←N.out] at hS;rw[Y9p F] at hS;have hS:=hS.read (i:=2) rfl (hS.osl (i:=2) rfl) J1e
  go_wp2_with fail
  go_loopw [3] (fun sv wr=> ∃(j:Nat)(u:Value),(j≤nb4 (hr4 F).length)∧(u=sv)∧SH [] w wr [.b T (J0 .u32 8 (Hs4 (J2t F) (F.length / 64+j))) 237,.s u (List.drop (64*j) PD),.b Z8 (J0 .u8 32 (fun _=>0)) 22])
   (fun sv _=>Q54 sv)
  case atStart=>exact⟨0,_,Nat.zero_le _,rfl,(hS.pick [0,2,3])⟩
  clear hS
  case round=>
   obtain⟨j,u,hj,rfl,hS⟩:=hrel;have lb:=J96 (hS.sl (i:=1) rfl)
   by_cases R:j<nb4 (hr4 F).length
   ·
    have G:64≤(List.drop (64*j) PD).length:=by rw[List.length_drop,J];omega
    go_upto_region 11 with fail;refine RL hS ?_;clear hS;refine MV ?_;refine MF (v:=.int .i64 ((List.drop (64*j) PD).length:Int)) (fun W hS=>X5 (hS.sl (i:=1) rfl) rfl rfl) ?_;refine MW ?_ (v:=.bool true) (hv:=by intro W;go_simp;(try simp only[List.length_drop,J]);omega);refine MZ fun W hS=> ?_;go_upto_region 13 with fail;refine RX 4 hS ?_;clear hS;refine ML 0 ?_;refine MV ?_;refine MH 1 64 (m' :=(List.take 64 (List.drop (64*j) PD))) (by exact G) ?_;intro U;refine MC (v:=.agg (J0 .u32 8 (J85 (Hs4 (J2t F) (F.length / 64+j)) (bt (List.drop (64*j) PD))))) (fun W hS=>Z19 (Hs4 (J2t F) (F.length / 64+j)) (List.drop (64*j) PD) (List.take 64 (List.drop (64*j) PD)) U G rfl W (hS.sl (i:=0) rfl) (J23 HG.out hS.ext)) ?_;refine MZt ?_;refine MR 1 ?_;refine MZn fun W hS=> ?_;go_upto_region 12 with fail;refine RL hS ?_;clear hS;refine MV ?_;refine Mt 2 64 (m' :=(List.drop (64*(j+1)) PD)) (by exact G) ?_ (hm:=Q5c _ _);intro σ;refine MV ?_;refine MZ fun W hS=> ?_;have la:=J96 (hS.sl (i:=0) rfl);simp only[List.length_drop,J] at la lb;rw[N.out,Z8k,←N.out] at hS;go_wp2;go_roundw
    case rel=>exact⟨j+1,_,by omega,rfl,(hS.pick [2,0,4])⟩
    case measure=>simp only[la,lb];omega
   obtain rfl:j=nb4 (hr4 F).length:=by omega
   rw[Z1b] at hS;go_upto_region 11 with fail;refine RL hS ?_;clear hS;refine MV ?_;refine MF (v:=.int .i64 ((List.drop (64*nb4 (hr4 F).length) PD).length:Int)) (fun W hS=>X5 (hS.sl (i:=1) rfl) rfl rfl) ?_;refine MW ?_ (v:=.bool false) (hv:=by intro W;first|(go_simp;done)|(go_simp;(try simp only[List.length_drop,J]);omega));refine MZ fun W hS=> ?_;go_upto_region 14 with fail;refine RL hS ?_;clear hS;refine MN (z:=J0 .u8 32 (fun _=>0)) (t:=22) ?_;intro D;refine MZ fun W hS=> ?_;go_upto_region 15 with fail;refine RL hS ?_;clear hS;refine ML 1 ?_;refine W0 ?_;refine MZ fun W hS=> ?_
   go_wp2_with fail
   go_loopw [59] (fun ii wr=> ∃(i:Nat),(i≤8)∧(ii=.int .i64 (i:Int))∧SH [] w wr [.b D (J0 .u8 32 (J8a (Hs4 (J2t F) (nb4 F.length)) (4*i))) 22,.b Z8 (J0 .u8 32 (fun _=>0)) 22])
    (fun ii _=>8-(intOf ii).toNat)
   case atStart=>exact⟨0,Nat.zero_le _,rfl,(by rw[Nat.mul_zero,Z3i];exact(hS.pick [0,3]))⟩
   clear hS
   case round=>
    obtain⟨i,hi,rfl,hS⟩:=hrel
    by_cases h8:i<8
    ·
     go_upto_region 16 with fail;refine RL hS ?_;clear hS;refine Wt ?_;refine MZ fun W hS=> ?_;go_upto_region 17 with fail;refine RL hS ?_;clear hS;refine MV ?_;refine MW ?_ (v:=.int .u32 (Hs4 (J2t F) (nb4 F.length) i)) (hv:=fun _=>Q8q (m:=8) h8 Tryz.underlying237 (by kernel_rfl) Y9o rfl rfl rfl);refine MV ?_;refine MV ?_;refine MZ fun W hS=> ?_;go_upto_region 18 with fail;refine RL hS ?_;clear hS;refine MV ?_;refine MW ?_ (v:=.int .i64 (((4*i:Nat):Int))) (hv:=by intro W;go_simp;(try simp only[IntKind.wrap_u64,IntKind.wrap_i64]);(try omega));refine MV ?_;refine MW ?_ (v:=.int .i64 (((4*i:Nat):Int))) (hv:=by intro W;go_simp;(try simp only[IntKind.wrap_u64,IntKind.wrap_i64]);(try omega));refine MW ?_ (v:=.int .i64 (((4*i+1:Nat):Int))) (hv:=by intro W;go_simp;(try simp only[IntKind.wrap_u64,IntKind.wrap_i64]);(try omega));refine MV ?_;refine MW ?_ (v:=.int .i64 (((4*i:Nat):Int))) (hv:=by intro W;go_simp;(try simp only[IntKind.wrap_u64,IntKind.wrap_i64]);(try omega));refine MW ?_ (v:=.int .i64 (((4*i+2:Nat):Int))) (hv:=by intro W;go_simp;(try simp only[IntKind.wrap_u64,IntKind.wrap_i64]);(try omega));refine MV ?_;refine MW ?_ (v:=.int .i64 (((4*i:Nat):Int))) (hv:=by intro W;go_simp;(try simp only[IntKind.wrap_u64,IntKind.wrap_i64]);(try omega));refine MW ?_ (v:=.int .i64 (((4*i+3:Nat):Int))) (hv:=by intro W;go_simp;(try simp only[IntKind.wrap_u64,IntKind.wrap_i64]);(try omega));refine MV ?_;refine MW ?_ (v:=.int .u32 (sr4 (Hs4 (J2t F) (nb4 F.length) i) 24)) (hv:=fun _=>J9b (n:=24) (by decide) rfl rfl rfl);refine MW ?_ (v:=.int .u8 (w8 (sr4 (Hs4 (J2t F) (nb4 F.length) i) 24))) (hv:=by intro W;exact Q3o rfl rfl);refine MV ?_;refine MW ?_ (v:=.int .u32 (sr4 (Hs4 (J2t F) (nb4 F.length) i) 16)) (hv:=fun _=>J9b (n:=16) (by decide) rfl rfl rfl);refine MW ?_ (v:=.int .u8 (w8 (sr4 (Hs4 (J2t F) (nb4 F.length) i) 16))) (hv:=by intro W;exact Q3o rfl rfl);refine MV ?_;refine MW ?_ (v:=.int .u32 (sr4 (Hs4 (J2t F) (nb4 F.length) i) 8)) (hv:=fun _=>J9b (n:=8) (by decide) rfl rfl rfl);refine MW ?_ (v:=.int .u8 (w8 (sr4 (Hs4 (J2t F) (nb4 F.length) i) 8))) (hv:=by intro W;exact Q3o rfl rfl);refine MV ?_;refine MW ?_ (v:=.int .u8 (w8 (sr4 (Hs4 (J2t F) (nb4 F.length) i) 0))) (hv:=by intro W;rw[K1m];exact Q3o rfl rfl);refine MW ?_ (v:=.pointer (some ⟨D,0+(4*i),none⟩)) (hv:=fun _=>rxa Tryz.underlying22 (by omega));refine MP 0 (v:=.int .u8 (w8 (sr4 (Hs4 (J2t F) (nb4 F.length) i) 24))) (cs' :=J0 .u8 32 (J8a (Hs4 (J2t F) (nb4 F.length)) (4*i+1))) ?_ (hs:=by rw[J1,Nat.zero_add];omega) (hc:=by rw[Nat.zero_add,X6];exact congrArg (J0 .u8 32) (J87 (Hs4 (J2t F) (nb4 F.length)) i 0 (by decide)));refine MW ?_ (v:=.pointer (some ⟨D,0+(4*i+1),none⟩)) (hv:=fun _=>rxa Tryz.underlying22 (by omega));refine MP 0 (v:=.int .u8 (w8 (sr4 (Hs4 (J2t F) (nb4 F.length) i) 16))) (cs' :=J0 .u8 32 (J8a (Hs4 (J2t F) (nb4 F.length)) (4*i+2))) ?_ (hs:=by rw[J1,Nat.zero_add];omega) (hc:=by rw[Nat.zero_add,X6];exact congrArg (J0 .u8 32) (J87 (Hs4 (J2t F) (nb4 F.length)) i 1 (by decide)));refine MW ?_ (v:=.pointer (some ⟨D,0+(4*i+2),none⟩)) (hv:=fun _=>rxa Tryz.underlying22 (by omega));refine MP 0 (v:=.int .u8 (w8 (sr4 (Hs4 (J2t F) (nb4 F.length) i) 8))) (cs' :=J0 .u8 32 (J8a (Hs4 (J2t F) (nb4 F.length)) (4*i+3))) ?_ (hs:=by rw[J1,Nat.zero_add];omega) (hc:=by rw[Nat.zero_add,X6];exact congrArg (J0 .u8 32) (J87 (Hs4 (J2t F) (nb4 F.length)) i 2 (by decide)));refine MW ?_ (v:=.pointer (some ⟨D,0+(4*i+3),none⟩)) (hv:=fun _=>rxa Tryz.underlying22 (by omega));refine MP 0 (v:=.int .u8 (w8 (sr4 (Hs4 (J2t F) (nb4 F.length) i) 0))) (cs' :=J0 .u8 32 (J8a (Hs4 (J2t F) (nb4 F.length)) (4*i+4))) ?_ (hs:=by rw[J1,Nat.zero_add];omega) (hc:=by rw[Nat.zero_add,X6];exact congrArg (J0 .u8 32) (J87 (Hs4 (J2t F) (nb4 F.length)) i 3 (by decide)));refine MZ fun W hS=> ?_;go_wp2;go_roundw
     case rel=>exact⟨i+1,by omega,by go_num,(by rw[show 4*(i+1)=4*i+4 by omega];exact hS)⟩
     case measure=>simp[intOf];omega
    obtain rfl:i=8:=by omega
    rw[show 4*8=32 by rfl,Z8l] at hS;go_upto_region 16 with fail;refine RL hS ?_;clear hS;refine Wf ?_;refine MZ fun W hS=> ?_;go_upto_region 20 with fail;refine RL hS ?_;clear hS;refine ML 0 ?_;refine MR 1 ?_;refine MZ fun W hS=> ?_;go_wp2;refine bodyPost_ret (Z0 rfl rfl (hS.blk (i:=1) rfl) (by kernel_rfl) (by rw[J1];kernel_rfl)) rfl ⟨rfl,hS.ext⟩
theorem V6w (ps:List (List UInt8))(A:Option Addr)(c:Nat)(F:List UInt8)(hF:ps.flatten=F)(hlen:F.length≤70368744177664)(hpn:ps.length≤9223372036854775000)(w:World)(hps:∀i l,ps[i]?=some l→∃ad u,A=some ad∧w.cell? (ad.add i)=some u∧Sl w u l)(hG:GS4 w):
  Calls Tryz.prog 74 #[.slice A ps.length c] w fun e w' =>Ret (.agg (J0 .u8 32 (sm4 F))) w w' e:=by
 have HG:=Lib.hid hG;have S:=Lib.hid hps;clear hG hps;have hS:=SH.nil [] w
 go_enter Tryz.func74,Tryz.ntmps74
 go_upto_region 0 with fail;refine RL hS ?_;clear hS;refine MN (z:=J0 .u8 32 (fun _=>0)) (t:=22) ?_;intro Z8;refine MZ fun W hS=> ?_;go_upto_region 1 with fail;refine RL hS ?_;clear hS;refine ME (fun W hS=>(Z9u W (J23 HG.out hS.ext)).mono fun e W' ⟨p,h1,h2,h3,h4⟩=>⟨p,h1,(hS.new (x:=.b p _ _) h3 h4.1 (fun k hk=>by rw[List.mem_singleton.1 hk];exact h2) rfl rfl).onil rfl⟩) ?_;intro p6;refine MV ?_;refine MZ fun W hS=> ?_;go_upto_region 2 with fail;refine RL hS ?_;clear hS;refine MV ?_;refine MV ?_;refine W0 ?_;refine MZ fun W hS=> ?_
 go_wp2_with fail
 go_loopw [9] (fun ii wr=> ∃(i:Nat)(bv:Value),(i≤ps.length)∧(ii=.int .i64 (i:Int))∧SH [] w wr [.b p6 (hcs bv (List.take i ps).flatten) 239,.o bv (hr4 (List.take i ps).flatten),.b Z8 (J0 .u8 32 (fun _=>0)) 22])
  (fun ii _=>ps.length-(intOf ii).toNat)
 case atStart=>exact⟨0,(.slice none 0 0),Nat.zero_le _,rfl,(by rw[List.take_zero,List.flatten_nil];exact(hS.pick [1,0,2]))⟩
 clear hS
 case round=>
  obtain⟨i,bv,hi,rfl,hS⟩:=hrel
  by_cases D:i<ps.length
  ·
   obtain⟨l_,G⟩:∃l,ps[i]?=some l:=⟨_,List.getElem?_eq_getElem D⟩
   obtain⟨N,u_,M,T,R⟩:=S.out i l_ G;have U:(List.take i ps).flatten.length+l_.length≤F.length:=by rw[←hF,←List.length_append,←J5o G];exact Q43 _ _
   go_upto_region 3 with fail;refine RL hS ?_;clear hS;refine Wt ?_;refine MZ fun W hS=> ?_;go_upto_region 4 with fail;refine RL hS ?_;clear hS;refine MW ?_ (v:=.pointer (some (N.add i))) (hv:=fun _=>Q7d (j:=i) D rfl (by rw[←M];rfl) rfl);refine MF (v:=u_) (fun W hS=>Z9 rfl rfl (J0q T hS.ext) (by kernel_rfl)) ?_;refine MV ?_;refine MZ fun W hS=> ?_;go_upto_region 5 with fail;refine RL hS ?_;clear hS;refine MV ?_;refine MV ?_;refine ME (V:=fun _=> .tuple #[]) (fun W hS=>J4o [2,3,1,0] [4] ((hS.ent R).entp (Q21 HG.out)) (fun hS=>Q42 p6 bv u_ (List.take i ps).flatten l_ (by omega) W hS) (fun _=>⟨.inr ⟨rfl,rfl⟩,.inr ⟨rfl,rfl⟩,.inl (by simp),.inl (by simp),trivial⟩)) ?_;intro J;refine MD 2 ?_;refine MD 2 ?_;refine MZ fun W hS=> ?_;go_wp2;go_roundw
   case rel=>exact⟨i+1,J,by omega,by go_num,(by rw[J5o G];exact hS)⟩
   case measure=>simp[intOf];omega
  obtain rfl:i=ps.length:=by omega
  rw[List.take_length,hF] at hS;go_upto_region 3 with fail;refine RL hS ?_;clear hS;refine Wf ?_;refine MZ fun W hS=> ?_;go_upto_region 7 with fail;refine RL hS ?_;clear hS;refine MV ?_;refine MC (v:=.agg (J0 .u8 32 (sm4 F))) (fun W hS=>Z41 p6 bv F hlen W (hS.blk (i:=0) rfl) (hS.osl (i:=1) rfl) (J23 HG.out hS.ext)) ?_;refine MR 2 ?_;refine MZ fun W hS=> ?_;go_wp2;refine bodyPost_ret (Z0 rfl rfl (hS.blk (i:=2) rfl) (by kernel_rfl) (by rw[J1];kernel_rfl)) rfl ⟨rfl,hS.ext⟩
end

section
attribute [local irreducible] wpList Z6 wpX
def lf (k v:Nat):Array Value:=J0 .u8 32 (J7 k)++J0 .u8 32 (J7 v)
section
variable {k v : Nat}
theorem J5l:(lf k v).size=64:=by unfold lf;rw[Array.size_append,J1,J1]
theorem Z7i:∀i u,(J0 .u8 32 (J7 k))[i]?=some u→(lf k v)[0+i]?=some u:=fun i u h=>by rw[Nat.zero_add];exact J3h h
theorem K39:∀i u,(J0 .u8 32 (J7 v))[i]?=some u→(lf k v)[32+i]?=some u:=fun i u h=>J79 (J1 _ _ _) h
end
section
variable {s : Value} {th : Bool} {a x : Nat}
end
section
variable {s : Value} {th : Bool} {a x k y : Nat} {v : Value}
end
abbrev Lf:=Nat×Nat
end

section
set_option maxHeartbeats 1500000
attribute [local irreducible] wpList

end

section
def GR4 (w:World):Prop:=Rd w 1 (J0 .i64 64 kf4)∧Rd w 0 (J0 .i64 8 hf4)
theorem Y6d {w W:World}(h:GR4 w)(e:Ext w W):GR4 W:=⟨h.1.ext e,h.2.ext e⟩
/-! ### a word out of four bytes -/
/-! ### sums with one mask -/
/-! ### the bytes of the words -/
def bo4 (H:Nat→Int)(j:Nat):UInt8:=u8 (ob4 H j).toNat
theorem V2j (H:Nat→Int)(j:Nat):((bo4 H j).toNat:Int)=ob4 H j:=by
  have:=V04 (sr4 (H (j / 4)) (8*(3-j % 4)));unfold bo4;rw[J6e];unfold ob4;omega
def wb4 (H:Nat→Int)(n:Nat):List UInt8:=(List.range n).map (bo4 H)
theorem Z1n (H:Nat→Int)(n:Nat):(wb4 H n).length=n:=by simp[wb4]
def Z6v (l:List UInt8):List UInt8:=wb4 (Hs4 (J2t l) (nb4 l.length)) 32
def hs4 (l:List UInt8):Nat:=le (Z6v l)
theorem Q2l (l:List UInt8):(Z6v l).length=32:=Z1n _ _
theorem Z1o (l:List UInt8):(J0 .u8 32 (sm4 l)).toList=bs8 (Z6v l):=by
  unfold J0 bs8 Z6v wb4;rw[List.map_map];simp only[List.map_inj_left,Function.comp];intro j _;rw[V2j];rfl
theorem Y6e (F:List UInt8):Z6v F=lb 32 (hs4 F):=(Z1p (Q2l F)).symm
theorem Z9n (F:List UInt8):J0 .u8 32 (sm4 F)=J0 .u8 32 (J7 (hs4 F)):=Q9k (by rw[Z1o,Y6e,Q07,J32])
theorem V2k (F:List UInt8):hs4 F<2^256:=by have:=Z9o (Z6v F);rwa [Q2l] at this
end

section
set_option maxHeartbeats 3000000
attribute [local irreducible] wpList Z6 wpX
theorem Y9q {w:World}{o:Oper}{a:Act}{x:Operand}{c:UInt8}(ho:o.op=.convert 5 3 x)(hx:a.eval x=.int .u8 (c.toNat:Int)):(execOp a.eval o).run Tryz.prog w=.ok (.value (.int .i64 (c.toNat:Int))) w:=by
 have hc:=c.toNat_lt;have hw:IntKind.wrap .i64 (c.toNat:Int)=(c.toNat:Int):=by rw[IntKind.wrap_i64];omega
 simp[execOp,ho,hx,convert,run_underlying Tryz.underlying5,run_underlying Tryz.underlying3,Sem.run_bind,Conv.intToInt,hw]
end
end Go.Proofs.YtlkbneflnjmgbaaGreatDoor

/- Contracts and plain laws for bundleAny_holds. Conditions: the tables hold their numbers. -/
import Derived.Test.YtlkbneflnjmgbaaGreatDoorK4Ka
import Derived.Test.YtlkbneflnjmgbaaGreatDoorJ16
open Go.RowKit
set_option maxRecDepth 100000
set_option linter.unusedSimpArgs false
set_option linter.unusedVariables false
namespace Go.Proofs.YtlkbneflnjmgbaaGreatDoor.K4
section
set_option maxHeartbeats 1500000
attribute [local irreducible] wpList Z6 wpX
theorem J7x {w:World}{p:Nat}{v:Value}{l:List UInt8}{e:Int}(h:Rdr w p v l e):SH [p] w w [.b p #[v,.int .i64 e] 154,.s v l]:=by
 refine⟨Off.refl _ _,fun x hx=> ?_,List.pairwise_cons.2 ⟨fun y hy=>⟨fun _=> ?_,fun hm=> ?_⟩,List.pairwise_cons.2 ⟨fun y hy=>(by cases hy),.nil⟩⟩,fun x hx hm k hk _=> ?_⟩
 ·
  rcases List.mem_cons.1 hx with rfl|hx
  ·
   exact h.1
  rw[List.mem_singleton.1 hx];exact h.2.1
 ·
  rw[List.mem_singleton.1 hy];intro k hk D;obtain rfl:k=p:=List.mem_singleton.1 hk;exact h.2.2 (As.mem_toList D)
 ·
  rw[List.mem_singleton.1 hy] at hm;cases hm
 rcases List.mem_cons.1 hx with rfl|hx
 ·
  exact hk
 rw[List.mem_singleton.1 hx] at hm;cases hm
theorem J2d {v v1 v2:Value}{l l1 l2:List UInt8}(h2:Sub v2 l2 (sb v1 l1))(h1:Sub v1 l1 (sb v l)):Sub v2 l2 (sb v l):=fun x hx=>h1 x (h2 x hx)
theorem J7y {w W:World}{p:Nat}{v v' :Value}{l l' :List UInt8}{e e0:Int}(h0:Rdr w p v l e0)(h:SH [p] w W [.b p #[v',.int .i64 e] 154,.s v' l'])(hs:Sub v' l' (sb v l)):RdTo w p v l l' e v' W:=
 ⟨⟨h.blk (i:=0) rfl,h.sl (i:=1) rfl,fun e_=>h0.2.2 (hs _ e_)⟩,hs,h.off⟩
theorem Q3r {F:List Nat}{w W:World}{H:List As}{i j p:Nat}{v:Value}{l:List UInt8}{e:Int}(hS:SH F w W H)(hi:H[i]?=some (.b p #[v,.int .i64 e] 154))(hj:H[j]?=some (.s v l)):Rdr W p v l e:=by
 refine⟨hS.blk hi,hS.sl hj,fun e_=> ?_⟩;have hn:i≠j:=fun e=>by subst e;rw[hi] at hj;cases hj
 exact(hS.ap2 hi hj hn).1 rfl p (by simp[As.foot]) (by show p∈(sb v l).toList;rw[e_];simp)
theorem J2g {P:Program}{f:FuncId}{args:Array Value}{val:Value}{F:List Nat}{w W:World}{H:List As}{i j p:Nat}{v:Value}{l l' :List UInt8}{e e' :Int}(hS:SH F w W H)(hi:H[i]?=some (.b p #[v,.int .i64 e] 154))(hj:H[j]?=some (.s v l))
  (hc:Rdr W p v l e→Calls P f args W fun en W' =>en=.returned val∧∃v',RdTo W p v l l' e' v' W'):Calls P f args W fun en W' => ∃x:{u:Value // Sub u l' (sb v l)},en=.returned val∧SH F w W' (.s x.1 l' ::H.set i (.b p #[x.1,.int .i64 e'] 154)):=by
 have hn:i≠j:=fun e=>by subst e;rw[hi] at hj;cases hj
 refine(hc (Q3r hS hi hj)).mono fun en W' ⟨h1,v',h2⟩=>⟨⟨v',h2.sub⟩,h1,?_⟩
 have h3:=hS.setb hi h2.off h2.rd.1;exact h3.sub (i:=j) (by rw[List.getElem?_set_ne hn];exact hj) h2.rd.2.1 h2.sub

theorem V48 (p:Nat)(v:Value)(l:List UInt8)(n:Nat)(e0:Int)(he:e0≠0)(w:World)(hrd:Rdr w p v l e0):
  Calls Tryz.prog 93 #[.pointer (some ⟨p,0,none⟩),.int .i64 (n:Int)] w fun e w' =>e=.returned (.slice none 0 0)∧∃v',RdTo w p v l l e0 v' w' :=by
 have hS:=J7x hrd
 go_enter Tryz.func93,Tryz.ntmps93
 go_upto_region 1 with fail;refine RL hS ?_;clear hS;refine MV ?_;refine Wf ?_;refine Wf ?_;(iterate 3 refine MV ?_);refine MG 0 ?_ (v:=.int .i64 e0);refine MW ?_ (v:=.bool true) (hv:=by intro W;go_simp;first|done|exact he|(simp[he]));refine Wt ?_;refine Wt ?_;refine MZ fun W hS=> ?_;go_wp2;exact bodyPost_ret (v:=.slice none 0 0) (by simp only[results,Tryz.results93];first|(go_simp;done)|(go_simp;rfl)) rfl ⟨rfl,_,J7y hrd (hS.pick [0,1]) J1e⟩
theorem V49 (p:Nat)(v:Value)(l:List UInt8)(n:Nat)(he:l.length<n)(w:World)(hrd:Rdr w p v l 0):
  Calls Tryz.prog 93 #[.pointer (some ⟨p,0,none⟩),.int .i64 (n:Int)] w fun e w' =>e=.returned (.slice none 0 0)∧∃v',RdTo w p v l l 3 v' w' :=by
 have hS:=J7x hrd
 go_enter Tryz.func93,Tryz.ntmps93
 go_upto_region 1 with fail;refine RL hS ?_;clear hS;refine MV ?_;refine Wf ?_;refine Wf ?_;(iterate 3 refine MV ?_);refine MG 0 ?_ (v:=.int .i64 0);refine MW ?_ (v:=.bool false) (hv:=by intro W;go_simp);refine Wf ?_;refine Wf ?_;refine MZ fun W hS=> ?_;go_upto_region 3 with fail;refine RL hS ?_;clear hS;(iterate 3 refine MV ?_);refine MG 0 ?_ (v:=v);refine MF (v:=.int .i64 (l.length:Int)) (fun W hS=>X5 (hS.sl (i:=1) rfl) rfl rfl) ?_;refine MV ?_;refine MW ?_ (v:=.bool true) (hv:=by intro W;go_simp;(try omega));refine Wt ?_;refine MZ fun W hS=> ?_;go_upto_region 4 with fail;refine RL hS ?_;clear hS;(iterate 3 refine MV ?_);refine MP 0 (v:=.int .i64 3) ?_;refine MZ fun W hS=> ?_;go_wp2;exact bodyPost_ret (v:=.slice none 0 0) (by simp only[results,Tryz.results93];first|(go_simp;done)|(go_simp;rfl)) rfl ⟨rfl,_,J7y hrd (hS.pick [0,1]) J1e⟩
def noE (e:Int):Int:=if e=0 then 3 else e
theorem Q7y (p:Nat)(v:Value)(l:List UInt8)(n:Nat)(e0:Int)(h:e0≠0∨l.length<n)(w:World)(hrd:Rdr w p v l e0):Calls Tryz.prog 93 #[.pointer (some ⟨p,0,none⟩),.int .i64 (n:Int)] w fun e w' =>e=.returned (.slice none 0 0)∧∃v',RdTo w p v l l (noE e0) v' w' :=by
 by_cases he:e0=0
 ·
  subst he;exact V49 p v l n (h.resolve_left (fun h=>h rfl)) w hrd
 unfold noE;rw[if_neg he];exact V48 p v l n e0 he w hrd
theorem Z0d (p:Nat)(v:Value)(l:List UInt8)(e0:Int)(h:e0≠0∨l.length<1)(w:World)(hrd:Rdr w p v l e0):
  Calls Tryz.prog 66 #[.pointer (some ⟨p,0,none⟩)] w fun e w' =>e=.returned (.int .i64 0)∧∃v',RdTo w p v l l (noE e0) v' w' :=by
 have hS:=J7x hrd
 go_enter Tryz.func66,Tryz.ntmps66
 go_upto_region 1 with fail;refine RL hS ?_;clear hS;refine MV ?_;refine ME (V:=fun _=> .slice none 0 0) (fun W hS=>J2g (i:=0) (j:=1) hS rfl rfl (fun hr=>Q7y p _ _ 1 _ h W hr)) ?_;rintro⟨w1,D⟩;dsimp only;refine MD 2 ?_;refine MV ?_;refine MZ fun W hS=> ?_;go_upto_region 2 with fail;refine RL hS ?_;clear hS;refine MV ?_;refine Wt ?_;refine MZ fun W hS=> ?_;go_wp2;exact bodyPost_ret (v:=.int .i64 0) (by simp only[results,Tryz.results66];first|(go_simp;done)|(go_simp;rfl)) rfl ⟨rfl,_,J7y hrd (hS.pick [1,0]) D⟩
theorem Y27 (p:Nat)(v:Value)(l:List UInt8)(e0:Int)(h:e0≠0∨l.length<1)(w:World)(hrd:Rdr w p v l e0):
  Calls Tryz.prog 70 #[.pointer (some ⟨p,0,none⟩)] w fun e w' =>e=.returned (.bool false)∧∃v',RdTo w p v l l (noE e0) v' w' :=by
 have hS:=J7x hrd
 go_enter Tryz.func70,Tryz.ntmps70
 go_upto_region 1 with fail;refine RL hS ?_;clear hS;refine MV ?_;refine ME (V:=fun _=> .int .i64 0) (fun W hS=>J2g (i:=0) (j:=1) hS rfl rfl (fun hr=>Z0d p _ _ _ h W hr)) ?_;rintro⟨w1,D⟩;dsimp only;refine MD 2 ?_;refine W0 ?_;refine MZ fun W hS=> ?_;go_wp2;exact bodyPost_ret (v:=.bool false) (by simp only[results,Tryz.results70];first|(go_simp;done)|(go_simp;rfl)) rfl ⟨rfl,_,J7y hrd (hS.pick [1,0]) D⟩
theorem Y7u (p:Nat)(v:Value)(l:List UInt8)(e0:Int)(h:e0≠0∨l.length<8)(w:World)(hrd:Rdr w p v l e0):
  Calls Tryz.prog 69 #[.pointer (some ⟨p,0,none⟩)] w fun e w' =>e=.returned (.int .i64 0)∧∃v',RdTo w p v l l (noE e0) v' w' :=by
 have hS:=J7x hrd
 go_enter Tryz.func69,Tryz.ntmps69
 go_upto_region 2 with fail;refine RL hS ?_;clear hS;refine MV ?_;refine ME (V:=fun _=> .slice none 0 0) (fun W hS=>J2g (i:=0) (j:=1) hS rfl rfl (fun hr=>Q7y p _ _ 8 _ h W hr)) ?_;rintro⟨w1,D⟩;dsimp only;refine MD 2 ?_;refine W0 ?_;refine W0 ?_;refine MZ fun W hS=> ?_
 go_wp2_with fail
 refine wp_loop_rounds 1 ?_;rw[rounds_succ];go_wp2;exact bodyPost_ret (v:=.int .i64 0) (by simp only[results,Tryz.results69];first|(go_simp;done)|(go_simp;rfl)) rfl ⟨rfl,_,J7y hrd (hS.pick [1,0]) D⟩
theorem Z7g {W:World}{o:Oper}{a:Act}{x y:Operand}{ad:Addr}{n c:Nat}(ho:o.op=.call {callee:=.builtin .copy,args:= #[x,y],argTypes:= #[35,35]})(hx:a.eval x=.slice (some ad) n c)(hy:a.eval y=.slice none 0 0):(execOp a.eval o).run Tryz.prog W=.ok (.value (.int .i64 0)) W:=by
 have h:=run_copy_nil Tryz.prog W 35 35 o.type 5 ad n c Tryz.underlying35 (by have h0:=J6g;cases hq:Tryz.prog.info? 5 with|none=>rw[hq] at h0;cases h0|some i=>rfl);unfold execOp;simp only[ho,resolve,invoke,builtin,Sem.run_bind,Sem.run_pure,Result.andThen_ok,List.map_toArray,List.map_cons,List.map_nil,hx,hy,h];rfl
theorem Y7v (p:Nat)(v:Value)(l:List UInt8)(e0:Int)(h:e0≠0∨l.length<32)(w:World)(hrd:Rdr w p v l e0):
  Calls Tryz.prog 68 #[.pointer (some ⟨p,0,none⟩)] w fun e w' =>e=.returned (.agg (J0 .u8 32 (J7 0)))∧∃v',RdTo w p v l l (noE e0) v' w' :=by
 have hS:=J7x hrd
 go_enter Tryz.func68,Tryz.ntmps68
 go_upto_region 0 with fail;refine RL hS ?_;clear hS;refine MN (z:=J0 .u8 32 (J7 0)) (t:=22) ?_;intro Z8;refine MZ fun W hS=> ?_;go_upto_region 1 with fail;refine RL hS ?_;clear hS;refine MN (z:=J0 .u8 32 (J7 0)) (t:=22) ?_;intro G;refine MZ fun W hS=> ?_;go_upto_region 2 with fail;refine RTp [1] (.q 0 (.q 1 (.e 2 (.e 3 .z)))) hS ?_;clear hS;refine TW ?_ (v:=.slice (some ⟨G,0,none⟩) 32 32);refine TV ?_;refine TE (fun _ h=>h.pick [1]) ?_;refine ME (V:=fun _=> .slice none 0 0) (fun W hS=>J2g (i:=2) (j:=3) hS rfl rfl (fun hr=>Q7y p _ _ 32 _ h W hr)) ?_;rintro⟨w3,D⟩;dsimp only;refine MD 4 ?_;refine TNp [0,2] [1] ?_;refine TE (fun _ h=>h.pick [0,2]) ?_;refine MW ?_ (v:=.int .i64 0) (hv:=fun _=>Z7g rfl rfl rfl);refine TNp [0,2] [0,1] ?_;refine TZ (fun _ h=>h.pick [0,2]) fun W hS=> ?_;go_upto_region 3 with fail;refine RL hS ?_;clear hS;refine ML 1 ?_;refine MR 2 ?_;refine MZ fun W hS=> ?_;go_wp2;exact bodyPost_ret (Z0 rfl rfl (hS.blk (i:=2) rfl) (by kernel_rfl) (by rw[J1];kernel_rfl)) rfl ⟨rfl,_,J7y hrd (hS.pick [3,0]) D⟩
end

section
set_option maxHeartbeats 1500000
attribute [local irreducible] wpList Z6 wpX
abbrev RSt:=List UInt8×Int
def okS (n:Nat)(s:RSt):Prop:=s.2=0∧n≤s.1.length
instance (n:Nat)(s:RSt):Decidable (okS n s):=by unfold okS;exact inferInstance
def tkS (n:Nat)(s:RSt):RSt:=if okS n s then(s.1.drop n,0) else(s.1,noE s.2)
def beN (bs:List UInt8):Nat:=bs.foldl (fun n b=>n*256+b.toNat) 0
def byV (s:RSt):Nat:=if okS 1 s then(s.1.headD 0).toNat else 0
def flV (s:RSt):Bool:=decide (byV s=1)
def flS (s:RSt):RSt:=if 1<byV s then((tkS 1 s).1,2) else tkS 1 s
def K1 (s:RSt):Int:=if okS 8 s then IntKind.wrap .i64 (beN (s.1.take 8):Int) else 0
def suV (s:RSt):Nat:=if okS 32 s then le (s.1.take 32) else 0
def enV (s:RSt):Int:=if s.2=0∧s.1≠[] then 4 else s.2
theorem Q7z {n:Nat}{s:RSt}(h:¬okS n s):s.2≠0∨s.1.length<n:=by
 unfold okS at h
 by_cases h0:s.2=0
 ·
  exact .inr (Nat.lt_of_not_le fun h1=>h ⟨h0,h1⟩)
 exact .inl h0
theorem K36 {bs:List UInt8}(h:bs.length=8):be8 (beN bs)=bs∧beN bs<18446744073709551616:=by
 match bs,h with
 |[a,b,c,d,e,f,g,i],_=>
  have ha:=a.toNat_lt;have hb:=b.toNat_lt;have hc:=c.toNat_lt;have hd:=d.toNat_lt;have he:=e.toNat_lt;have hf:=f.toNat_lt;have hg:=g.toNat_lt;have hi:=i.toNat_lt;have hX:beN [a,b,c,d,e,f,g,i]=((((((((0*256+a.toNat)*256+b.toNat)*256+c.toNat)*256+d.toNat)*256+e.toNat)*256+f.toNat)*256+g.toNat)*256+i.toNat):=rfl;rw[hX];have D:∀(x:UInt8)(n:Nat),n % 256=x.toNat→u8 n=x:=fun x n h=>by apply UInt8.toNat_inj.1;rw[J4f,h]
  refine⟨?_,by omega⟩;unfold be8;rw[D a _ (by omega),D b _ (by omega),D c _ (by omega),D d _ (by omega),D e _ (by omega),D f _ (by omega),D g _ (by omega),D i _ (by omega)]
theorem Y28 {S:List UInt8}(h:S.length=32):(bs8 S).toArray=J0 .u8 32 (J7 (le S)):=by
 have e:=Z1p h;rw[show bs8 S=bs8 (lb 32 (le S)) by rw[e],Q07,←J32]
theorem Z7h (p:Nat)(v:Value)(c:UInt8)(r:List UInt8)(hc:1<c.toNat)(hlen:(c::r).length<140737488000000)(w:World)(hrd:Rdr w p v (c::r) 0):
  Calls Tryz.prog 70 #[.pointer (some ⟨p,0,none⟩)] w fun e w' =>e=.returned (.bool false)∧∃v',RdTo w p v (c::r) r 2 v' w' :=by
 have hS:=J7x hrd
 go_enter Tryz.func70,Tryz.ntmps70
 go_upto_region 1 with fail;refine RL hS ?_;clear hS;refine MV ?_;refine ME (V:=fun _=> .int .i64 (c.toNat:Int)) (fun W hS=>J2g (i:=0) (j:=1) hS rfl rfl (fun hr=>Q1i p _ c r W hr hlen)) ?_;rintro⟨w1,D⟩;dsimp only;refine MD 2 ?_;refine MV ?_;refine MZ fun W hS=> ?_;go_upto_region 2 with fail;refine RL hS ?_;clear hS;refine MV ?_;refine MW ?_ (v:=.bool true) (hv:=by intro W;go_simp;(try omega));refine MZ fun W hS=> ?_;go_upto_region 3 with fail;refine RL hS ?_;clear hS;(iterate 3 refine MV ?_);refine MP 1 (v:=.int .i64 2) ?_;refine MZ fun W hS=> ?_;go_upto_region 4 with fail;refine RL hS ?_;clear hS;refine MV ?_;refine MW ?_ (v:=.bool false) (hv:=by intro W;go_simp;(try omega));refine Wf ?_;refine MZ fun W hS=> ?_;go_wp2;exact bodyPost_ret (v:=.bool false) (by simp only[results,Tryz.results70];first|(go_simp;done)|(go_simp;rfl)) rfl ⟨rfl,_,J7y hrd (hS.pick [1,0]) D⟩
theorem V4b (p:Nat)(v:Value)(l:List UInt8)(e0:Int)(he:e0≠0)(w:World)(hrd:Rdr w p v l e0):
  Calls Tryz.prog 72 #[.pointer (some ⟨p,0,none⟩)] w fun e w' =>Ret (.int .i64 e0) w w' e:=by
 have hS:=SH.nil [] w
 go_enter Tryz.func72,Tryz.ntmps72
 go_upto_region 3 with fail;refine RL hS ?_;clear hS;(iterate 3 refine MV ?_);refine MF (v:=.int .i64 e0) (fun W hS=>Z9 rfl rfl (by rw[J4 (J3 hrd.1 hS.ext)];rfl) (by kernel_rfl)) ?_;refine MW ?_ (v:=.bool false) (hv:=by intro W;go_simp;first|done|exact he|(simp[he]));refine Wf ?_;(iterate 6 refine MS ?_);refine Wf ?_;refine Wf ?_;refine MZ fun W hS=> ?_;go_upto_region 5 with fail;refine RL hS ?_;clear hS;(iterate 3 refine MV ?_);refine MF (v:=.int .i64 e0) (fun W hS=>Z9 rfl rfl (by rw[J4 (J3 hrd.1 hS.ext)];rfl) (by kernel_rfl)) ?_;refine MV ?_;refine MZ fun W hS=> ?_;go_wp2;exact bodyPost_ret (v:=.int .i64 e0) (by simp only[results,Tryz.results72];first|(go_simp;done)|(go_simp;rfl)) rfl ⟨rfl,hS.ext⟩
section
variable {p : Nat} {v : Value} {s : RSt} {w : World}
theorem Z3x (hrd:Rdr w p v s.1 s.2)(hlen:s.1.length<140737488000000):Calls Tryz.prog 66 #[.pointer (some ⟨p,0,none⟩)] w fun e w' =>e=.returned (.int .i64 (byV s:Int))∧∃v',RdTo w p v s.1 (tkS 1 s).1 (tkS 1 s).2 v' w' :=by
 obtain⟨l,e0⟩:=s;unfold byV tkS
 by_cases h:okS 1 (l,e0)
 ·
  rw[if_pos h,if_pos h];obtain⟨h0,h1⟩:=h;obtain rfl:e0=0:=h0
  match l,h1 with
  |c::r,_=>exact Q1i p v c r w hrd hlen
 rw[if_neg h,if_neg h];exact Z0d p v l e0 (Q7z h) w hrd
theorem Y67 (hrd:Rdr w p v s.1 s.2)(hlen:s.1.length<140737488000000):Calls Tryz.prog 70 #[.pointer (some ⟨p,0,none⟩)] w fun e w' =>e=.returned (.bool (flV s))∧∃v',RdTo w p v s.1 (flS s).1 (flS s).2 v' w' :=by
 obtain⟨l,e0⟩:=s;unfold flV flS byV tkS
 by_cases h:okS 1 (l,e0)
 ·
  rw[if_pos h,if_pos h];obtain⟨h0,h1⟩:=h;obtain rfl:e0=0:=h0
  match l,h1 with
  |c::r,_=>
   show Calls _ _ _ _ fun e w' =>e=.returned (.bool (decide (c.toNat=1)))∧∃v',RdTo w p v (c::r) (if 1<c.toNat then(r,2) else(r,0):RSt).1 (if 1<c.toNat then(r,2) else(r,0):RSt).2 v' w';have hu:∀n,c.toNat=n→c=u8 n:=fun n h=>by apply UInt8.toNat_inj.1;rw[J4f,h];have:=c.toNat_lt;omega
   by_cases hc:1<c.toNat
   ·
    rw[if_pos hc,decide_eq_false (by omega)];exact Z7h p v c r hc hlen w hrd
   ·
    rw[if_neg hc]
    by_cases D:c.toNat=1
    ·
     rw[decide_eq_true D];rw[hu 1 D] at hrd hlen⊢;exact Y7n p v r w hrd hlen
    ·
     rw[decide_eq_false D];have G:c.toNat=0:=by omega
     rw[hu 0 G] at hrd hlen⊢;exact Y7m p v r w hrd hlen
 rw[if_neg h,if_neg h];exact Y27 p v l e0 (Q7z h) w hrd
theorem Q06 (hrd:Rdr w p v s.1 s.2)(hlen:s.1.length<140737488000000):Calls Tryz.prog 69 #[.pointer (some ⟨p,0,none⟩)] w fun e w' =>e=.returned (.int .i64 (K1 s))∧∃v',RdTo w p v s.1 (tkS 8 s).1 (tkS 8 s).2 v' w' :=by
 obtain⟨l,e0⟩:=s;unfold K1 tkS
 by_cases h:okS 8 (l,e0)
 ·
  rw[if_pos h,if_pos h];obtain⟨h0,h1⟩:=h;obtain rfl:e0=0:=h0;obtain⟨h2,h3⟩:=K36 (bs:=l.take 8) (by rw[List.length_take];exact Nat.min_eq_left h1);have h4:be8 (beN (l.take 8))++l.drop 8=l:=by rw[h2,List.take_append_drop]
  have:=Y7p p v (beN (l.take 8)) h3 (l.drop 8) w (by rw[h4];exact hrd) (by rw[h4];exact hlen);rw[h4] at this;exact this
 rw[if_neg h,if_neg h];exact Y7u p v l e0 (Q7z h) w hrd
theorem Q7a (hrd:Rdr w p v s.1 s.2)(hlen:s.1.length<140737488000000):Calls Tryz.prog 68 #[.pointer (some ⟨p,0,none⟩)] w fun e w' =>e=.returned (.agg (J0 .u8 32 (J7 (suV s))))∧∃v',RdTo w p v s.1 (tkS 32 s).1 (tkS 32 s).2 v' w' :=by
 obtain⟨l,e0⟩:=s;unfold suV tkS
 by_cases h:okS 32 (l,e0)
 ·
  rw[if_pos h,if_pos h];obtain⟨h0,h1⟩:=h;obtain rfl:e0=0:=h0;have h2:(l.take 32).length=32:=by rw[List.length_take];exact Nat.min_eq_left h1
  have h4:l.take 32++l.drop 32=l:=List.take_append_drop ..;have:=Y7s p v (l.take 32) (l.drop 32) h2 w (by rw[h4];exact hrd) (by rw[h4];exact hlen);rw[h4,Y28 h2] at this;exact this
 rw[if_neg h,if_neg h];exact Y7v p v l e0 (Q7z h) w hrd
theorem Z1l (hrd:Rdr w p v s.1 s.2):Calls Tryz.prog 72 #[.pointer (some ⟨p,0,none⟩)] w fun e w' =>Ret (.int .i64 (enV s)) w w' e:=by
 obtain⟨l,e0⟩:=s;unfold enV
 by_cases h0:e0=0
 ·
  subst h0
  match l with
  |[]=>rw[if_neg (by simp)];exact Y7q p v w hrd
  |c::r=>rw[if_pos ⟨rfl,by simp⟩];exact Z7f p v c r w hrd
 rw[if_neg (fun h=>h0 h.1)];exact V4b p v l e0 h0 w hrd
end
theorem J21 (n:Nat)(s:RSt):(tkS n s).1.length≤s.1.length:=by
 unfold tkS
 split
 ·
  rw[List.length_drop];omega
 exact Nat.le_refl _
theorem Y68 (s:RSt):(flS s).1.length≤s.1.length:=by
 unfold flS
 split
 ·
  exact J21 1 s
 exact J21 1 s
end

section
set_option maxHeartbeats 1500000
attribute [local irreducible] wpList

theorem Y2a (p m:Nat)(v:Value)(X:List UInt8)(hm2:m≤65535)(most:Int)(hmost:most<(m:Int))(w:World)(hrd:Rdr w p v (u8 (m / 256)::u8 m::X) 0)(hl:(u8 (m / 256)::u8 m::X).length<140737488000000):
  Calls Tryz.prog 67 #[.pointer (some ⟨p,0,none⟩),.int .i64 most] w fun e w' =>e=.returned (.slice none 0 0)∧Rdr w' p v (u8 (m / 256)::u8 m::X) 5∧Off [p] w w' :=by
 obtain⟨M,cb,rfl,N⟩:=Q1d hrd.2.1 (by simp);have R:=Z2f m hm2;have T:(u8 (m / 256)::u8 m::X).length=2+X.length:=by simp;omega
 have V:(0:Int)≤(m:Int):=Int.natCast_nonneg _;have U:(m:Int)≤65535:=by omega
 obtain⟨D,G,K8⟩:=hrd;have S:Fb p w.heap.size [p]:=fun _=>by simp
 have J:Off [p] w w:=Off.refl _ _
 go_enter Tryz.func67,Tryz.ntmps67
 go_upto_region 1 with fail;refine wp_region_lit ?_;refine Lv ?_;refine Lw ?_ (v:=.bool false);refine Lw ?_ (v:=.bool false);(iterate 3 refine Lv ?_);refine Lg ?_ D (v:=.int .i64 0);refine Lw ?_ (v:=.bool false);refine Lw ?_ (v:=.bool false);refine J2 ?_;go_upto_region 3 with fail;refine wp_region_lit ?_;(iterate 3 refine Lv ?_);refine Lg ?_ D (v:=.slice (some M) (u8 (m / 256)::u8 m::X).length cb);refine J2b (l:=(u8 (m / 256)::u8 m::X)) G (by rfl) rfl rfl ?_
 (try simp only[Act.put,mA,mB,mC])
 refine Lw ?_ (v:=.bool false);refine J2 ?_;go_upto_region 6 with fail;refine Rx 17 ?_;(iterate 3 refine Xv ?_);refine Xc ?_ (v:=.slice (some M) (u8 (m / 256)::u8 m::X).length cb) (V2 D)
 (refine J0d (v:=.pointer (some (M.add 0))) (by rfl) (fun W hW=>J4l (j:=0) (by omega) rfl rfl rfl) ?_)
 (try simp only[Act.put,mA,mB,mC])
 refine J8y (v:=.int .u8 ((u8 (m / 256)).toNat:Int)) (by rfl) rfl rfl (fun W hW=>J0q (N 0 (u8 (m / 256)) rfl) hW) (by kernel_rfl) ?_
 (try simp only[Act.put,mA,mB,mC])
 (refine J0d (v:=.int .i64 ((u8 (m / 256)).toNat:Int)) (by rfl) (fun W hW=>by have:=(u8 (m / 256)).toNat_lt;go_simp;(try simp only[IntKind.wrap_i64]);(try omega)) ?_)
 (try simp only[Act.put,mA,mB,mC])
 (refine J0d (v:=.int .i64 (((u8 (m / 256)).toNat:Int)*256)) (by rfl) (fun W hW=>by have:=(u8 (m / 256)).toNat_lt;go_simp;(try simp only[IntKind.wrap_i64]);(try omega)) ?_)
 (try simp only[Act.put,mA,mB,mC])
 (iterate 3 refine Xv ?_);refine Xc ?_ (v:=.slice (some M) (u8 (m / 256)::u8 m::X).length cb) (V2 D)
 (refine J0d (v:=.pointer (some (M.add 1))) (by rfl) (fun W hW=>J4l (j:=1) (by omega) rfl rfl rfl) ?_)
 (try simp only[Act.put,mA,mB,mC])
 refine J8y (v:=.int .u8 ((u8 m).toNat:Int)) (by rfl) rfl rfl (fun W hW=>J0q (N 1 (u8 m) rfl) hW) (by kernel_rfl) ?_
 (try simp only[Act.put,mA,mB,mC])
 (refine J0d (v:=.int .i64 ((u8 m).toNat:Int)) (by rfl) (fun W hW=>by have:=(u8 m).toNat_lt;go_simp;(try simp only[IntKind.wrap_i64]);(try omega)) ?_)
 (try simp only[Act.put,mA,mB,mC])
 (refine J0d (v:=.int .i64 (m:Int)) (by rfl) (fun W hW=>by have h8:=R;go_simp) ?_)
 (try simp only[Act.put,mA,mB,mC])
 refine Xv ?_;refine K3 fun W1 hE=> ?_;have hO:=J0b hE;replace D:=D.o hO;replace G:=Sl.off G hO f0;replace J:=J.o hO;clear hO hE;refine LN ?_;go_upto_region 7 with fail;refine wp_region_lit ?_;refine Lv ?_;refine Lv ?_;refine Lw ?_ (v:=.bool true);refine Lw ?_ (v:=.bool true);refine J2 ?_;go_upto_region 8 with fail;refine wp_region_lit ?_;(iterate 3 refine Lv ?_);refine J1k (v:=.int .i64 5) ⟨rfl,rfl⟩ (by rfl) rfl rfl rfl D (by show 1<2;decide) (by kernel_rfl) ?_
 (try simp only[Act.put,mA,mB,mC])
 intro W2 hO h_;replace D:Blk W2 p #[.slice (some M) (u8 (m / 256)::u8 m::X).length cb,.int .i64 5] 154:=h_;clear h_;replace G:=Sl.off G hO (f1 K8);replace J:=J.p hO S;clear hO;refine J2 ?_;go_wp2;exact bodyPost_ret (v:=.slice none 0 0) (by simp only[results,Tryz.results67];go_simp) rfl ⟨rfl,⟨D,G,K8⟩,J⟩
theorem Y2b (p m:Nat)(v:Value)(X:List UInt8)(hm2:m≤65535)(most:Int)(hmost:(m:Int)≤most)(hX:X.length<m)(w:World)(hrd:Rdr w p v (u8 (m / 256)::u8 m::X) 0)(hl:(u8 (m / 256)::u8 m::X).length<140737488000000):
  Calls Tryz.prog 67 #[.pointer (some ⟨p,0,none⟩),.int .i64 most] w fun e w' =>e=.returned (.slice none 0 0)∧Rdr w' p v (u8 (m / 256)::u8 m::X) 3∧Off [p] w w' :=by
 obtain⟨J,cb,rfl,N⟩:=Q1d hrd.2.1 (by simp);have R:=Z2f m hm2;have T:(u8 (m / 256)::u8 m::X).length=2+X.length:=by simp;omega
 have V:(0:Int)≤(m:Int):=Int.natCast_nonneg _;have U:(m:Int)≤65535:=by omega
 obtain⟨D,G,K8⟩:=hrd;have S:Fb p w.heap.size [p]:=fun _=>by simp
 have M:Off [p] w w:=Off.refl _ _
 go_enter Tryz.func67,Tryz.ntmps67
 go_upto_region 1 with fail;refine wp_region_lit ?_;refine Lv ?_;refine Lw ?_ (v:=.bool false);refine Lw ?_ (v:=.bool false);(iterate 3 refine Lv ?_);refine Lg ?_ D (v:=.int .i64 0);refine Lw ?_ (v:=.bool false);refine Lw ?_ (v:=.bool false);refine J2 ?_;go_upto_region 3 with fail;refine wp_region_lit ?_;(iterate 3 refine Lv ?_);refine Lg ?_ D (v:=.slice (some J) (u8 (m / 256)::u8 m::X).length cb);refine J2b (l:=(u8 (m / 256)::u8 m::X)) G (by rfl) rfl rfl ?_
 (try simp only[Act.put,mA,mB,mC])
 refine Lw ?_ (v:=.bool false);refine J2 ?_;go_upto_region 6 with fail;refine Rx 17 ?_;(iterate 3 refine Xv ?_);refine Xc ?_ (v:=.slice (some J) (u8 (m / 256)::u8 m::X).length cb) (V2 D)
 (refine J0d (v:=.pointer (some (J.add 0))) (by rfl) (fun W hW=>J4l (j:=0) (by omega) rfl rfl rfl) ?_)
 (try simp only[Act.put,mA,mB,mC])
 refine J8y (v:=.int .u8 ((u8 (m / 256)).toNat:Int)) (by rfl) rfl rfl (fun W hW=>J0q (N 0 (u8 (m / 256)) rfl) hW) (by kernel_rfl) ?_
 (try simp only[Act.put,mA,mB,mC])
 (refine J0d (v:=.int .i64 ((u8 (m / 256)).toNat:Int)) (by rfl) (fun W hW=>by have:=(u8 (m / 256)).toNat_lt;go_simp;(try simp only[IntKind.wrap_i64]);(try omega)) ?_)
 (try simp only[Act.put,mA,mB,mC])
 (refine J0d (v:=.int .i64 (((u8 (m / 256)).toNat:Int)*256)) (by rfl) (fun W hW=>by have:=(u8 (m / 256)).toNat_lt;go_simp;(try simp only[IntKind.wrap_i64]);(try omega)) ?_)
 (try simp only[Act.put,mA,mB,mC])
 (iterate 3 refine Xv ?_);refine Xc ?_ (v:=.slice (some J) (u8 (m / 256)::u8 m::X).length cb) (V2 D)
 (refine J0d (v:=.pointer (some (J.add 1))) (by rfl) (fun W hW=>J4l (j:=1) (by omega) rfl rfl rfl) ?_)
 (try simp only[Act.put,mA,mB,mC])
 refine J8y (v:=.int .u8 ((u8 m).toNat:Int)) (by rfl) rfl rfl (fun W hW=>J0q (N 1 (u8 m) rfl) hW) (by kernel_rfl) ?_
 (try simp only[Act.put,mA,mB,mC])
 (refine J0d (v:=.int .i64 ((u8 m).toNat:Int)) (by rfl) (fun W hW=>by have:=(u8 m).toNat_lt;go_simp;(try simp only[IntKind.wrap_i64]);(try omega)) ?_)
 (try simp only[Act.put,mA,mB,mC])
 (refine J0d (v:=.int .i64 (m:Int)) (by rfl) (fun W hW=>by have h8:=R;go_simp) ?_)
 (try simp only[Act.put,mA,mB,mC])
 refine Xv ?_;refine K3 fun W1 hE=> ?_;have hO:=J0b hE;replace D:=D.o hO;replace G:=Sl.off G hO f0;replace M:=M.o hO;clear hO hE;refine LN ?_;go_upto_region 7 with fail;refine wp_region_lit ?_;refine Lv ?_;refine Lv ?_;refine Lw ?_ (v:=.bool false);refine Lw ?_ (v:=.bool false);refine J2 ?_;go_upto_region 10 with fail;refine wp_region_lit ?_;(iterate 3 refine Lv ?_);refine Lg ?_ D (v:=.slice (some J) (u8 (m / 256)::u8 m::X).length cb);refine J2b (l:=(u8 (m / 256)::u8 m::X)) G (by rfl) rfl rfl ?_
 (try simp only[Act.put,mA,mB,mC])
 refine Lv ?_;refine Lw ?_ (v:=.int .i64 ((2+m:Nat):Int)) (hv:=by go_simp;(try simp only[IntKind.wrap_i64]);(try omega));refine Lw ?_ (v:=.bool true);refine Lw ?_ (v:=.bool true);refine J2 ?_;go_upto_region 11 with fail;refine wp_region_lit ?_;(iterate 3 refine Lv ?_);refine J1k (v:=.int .i64 3) ⟨rfl,rfl⟩ (by rfl) rfl rfl rfl D (by show 1<2;decide) (by kernel_rfl) ?_
 (try simp only[Act.put,mA,mB,mC])
 intro W2 hO h_;replace D:Blk W2 p #[.slice (some J) (u8 (m / 256)::u8 m::X).length cb,.int .i64 3] 154:=h_;clear h_;replace G:=Sl.off G hO (f1 K8);replace M:=M.p hO S;clear hO;refine J2 ?_;go_wp2;exact bodyPost_ret (v:=.slice none 0 0) (by simp only[results,Tryz.results67];go_simp) rfl ⟨rfl,⟨D,G,K8⟩,M⟩
end

section
set_option maxHeartbeats 1500000
attribute [local irreducible] wpList Z6 wpX

theorem Y7y (p:Nat)(v:Value)(l:List UInt8)(e0:Int)(he:e0≠0)(most:Int)(w:World)(hrd:Rdr w p v l e0):
  Calls Tryz.prog 67 #[.pointer (some ⟨p,0,none⟩),.int .i64 most] w fun e w' =>e=.returned (.slice none 0 0)∧∃v',RdTo w p v l l e0 v' w' :=by
 have hS:=J7x hrd
 go_enter Tryz.func67,Tryz.ntmps67
 go_upto_region 1 with fail;refine RL hS ?_;clear hS;refine MV ?_;refine Wf ?_;refine Wf ?_;(iterate 3 refine MV ?_);refine MG 0 ?_ (v:=.int .i64 e0);refine MW ?_ (v:=.bool true) (hv:=by intro W;go_simp;first|done|exact he|(simp[he]));refine Wt ?_;refine MZ fun W hS=> ?_;go_wp2;exact bodyPost_ret (v:=.slice none 0 0) (by simp only[results,Tryz.results67];first|(go_simp;done)|(go_simp;rfl)) rfl ⟨rfl,_,J7y hrd (hS.pick [0,1]) J1e⟩
theorem Z59 (p:Nat)(v:Value)(l:List UInt8)(he:l.length<2)(most:Int)(w:World)(hrd:Rdr w p v l 0):
  Calls Tryz.prog 67 #[.pointer (some ⟨p,0,none⟩),.int .i64 most] w fun e w' =>e=.returned (.slice none 0 0)∧∃v',RdTo w p v l l 3 v' w' :=by
 have hS:=J7x hrd
 go_enter Tryz.func67,Tryz.ntmps67
 go_upto_region 1 with fail;refine RL hS ?_;clear hS;refine MV ?_;refine Wf ?_;refine Wf ?_;(iterate 3 refine MV ?_);refine MG 0 ?_ (v:=.int .i64 0);refine MW ?_ (v:=.bool false) (hv:=by intro W;go_simp);refine Wf ?_;refine MZ fun W hS=> ?_;go_upto_region 3 with fail;refine RL hS ?_;clear hS;(iterate 3 refine MV ?_);refine MG 0 ?_ (v:=v);refine MF (v:=.int .i64 (l.length:Int)) (fun W hS=>X5 (hS.sl (i:=1) rfl) rfl rfl) ?_;refine MW ?_ (v:=.bool true) (hv:=by intro W;go_simp;(try omega));refine MZ fun W hS=> ?_;go_upto_region 4 with fail;refine RL hS ?_;clear hS;(iterate 3 refine MV ?_);refine MP 0 (v:=.int .i64 3) ?_;refine MZ fun W hS=> ?_;go_wp2;exact bodyPost_ret (v:=.slice none 0 0) (by simp only[results,Tryz.results67];first|(go_simp;done)|(go_simp;rfl)) rfl ⟨rfl,_,J7y hrd (hS.pick [0,1]) J1e⟩
end

section
def txN (l:List UInt8):Nat:=match l with
  |a::b::_=>a.toNat*256+b.toNat
  |_=>0
def okT (most:Int)(s:RSt):Prop:=s.2=0∧2≤s.1.length∧(txN s.1:Int)≤most∧2+txN s.1≤s.1.length
instance (most:Int)(s:RSt):Decidable (okT most s):=by unfold okT;exact inferInstance
def txE (most:Int)(s:RSt):Int:=if s.2≠0 then s.2 else if s.1.length<2 then 3 else if most<(txN s.1:Int) then 5 else 3
def txV (most:Int)(s:RSt):List UInt8:=if okT most s then(s.1.drop 2).take (txN s.1) else[]
def txS (most:Int)(s:RSt):RSt:=if okT most s then(s.1.drop (2+txN s.1),0) else(s.1,txE most s)
theorem Y2c (w:World):Own w (.slice none 0 0) []:=⟨by simp[bs8],.inl ⟨rfl,rfl⟩⟩
theorem V90 (a b:UInt8):u8 ((a.toNat*256+b.toNat) / 256)=a:=by
  apply UInt8.toNat_inj.1;rw[J4f];have:=a.toNat_lt;have:=b.toNat_lt;omega
theorem V91 (a b:UInt8):u8 (a.toNat*256+b.toNat)=b:=by
  apply UInt8.toNat_inj.1;rw[J4f];have:=a.toNat_lt;have:=b.toNat_lt;omega
theorem Q78 {p:Nat}{v:Value}{s:RSt}{w:World}(most:Int)(hrd:Rdr w p v s.1 s.2)(hlen:s.1.length<140737488000000):
    Calls Tryz.prog 67 #[.pointer (some ⟨p,0,none⟩),.int .i64 most] w fun e w' => ∃u,e=.returned u∧Own w' u (txV most s)∧Fr u.ownBlock w.heap.size []∧∃v',RdTo w p v s.1 (txS most s).1 (txS most s).2 v' w' :=by
  obtain⟨l,e0⟩:=s
  have no:∀x:Int,¬okT most (l,e0)→txE most (l,e0)=x→Calls Tryz.prog 67 #[.pointer (some ⟨p,0,none⟩),.int .i64 most] w (fun e w' =>e=.returned (.slice none 0 0)∧∃v',RdTo w p v l l x v' w')→
      Calls Tryz.prog 67 #[.pointer (some ⟨p,0,none⟩),.int .i64 most] w fun e w' => ∃u,e=.returned u∧Own w' u (txV most (l,e0))∧Fr u.ownBlock w.heap.size []∧∃v',RdTo w p v l (txS most (l,e0)).1 (txS most (l,e0)).2 v' w' :=by
    intro x hn hx h;unfold txV txS;rw[if_neg hn,if_neg hn,hx];exact h.mono fun e w' ⟨h1,h2⟩=>⟨_,h1,Y2c w',fun b hb=>(by cases hb),h2⟩
  by_cases h0:e0=0
  · subst h0
    match l,hrd,hlen,no with
    |[],hrd,_,no=>exact no 3 (fun h=>by have:=h.2.1;simp at this) (by simp[txE]) (Z59 p v [] (by simp) most w hrd)
    |[a],hrd,_,no=>exact no 3 (fun h=>by have:=h.2.1;simp at this) (by simp[txE]) (Z59 p v [a] (by simp) most w hrd)
    |a::b::X,hrd,hlen,no=>
      have ha:=a.toNat_lt;have hb:=b.toNat_lt;have eN:txN (a::b::X)=a.toNat*256+b.toNat:=rfl;have e1:=V90 a b;have e2:=V91 a b;obtain⟨m,hm⟩:∃m,m=a.toNat*256+b.toNat:=⟨_,rfl⟩
      rw[←hm] at e1 e2 eN;have G:m≤65535:=by omega
      have hrd' :Rdr w p v (u8 (m / 256)::u8 m::X) 0:=by rw[e1,e2];exact hrd
      have hlen' :(u8 (m / 256)::u8 m::X).length<140737488000000:=by rw[e1,e2];exact hlen
      by_cases D:most<(m:Int)
      · refine no 5 (fun h=>by have:=h.2.2.1;rw[eN] at this;omega) (by unfold txE;rw[if_neg (by simp),if_neg (by simp),eN,if_pos D]) ?_
        refine(Y2a p m v X G most D w hrd' hlen').mono fun e w' ⟨h1,h2,h3⟩=>⟨h1,v,?_,J1e,h3⟩
        rw[e1,e2] at h2;exact h2
      · by_cases hX:X.length<m
        · refine no 3 (fun h=>by have:=h.2.2.2;rw[eN] at this;simp at this;omega) (by unfold txE;rw[if_neg (by simp),if_neg (by simp),eN,if_neg D]) ?_
          refine(Y2b p m v X G most (by omega) hX w hrd' hlen').mono fun e w' ⟨h1,h2,h3⟩=>⟨h1,v,?_,J1e,h3⟩
          rw[e1,e2] at h2;exact h2
        · have M:okT most (a::b::X,0):=⟨rfl,by simp,by rw[eN];omega,by rw[eN];simp;omega⟩
          have et:X.take m++X.drop m=X:=List.take_append_drop m X;have hl:(X.take m).length=m:=by rw[List.length_take];omega
          have N:Rdr w p v (u8 (m / 256)::u8 m::(X.take m++X.drop m)) 0:=by rw[et];exact hrd'
          have J:(u8 (m / 256)::u8 m::(X.take m++X.drop m)).length<140737488000000:=by rw[et];exact hlen'
          unfold txV txS;rw[if_pos M,if_pos M,eN];refine(Y22 p m v (X.take m) (X.drop m) hl G most (by omega) w N J).mono fun e w' ⟨u,h1,h2,h3,v',h4⟩=>⟨u,h1,h2,h3,v',?_⟩
          rw[et,e1,e2] at h4;have e3:(a::b::X).drop (2+m)=X.drop m:=by rw[Nat.add_comm];rfl
          show RdTo w p v (a::b::X) ((a::b::X).drop (2+m)) 0 v' w';rw[e3];exact h4
  exact no e0 (fun h=>h0 h.1) (by unfold txE;rw[if_pos h0]) (Y7y p v l e0 h0 most w hrd)
end

section
attribute [local irreducible] wpList Z6 wpX
abbrev wrL (p:Nat)(v:Value)(l:List UInt8)(big:Bool):List As:=[.b p #[v,.bool big] 72,.o v l]
theorem Y7w {w w' :World}{p:Nat}{v v' :Value}{l l' :List UInt8}{big big' :Bool}(h:WrTo w p v l' big' v' w'):SH (SH.feet (wrL p v l big)) w w' (wrL p v' l' big'):=by
  have hf:SH.feet (wrL p v l big)=p::v.ownBlock.toList:=by simp[SH.feet,As.mv,As.foot]
  rw[hf];refine⟨h.off,fun x hx=> ?_,List.pairwise_cons.2 ⟨fun y hy=> ?_,List.pairwise_cons.2 ⟨fun y hy=>(by cases hy),.nil⟩⟩,fun x hx hm k hk J=> ?_⟩
  · rcases List.mem_cons.1 hx with rfl|hx
    · exact h.wr.1
    rw[List.mem_singleton.1 hx];exact h.wr.2
  · rw[List.mem_singleton.1 hy]
    have G:=Own.ne_blk h.wr.2 h.wr.1 (by decide);refine⟨fun _ k hk D=> ?_,fun _ k hk D=> ?_⟩
    · obtain rfl:k=p:=List.mem_singleton.1 hk
      exact G (As.mem_toList D)
    obtain rfl:k=p:=List.mem_singleton.1 D;exact G (As.mem_toList hk)
  rcases List.mem_cons.1 hx with rfl|hx
  · rw[show k=p from List.mem_singleton.1 hk];simp
  rw[List.mem_singleton.1 hx] at hk;exact List.mem_cons_of_mem _ (h.fr k (As.mem_toList hk) J)
theorem J4i {P:Program}{f:FuncId}{args:Array Value}{val:Value}{W:World}{p:Nat}{v:Value}{l l' :List UInt8}{big big' :Bool}(hS:SH (SH.feet (wrL p v l big)) W W (wrL p v l big))(hc:Wr W p v l big→Calls P f args W fun en W' =>en=.returned val∧∃v',WrTo W p v l' big' v' W'):
    Calls P f args W fun en W' => ∃v',en=.returned val∧SH (SH.feet (wrL p v l big)) W W' (wrL p v' l' big'):=
  (hc ⟨hS.blk (i:=0) rfl,hS.own (i:=1) rfl⟩).mono fun _ _ ⟨h1,v',h2⟩=>⟨v',h1,Y7w h2⟩
theorem Y7x {w w' :World}{l:List UInt8}{u:Value}(h:NewB w l u w'):SH [] w w' [.o u l]:=
  ⟨h.off,fun x hx=>by rw[List.mem_singleton.1 hx];exact h.own,List.pairwise_cons.2 ⟨fun y hy=>(by cases hy),.nil⟩,fun x hx _ k hk D=>by rw[List.mem_singleton.1 hx] at hk;exact h.fr k (As.mem_toList hk) D⟩
theorem Z9a {p:Nat}{v:Value}{l:List UInt8}{F:List Nat}{w W:World}{H:List As}{i j:Nat}(hS:SH F w W H)(hi:H[i]?=some (.b p #[v,.bool false] 72))(hj:H[j]?=some (.o v l))(hl:l.length≤140737488355328):
    Calls Tryz.prog 34 #[.pointer (some ⟨p,0,none⟩)] W fun e w' => ∃u,e=.returned (.tuple #[u,.int .i64 0])∧SH [] W w' [.o u l]:=
  (Q7u p v l W ⟨hS.blk hi,hS.own hj⟩ hl).mono fun _ _ ⟨u,h1,h2⟩=>⟨u,h1,Y7x h2⟩
abbrev rdL (p:Nat)(v:Value)(l:List UInt8)(e:Int):List As:=[.b p #[v,.int .i64 e] 154,.s v l]
theorem Z9k {u:Value}{l:List UInt8}{w:World}(hs:Sl w u l)(hl:l.length≤140737488355328):
    Calls Tryz.prog 40 #[u] w fun e w' => ∃x:Nat×Value,e=.returned (.pointer (some ⟨x.1,0,none⟩))∧SH [] w w' (rdL x.1 x.2 l 0)∧∀y∈rdL x.1 x.2 l 0,y.mv=false→∀k∈y.foot,w.heap.size≤k:=by
  refine(V46 u l w hs hl).mono fun e w' ⟨p,h1,v,h2,h3,h4,h5⟩=>⟨(p,v),h1,⟨h3,fun x hx=> ?_,List.pairwise_cons.2 ⟨fun y hy=> ?_,List.pairwise_cons.2 ⟨fun y hy=>(by cases hy),.nil⟩⟩,fun x hx hm k hk D=> ?_⟩,fun y hy hm k hk=> ?_⟩
  · rcases List.mem_cons.1 hx with rfl|hx
    · exact h2.1
    rw[List.mem_singleton.1 hx];exact h2.2.1
  · rw[List.mem_singleton.1 hy]
    refine⟨fun _ k hk G=> ?_,fun hm=>by cases hm⟩;obtain rfl:k=p:=List.mem_singleton.1 hk;exact h2.2.2 (As.mem_toList G)
  · rcases List.mem_cons.1 hx with rfl|hx
    · obtain rfl:k=p:=List.mem_singleton.1 hk
      exact h4 D
    rw[List.mem_singleton.1 hx] at hm;cases hm
  rcases List.mem_cons.1 hy with rfl|hy
  · cases hm
  rw[List.mem_singleton.1 hy] at hk;refine Nat.le_of_not_lt fun D=> ?_;have:=h5 k (J2x (As.mem_toList hk)) D;cases this
theorem Y29 (n U:Nat):(bs8 (lb n U)).toArray=J0 .u8 n (J7 U):=by rw[Q07,←J32]
theorem Q74 (N:Nat)(p:Nat)(v:Value)(l:List UInt8)(big:Bool)(w:World)(hwr:Wr w p v l big)(hl:l.length<140737488355290):
    Calls Tryz.prog 26 #[.pointer (some ⟨p,0,none⟩),.agg (J0 .u8 32 (J7 N))] w fun e w' =>e=.returned (.tuple #[])∧∃v',WrTo w p v (l++lb 32 N) big v' w' :=by
  rw[←Y29];exact V3y (lb 32 N) (J6 _ _) p v l big w hwr hl
theorem Z1k (n:Nat)(hn:n<9223372036854775808)(p:Nat)(v:Value)(l:List UInt8)(big:Bool)(w:World)(hwr:Wr w p v l big)(hl:l.length<140737488355320):
    Calls Tryz.prog 27 #[.pointer (some ⟨p,0,none⟩),.int .i64 (n:Int)] w fun e w' =>e=.returned (.tuple #[])∧∃v',WrTo w p v (l++be8 n) big v' w' :=V3x n n (by omega) p v l big w hwr hl
theorem Y5y (b:Bool)(p:Nat)(v:Value)(l:List UInt8)(big:Bool)(w:World)(hwr:Wr w p v l big)(hl:l.length<140737488355328):
    Calls Tryz.prog 28 #[.pointer (some ⟨p,0,none⟩),.bool b] w fun e w' =>e=.returned (.tuple #[])∧∃v',WrTo w p v (l++[if b then 1 else 0]) big v' w' :=by
  cases b
  · exact Z07 p v l big w hwr hl
  exact Z2b p v l big w hwr hl
end
end Go.Proofs.YtlkbneflnjmgbaaGreatDoor.K4

namespace Go.Proofs.YtlkbneflnjmgbaaGreatDoor
section
set_option maxHeartbeats 1500000
attribute [local irreducible] wpList Z6 wpX
inductive TR where
 |nil:TR
 |leaf:Nat→Nat→TR
 |node:Nat→TR→TR→TR
def rs:TR→Nat
 | .nil=>sE
 | .leaf k v=>sL k v
 | .node d l r=>sN (d:Int) (rs l) (rs r)
def cnt:TR→Nat
 | .nil=>0
 | .leaf _ _=>1
 | .node _ l r=>cnt l+cnt r
def ndc (k v:Nat)(s0 s1:Value)(sp:Bool)(S n:Nat):Array Value:=lf k v++(#[s0,s1,.bool sp]++(J0 .u8 32 (J7 S)++ #[.int .i64 (n:Int)]))
section
variable {k v S n : Nat} {s0 s1 : Value} {sp : Bool}
theorem Q0n:∀i u,(J0 .u8 32 (J7 k))[i]?=some u→(ndc k v s0 s1 sp S n)[0+i]?=some u:=fun i u h=>by have:=Z7i (k:=k) (v:=v) i u h;rw[Nat.zero_add] at this⊢;exact J3h this
theorem Y58 {i:Nat}{u:Value}(h:(#[s0,s1,.bool sp]++(J0 .u8 32 (J7 S)++ #[.int .i64 (n:Int)]))[i]?=some u):(ndc k v s0 s1 sp S n)[64+i]?=some u:=J79 J5l h
theorem nd_s0:(ndc k v s0 s1 sp S n)[64]?=some s0:=Y58 (i:=0) (J3h rfl)
theorem nd_s1:(ndc k v s0 s1 sp S n)[65]?=some s1:=Y58 (i:=1) (J3h rfl)
theorem J9e:(ndc k v s0 s1 sp S n)[66]?=some (.bool sp):=Y58 (i:=2) (J3h rfl)
theorem V6y:∀i u,(J0 .u8 32 (J7 S))[i]?=some u→(ndc k v s0 s1 sp S n)[67+i]?=some u:=fun i u h=>by
 have h1:(#[s0,s1,Value.bool sp]++(J0 .u8 32 (J7 S)++ #[.int .i64 (n:Int)]))[3+i]?=some u:=J79 rfl (J3h h);have:=Y58 (k:=k) (v:=v) h1;rw[←Nat.add_assoc] at this;exact this
theorem K4l:(ndc k v s0 s1 sp S n)[99]?=some (.int .i64 (n:Int)):=by
 have h1:(#[s0,s1,Value.bool sp]++(J0 .u8 32 (J7 S)++ #[.int .i64 (n:Int)]))[3+(32+0)]?=some (.int .i64 (n:Int)):=J79 rfl (J79 (J1 _ _ _) rfl);rw[show(99:Nat)=64+(3+(32+0)) from rfl];exact Y58 h1
theorem Z1f:∀i u,(#[s0,s1]:Array Value)[i]?=some u→(ndc k v s0 s1 sp S n)[64+i]?=some u:=fun i u h=>by
 match i,h with
 |0,h=>exact nd_s0.trans h
 |1,h=>exact nd_s1.trans h
 |i+2,h=>simp at h
end
abbrev ptr (b:Nat):Value:=.pointer (some ⟨b,0,none⟩)
abbrev nlp:Value:=.pointer none
def TA (w:World):TR→Value→Prop
 | .nil,u=>u=nlp
 | .leaf k v,u=> ∃b,u=ptr b∧Blk w b (ndc k v nlp nlp false (sL k v) 1) 160∧k<2^256∧v<2^256
 | .node d l r,u=> ∃b s0 s1,u=ptr b∧Blk w b (ndc 0 0 s0 s1 true (rs (.node d l r)) (cnt l+cnt r)) 160∧TA w l s0∧TA w r s1
theorem Y59 {w:World}{b:Nat}{cs:Array Value}{t:TypeId}(h:Blk w b cs t):J9w w b=some t:=by unfold J9w;rw[show w.heap[b]?=_ from h]
theorem TA.keep {w W:World}(e:∀k,k<w.heap.size→J9w w k=some 160→W.heap[k]?=w.heap[k]?):∀{T:TR} {u:Value},TA w T u→TA W T u
 | .nil,_,h=>h
 | .leaf k v,_,⟨b,h1,h2,h3⟩=>⟨b,h1,(e b (Q2 h2) (Y59 h2)).trans h2,h3⟩
 | .node d l r,_,⟨b,s0,s1,h1,h2,h3,h4⟩=>⟨b,s0,s1,h1,(e b (Q2 h2) (Y59 h2)).trans h2,TA.keep e h3,TA.keep e h4⟩
theorem TA.ext {w W:World}{T:TR}{u:Value}(h:TA w T u)(k:Ext w W):TA W T u:=h.keep fun b hb _=>k.block b hb
theorem TA.holds {w:World}{T:TR}{u:Value}(h:TA w T u):(As.t 160 fun W=>TA W T u).holds w:=⟨h,fun _ _ e=>h.keep e⟩
theorem TA.one {w:World}{T:TR}{u:Value}(h:TA w T u):u.cells= #[u]∧u.oneCell' =true:=by
 cases T with
 |nil=>rw[show u=nlp from h];exact⟨rfl,rfl⟩
 |leaf k v=>obtain⟨b,rfl,_⟩:=h;exact⟨rfl,rfl⟩
 |node d l r=>obtain⟨b,s0,s1,rfl,_⟩:=h;exact⟨rfl,rfl⟩
theorem TA.pt {w:World}{T:TR}{u:Value}(h:TA w T u):∃p,u=.pointer p:=by
 cases T with
 |nil=>exact⟨_,h⟩
 |leaf k v=>obtain⟨b,h,_⟩:=h;exact⟨_,h⟩
 |node d l r=>obtain⟨b,s0,s1,h,_⟩:=h;exact⟨_,h⟩
theorem TA.blk {w:World}{T:TR}{u:Value}(h:TA w T u):(T=.nil∧u=nlp)∨∃b k v s0 s1 sp,u=ptr b∧Blk w b (ndc k v s0 s1 sp (rs T) (cnt T)) 160:=by
 cases T with
 |nil=>exact .inl ⟨rfl,h⟩
 |leaf k v=>obtain⟨b,h1,h2,_⟩:=h;exact .inr ⟨b,k,v,_,_,_,h1,h2⟩
 |node d l r=>obtain⟨b,s0,s1,h1,h2,_⟩:=h;exact .inr ⟨b,0,0,s0,s1,_,h1,h2⟩
def Q0o (T:TR)(w w' :World)(e:Ending):Prop:=∃u,e=.returned u∧Ext w w' ∧TA w' T u
theorem J5d {f:FuncId}{args:Array Value}{F:List Nat}{w W:World}{H:List As}{T:TR}(hS:SH F w W H)(hc:Calls Tryz.prog f args W fun e W' =>Q0o T W W' e)(ht:H.all (fun y=>SH.tyOk y (.t 160 fun _=>True))=true):
  Calls Tryz.prog f args W fun e W' => ∃u,e=.returned u∧SH F w W' (.t 160 (fun W=>TA W T u)::H):=
 hc.mono fun e W' ⟨u,h1,h2,h3⟩=>⟨u,h1,(hS.grow h2).fact h3.holds ht⟩
attribute [local irreducible] hs4 sE sL sN

theorem Y5a {q:Prop}(w:World)(hG:GT q w):
  Calls Tryz.prog 44 #[nlp] w fun e w' =>Ret (.agg (J0 .u8 32 (J7 sE))) w w' e:=by
 have hS:=SH.nil [] w
 go_enter Tryz.func44,Tryz.ntmps44
 go_upto_region 0 with fail;refine RL hS ?_;clear hS;refine MN (z:=J0 .u8 32 (J7 0)) (t:=22) ?_;intro Z8;refine MZ fun W hS=> ?_;go_upto_region 2 with fail;refine RL hS ?_;clear hS;obtain⟨U1,D⟩:=exh (sE);refine MC (v:=.agg (J0 .u8 32 (J7 U1))) (fun W hS=>(by rw[D.out];exact Y9u W (J0y hG hS.ext))) ?_;refine MR 0 ?_;refine MZ fun W hS=> ?_;have e_:=D.out;subst e_;go_wp2;exact bodyPost_ret (Z0 rfl rfl (hS.blk (i:=0) rfl) (by kernel_rfl) (by rw[J1];kernel_rfl)) rfl ⟨rfl,hS.ext⟩
theorem V6z (w:World){b k v S n:Nat}{s0 s1:Value}{sp:Bool}(hB:Blk w b (ndc k v s0 s1 sp S n) 160):
  Calls Tryz.prog 44 #[ptr b] w fun e w' =>Ret (.agg (J0 .u8 32 (J7 S))) w w' e:=by
 have hS:=SH.nil [] w
 go_enter Tryz.func44,Tryz.ntmps44
 go_upto_region 0 with fail;refine RL hS ?_;clear hS;refine MN (z:=J0 .u8 32 (J7 0)) (t:=22) ?_;intro Z8;refine MZ fun W hS=> ?_;go_upto_region 3 with fail;refine RL hS ?_;clear hS;(iterate 3 refine MV ?_);refine MF (v:=.agg (J0 .u8 32 (J7 S))) (fun W hS=>J0k (vs:=(J0 .u8 32 (J7 S)).toList) rfl rfl (fun i v hv=>by rw[J4 (J3 hB hS.ext)];exact V6y i v (by simpa using hv)) (by kernel_rfl) (by first|kernel_rfl|(simp only[Array.length_toList];rw[J1];kernel_rfl))) ?_;refine MR 0 ?_;refine MZ fun W hS=> ?_;go_wp2;exact bodyPost_ret (Z0 rfl rfl (hS.blk (i:=0) rfl) (by kernel_rfl) (by rw[J1];kernel_rfl)) rfl ⟨rfl,hS.ext⟩
theorem Q7g {q:Prop}{T:TR}{u:Value}(w:World)(hG:GT q w)(h:TA w T u):Calls Tryz.prog 44 #[u] w fun e w' =>Ret (.agg (J0 .u8 32 (J7 (rs T)))) w w' e:=by
 rcases h.blk with⟨rfl,rfl⟩|⟨b,k,v,s0,s1,sp,rfl,hB⟩
 ·
  exact Y5a w hG
 exact V6z w hB
theorem Y9v (w:World):
  Calls Tryz.prog 180 #[nlp] w fun e w' =>Ret (.int .i64 ((0:Nat):Int)) w w' e:=by
 have hS:=SH.nil [] w
 go_enter Tryz.func180,Tryz.ntmps180
 go_wp2;exact bodyPost_ret (v:=.int .i64 0) (by simp only[results,Tryz.results180];go_simp) rfl ⟨rfl,hS.ext⟩
theorem K1t (w:World){b k v S n:Nat}{s0 s1:Value}{sp:Bool}(hB:Blk w b (ndc k v s0 s1 sp S n) 160):
  Calls Tryz.prog 180 #[ptr b] w fun e w' =>Ret (.int .i64 (n:Int)) w w' e:=by
 have hS:=SH.nil [] w
 go_enter Tryz.func180,Tryz.ntmps180
 go_upto_region 3 with fail;refine RL hS ?_;clear hS;(iterate 3 refine MV ?_);refine MF (v:=.int .i64 (n:Int)) (fun W hS=>Z9 rfl rfl (by rw[J4 (J3 hB hS.ext)];exact K4l) (by kernel_rfl)) ?_;refine MV ?_;refine MZ fun W hS=> ?_;go_wp2;exact bodyPost_ret (v:=.int .i64 (n:Int)) (by simp only[results,Tryz.results180];go_simp) rfl ⟨rfl,hS.ext⟩
theorem V25 {T:TR}{u:Value}(w:World)(h:TA w T u):Calls Tryz.prog 180 #[u] w fun e w' =>Ret (.int .i64 (cnt T:Int)) w w' e:=by
 rcases h.blk with⟨rfl,rfl⟩|⟨b,k,v,s0,s1,sp,rfl,hB⟩
 ·
  exact Y9v w
 exact K1t w hB
theorem Z56 {q:Prop}{k v:Nat}(hk:k<2^256)(hv:v<2^256)(w:World)(hG:GT q w):
  Calls Tryz.prog 130 #[.agg (lf k v)] w fun e w' =>Q0o (.leaf k v) w w' e:=by
 have hS:=SH.nil [] w
 go_enter Tryz.func130,Tryz.ntmps130
 go_upto_region 0 with fail;refine RL hS ?_;clear hS;refine MN (z:=lf k v) (t:=57) ?_;intro J;refine MV ?_;refine MZ fun W hS=> ?_;go_upto_region 1 with fail;refine RTh (.q 0 (.q 1 (.e 2 (.q 3 (.e 4 (.q 5 .z)))))) hS ?_;clear hS;refine TL 0 ?_ (hs:=by rw[J5l];kernel_rfl);refine TL 0 ?_ (hs:=by rw[J5l];kernel_rfl);refine TE (fun _ h=>h) ?_;obtain⟨U1,D⟩:=exh (sL k v);refine MC (v:=.agg (J0 .u8 32 (J7 U1))) (fun W hS=>(by rw[D.out];exact Z8n k v W (J0y hG hS.ext))) ?_;refine TNh (fun W hS=>hS) ?_;refine TW ?_ (v:=.agg (ndc k v nlp nlp false U1 1)) (hv:=by intro W;first|rfl|kernel_rfl);refine TE (fun _ h=>h) ?_;refine MN (z:=ndc k v nlp nlp false U1 1) (t:=160) ?_ (hr:=by intro w;kernel_rfl);intro G;refine TNh (fun W hS=>hS.pick [1]) ?_;refine TV ?_;refine TZ (fun _ h=>h) fun W hS=> ?_;have e_:=D.out;subst e_;go_wp2;exact bodyPost_ret (v:=ptr G) (by simp only[results,Tryz.results130];go_simp) rfl ⟨_,rfl,hS.ext,⟨_,rfl,(hS.blk (i:=0) rfl),hk,hv⟩⟩
theorem V70 {q:Prop}{L R:TR}{pa pb:Option Addr}(d:Nat)(hn:cnt L+cnt R<4611686018427387904)(w:World)(hG:GT q w)(hl:TA w L (.pointer pa))(hr_:TA w R (.pointer pb)):
  Calls Tryz.prog 132 #[.int .i64 (d:Int),.pointer pa,.pointer pb] w fun e w' =>Q0o (.node d L R) w w' e:=by
 have hS:=SH.nil [] w
 go_enter Tryz.func132,Tryz.ntmps132
 go_upto_region 1 with fail;refine RL hS ?_;clear hS;refine MV ?_;refine MV ?_;refine MW ?_ (v:=.agg #[.pointer pa,.pointer pb]) (hv:=by intro W;first|rfl|kernel_rfl);refine MV ?_;refine MV ?_;refine MC (v:=.agg (J0 .u8 32 (J7 (rs L)))) (fun W hS=>Q7g W (J0y hG hS.ext) (TA.ext hl hS.ext)) ?_;refine MV ?_;refine MC (v:=.agg (J0 .u8 32 (J7 (rs R)))) (fun W hS=>Q7g W (J0y hG hS.ext) (TA.ext hr_ hS.ext)) ?_;obtain⟨U1,D⟩:=exh (sN (d:Int) (rs L) (rs R));refine MC (v:=.agg (J0 .u8 32 (J7 U1))) (fun W hS=>(by rw[D.out];exact Z8o (d:Int) (rs L) (rs R) W (J0y hG hS.ext))) ?_;refine MV ?_;refine MC (v:=.int .i64 (cnt L:Int)) (fun W hS=>V25 W (TA.ext hl hS.ext)) ?_;refine MV ?_;refine MC (v:=.int .i64 (cnt R:Int)) (fun W hS=>V25 W (TA.ext hr_ hS.ext)) ?_;refine MW ?_ (v:=.int .i64 ((cnt L+cnt R:Nat):Int)) (hv:=by intro W;go_simp;(try simp only[IntKind.wrap_i64]);omega);refine MW ?_ (v:=.agg (ndc 0 0 (.pointer pa) (.pointer pb) true U1 (cnt L+cnt R))) (hv:=by intro W;first|rfl|kernel_rfl);refine MN (z:=ndc 0 0 (.pointer pa) (.pointer pb) true U1 (cnt L+cnt R)) (t:=160) ?_ (hr:=by intro w;kernel_rfl);intro G;refine MV ?_;refine MZ fun W hS=> ?_;have e_:=D.out;subst e_;go_wp2;exact bodyPost_ret (v:=ptr G) (by simp only[results,Tryz.results132];go_simp) rfl ⟨_,rfl,hS.ext,⟨_,_,_,rfl,(hS.blk (i:=0) rfl),hl.ext hS.ext,hr_.ext hS.ext⟩⟩
theorem J9f {q:Prop}{L R:TR}{a b:Value}(d:Nat)(hn:cnt L+cnt R<4611686018427387904)(w:World)(hG:GT q w)(hl:TA w L a)(hr_:TA w R b):
  Calls Tryz.prog 132 #[.int .i64 (d:Int),a,b] w fun e w' =>Q0o (.node d L R) w w' e:=by
 obtain⟨pa,rfl⟩:=hl.pt;obtain⟨pb,rfl⟩:=hr_.pt;exact V70 d hn w hG hl hr_
end

section
set_option maxHeartbeats 1500000
attribute [local irreducible] wpList
def J5b (f:Nat→Int)(i:Nat):Int:=f (i / 8) / 2^(7-i % 8) % 2
theorem Y56 {x:Int}{n:Nat}(h:0≤x∧x<256):0≤x / 2^n∧x / 2^n<256:=by
  obtain⟨a,rfl⟩:=Int.eq_ofNat_of_zero_le h.1;rw[show((a:Int) / 2^n)=((a / 2^n:Nat):Int) by rw[Int.natCast_ediv,Int.natCast_pow];rfl];have h2:=Nat.div_le_self a (2^n);have h3:=h.2;clear h;generalize a / 2^n=q at*;omega
section
variable {w : World} {o : Oper} {a : Act} {x y : Operand} {t t' : TypeId} {p : Int}
theorem Z8m {P:Program}{k:IntKind}{n:Nat}(hn:n≤8)(ho:o.op=.binOp .shr t x y t')(hx:a.eval x=.int .u8 p)(hy:a.eval y=.int k (n:Int)):(execOp a.eval o).run P w=.ok (.value (.int .u8 (p / 2^n))) w:=by
  have h:min ((n:Int)).toNat IntKind.u8.bits=n:=by rw[Int.toNat_natCast];exact Nat.min_eq_left hn
  simp only[execOp,ho,hx,hy,eqGuard,binOp,Sem.run_bind];simp[Op.shift,h,go_sem,Sem.run_bind]
theorem Y9s (hp:0≤p∧p<256)(ho:o.op=.convert 5 3 x)(hx:a.eval x=.int .u8 p):(execOp a.eval o).run Tryz.prog w=.ok (.value (.int .i64 p)) w:=by
  have hw:IntKind.wrap .i64 p=p:=by rw[IntKind.wrap_i64];omega
  simp[execOp,ho,hx,convert,run_underlying Tryz.underlying5,run_underlying Tryz.underlying3,Sem.run_bind,Conv.intToInt,hw]
theorem Y9t (h:0≤p∧p<256):bits .and .i64 p 1=p % 2:=bits_mask .i64 63 (by decide) K2l 1 (by decide) p h.1 (by omega)
end

theorem Y57 (i:Nat)(hi:i<256)(w:World):
  Calls Tryz.prog 157 #[.int .i64 (i:Int)] w fun e w' =>Ret (.bool true) w w' e:=by
 have G:(i:Int)<256:=by omega
 have J:(0:Int)≤(i:Int):=by omega
 have D:Off [] w w:=Off.refl _ _
 go_enter Tryz.func157,Tryz.ntmps157
 go_upto_region 1 with fail;refine wp_region_lit ?_;refine Lv ?_;refine Lw ?_ (v:=.bool true) (hv:=by first|(go_simp;done)|(go_simp;omega));refine Lw ?_ (v:=.bool true);refine Lv ?_;refine Lw ?_ (v:=.bool true) (hv:=by first|(go_simp;done)|(go_simp;omega));refine Lw ?_ (v:=.bool true);refine Lw ?_ (v:=.bool true);refine J2 ?_;go_wp2;exact bodyPost_ret (v:=.bool true) (by simp only[results,Tryz.results157];go_simp) rfl ⟨rfl,D.ext⟩
theorem V6x (f:Nat→Int)(hf:∀j,0≤f j∧f j<256)(i:Nat)(hi:i<256)(w:World):
  Calls Tryz.prog 111 #[.agg (J0 .u8 32 f),.int .i64 (i:Int)] w fun e w' =>Ret (.int .i64 (J5b f i)) w w' e:=by
 have N:(i:Int)<256:=by omega
 have M:(0:Int)≤(i:Int):=by omega
 have hD:=Y56 (n:=7-i % 8) (hf (i / 8));have hA:=Y9t hD;clear hf;have D:Off [] w w:=Off.refl _ _
 go_enter Tryz.func111,Tryz.ntmps111
 go_upto_region 0 with fail;refine wp_region_lit ?_;refine Ln ?_ (z:=J0 .u8 32 f) (t:=55);intro Z8 W1 J hO h_;replace D:=D.o hO;have G:=h_;clear hO h_ J;refine Lw ?_ (v:=.int .i64 0);refine J2 ?_;go_upto_region 1 with fail;refine wp_region_lit ?_;refine Lv ?_;refine Lr ?_ (Y57 i hi W1);intro W2 hO;replace G:=G.o hO;replace D:=D.o hO;clear hO;refine Lw ?_ (v:=.bool false);refine J2 ?_;go_upto_region 3 with fail;refine wp_region_lit ?_;refine Lv ?_;refine Lw ?_ (v:=.int .i64 (((i / 8:Nat):Int))) (hv:=by go_simp;(try simp only[IntKind.wrap_u64,IntKind.wrap_i64]);(try omega));refine Lw ?_ (v:=.pointer (some ⟨Z8,0+(i / 8),none⟩)) (hv:=rxa Tryz.underlying55 (by omega));refine Lg ?_ G (v:=.int .u8 (f (i / 8))) (hj:=ag0 (by omega));refine Lv ?_;refine Lw ?_ (v:=.int .i64 (((i % 8:Nat):Int))) (hv:=by go_simp;(try rw[Int.tmod_eq_emod_of_nonneg (by omega)]);(try omega));refine Lw ?_ (v:=.int .i64 (((7-i % 8:Nat):Int))) (hv:=by go_simp;(try simp only[IntKind.wrap_u64,IntKind.wrap_i64]);(try omega));refine Lw ?_ (v:=.int .u8 (f (i / 8) / 2^(7-i % 8))) (hv:=by exact Z8m (n:=7-i % 8) (by omega) rfl rfl rfl);refine Lw ?_ (v:=.int .i64 (f (i / 8) / 2^(7-i % 8))) (hv:=by exact Y9s hD rfl rfl);refine Lw ?_ (v:=.int .i64 (J5b f i)) (hv:=by unfold J5b;rw[←hA];exact Z8c rfl rfl rfl);refine Lv ?_;refine J2 ?_;go_wp2;exact bodyPost_ret (v:=.int .i64 (J5b f i)) (by simp only[results,Tryz.results111];go_simp) rfl ⟨rfl,D.ext⟩
end
end Go.Proofs.YtlkbneflnjmgbaaGreatDoor

/- Contracts and plain laws for bundleAny_holds. Conditions: the tables hold their numbers. -/
import Derived.Test.YtlkbneflnjmgbaaGreatDoorJ28
open Go.RowKit
set_option maxRecDepth 100000
set_option linter.unusedSimpArgs false
set_option linter.unusedVariables false
namespace Go.Proofs.YtlkbneflnjmgbaaGreatDoor
section
namespace DD
def pcode (D:DD)(l x:List UInt8):Nat:=
  if ¬(1≤l.length∧l.length≤32)∨64<x.length then 1 else if D.P≤D.waits.length then 6 else if l∉D.labs∧D.L≤D.labs.length then 6 else if l∉D.labs then erN D.vk l else 0
def putD (D:DD)(l x:List UInt8):DD:=if D.pcode l x=0 then D.put l x else D
def scode (D:DD):Nat×Nat:=if D.puts.length≤D.E then(D.puts.length,0) else(0,6)
def sealD (D:DD):DD:=if D.puts.length≤D.E then D.nxt else D
end DD
theorem J8i {D:DD}{l x:List UInt8}(hK:DOk D)(h:D.pcode l x=0):PutOk D l x:=by
  unfold DD.pcode at h
  by_cases h1:¬(1≤l.length∧l.length≤32)∨64<x.length
  · rw[if_pos h1] at h;cases h
  rw[if_neg h1] at h
  by_cases h2:D.P≤D.waits.length
  · rw[if_pos h2] at h;cases h
  rw[if_neg h2] at h
  by_cases h3:l∉D.labs∧D.L≤D.labs.length
  · rw[if_pos h3] at h;cases h
  rw[if_neg h3] at h
  have h4:1≤l.length∧l.length≤32:=by
    rcases Decidable.em (1≤l.length∧l.length≤32) with h4|h4
    · exact h4
    exact absurd (.inl h4) h1
  refine⟨h4.1,h4.2,?_,?_,?_,?_⟩
  · rcases Nat.lt_or_ge 64 x.length with h5|h5
    · exact absurd (.inr h5) h1
    exact h5
  · omega
  · by_cases h5:l∈D.labs
    · exact(hK.lab l h5).2.2
    rw[if_pos h5] at h;exact h
  intro h5;rcases Nat.lt_or_ge D.labs.length D.L with h6|h6
  · exact h6
  exact absurd ⟨h5,h6⟩ h3
theorem DOk.putD {D:DD}(h:DOk D)(l x:List UInt8):DOk (D.putD l x):=by
  unfold DD.putD
  split
  · exact h.put (J8i h (by assumption))
  exact h
theorem DOk.sealD {D:DD}(h:DOk D):DOk D.sealD:=by
  unfold DD.sealD
  split
  · exact h.nxt (by assumption)
  exact h
theorem LOk.accU {D:DD}{y:LD}(h:LOk D y){l:List UInt8}(hl:l∈D.labs):∃a∈y.acs,a.l=l:=by
  rw[←h.a] at hl;exact List.mem_map.1 hl
def ZOk (D:DD)(y:LD)(D' :DD)(W:World)(z:LD):Prop:=LOk D' z∧z.p=y.p∧OldF (ldL D y) W (J3v z.bs)∧OldF (ldL D y) W (J45 z.pvs)
abbrev ZD (D:DD)(y:LD)(D' :DD)(W:World):Type:={z:LD // ZOk D y D' W z}
theorem by_oldS {D:DD}{y:LD}{w:World}:OldF (ldL D y) w (J3v y.bs):=OldF.mem (x:=byT y.bs) (by simp) (fun T K e=>(by cases e)) (fun k hk=>hk)
theorem rw_oldS {D:DD}{y:LD}{w:World}:OldF (ldL D y) w (J45 y.pvs):=OldF.mem (x:=rwT y.pvs) (by simp) (fun T K e=>(by cases e)) (fun k hk=>hk)
theorem ZOk.same {D:DD}{y:LD}{W:World}(h:LOk D y):ZOk D y D W y:=⟨h,rfl,by_oldS,rw_oldS⟩
theorem OldF.back {L:List As}{w W:World}{f:List Nat}(h:OldF L W f)(q:w.heap.size≤W.heap.size):OldF L w f:=fun k hk D=>h k hk (Nat.lt_of_lt_of_le D q)
section
variable {P : Program} {g : FuncId} {args : Array Value} {F : List Nat} {w W : World} {N R : List As} {D D' : DD} {y : LD} {val : Value}
theorem Y0n {f:List Nat}{K:World→Prop}(hS:SH F w W (ldL D y++[gx]++(N++R)))(hz:(As.p f K).holds W)(hf:InF N f)
    (hc:SH (SH.feet (ldL D y++[gx]++[.p f K])) W W (ldL D y++[gx]++[.p f K])→Calls P g args W fun e W' =>Y08 D y val D' [gx,.p f K] (SH.feet (ldL D y++[gx]++[.p f K])) W W' e) (hR:tyD (N++R)=true):
    Calls P g args W fun e W' => ∃z:ZD D y D' w,e=.returned val∧SH F w W' (ldL D' z.1++[gx]++(N++R)):=by
  refine(hc (hS.hereP hz hf)).mono fun e W' ⟨z,h1,h2,h3,h4,h5,h6⟩=>⟨⟨z,h2,h3,h5.back hS.off.size,h6.back hS.off.size⟩,h1,?_⟩
  rw[SH.feet_p] at h4
  have h7:SH (SH.feet (ldL D y++[gx])) W W' (ldL D' z++[gx]):=h4.less (by
    show(ldL D' z++[gx]).Sublist (ldL D' z++[gx,.p f K])
    exact(List.Sublist.append_left (List.Sublist.cons_cons _ (List.nil_sublist _)) _))
  exact hS.frameQ h7 (Z4b hR h5 h6)
theorem Y74 (hS:SH F w W (ldL D y++[gx]++R))
    (hc:SH (SH.feet (ldL D y++[gx])) W W (ldL D y++[gx])→Calls P g args W fun e W' =>Y08 D y val D' [gx] (SH.feet (ldL D y++[gx])) W W' e) (hR:tyD R=true):
    Calls P g args W fun e W' => ∃z:ZD D y D' w,e=.returned val∧SH F w W' (ldL D' z.1++[gx]++R):=
  (hc hS.here).mono fun e W' ⟨z,h1,h2,h3,h4,h5,h6⟩=>⟨⟨z,h2,h3,h5.back hS.off.size,h6.back hS.off.size⟩,h1,hS.frameQ h4 (Z4b hR h5 h6)⟩
end
section
variable {F : List Nat} {w W : World} {N R : List As} {D : DD} {y : LD} {l x : List UInt8} {vl vx : Value}
theorem Z9c (hS:SH F w W (ldL D y++[gx]++(N++R)))(h1:Sl W vl l)(h2:Sl W vx x)(hf:InF N ((sb vl l).toList++(sb vx x).toList))(hL:LOk D y)(hK:DOk D)(hR:tyD (N++R)=true):
    Calls Tryz.prog 14 #[.pointer (some ⟨y.p,0,none⟩),vl,vx] W fun e W' => ∃z:ZD D y (D.putD l x) w,e=.returned (.int .i64 (D.pcode l x:Int))∧SH F w W' (ldL (D.putD l x) z.1++[gx]++(N++R)):=by
  have hD:DK D y W:=DK.of (R:=[gx]++(N++R)) (by rw[List.append_assoc] at hS;exact hS);have hX:GX W:=(hS.at_ (i:=11) (x:=gx) rfl).1
  have qt:∀{c:Nat},D.pcode l x=c→c≠0→(Calls Tryz.prog 14 #[.pointer (some ⟨y.p,0,none⟩),vl,vx] W fun e W' =>Ret (.int .i64 (c:Int)) W W' e)→Calls Tryz.prog 14 #[.pointer (some ⟨y.p,0,none⟩),vl,vx] W fun e W' => ∃z:ZD D y (D.putD l x) w,e=.returned (.int .i64 (D.pcode l x:Int))∧SH F w W' (ldL (D.putD l x) z.1++[gx]++(N++R)):=by
    intro c hc h0 h;have hp:D.putD l x=D:=by unfold DD.putD;rw[if_neg (by rw[hc];exact h0)]
    rw[hp,hc];exact h.mono fun e W' ⟨q1,q2⟩=>⟨⟨y,.same hL⟩,q1,hS.next (J0b q2)⟩
  by_cases g1:1≤l.length∧l.length≤32
  · by_cases g2:64<x.length
    · exact qt (c:=1) (by unfold DD.pcode;rw[if_pos (.inr g2)]) (by decide) (V38 W hX hD hL hK h1 h2 g1 g2)
    have g2' :x.length≤64:=by omega
    have e1:¬(¬(1≤l.length∧l.length≤32)∨64<x.length):=fun h=>h.elim (fun h=>h g1) g2
    by_cases g3:D.P≤D.waits.length
    · exact qt (c:=6) (by unfold DD.pcode;rw[if_neg e1,if_pos g3]) (by decide) (V88 W hX hD hL hK h1 h2 g1 g2' g3)
    have g3' :D.waits.length<D.P:=by omega
    by_cases g4:l∈D.labs
    · obtain⟨a,ha,J⟩:=hL.accU g4
      have hc:D.pcode l x=0:=by unfold DD.pcode;rw[if_neg e1,if_neg g3,if_neg (fun h=>h.1 g4),if_neg (fun h=>h g4)]
      have hp:D.putD l x=D.put l x:=by unfold DD.putD;rw[if_pos hc]
      rw[hp,hc];exact Y0n hS (Q65 h1 h2) hf (fun h_=>V8b ha J (J8i hK hc) W hL hK h_) hR
    by_cases g5:D.L≤D.labs.length
    · exact qt (c:=6) (by unfold DD.pcode;rw[if_neg e1,if_neg g3,if_pos ⟨g4,g5⟩]) (by decide) (V89 W hX hD hL hK h1 h2 g1 g2' g3' g4 g5)
    have g5' :D.labs.length<D.L:=by omega
    have G:D.pcode l x=erN D.vk l:=by unfold DD.pcode;rw[if_neg e1,if_neg g3,if_neg (fun h=>g5 h.2),if_pos g4]
    by_cases g6:erN D.vk l=0
    · have hc:D.pcode l x=0:=G.trans g6
      have hp:D.putD l x=D.put l x:=by unfold DD.putD;rw[if_pos hc]
      rw[hp,hc];exact Y0n hS (Q65 h1 h2) hf (fun h_=>V8c g4 (J8i hK hc) W hL hK h_) hR
    exact qt G g6 (V8a W hX hD hL hK h1 h2 g1 g2' g3' g4 g5' rfl g6)
  exact qt (c:=1) (by unfold DD.pcode;rw[if_pos (.inl g1)]) (by decide) (V37 W hX hD hL hK h1 h2 g1)
theorem Z3y (hS:SH F w W (ldL D y++[gx]++R))(hL:LOk D y)(hK:DOk D)(hR:tyD R=true):
    Calls Tryz.prog 13 #[.pointer (some ⟨y.p,0,none⟩)] W fun e W' => ∃z:ZD D y D.sealD w,e=.returned (.tuple #[.int .i64 (D.scode.1:Int),.int .i64 (D.scode.2:Int)])∧SH F w W' (ldL D.sealD z.1++[gx]++R):=by
  by_cases g:D.puts.length≤D.E
  · have e1:D.sealD=D.nxt:=by unfold DD.sealD;rw[if_pos g]
    have e2:D.scode=(D.puts.length,0):=by unfold DD.scode;rw[if_pos g]
    rw[e1,e2];exact Y74 hS (fun h_=>V3g g W hL hK h_) hR
  have e1:D.sealD=D:=by unfold DD.sealD;rw[if_neg g]
  have e2:D.scode=(0,6):=by unfold DD.scode;rw[if_neg g]
  rw[e1,e2];have hD:DK D y W:=DK.of (R:=[gx]++R) (by rw[List.append_assoc] at hS;exact hS);exact(V3l (by omega) W hD hL hK).mono fun e W' ⟨q1,q2⟩=>⟨⟨y,.same hL⟩,q1,hS.next (J0b q2)⟩
theorem Z9d {u v:Value}{l x:List UInt8}:InF [.o u l,.o v x] ((sb u l).toList++(sb v x).toList):=fun k hk=>by
  rcases List.mem_append.1 hk with hk|hk
  · exact⟨.o u l,by simp,fun T K e=>(by cases e),by rw[show(As.o u l).foot=u.ownBlock.toList from rfl,J2x (As.mem_toList hk)];simp⟩
  · exact⟨.o v x,by simp,fun T K e=>(by cases e),by rw[show(As.o v x).foot=v.ownBlock.toList from rfl,J2x (As.mem_toList hk)];simp⟩
end
end

section
attribute [local irreducible] wpList Z6 wpX
open S8 (Kn GA kP)
def lbn (n:Int):Nat:=(n % 18446744073709551616 % 5).toNat
def alb (n:Int)(raw:List UInt8):List UInt8:=if lbn n<4 then[97,u8 (97+lbn n)] else raw.take 40
def avl (v:List UInt8):List UInt8:=v.take 70
def DD.play (D:DD)(wt n:Int)(raw val:List UInt8):DD:=if wt.tmod 3=0 then D.sealD else D.putD (alb n raw) (avl val)
theorem DOk.play {D:DD}(h:DOk D)(wt n:Int)(raw val:List UInt8):DOk (D.play wt n raw val):=by
 unfold DD.play;split
 ·
  exact h.sealD
 exact h.putD _ _
attribute [local irreducible] eI be8 hs4 lb J3e J2f J01 xt hm pbs DD.tree DD.link rs S8.kP S8.kN S8.kD ofT ebs lk0 opn bnd ahd bsd ixN pfN erN J5c DD.play DD.putD DD.sealD DD.pcode DD.scode DD.links DD.trees alb avl

end

section
set_option maxHeartbeats 3000000
attribute [local irreducible] wpList Z6 wpX
open S8 (Kn GA kP)
attribute [local irreducible] eI be8 hs4 lb J3e J2f J01 xt hm pbs DD.tree DD.link rs S8.kP S8.kN S8.kD ofT ebs lk0 sE sL sN

end

section
attribute [local irreducible] wpList Z6 wpX
open S8 (Kn GA kP)
theorem Z40 {D' :DD}{z:LD}{W:World}{R:List As}(hR:tyD R=true)(h1:OldF [] W (J3v z.bs))(h2:OldF [] W (J45 z.pvs)):SH.okQ [] R W (ldL D' z):=by
 refine⟨.inr (.inl ⟨rfl,J0l hR fun T e=> ?_⟩),.inr (.inl ⟨rfl,J0l hR fun T e=> ?_⟩),.inr (.inl ⟨rfl,J0l hR fun T e=> ?_⟩),.inr (.inl ⟨rfl,J0l hR fun T e=> ?_⟩),.inr (.inl ⟨rfl,J0l hR fun T e=> ?_⟩),.inr (.inl ⟨rfl,J0l hR fun T e=> ?_⟩),.inr (.inl ⟨rfl,J0l hR fun T e=> ?_⟩),.inr (.inl ⟨rfl,J0l hR fun T e=> ?_⟩),.inr (.inr (.inr ⟨_,_,rfl,h1⟩)),.inr (.inr (.inr ⟨_,_,rfl,h2⟩)),.inr (.inr (.inl ⟨_,_,rfl,Z3w hR⟩)),trivial⟩
 ·
  injection e with e;exact .inl e.symm
 ·
  cases e
 ·
  injection e with e;exact .inr (.inl e.symm)
 ·
  injection e with e;exact .inr (.inr (.inl e.symm))
 ·
  injection e with e;exact .inr (.inr (.inr (.inl e.symm)))
 ·
  injection e with e;exact .inr (.inr (.inr (.inr (.inl e.symm))))
 ·
  injection e with e;exact .inr (.inr (.inr (.inr (.inr (.inl e.symm)))))
 injection e with e;exact .inr (.inr (.inr (.inr (.inr (.inr e.symm)))))
def NOk (D:DD)(w:World)(y:LD):Prop:=LOk D y∧OldF [] w (J3v y.bs)∧OldF [] w (J45 y.pvs)
theorem V2d {P:Program}{f:FuncId}{args:Array Value}{F:List Nat}{w W:World}{H:List As}{D:DD}(hS:SH F w W H)
  (hc:Calls P f args W fun e W' => ∃y:{y:LD // LOk D y∧OldF [] W (J3v y.bs)∧OldF [] W (J45 y.pvs)},e=.returned (.tuple #[.pointer (some ⟨y.1.p,0,none⟩),.int .i64 0])∧SH [] W W' (ldL D y.1)) (hR:tyD H=true):
  Calls P f args W fun e W' => ∃y:{y:LD // NOk D w y},e=.returned (.tuple #[.pointer (some ⟨y.1.p,0,none⟩),.int .i64 0])∧SH F w W' (ldL D y.1++H):=
 hc.mono fun e W' ⟨y,h1,h2⟩=>⟨⟨y.1,y.2.1,y.2.2.1.back hS.off.size,y.2.2.2.back hS.off.size⟩,h1,SH.frameQ (L:=[]) hS h2 (Z40 hR y.2.2.1 y.2.2.2)⟩
attribute [local irreducible] eI be8 hs4 lb J3e J2f J01 xt hm pbs DD.tree DD.link rs S8.kP S8.kN S8.kD ofT ebs lk0 sE sL sN opn bnd ahd bsd ixN pfN erN J5c DD.links DD.trees DD.play DD.putD DD.sealD

end

section
abbrev S0:DD:=Q99 [116] 1 2 2 2 2
abbrev S1:DD:=S0.put [97] [120]
end

section
attribute [local irreducible] wpList Z6 wpX
open S8 (Kn GA kP)
attribute [local irreducible] eI be8 hs4 lb J3e J2f J01 xt hm pbs DD.tree DD.link rs S8.kP S8.kN S8.kD ofT ebs lk0 sE sL sN opn bnd ahd bsd ixN pfN erN J5c DD.links DD.trees DD.play DD.putD DD.sealD fnd

end

section
attribute [local irreducible] wpList Z6 wpX
open S8 (Kn GA kP)
attribute [local irreducible] eI be8 hs4 lb J3e J2f J01 xt hm pbs

end

section
def mdZ:Md:=⟨[],[],0,0⟩
def DD.lastM (D:DD)(l:List UInt8)(e:Nat):Md:=((D.made.filter fun m=>decide (m.l=l)).filter fun m=>decide (m.ep≤e)).getLastD mdZ
def g3 (e:En):Nat×Nat×List UInt8:=(e.ep,e.ver,e.x)
def h3 (m:Md):Nat×Nat×List UInt8:=(m.ep,m.ver,m.x)
def DD.lk (D:DD)(l:List UInt8)(e:Nat):Fnd:=fnd D (ixN D.vk l) (pfN D.vk l) e (D.lastM l e).ver (D.lastM l e).x
theorem Z6x (D:DD)(a x l:List UInt8)(e:Nat):(D.put a x).lastM l e=D.lastM l e:=rfl
theorem Z6y {D:DD}{l:List UInt8}{e:Nat}(h:e<D.puts.length):D.nxt.lastM l e=D.lastM l e:=by
  have h1:=DD.upto_nxt_lt (D:=D) h
  have h2:∀X:DD,X.lastM l e=((X.upto e).filter fun m=>decide (m.l=l)).getLastD mdZ:=fun X=>by
    unfold DD.lastM DD.upto;rw[List.filter_filter,List.filter_filter]
    congr 2
    funext m
    exact Bool.and_comm ..
  rw[h2,h2,h1]
theorem Y6i {D:DD}{e:Nat}(h:e<D.puts.length):ahd D.nxt e=ahd D e:=by
  unfold ahd;rw[DD.link_nxt (by omega)]
theorem Y6j {D:DD}{ix pf e ver:Nat}{x:List UInt8}(h:e<D.puts.length):fnd D.nxt ix pf e ver x=fnd D ix pf e ver x:=by
  unfold fnd;rw[DD.tree_nxt h,DD.link_nxt h,Y6i h];rfl
theorem Y6k {D:DD}{a b x:List UInt8}{ix pf e ver:Nat}:fnd (D.put a b) ix pf e ver x=fnd D ix pf e ver x:=by
  have h1:(D.put a b).tree e=D.tree e:=rfl;have h2:ahd (D.put a b) e=ahd D e:=by unfold ahd;rw[DD.link_put]
  unfold fnd;rw[h1,DD.link_put,h2];rfl
theorem V2o {D:DD}{l:List UInt8}{e:Nat}(h:e<D.puts.length):D.nxt.lk l e=D.lk l e:=by
  unfold DD.lk;rw[Z6y h,Y6j h];rfl
theorem V2p {D:DD}{a b l:List UInt8}{e:Nat}:(D.put a b).lk l e=D.lk l e:=by
  unfold DD.lk;rw[Z6x,Y6k];rfl
structure After (D D' :DD):Prop where
  n:D.puts.length≤D'.puts.length
  vk:D'.vk=D.vk
  lk:∀l e,e<D.puts.length→D'.lk l e=D.lk l e
  tr:∀e,e<D.puts.length→D'.tree e=D.tree e
  li:∀e,e<D.puts.length→D'.link e=D.link e
theorem After.rfl {D:DD}:After D D:=⟨Nat.le_refl _,Eq.refl _,fun _ _ _=>Eq.refl _,fun _ _=>Eq.refl _,fun _ _=>Eq.refl _⟩
theorem After.trans {A B C:DD}(h:After A B)(k:After B C):After A C where
  n:=Nat.le_trans h.n k.n
  vk:=k.vk.trans h.vk
  lk:=fun l e he=>(k.lk l e (Nat.lt_of_lt_of_le he h.n)).trans (h.lk l e he)
  tr:=fun e he=>(k.tr e (Nat.lt_of_lt_of_le he h.n)).trans (h.tr e he)
  li:=fun e he=>(k.li e (Nat.lt_of_lt_of_le he h.n)).trans (h.li e he)
theorem After.put {D:DD}{a b:List UInt8}:After D (D.put a b):=⟨Nat.le_refl _,Eq.refl _,fun _ _ _=>V2p,fun _ _=>Eq.refl _,fun e _=>DD.link_put D a b e⟩
theorem After.nxt {D:DD}:After D D.nxt:=⟨by rw[DD.nxt_len];exact Nat.le_succ _,Eq.refl _,fun _ _ h=>V2o h,fun _ h=>DD.tree_nxt h,fun _ h=>DD.link_nxt h⟩
theorem After.play (D:DD)(wt n:Int)(raw val:List UInt8):After D (D.play wt n raw val):=by
  unfold DD.play DD.sealD DD.putD
  split
  · split
    · exact .nxt
    exact .rfl
  split
  · exact .put
  exact .rfl
end

section
attribute [local irreducible] wpList Z6 wpX
attribute [local irreducible] lb
end

section
attribute [local irreducible] wpList Z6 wpX
open S8 (Kn GA kP)
attribute [local irreducible] eI be8 hs4 lb J3e J2f J01 xt hm pbs

end

section
end

section
attribute [local irreducible] wpList Z6 wpX
open S8 (Kn GA kP)
attribute [local irreducible] eI be8 hs4 lb J3e J2f J01 xt hm pbs DD.tree DD.link rs S8.kP S8.kN S8.kD ofT ebs lk0 sE sL sN opn bnd ahd bsd ixN pfN erN J5c DD.links DD.trees DD.play DD.putD DD.sealD fnd DD.lk

end

section
attribute [local irreducible] wpList Z6 wpX
attribute [local irreducible] hs4 sE sL sN lb
end

section
attribute [local irreducible] wpList Z6 wpX
attribute [local irreducible] hs4 sE sL sN lb

end

section
def J70 (D:DD)(e:Nat):List (List Value):=(List.range' 0 (e+1-0)).map (mkC D)
theorem Z6n (D:DD)(e:Nat):(J70 D e).length=e+1:=by unfold J70;rw[List.length_map,List.length_range'];omega
theorem Q96 {D:DD}{e j:Nat}(h:j<e+1):(J70 D e)[j]?=some (mkC D j):=by
  unfold J70;rw[List.getElem?_map,List.getElem?_range' (by omega)];simp
end

section
namespace DD
def prow (D:DD)(e:Nat):List J4a:=(D.puts++[D.waits])[e]?.getD []
def pre (D:DD)(e i:Nat):DD:={D with puts:=D.puts.take e,waits:=(D.prow e).take i}
theorem Y6l {D:DD}{e:Nat}(h:e<D.puts.length):D.puts[e]?=some (D.prow e):=by
  unfold prow;rw[List.getElem?_append_left h,List.getElem?_eq_getElem h];rfl
theorem rnd {D:DD}(hK:DOk D){k m i:Nat}{qs:List Pv}{y:Pv}(hm:m=max k 1)(hk:k<D.puts.length)(hq:qs.map pvP=(D.puts[k]?).getD [])(hy:qs[i]?=some y):(D.prow m)[i]?=some (y.l,y.x):=by
  have h1:((D.puts[k]?).getD [])[i]?=some (y.l,y.x):=by rw[←hq,List.getElem?_map,hy];rfl
  rcases Nat.eq_zero_or_pos k with h0|h0
  · rw[h0,hK.zero] at h1;cases h1
  have e:m=k:=by omega
  rw[e];rw[Y6l hk] at h1;exact h1
end DD
end

section
section
variable {ops : Array Oper} {Q : Exit → Act → World → Prop} {w : World} {r : List Oper} {o : Oper} {a a' : Act} {F : List Nat} {H H' : List As}
end
theorem Q03:∀{qs:List Pv} {k:Nat} {y:Pv},qs[k]?=some y→(pbs qs)[2*k]?=some (y.lu,y.l)∧(pbs qs)[2*k+1]?=some (y.xu,y.x)
  |[],_,_,h=>by cases h
  |q::r,0,y,h=>by obtain rfl:=Option.some.inj h;exact⟨rfl,rfl⟩
  |q::r,k+1,y,h=>by
    have h1:=Q03 (qs:=r) (k:=k) (y:=y) h;have e:pbs (q::r)=(q.lu,q.l)::(q.xu,q.x)::pbs r:=rfl;rw[e,show 2*(k+1)=2*k+1+1 by omega];exact h1
def Bent (qs q' :List Pv)(i:Nat):Prop:=q'.length=qs.length∧∀j,i≤j→q'[j]?=qs[j]?
theorem Bent.zero (qs:List Pv):Bent qs qs 0:=⟨rfl,fun _ _=>rfl⟩
theorem Bent.next {qs q' :List Pv}{i:Nat}(h:Bent qs q' i):Bent qs q' (i+1):=⟨h.1,fun j hj=>h.2 j (by omega)⟩
theorem Bent.set {qs q' :List Pv}{i:Nat}{y:Pv}(h:Bent qs q' i):Bent qs (q'.set i y) (i+1):=⟨by rw[List.length_set];exact h.1,fun j hj=>by rw[List.getElem?_set_ne (by omega)];exact h.2 j (by omega)⟩
theorem Z3q {bs:List (Value×List UInt8)}{W:World}{k:Nat}{v:Value}{l:List UInt8}(h:obK bs W)(yh:bs[k]?=some (v,l)):Sl W v l:=(h.1 _ (List.mem_of_getElem? yh)).sl
theorem Y5s {W:World}{v:Value}{qs:List Pv}(h:RR 2 W v (qs.map pvC)):∃A c,v=.slice A qs.length c:=by
  obtain⟨A,c,e,_⟩:=h;exact⟨A,c,by rw[e,List.length_map]⟩
end

section
def K2s:Fnd:=⟨0,0,0,false,0,[],0,0,[],false,0,0,0,0,0,0⟩
def DD.lkE (D:DD)(l:List UInt8)(e:Nat):Fnd:=if erN D.vk l=0 then D.lk l e else K2s
theorem After.lkE {D D' :DD}(h:After D D'){l:List UInt8}{e:Nat}(he:e<D.puts.length):D'.lkE l e=D.lkE l e:=by
  unfold DD.lkE;rw[h.vk,h.lk l e he]
end

section
attribute [local irreducible] wpList Z6 wpX
open S8 (Kn GA kP)
theorem RR.form2 {k:Nat}{w:World}{v:Value}{es:List (List Value)}(h:RR k w v es):∃A c,v=.slice A es.length c:=by
 obtain⟨A,c,e,_⟩:=h;exact⟨A,c,e⟩
theorem RR.addr {k n c j:Nat}{w:World}{A:Option Addr}{es:List (List Value)}{e:List Value}(h:RR k w (.slice A n c) es)(hj:es[j]?=some e):∃g o,A=some ⟨g,o,none⟩:=by
 obtain⟨A',c',e1,_,_,h3⟩:=h;obtain⟨g,o,h4,_⟩:=h3 j e hj;injection e1 with e1
 exact⟨g,o,e1.trans h4⟩
attribute [local irreducible] eI be8 hs4 lb J3e J2f J01 xt hm pbs DD.tree DD.link rs S8.kP S8.kN S8.kD ofT ebs lk0 sE sL sN opn bnd ahd bsd ixN pfN erN J5c DD.links DD.trees DD.play DD.putD DD.sealD fnd DD.lk DD.lkE J70

end

section
set_option maxHeartbeats 3000000
attribute [local irreducible] wpList Z6 wpX
open K4
open S8 (Kn GA kP)
attribute [local irreducible] eI be8 hs4 lb txB

theorem V01 {bs:List (Value×List UInt8)}{i:Nat}{u:Value}{l:List UInt8}(h:bs[i]?=some (u,l)):∀b,sb u l=some b→b∈V7h bs:=fun b hb=>List.mem_flatMap.2 ⟨(u,l),List.mem_of_getElem? h,by rw[J2x hb];simp⟩
theorem Z3p {p:Nat}{v u:Value}{l:List UInt8}{ps:List Pv}(hb:∀q∈ps,q.l.length≤32∧q.x.length≤64)(hn:ps.length≤16)(hl:l.length≤1000000)(w:World)(h_:SH (SH.feet (wrL p v l false++[.r 115 2 u (ps.map pvC),obT (pbs ps)])) w w (wrL p v l false++[.r 115 2 u (ps.map pvC),obT (pbs ps)])):
  Calls Tryz.prog 32 #[.pointer (some ⟨p,0,none⟩),u] w fun e w' => ∃v',e=.returned (.tuple #[])∧SH (SH.feet (wrL p v l false++[.r 115 2 u (ps.map pvC),obT (pbs ps)])) w w' (wrL p v' (l++prB (ps.map pvP)) false++[.r 115 2 u (ps.map pvC),obT (pbs ps)]):=by
 have hS:SH (SH.feet (wrL p v l false++[.r 115 2 u (ps.map pvC),obT (pbs ps)])) w w [.b p #[v,.bool false] 72,.o v l,.r 115 2 u (List.map pvC ps),obT (pbs ps)]:=h_;clear h_;obtain⟨U,S,rfl⟩:=Y5s (hS.row (i:=2) rfl).rr
 go_enter Tryz.func32,Tryz.ntmps32
 go_upto_region 0 with fail;refine RL hS ?_;clear hS;(iterate 3 refine MV ?_);refine ME (V:=fun _=> .tuple #[]) (fun W hS=>J4o [0,1] [2,3] hS (fun hS=>J4i hS (fun hw=>Z1k ps.length (by omega) p v l false W hw (by first|omega|(simp only[List.length_append,J0s,J1p];omega)))) (fun _=>⟨.inr ⟨rfl,rfl⟩,.inr ⟨rfl,rfl⟩,trivial⟩)) ?_;intro w1;refine MZ fun W hS=> ?_;go_upto_region 1 with fail;refine RL hS ?_;clear hS;refine MV ?_;refine MV ?_;refine W0 ?_;refine MZ fun W hS=> ?_
 go_wp2_with fail
 go_loopw [12] (fun jj wr=> ∃(i:Nat)(v2:Value),(i≤ps.length)∧(jj=.int .i64 (i:Int))∧SH (SH.feet (wrL p v l false++[.r 115 2 (.slice U ps.length S) (ps.map pvC),obT (pbs ps)])) w wr [.b p #[v2,.bool false] 72,.o v2 (l++be8 ps.length++List.flatMap pvB (ps.take i)),.r 115 2 (.slice U ps.length S) (List.map pvC ps),obT (pbs ps)])
  (fun jj _=>ps.length-(intOf jj).toNat)
 case atStart=>exact⟨0,_,Nat.zero_le _,rfl,(by rw[List.take_zero,List.flatMap_nil,List.append_nil];exact hS)⟩
 clear hS
 case round=>
  obtain⟨i,v2,hi,rfl,hS⟩:=hrel;have γ:=Y5r hb hn i
  by_cases G:i<ps.length
  ·
   obtain⟨y0,D⟩:∃y,ps[i]?=some y:=⟨_,List.getElem?_eq_getElem G⟩
   have yh:=D;obtain⟨α,Z⟩:=hb y0 (List.mem_of_getElem? D);obtain⟨X,Y,R⟩:=RR.addr (e:=pvC y0) (hS.row (i:=2) rfl).rr (by rw[List.getElem?_map,D];rfl);have N:=Lib.hid R;clear R;have M:=Q1 (Z3q (hS.at_ (i:=3) (x:=obT (pbs ps)) rfl).1 (Q03 yh).1);have J:=Q1 (Z3q (hS.at_ (i:=3) (x:=obT (pbs ps)) rfl).1 (Q03 yh).2);go_upto_region 2 with fail;refine RL hS ?_;clear hS;refine Wto ?_;refine MZ fun W hS=> ?_;go_upto_region 3 with fail;refine RL hS ?_;clear hS;refine MW ?_ (v:=.pointer (some ⟨X,Y+i*2,none⟩)) (hv:=fun _=>J2l N.out G rfl rfl rfl Tryz.underlying87 (by kernel_rfl));refine MF (v:=.agg (Q6 [.c y0.lu,.c y0.xu])) (fun W hS=>J1y rfl rfl (fun i_ v hv=>(Z93 (hS.row (i:=2) rfl).rr D N.out) i_ v (by simpa using hv)) (by kernel_rfl) (by rw[J5];kernel_rfl)) ?_;refine MN (z:=Q6 [.c (.slice none 0 0),.c (.slice none 0 0)]) (t:=115) ?_;intro β;refine MRa 0 ?_ (h1:=by exact(V6 ⟨M.2,J.2,trivial⟩));refine MZ fun W hS=> ?_;go_upto_region 4 with fail;refine RL hS ?_;clear hS;refine MV ?_;refine MV ?_;refine MG 0 ?_ (v:=y0.lu) (hj:=(J9 (off:=0) 0));refine ME (V:=fun _=> .tuple #[]) (fun W hS=>J4o [1,2] [0,3,4] hS (fun hT=>Q73 (l:=l++be8 ps.length++List.flatMap pvB (ps.take i)) (m:=y0.l) hT (Z3q (hS.at_ (i:=4) (x:=obT (pbs ps)) rfl).1 (Q03 yh).1) (hS.wtap (i:=1) (j:=2) (k:=4) rfl rfl rfl (by decide) (by decide) (fun T K e=>(by cases e)) (V01 (Q03 yh).1)) (by have h_:=hb y0 (List.mem_of_getElem? D);omega) (by first|omega|(simp only[List.length_append,J0s,J1p];omega))) (fun _=>⟨.inr ⟨rfl,rfl⟩,.inr ⟨rfl,rfl⟩,trivial⟩)) ?_;intro w3;dsimp only[List.cons_append,List.nil_append];refine MZ fun W hS=> ?_;go_upto_region 5 with fail;refine RL hS ?_;clear hS;refine MV ?_;refine MV ?_;refine MG 2 ?_ (v:=y0.xu) (hj:=(J9 (off:=1) 1));refine ME (V:=fun _=> .tuple #[]) (fun W hS=>J4o [0,1] [2,3,4] hS (fun hT=>Q73 (l:=(l++be8 ps.length++List.flatMap pvB (ps.take i))++txB y0.l) (m:=y0.x) hT (Z3q (hS.at_ (i:=4) (x:=obT (pbs ps)) rfl).1 (Q03 yh).2) (hS.wtap (i:=0) (j:=1) (k:=4) rfl rfl rfl (by decide) (by decide) (fun T K e=>(by cases e)) (V01 (Q03 yh).2)) (by have h_:=hb y0 (List.mem_of_getElem? D);omega) (by first|omega|(simp only[List.length_append,J0s,J1p];omega))) (fun _=>⟨.inr ⟨rfl,rfl⟩,.inr ⟨rfl,rfl⟩,trivial⟩)) ?_;intro w4;dsimp only[List.cons_append,List.nil_append];refine MZ fun W hS=> ?_;go_wp2;go_roundw
   case rel=>exact⟨(i+1),w4,by omega,by go_num,(by rw[←Z92 D];exact(hS.pick [0,1,3,4]))⟩
   case measure=>simp[intOf];omega
  obtain rfl:i=ps.length:=by omega
  rw[List.take_length] at hS;go_upto_region 2 with fail;refine RL hS ?_;clear hS;refine Wfo ?_;refine MZ fun W hS=> ?_;go_wp2;exact bodyPost_end (v:=.tuple #[]) (by simp only[results,Tryz.results32];go_simp) rfl ⟨v2,rfl,by rw[Z91,←List.append_assoc];exact hS.pick [0,1,2,3]⟩
end
end Go.Proofs.YtlkbneflnjmgbaaGreatDoor

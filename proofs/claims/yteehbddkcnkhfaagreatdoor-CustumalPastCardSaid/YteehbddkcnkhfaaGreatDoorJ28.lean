/- Contracts and plain laws for custumalPast_holds. Conditions: the tables hold their numbers. -/
import Derived.Test.YteehbddkcnkhfaaGreatDoorDt
open Go.RowKit
set_option maxRecDepth 100000
set_option linter.unusedSimpArgs false
set_option linter.unusedVariables false
namespace Go.Proofs.YteehbddkcnkhfaaGreatDoor
section
set_option maxHeartbeats 3000000
attribute [local irreducible] wpList Y5 wpX
open S8 (Kn GA kP)
attribute [local irreducible] eI be8 hs4 lb J33 J25 K8 xt hm pbs DD.tree DD.link rs S8.kP S8.kN S8.kD ofT ebs lk0 opn bnd ahd bsd ixN pfN erN J18

theorem V08 {D:DD}{y:LD}(he:D.E<D.puts.length)(w:World)(hD:DK D y w)(hL:LOk D y)(hK:DOk D):
  Calls Tryz.prog 17 #[.pointer (some ⟨y.p,0,none⟩)] w fun e w' =>X5 (.tuple #[.int .i64 0,.int .i64 6]) w w' e:=by
 have J:=hK.pos;have G:=hK.len;have hS:=SH.nil [] w
 go_enter Tryz.func17,Tryz.ntmps17
 go_upto_region 3 with fail;refine RL hS ?_;clear hS;(iterate 3 refine MV ?_);refine MF (v:=y.lv) (fun W hS=>Q5 rfl rfl (by rw[J3 (J2 hD.d hS.ext)];exact(J9 (off:=72) 10)) (by kernel_rfl)) ?_;refine MF (v:=.int .i64 (D.puts.length:Int)) (fun W hS=>(by rw[show(D.puts.length:Int)=((List.map X6 D.links).length:Int) by rw[List.length_map,DD.links_len]];exact J0k (Row.off hD.lk hS.off0 f0) rfl rfl Tryz.underlying41)) ?_;refine MV ?_;refine MZ fun W hS=> ?_;go_upto_region 4 with fail;refine RL hS ?_;clear hS;(iterate 5 refine MV ?_);refine MF (v:=.int .i64 (D.E:Int)) (fun W hS=>Q5 rfl rfl (by rw[J3 (J2 hD.d hS.ext)];exact(J9 (off:=67) 5)) (by kernel_rfl)) ?_;refine Wto ?_;refine MZ fun W hS=> ?_;go_wp2;exact bodyPost_ret (v:=.tuple #[.int .i64 0,.int .i64 6]) (by simp only[results,Tryz.results17];go_simp) rfl ⟨rfl,hS.ext⟩
theorem Y8x {D:DD}{y:LD}{l:List UInt8}{v:Value}{n:Int}{ep E:Nat}(hn0:n=(ep:Int)∨n= -1∧(ep:Int)=((D.puts.length-1:Nat):Int))(hlt:ep<D.puts.length)(hE_:E=erN D.vk l)(hE0:E≠0)(hn:l∉D.labs)(w:World)(hX:GX w)(hD:DK D y w)(hL:LOk D y)(hK:DOk D)(hs:Sl w v l)(hla:1≤l.length∧l.length≤32):
  Calls Tryz.prog 12 #[.pointer (some ⟨y.p,0,none⟩),v,.int .i64 n] w fun e w' =>X5 (.tuple #[.agg fdZ,.int .i64 (E:Int)]) w w' e:=by
 have X:=hK.pos;have Y:=hK.len;have U:1≤(l.length:Int)∧(l.length:Int)≤32:=by omega
 have hE:=Lib.hid hE_;clear hE_;have hS:=SH.nil [] w
 go_enter Tryz.func12,Tryz.ntmps12
 go_upto_region 0 with fail;refine RL hS ?_;clear hS;refine MN (z:=fdZ) (t:=48) ?_;intro T;refine W0 ?_;refine MZ fun W hS=> ?_;go_upto_region 1 with fail;refine RL hS ?_;clear hS;refine MV ?_;refine Wf ?_;refine Wf ?_;refine MV ?_;refine MC (v:=.bool true) (fun W hS=>(by have h_:=J2l W (J08 hs hS.ext);rw[show win _ 32=true from decide_eq_true U] at h_;exact h_)) ?_;refine Wf ?_;refine Wfo ?_;refine MZ fun W hS=> ?_;go_upto_region 3 with fail;rename_i K15 hK15 K25 hK25
 have G:∀a_ w_,(∃(S J M N:Value),a_={tmps:= #[.pointer (some ⟨y.p,0,none⟩),v,.int .i64 (ep:Int),undef,undef,undef,.pointer (some ⟨T,0,none⟩),.int .i64 0,undef,undef,undef,undef,undef,undef,undef,undef,undef,.pointer (some ⟨y.p,0,none⟩),.bool false,.bool false,v,.bool true,.bool false,.bool false,undef,S,J,M,N,undef,undef,undef,undef,undef,undef,undef,undef,undef,undef,undef,undef,undef,undef,undef,undef,undef,undef,undef,undef,undef,undef,undef,undef,undef,undef,undef,undef,undef,undef,undef,undef,undef,undef,undef,undef,undef,undef,undef,undef,undef,undef,undef,undef,undef,undef,undef,undef,undef,undef,undef,undef,undef,undef,undef,undef,undef,undef,undef,undef,undef,undef,undef,undef,undef,undef,undef,undef,undef,undef,undef,undef,undef,undef,undef,undef,undef,undef,undef,undef,undef,undef,undef,undef,undef,undef,undef,undef,undef,undef,undef,undef,undef,undef,undef,undef,undef,undef,undef,undef,undef,undef,undef,undef,undef,undef,undef,undef],defers:=[]}∧SH [] w w_ [.b T fdZ 48])→K15 a_ w_:=by
  rintro _ W ⟨S,J,M,N,rfl,hS⟩;apply hK15;go_upto_region 5 with fail;refine RL hS ?_;clear hS;refine MV ?_;refine Wfo ?_;refine Wf ?_;refine MV ?_;refine MV ?_;refine MC (v:=.int .i64 ((D.puts.length-1:Nat):Int)) (fun W hS=>J3z W (hD.ext hS.ext) hL hK) ?_;refine Wfo ?_;refine Wfo ?_;refine MZ fun W hS=> ?_;go_upto_region 7 with fail;refine RL hS ?_;clear hS;refine MV ?_;refine MV ?_;refine MC (v:=.tuple #[.pointer none,.int .i64 (E:Int)]) (fun W hS=>Z1y (E:=E) hE.out hn hE0 W (hX.ext hS.ext) (hD.ext hS.ext) hL (J08 hs hS.ext) (by omega)) ?_;(iterate 5 refine MV ?_);refine MZ fun W hS=> ?_;go_upto_region 8 with fail;refine RL hS ?_;clear hS;refine MV ?_;refine Wto ?_;refine MZ fun W hS=> ?_;go_upto_region 9 with fail;refine RL hS ?_;clear hS;refine MF (v:=.agg fdZ) (fun W hS=>Z2g rfl rfl J0q J0r V09) ?_;refine MV ?_;refine MRa 0 ?_ (h1:=by exact(K9 ⟨rfl,rfl,rfl,rfl,rfl,rfl,rfl,trivial⟩));refine MV ?_;refine MZ fun W hS=> ?_;go_wp2;exact bodyPost_ret (X8 rfl rfl rfl (hS.blk (i:=0) rfl) (by kernel_rfl) (by rw[J7];kernel_rfl)) rfl ⟨rfl,hS.ext⟩
 clear hK15;replace G:=Lib.hid G;rcases hn0 with rfl|⟨rfl,R⟩
 ·
  refine RL hS ?_;clear hS;refine MV ?_;refine Wfo ?_;refine MZ fun W hS=> ?_
  go_wp2_with fail
  exact G.out _ _ ⟨_,_,_,_,rfl,hS⟩
 have V:=Lib.hid R;clear R;refine RL hS ?_;clear hS;refine MW ?_ (v:=.int .i64 (-1));refine Wto ?_;refine MZ fun W hS=> ?_;go_upto_region 4 with fail;refine RL hS ?_;clear hS;refine MV ?_;refine MC (v:=.int .i64 (ep:Int)) (fun W hS=>(by have h_:=J3z W (hD.ext hS.ext) hL hK;rw[←V.out] at h_;exact h_)) ?_;refine MV ?_;refine MZ fun W hS=> ?_
 go_wp2_with fail
 exact G.out _ _ ⟨_,_,_,_,rfl,hS⟩
end

section
namespace DD
def pcode (D:DD)(l x:List UInt8):Nat:=
  if ¬(1≤l.length∧l.length≤32)∨64<x.length then 1 else if D.P≤D.waits.length then 6 else if l∉D.labs∧D.L≤D.labs.length then 6 else if l∉D.labs then erN D.vk l else 0
def putD (D:DD)(l x:List UInt8):DD:=if D.pcode l x=0 then D.put l x else D
def scode (D:DD):Nat×Nat:=if D.puts.length≤D.E then(D.puts.length,0) else(0,6)
def sealD (D:DD):DD:=if D.puts.length≤D.E then D.nxt else D
end DD
theorem Q2w {D:DD}{l x:List UInt8}(hK:DOk D)(h:D.pcode l x=0):PutOk D l x:=by
  unfold DD.pcode at h
  by_cases h1:¬(1≤l.length∧l.length≤32)∨64<x.length
  · rw[if_pos h1] at h;cases h
  rw[if_neg h1] at h
  by_cases h2:D.P≤D.waits.length
  · rw[if_pos h2] at h;cases h
  rw[if_neg h2] at h
  by_cases h3:l∉D.labs∧D.L≤D.labs.length
  · rw[if_pos h3] at h;cases h
  rw[if_neg h3] at h
  have h4:1≤l.length∧l.length≤32:=by
    rcases Decidable.em (1≤l.length∧l.length≤32) with h4|h4
    · exact h4
    exact absurd (.inl h4) h1
  refine⟨h4.1,h4.2,?_,?_,?_,?_⟩
  · rcases Nat.lt_or_ge 64 x.length with h5|h5
    · exact absurd (.inr h5) h1
    exact h5
  · omega
  · by_cases h5:l∈D.labs
    · exact(hK.lab l h5).2.2
    rw[if_pos h5] at h;exact h
  intro h5;rcases Nat.lt_or_ge D.labs.length D.L with h6|h6
  · exact h6
  exact absurd ⟨h5,h6⟩ h3
theorem DOk.putD {D:DD}(h:DOk D)(l x:List UInt8):DOk (D.putD l x):=by
  unfold DD.putD
  split
  · exact h.put (Q2w h (by assumption))
  exact h
theorem DOk.sealD {D:DD}(h:DOk D):DOk D.sealD:=by
  unfold DD.sealD
  split
  · exact h.nxt (by assumption)
  exact h
theorem LOk.accU {D:DD}{y:LD}(h:LOk D y){l:List UInt8}(hl:l∈D.labs):∃a∈y.acs,a.l=l:=by
  rw[←h.a] at hl;exact List.mem_map.1 hl
def ZOk (D:DD)(y:LD)(D' :DD)(W:World)(z:LD):Prop:=LOk D' z∧z.p=y.p∧OldF (ldL D y) W (J90 z.bs)∧OldF (ldL D y) W (J9l z.pvs)
abbrev ZD (D:DD)(y:LD)(D' :DD)(W:World):Type:={z:LD // ZOk D y D' W z}
theorem Y3y {D:DD}{y:LD}{w:World}:OldF (ldL D y) w (J90 y.bs):=OldF.mem (x:=byT y.bs) (by simp) (fun T K e=>(by cases e)) (fun k hk=>hk)
theorem Y3z {D:DD}{y:LD}{w:World}:OldF (ldL D y) w (J9l y.pvs):=OldF.mem (x:=rwT y.pvs) (by simp) (fun T K e=>(by cases e)) (fun k hk=>hk)
theorem ZOk.same {D:DD}{y:LD}{W:World}(h:LOk D y):ZOk D y D W y:=⟨h,rfl,Y3y,Y3z⟩
theorem OldF.back {L:List As}{w W:World}{f:List Nat}(h:OldF L W f)(q:w.heap.size≤W.heap.size):OldF L w f:=fun k hk D=>h k hk (Nat.lt_of_lt_of_le D q)
section
variable {P : Program} {g : FuncId} {args : Array Value} {F : List Nat} {w W : World} {N R : List As} {D D' : DD} {y : LD} {val : Value}
theorem Z7z {f:List Nat}{K:World→Prop}(hS:SH F w W (ldL D y++[gx]++(N++R)))(hz:(As.p f K).holds W)(hf:InF N f)
    (hc:SH (SH.feet (ldL D y++[gx]++[.p f K])) W W (ldL D y++[gx]++[.p f K])→Calls P g args W fun e W' =>Z7g D y val D' [gx,.p f K] (SH.feet (ldL D y++[gx]++[.p f K])) W W' e) (hR:tyD (N++R)=true):
    Calls P g args W fun e W' => ∃z:ZD D y D' w,e=.returned val∧SH F w W' (ldL D' z.1++[gx]++(N++R)):=by
  refine(hc (hS.hereP hz hf)).mono fun e W' ⟨z,h1,h2,h3,h4,h5,h6⟩=>⟨⟨z,h2,h3,h5.back hS.off.size,h6.back hS.off.size⟩,h1,?_⟩
  rw[SH.feet_p] at h4
  have h7:SH (SH.feet (ldL D y++[gx])) W W' (ldL D' z++[gx]):=h4.less (by
    show(ldL D' z++[gx]).Sublist (ldL D' z++[gx,.p f K])
    exact(List.Sublist.append_left (List.Sublist.cons_cons _ (List.nil_sublist _)) _))
  exact hS.frameQ h7 (Z25 hR h5 h6)
theorem Y40 (hS:SH F w W (ldL D y++[gx]++R))
    (hc:SH (SH.feet (ldL D y++[gx])) W W (ldL D y++[gx])→Calls P g args W fun e W' =>Z7g D y val D' [gx] (SH.feet (ldL D y++[gx])) W W' e) (hR:tyD R=true):
    Calls P g args W fun e W' => ∃z:ZD D y D' w,e=.returned val∧SH F w W' (ldL D' z.1++[gx]++R):=
  (hc hS.here).mono fun e W' ⟨z,h1,h2,h3,h4,h5,h6⟩=>⟨⟨z,h2,h3,h5.back hS.off.size,h6.back hS.off.size⟩,h1,hS.frameQ h4 (Z25 hR h5 h6)⟩
end
section
variable {F : List Nat} {w W : World} {N R : List As} {D : DD} {y : LD} {l x : List UInt8} {vl vx : Value}
theorem Y97 (hS:SH F w W (ldL D y++[gx]++(N++R)))(h1:Sl W vl l)(h2:Sl W vx x)(hf:InF N ((sb vl l).toList++(sb vx x).toList))(hL:LOk D y)(hK:DOk D)(hR:tyD (N++R)=true):
    Calls Tryz.prog 19 #[.pointer (some ⟨y.p,0,none⟩),vl,vx] W fun e W' => ∃z:ZD D y (D.putD l x) w,e=.returned (.int .i64 (D.pcode l x:Int))∧SH F w W' (ldL (D.putD l x) z.1++[gx]++(N++R)):=by
  have hD:DK D y W:=DK.of (R:=[gx]++(N++R)) (by rw[List.append_assoc] at hS;exact hS);have hX:GX W:=(hS.at_ (i:=11) (x:=gx) rfl).1
  have qt:∀{c:Nat},D.pcode l x=c→c≠0→(Calls Tryz.prog 19 #[.pointer (some ⟨y.p,0,none⟩),vl,vx] W fun e W' =>X5 (.int .i64 (c:Int)) W W' e)→Calls Tryz.prog 19 #[.pointer (some ⟨y.p,0,none⟩),vl,vx] W fun e W' => ∃z:ZD D y (D.putD l x) w,e=.returned (.int .i64 (D.pcode l x:Int))∧SH F w W' (ldL (D.putD l x) z.1++[gx]++(N++R)):=by
    intro c hc h0 h;have hp:D.putD l x=D:=by unfold DD.putD;rw[if_neg (by rw[hc];exact h0)]
    rw[hp,hc];exact h.mono fun e W' ⟨q1,q2⟩=>⟨⟨y,.same hL⟩,q1,hS.next (J0b q2)⟩
  by_cases g1:1≤l.length∧l.length≤32
  · by_cases g2:64<x.length
    · exact qt (c:=1) (by unfold DD.pcode;rw[if_pos (.inr g2)]) (by decide) (Y9v W hX hD hL hK h1 h2 g1 g2)
    have g2' :x.length≤64:=by omega
    have e1:¬(¬(1≤l.length∧l.length≤32)∨64<x.length):=fun h=>h.elim (fun h=>h g1) g2
    by_cases g3:D.P≤D.waits.length
    · exact qt (c:=6) (by unfold DD.pcode;rw[if_neg e1,if_pos g3]) (by decide) (V4m W hX hD hL hK h1 h2 g1 g2' g3)
    have g3' :D.waits.length<D.P:=by omega
    by_cases g4:l∈D.labs
    · obtain⟨a,ha,J⟩:=hL.accU g4
      have hc:D.pcode l x=0:=by unfold DD.pcode;rw[if_neg e1,if_neg g3,if_neg (fun h=>h.1 g4),if_neg (fun h=>h g4)]
      have hp:D.putD l x=D.put l x:=by unfold DD.putD;rw[if_pos hc]
      rw[hp,hc];exact Z7z hS (Q4o h1 h2) hf (fun h_=>V4p ha J (Q2w hK hc) W hL hK h_) hR
    by_cases g5:D.L≤D.labs.length
    · exact qt (c:=6) (by unfold DD.pcode;rw[if_neg e1,if_neg g3,if_pos ⟨g4,g5⟩]) (by decide) (V4n W hX hD hL hK h1 h2 g1 g2' g3' g4 g5)
    have g5' :D.labs.length<D.L:=by omega
    have G:D.pcode l x=erN D.vk l:=by unfold DD.pcode;rw[if_neg e1,if_neg g3,if_neg (fun h=>g5 h.2),if_pos g4]
    by_cases g6:erN D.vk l=0
    · have hc:D.pcode l x=0:=G.trans g6
      have hp:D.putD l x=D.put l x:=by unfold DD.putD;rw[if_pos hc]
      rw[hp,hc];exact Z7z hS (Q4o h1 h2) hf (fun h_=>V4q g4 (Q2w hK hc) W hL hK h_) hR
    exact qt G g6 (V4o W hX hD hL hK h1 h2 g1 g2' g3' g4 g5' rfl g6)
  exact qt (c:=1) (by unfold DD.pcode;rw[if_pos (.inl g1)]) (by decide) (Y9u W hX hD hL hK h1 h2 g1)
theorem Y38 (hS:SH F w W (ldL D y++[gx]++R))(hL:LOk D y)(hK:DOk D)(hR:tyD R=true):
    Calls Tryz.prog 17 #[.pointer (some ⟨y.p,0,none⟩)] W fun e W' => ∃z:ZD D y D.sealD w,e=.returned (.tuple #[.int .i64 (D.scode.1:Int),.int .i64 (D.scode.2:Int)])∧SH F w W' (ldL D.sealD z.1++[gx]++R):=by
  by_cases g:D.puts.length≤D.E
  · have e1:D.sealD=D.nxt:=by unfold DD.sealD;rw[if_pos g]
    have e2:D.scode=(D.puts.length,0):=by unfold DD.scode;rw[if_pos g]
    rw[e1,e2];exact Y40 hS (fun h_=>V02 g W hL hK h_) hR
  have e1:D.sealD=D:=by unfold DD.sealD;rw[if_neg g]
  have e2:D.scode=(0,6):=by unfold DD.scode;rw[if_neg g]
  rw[e1,e2];have hD:DK D y W:=DK.of (R:=[gx]++R) (by rw[List.append_assoc] at hS;exact hS);exact(V08 (by omega) W hD hL hK).mono fun e W' ⟨q1,q2⟩=>⟨⟨y,.same hL⟩,q1,hS.next (J0b q2)⟩
end
end

section
set_option maxHeartbeats 3000000
attribute [local irreducible] wpList Y5 wpX
open S8 (Kn GA kP)
def lbn (n:Int):Nat:=(n % 18446744073709551616 % 5).toNat
def alb (n:Int)(raw:List UInt8):List UInt8:=if lbn n<4 then[97,u8 (97+lbn n)] else raw.take 40
def avl (v:List UInt8):List UInt8:=v.take 70
def DD.play (D:DD)(wt n:Int)(raw val:List UInt8):DD:=if wt.tmod 3=0 then D.sealD else D.putD (alb n raw) (avl val)
theorem DOk.play {D:DD}(h:DOk D)(wt n:Int)(raw val:List UInt8):DOk (D.play wt n raw val):=by
 unfold DD.play;split
 ·
  exact h.sealD
 exact h.putD _ _
attribute [local irreducible] eI be8 hs4 lb J33 J25 K8 xt hm pbs DD.tree DD.link rs S8.kP S8.kN S8.kD ofT ebs lk0 opn bnd ahd bsd ixN pfN erN J18 DD.play DD.putD DD.sealD DD.pcode DD.scode DD.links DD.trees alb avl

end

section
set_option maxHeartbeats 3000000
attribute [local irreducible] wpList Y5 wpX
open S8 (Kn GA kP)
attribute [local irreducible] eI be8 hs4 lb J33 J25 K8 xt hm pbs DD.tree DD.link rs S8.kP S8.kN S8.kD ofT ebs lk0 sE sL sN

end

section
set_option maxHeartbeats 3000000
attribute [local irreducible] wpList Y5 wpX
open S8 (Kn GA kP)
theorem Z1s {D' :DD}{z:LD}{W:World}{R:List As}(hR:tyD R=true)(h1:OldF [] W (J90 z.bs))(h2:OldF [] W (J9l z.pvs)):SH.okQ [] R W (ldL D' z):=by
 refine⟨.inr (.inl ⟨rfl,J2w hR fun T e=> ?_⟩),.inr (.inl ⟨rfl,J2w hR fun T e=> ?_⟩),.inr (.inl ⟨rfl,J2w hR fun T e=> ?_⟩),.inr (.inl ⟨rfl,J2w hR fun T e=> ?_⟩),.inr (.inl ⟨rfl,J2w hR fun T e=> ?_⟩),.inr (.inl ⟨rfl,J2w hR fun T e=> ?_⟩),.inr (.inl ⟨rfl,J2w hR fun T e=> ?_⟩),.inr (.inl ⟨rfl,J2w hR fun T e=> ?_⟩),.inr (.inr (.inr ⟨_,_,rfl,h1⟩)),.inr (.inr (.inr ⟨_,_,rfl,h2⟩)),.inr (.inr (.inl ⟨_,_,rfl,Y72 hR⟩)),trivial⟩
 ·
  injection e with e;exact .inl e.symm
 ·
  cases e
 ·
  injection e with e;exact .inr (.inl e.symm)
 ·
  injection e with e;exact .inr (.inr (.inl e.symm))
 ·
  injection e with e;exact .inr (.inr (.inr (.inl e.symm)))
 ·
  injection e with e;exact .inr (.inr (.inr (.inr (.inl e.symm))))
 ·
  injection e with e;exact .inr (.inr (.inr (.inr (.inr (.inl e.symm)))))
 injection e with e;exact .inr (.inr (.inr (.inr (.inr (.inr e.symm)))))
def NOk (D:DD)(w:World)(y:LD):Prop:=LOk D y∧OldF [] w (J90 y.bs)∧OldF [] w (J9l y.pvs)
theorem Y95 {P:Program}{f:FuncId}{args:Array Value}{F:List Nat}{w W:World}{H:List As}{D:DD}(hS:SH F w W H)
  (hc:Calls P f args W fun e W' => ∃y:{y:LD // LOk D y∧OldF [] W (J90 y.bs)∧OldF [] W (J9l y.pvs)},e=.returned (.tuple #[.pointer (some ⟨y.1.p,0,none⟩),.int .i64 0])∧SH [] W W' (ldL D y.1)) (hR:tyD H=true):
  Calls P f args W fun e W' => ∃y:{y:LD // NOk D w y},e=.returned (.tuple #[.pointer (some ⟨y.1.p,0,none⟩),.int .i64 0])∧SH F w W' (ldL D y.1++H):=
 hc.mono fun e W' ⟨y,h1,h2⟩=>⟨⟨y.1,y.2.1,y.2.2.1.back hS.off.size,y.2.2.2.back hS.off.size⟩,h1,SH.frameQ (L:=[]) hS h2 (Z1s hR y.2.2.1 y.2.2.2)⟩
attribute [local irreducible] eI be8 hs4 lb J33 J25 K8 xt hm pbs DD.tree DD.link rs S8.kP S8.kN S8.kD ofT ebs lk0 sE sL sN opn bnd ahd bsd ixN pfN erN J18 DD.links DD.trees DD.play DD.putD DD.sealD

end

section
abbrev S0:DD:=Q7n [116] 1 2 2 2 2
abbrev S1:DD:=S0.put [97] [120]
end

section
set_option maxHeartbeats 3000000
attribute [local irreducible] wpList Y5 wpX
open S8 (Kn GA kP)
attribute [local irreducible] eI be8 hs4 lb J33 J25 K8 xt hm pbs DD.tree DD.link rs S8.kP S8.kN S8.kD ofT ebs lk0 sE sL sN opn bnd ahd bsd ixN pfN erN J18 DD.links DD.trees DD.play DD.putD DD.sealD fnd

end

section
set_option maxHeartbeats 3000000
attribute [local irreducible] wpList Y5 wpX
open S8 (Kn GA kP)
attribute [local irreducible] eI be8 hs4 lb J33 J25 K8 xt hm pbs

end

section
theorem J9i {α β:Type}(g:α→β)(l:List α)(d:α):g (l.getLastD d)=(l.map g).getLastD (g d):=by
  rw[List.getLastD_eq_getLast?,List.getLastD_eq_getLast?,List.getLast?_map];cases l.getLast?<;>rfl
def mdZ:Md:=⟨[],[],0,0⟩
def DD.lastM (D:DD)(l:List UInt8)(e:Nat):Md:=((D.made.filter fun m=>decide (m.l=l)).filter fun m=>decide (m.ep≤e)).getLastD mdZ
def g3 (e:En):Nat×Nat×List UInt8:=(e.ep,e.ver,e.x)
def h3 (m:Md):Nat×Nat×List UInt8:=(m.ep,m.ver,m.x)
theorem Y2u {D:DD}{y:LD}(hL:LOk D y){a:Ac}(ha:a∈y.acs)(e:Nat):g3 (J18 a.es (e:Int))=h3 (D.lastM a.l e):=by
  have h1:a.es.map g3=(D.made.filter fun m=>decide (m.l=a.l)).map h3:=hL.e a ha;unfold J18 DD.lastM;rw[J9i g3,J9i h3]
  have e1:(a.es.filter fun x=>decide ((x.ep:Int)≤(e:Int))).map g3=(a.es.map g3).filter fun z=>decide (z.1≤e):=by
    rw[List.filter_map]
    congr 1
    refine List.filter_congr fun x _=> ?_;show decide ((x.ep:Int)≤(e:Int))=decide (x.ep≤e)
    by_cases hx:x.ep≤e
    · rw[decide_eq_true hx,decide_eq_true (by omega)]
    rw[decide_eq_false hx,decide_eq_false (by omega)]
  have e2:((D.made.filter fun m=>decide (m.l=a.l)).filter fun m=>decide (m.ep≤e)).map h3=((D.made.filter fun m=>decide (m.l=a.l)).map h3).filter fun z=>decide (z.1≤e):=by
    rw[List.filter_map];rfl
  rw[e1,e2,h1];rfl
theorem Y2v {D:DD}{l:List UInt8}(h:l∉D.labs)(e:Nat):D.lastM l e=mdZ:=by
  unfold DD.lastM
  have h1:(D.made.filter fun m=>decide (m.l=l))=[]:=by
    refine List.filter_eq_nil_iff.2 fun m hm hc=> ?_;have hl:m.l=l:=by simpa using hc
    exact h (DD.mem_labs.2 ⟨(m.l,m.x),List.mem_append.2 (.inl (DD.made_mem hm).2),hl⟩)
  rw[h1];rfl
def DD.lk (D:DD)(l:List UInt8)(e:Nat):Fnd:=fnd D (ixN D.vk l) (pfN D.vk l) e (D.lastM l e).ver (D.lastM l e).x
theorem Y8s {D:DD}{y:LD}{l:List UInt8}{v:Value}{n:Int}{e:Nat}(hn:n=(e:Int)∨n= -1∧(e:Int)=((D.puts.length-1:Nat):Int))(he:e<D.puts.length)(h0:erN D.vk l=0)(w:World)(hX:GX w)(hD:DK D y w)(hL:LOk D y)(hK:DOk D)(hs:Sl w v l)(hl:1≤l.length∧l.length≤32):
    Calls Tryz.prog 12 #[.pointer (some ⟨y.p,0,none⟩),v,.int .i64 n] w fun en w' =>Y8t (D.lk l e) w w' en:=by
  unfold DD.lk
  by_cases h1:l∈D.labs
  · obtain⟨a,ha,G⟩:=hL.accU h1
    have h2:=Y2u hL ha e;rw[G] at h2;injection h2 with e1 e2
    injection e2 with e2 e3
    have h:=Y8u (x0:=J18 a.es (e:Int)) (ix:=ixN D.vk l) (pf:=pfN D.vk l) hn he rfl rfl rfl ha G w hX hD hL hK hs hl;rw[e2,e3] at h;exact h
  rw[Y2v h1 e];exact Y8v (x0:=J18 [] (e:Int)) (ix:=ixN D.vk l) (pf:=pfN D.vk l) hn he rfl rfl rfl h1 h0 w hX hD hL hK hs hl
theorem Y8w {D:DD}{y:LD}{l:List UInt8}{v:Value}{n:Int}{e:Nat}(hn:n=(e:Int)∨n= -1∧(e:Int)=((D.puts.length-1:Nat):Int))(he:e<D.puts.length)(h0:erN D.vk l≠0)(w:World)(hX:GX w)(hD:DK D y w)(hL:LOk D y)(hK:DOk D)(hs:Sl w v l)(hl:1≤l.length∧l.length≤32):
    Calls Tryz.prog 12 #[.pointer (some ⟨y.p,0,none⟩),v,.int .i64 n] w fun en w' =>X5 (.tuple #[.agg fdZ,.int .i64 (erN D.vk l:Int)]) w w' en:=
  Y8x hn he rfl h0 (fun h1=>h0 (hK.lab l h1).2.2) w hX hD hL hK hs hl
theorem Z4c (D:DD)(a x l:List UInt8)(e:Nat):(D.put a x).lastM l e=D.lastM l e:=rfl
theorem Z4d {D:DD}{l:List UInt8}{e:Nat}(h:e<D.puts.length):D.nxt.lastM l e=D.lastM l e:=by
  have h1:=DD.upto_nxt_lt (D:=D) h
  have h2:∀X:DD,X.lastM l e=((X.upto e).filter fun m=>decide (m.l=l)).getLastD mdZ:=fun X=>by
    unfold DD.lastM DD.upto;rw[List.filter_filter,List.filter_filter]
    congr 2
    funext m
    exact Bool.and_comm ..
  rw[h2,h2,h1]
theorem Y2w {D:DD}{e:Nat}(h:e<D.puts.length):ahd D.nxt e=ahd D e:=by
  unfold ahd;rw[DD.link_nxt (by omega)]
theorem Y2x {D:DD}{ix pf e ver:Nat}{x:List UInt8}(h:e<D.puts.length):fnd D.nxt ix pf e ver x=fnd D ix pf e ver x:=by
  unfold fnd;rw[DD.tree_nxt h,DD.link_nxt h,Y2w h];rfl
theorem Y2y {D:DD}{a b x:List UInt8}{ix pf e ver:Nat}:fnd (D.put a b) ix pf e ver x=fnd D ix pf e ver x:=by
  have h1:(D.put a b).tree e=D.tree e:=rfl;have h2:ahd (D.put a b) e=ahd D e:=by unfold ahd;rw[DD.link_put]
  unfold fnd;rw[h1,DD.link_put,h2];rfl
theorem Y8y {D:DD}{l:List UInt8}{e:Nat}(h:e<D.puts.length):D.nxt.lk l e=D.lk l e:=by
  unfold DD.lk;rw[Z4d h,Y2x h];rfl
theorem Y8z {D:DD}{a b l:List UInt8}{e:Nat}:(D.put a b).lk l e=D.lk l e:=by
  unfold DD.lk;rw[Z4c,Y2y];rfl
structure After (D D' :DD):Prop where
  n:D.puts.length≤D'.puts.length
  vk:D'.vk=D.vk
  lk:∀l e,e<D.puts.length→D'.lk l e=D.lk l e
  tr:∀e,e<D.puts.length→D'.tree e=D.tree e
  li:∀e,e<D.puts.length→D'.link e=D.link e
theorem After.rfl {D:DD}:After D D:=⟨Nat.le_refl _,Eq.refl _,fun _ _ _=>Eq.refl _,fun _ _=>Eq.refl _,fun _ _=>Eq.refl _⟩
theorem After.trans {A B C:DD}(h:After A B)(k:After B C):After A C where
  n:=Nat.le_trans h.n k.n
  vk:=k.vk.trans h.vk
  lk:=fun l e he=>(k.lk l e (Nat.lt_of_lt_of_le he h.n)).trans (h.lk l e he)
  tr:=fun e he=>(k.tr e (Nat.lt_of_lt_of_le he h.n)).trans (h.tr e he)
  li:=fun e he=>(k.li e (Nat.lt_of_lt_of_le he h.n)).trans (h.li e he)
theorem After.put {D:DD}{a b:List UInt8}:After D (D.put a b):=⟨Nat.le_refl _,Eq.refl _,fun _ _ _=>Y8z,fun _ _=>Eq.refl _,fun e _=>DD.link_put D a b e⟩
theorem After.nxt {D:DD}:After D D.nxt:=⟨by rw[DD.nxt_len];exact Nat.le_succ _,Eq.refl _,fun _ _ h=>Y8y h,fun _ h=>DD.tree_nxt h,fun _ h=>DD.link_nxt h⟩
theorem After.play (D:DD)(wt n:Int)(raw val:List UInt8):After D (D.play wt n raw val):=by
  unfold DD.play DD.sealD DD.putD
  split
  · split
    · exact .nxt
    exact .rfl
  split
  · exact .put
  exact .rfl
end

section
set_option maxHeartbeats 3000000
attribute [local irreducible] wpList Y5 wpX
attribute [local irreducible] lb
end

section
set_option maxHeartbeats 3000000
attribute [local irreducible] wpList Y5 wpX
open S8 (Kn GA kP)
attribute [local irreducible] eI be8 hs4 lb J33 J25 K8 xt hm pbs

end

section
end

section
set_option maxHeartbeats 3000000
attribute [local irreducible] wpList Y5 wpX
open S8 (Kn GA kP)
attribute [local irreducible] eI be8 hs4 lb J33 J25 K8 xt hm pbs DD.tree DD.link rs S8.kP S8.kN S8.kD ofT ebs lk0 sE sL sN opn bnd ahd bsd ixN pfN erN J18 DD.links DD.trees DD.play DD.putD DD.sealD fnd DD.lk

end

section
attribute [local irreducible] wpList Y5 wpX
attribute [local irreducible] hs4 sE sL sN lb
end

section
attribute [local irreducible] wpList Y5 wpX
attribute [local irreducible] hs4 sE sL sN lb

end

section
def J60 (D:DD)(e:Nat):List (List Value):=(List.range' 0 (e+1-0)).map (mkC D)
theorem Z4e (D:DD)(e:Nat):(J60 D e).length=e+1:=by unfold J60;rw[List.length_map,List.length_range'];omega
theorem Q7h {D:DD}{e j:Nat}(h:j<e+1):(J60 D e)[j]?=some (mkC D j):=by
  unfold J60;rw[List.getElem?_map,List.getElem?_range' (by omega)];simp
end

section
theorem RJf {P:Program}{ops:Array Oper}{id:Nat}{a:Act}{w:World}{Q:Exit→Act→World→Prop}{R:Act→World→Prop}(h:(Code.region id ops false).wp P (Nml R) a w)(hk:∀a' w',R a' w' →Q .normal a' w'):(Code.region id ops false).wp P Q a w:=
  Code.wp_mono (fun e a' w' h' =>by cases e<;>first|exact hk _ _ h' |exact(h' :False).elim) h
def V8v:Fnd:=⟨0,0,0,false,0,[],0,0,[],false,0,0,0,0,0,0⟩
def DD.lkE (D:DD)(l:List UInt8)(e:Nat):Fnd:=if erN D.vk l=0 then D.lk l e else V8v
def Y6r (f:Fnd)(er:Nat)(w w' :World)(e:Ending):Prop:=∃z:Value×Value,e=.returned (.tuple #[.agg (fdF f z.1 z.2),.int .i64 (er:Int)])∧SH [] w w' [.o z.1 f.x,.r 23 32 z.2 (f.ss.map X6)]
theorem Y90 {D:DD}{y:LD}{l:List UInt8}{v:Value}{n:Int}{e:Nat}(hn:n=(e:Int)∨n= -1∧(e:Int)=((D.puts.length-1:Nat):Int))(he:e<D.puts.length)(w:World)(hX:GX w)(hD:DK D y w)(hL:LOk D y)(hK:DOk D)(hs:Sl w v l)(hl:1≤l.length∧l.length≤32):
    Calls Tryz.prog 12 #[.pointer (some ⟨y.p,0,none⟩),v,.int .i64 n] w fun en w' =>Y6r (D.lkE l e) (erN D.vk l) w w' en:=by
  unfold DD.lkE
  by_cases h0:erN D.vk l=0
  · rw[if_pos h0,h0]
    exact Y8s hn he h0 w hX hD hL hK hs hl
  rw[if_neg h0];refine(Y8w hn he h0 w hX hD hL hK hs hl).mono fun en w' ⟨h1,h2⟩=>⟨(.slice none 0 0,.slice none 0 0),h1,?_⟩
  have hS:=(SH.nil [] w).next (J0b h2);have hS:=hS.rnil 23 32 rfl;exact hS.onil rfl
theorem After.lkE {D D' :DD}(h:After D D'){l:List UInt8}{e:Nat}(he:e<D.puts.length):D'.lkE l e=D.lkE l e:=by
  unfold DD.lkE;rw[h.vk,h.lk l e he]
end

section
set_option maxHeartbeats 3000000
attribute [local irreducible] wpList Y5 wpX
open S8 (Kn GA kP)
structure PE where
 n:Int
 vu:Value
 val:List UInt8
 sl:Bool
abbrev peF (a:PE):Array Value:=Q7 [.c (.int .i64 a.n),.c a.vu,.c (.bool a.sl)]
def peC (a:PE):List Value:=fcs [.c (.int .i64 a.n),.c a.vu,.c (.bool a.sl)]
theorem Y34 {qs:List PE}:∀e∈qs.map peC,e.length=3:=fun e he=>by obtain⟨y,_,rfl⟩:=List.mem_map.1 he;rfl
theorem V4c {a:PE}:∀(i:Nat) (v:Value),(peF a)[i]?=some v→(peC a)[i]?=some v:=fun i v h=>by unfold peC;rw[←J9j,Array.getElem?_toList];exact h
def V8x (qs:List PE):List Nat:=qs.flatMap fun a=>(sb a.vu a.val).toList
def peK (qs:List PE)(W:World):Prop:=∀a∈qs,Sl W a.vu a.val
abbrev peT (qs:List PE):As:=.p (V8x qs) (peK qs)
theorem Z4g {qs:List PE}{w:World}(h:peK qs w):(peT qs).holds w:=by
 refine⟨h,fun k hk=> ?_,fun W' _ e a ha=>J8d (h a ha) fun k hk=>e k (List.mem_flatMap.2 ⟨a,ha,by rw[hk];simp⟩)⟩;obtain⟨a,ha,h1⟩:=List.mem_flatMap.1 hk;exact Sl.lt (h a ha) k (As.mem_toList h1)
theorem Q7k {W:World}{A:Option Addr}{n c i g o:Nat}{qs:List PE}{y:PE}(h:RR 3 W (.slice A n c) (qs.map peC))(yh:qs[i]?=some y)(hA:A=some ⟨g,o,none⟩):∀(j:Nat) (v:Value),(peF y)[j]?=some v→W.cell? ⟨g,o+i*3+j,none⟩=some v:=fun j v hv=>
 RR.cellat h (by rw[List.getElem?_map,yh];rfl) hA j v (V4c j v hv)
theorem Z4h (n:Int):IntKind.wrap .u8 (n % 18446744073709551616 % 4)=((UInt8.ofNat (n % 18446744073709551616 % 4).toNat).toNat:Int):=by rw[IntKind.wrap_u8,UInt8.toNat_ofNat'];omega
def lb4 (n:Int):List UInt8:=[108,UInt8.ofNat (n % 18446744073709551616 % 4).toNat]
theorem V4e {qs:List PE}{a:PE}{O u:Value}{l m:List UInt8}(ha:a∈qs)(h2:Sub u m (sb a.vu a.val)):InF [.o O l,peT qs] ((sb O l).toList++(sb u m).toList):=fun k hk=>by
 rcases List.mem_append.1 hk with hk|hk
 ·
  exact⟨.o O l,by simp,fun T K e=>(by cases e),by rw[show(As.o O l).foot=O.ownBlock.toList from rfl,J3r (As.mem_toList hk)];simp⟩
 ·
  exact⟨peT qs,by simp,fun T K e=>(by cases e),List.mem_flatMap.2 ⟨a,ha,by rw[h2 k (As.mem_toList hk)];simp⟩⟩
theorem Q7l {D:DD}{y:LD}{w W:World}{R:List As}(hS:SH [] w W (ldL D y++R))(h:OldF [] w (J90 y.bs)∧OldF [] w (J9l y.pvs)){f:List Nat}(hz:OldF (ldL D y) w f):OldF [] w f:=fun k hk G=>by
 obtain⟨x,hx,ht,J⟩:=hz k hk G
 by_cases hm:x.mv=true
 ·
  exact absurd (hS.old x (List.mem_append.2 (.inl hx)) hm k J G) (by simp)
 ·
  simp only[ldL,List.mem_cons,List.not_mem_nil,or_false] at hx;rcases hx with rfl|rfl|rfl|rfl|rfl|rfl|rfl|rfl|rfl|rfl|rfl
  all_goals first|exact absurd rfl hm|exact h.1 k J G|exact h.2 k J G|exact absurd rfl (ht _ _)
theorem Y35 (D:DD)(l x:List UInt8):(D.putD l x).id=D.id:=by unfold DD.putD;split<;>rfl
theorem Z6x (D:DD):D.sealD.id=D.id:=by unfold DD.sealD;split<;>rfl
theorem Z1n:NewOk [116] 5 6 12:=⟨by decide,by decide,by decide,by decide,by decide,by decide,by decide,by decide⟩
def Y36 (w:World)(z:DD×LD):Prop:=NOk z.1 w z.2∧DOk z.1∧z.1.id=[116]
attribute [local irreducible] eI be8 hs4 lb J33 J25 K8 xt hm pbs DD.tree DD.link rs S8.kP S8.kN S8.kD ofT ebs lk0 sE sL sN opn bnd ahd bsd ixN pfN erN J18 DD.links DD.trees DD.play DD.putD DD.sealD fnd DD.lk lb4

theorem Q7m {vk bk:Nat}{v:Value}{qs:List PE}(w:World)(hX:GX w)(hx:RR 3 w v (qs.map peC))(hq:peK qs w):
  Calls Tryz.prog 36 #[.agg (Q7 [.a 32 vk,.a 32 bk]),v] w fun e w' => ∃z:{z:DD×LD // Y36 w z},e=.returned (.pointer (some ⟨z.1.2.p,0,none⟩))∧SH [] w w' (ldL z.1.1 z.1.2):=by
 obtain⟨Ax,cx,rfl,M9,M7⟩:=RR.opf hx;have hS:=SH.nil [] w;have hS:=hS.entp (Z6y hX);have hS:=hS.entp (Z4g hq)
 go_enter Tryz.func36,Tryz.ntmps36
 go_upto_region 0 with fail;refine RL hS ?_;clear hS;refine MN (z:=Q7 [.a 32 vk,.a 32 bk]) (t:=25) ?_;intro K1;refine MV ?_;refine MZ fun W hS=> ?_;go_upto_region 1 with fail;refine RL hS ?_;clear hS;refine MO (m:=[116]) (n:=1) (z:= #[.int .u8 116]) ?_;intro M;refine MSm 0 (l:=[116]) (by first|decide|(simp only[List.length_append,List.length_cons,List.length_nil];omega)) ?_;refine ML 1 ?_ (hs:=by rw[J7];kernel_rfl);refine MF (v:=.agg (Q7 [.c (.int .i64 5),.c (.int .i64 6),.c (.int .i64 12)])) (fun W hS=>J34 [(0,[.c (.int .i64 5)]),(1,[.c (.int .i64 6)]),(2,[.c (.int .i64 12)])] rfl rfl J9m J9n (.c rfl (.c rfl (.c rfl .n)))) ?_;refine ME (V:=fun y:{y:LD // NOk (Q7n [116] vk bk 5 6 12) w y}=> .tuple #[.pointer (some ⟨y.1.p,0,none⟩),.int .i64 0]) (fun W hS=>Y95 hS (Y96 Z1n W (hS.pp (i:=3) rfl) (hS.sl (i:=0) rfl)) rfl) ?_;rintro⟨y,M1⟩;have hL:=M1.1;dsimp only[ldL,List.cons_append,List.nil_append];refine MV ?_;refine MV ?_;refine W0 ?_;refine MV ?_;refine W0 ?_;refine MZ fun W hS=> ?_;have hS:=hS.pick [0,1,2,3,4,5,6,7,8,9,10,14,13,11,12]
 go_wp2_with fail
 go_loopw [7] (fun jj wr=> ∃(i:Nat)(D5:DD)(y5:LD),(i≤qs.length)∧(y5.p=y.p)∧(LOk D5 y5)∧(DOk D5)∧(OldF [] w (J90 y5.bs)∧OldF [] w (J9l y5.pvs))∧(RowKit.Hid (D5.id=[116]))∧(jj=.int .i64 (i:Int))∧SH [] w wr [.b y5.p (Q7 [.c y5.uid,.a 32 D5.vk,.a 32 D5.bk,.c (.int .i64 (D5.L:Int)),.c (.int .i64 (D5.P:Int)),.c (.int .i64 (D5.E:Int)),.c (.map (some y5.h)),.c y5.wv,.c y5.pv,.c y5.tv,.c y5.lv]) 110,J2b y5.h (J0j y5.acs),acT y5.acs,enT y5.acs,.r 88 2 y5.wv (List.map pvC y5.wps),.r 83 1 y5.pv (List.map J6q y5.pvs),.r 115 1 y5.tv (List.map J2u y5.tus),.r 23 32 y5.lv (List.map X6 D5.links),byT y5.bs,rwT y5.pvs,taT D5.trees y5.tus,gx,peT qs,.s M [116],.b K1 (Q7 [.a 32 vk,.a 32 bk]) 25])
  (fun jj _=>qs.length-(intOf jj).toNat)
 case atStart=>exact⟨0,(Q7n [116] vk bk 5 6 12),y,Nat.zero_le _,rfl,hL,(Y37 Z1n),M1.2,Lib.hid rfl,rfl,hS⟩
 clear hS
 case round=>
  obtain⟨i,D5,y5,N1,S,G9,U,M0,X,rfl,hS⟩:=hrel
  by_cases φ:i<qs.length∧i<12
  ·
   have J:=φ.1;have N0:=φ.2;obtain⟨q_,qh⟩:∃x,qs[i]?=some x:=⟨_,List.getElem?_eq_getElem J⟩
   have G4:=List.mem_of_getElem? qh;obtain⟨gm,om,M2,_⟩:=M7.out i q_ qh;have D:=Lib.hid M2;clear M2;have M8:=Q1 (hq q_ G4);obtain⟨u_,M5,M4,M3,_⟩:=Q7o (n:=min q_.val.length 64) (hq q_ G4) (Nat.min_le_left _ _);go_upto_region 5 with fail;refine RL hS ?_;clear hS;(iterate 3 refine MV ?_);refine Wto ?_;refine Wt ?_;refine MV ?_;refine Wto ?_;refine Wt ?_;refine MZ fun W hS=> ?_;rcases Bool.eq_false_or_eq_true q_.sl with G|G
   ·
    replace G:=Lib.hid G;go_upto_region 7 with fail;refine RL hS ?_;clear hS;refine MV ?_;refine MV ?_;refine MW ?_ (v:=.pointer (some ⟨gm,om+i*3,none⟩)) (hv:=fun _=>K0 D.out J rfl rfl rfl Tryz.underlying97 (by kernel_rfl));refine MW ?_ (v:=.pointer (some ⟨gm,om+i*3+2,none⟩));refine MF (v:=.bool true) (fun W hS=>Q5 rfl rfl (by have h_:=(Q7k (hx.ext hS.ext) qh D.out) 2 _ (show(peF q_)[2]?=some (.bool q_.sl) from rfl);rw[G.out] at h_;exact h_) (by kernel_rfl)) ?_;refine MZ fun W hS=> ?_;go_upto_region 8 with fail;refine RL hS ?_;clear hS;refine MV ?_;refine MT (fun W hS=>hS.pick [0,1,2,3,4,5,6,7,8,9,10,11,12,13,14]) ?_;refine J06 (fun W hS=>(fun f hz=>Q7l hS M0 hz:∀f,OldF (ldL D5 y5) w f→OldF [] w f)) ?_;intro T;refine ME (V:=fun _:ZD D5 y5 D5.sealD w=> .tuple #[.int .i64 (D5.scode.1:Int),.int .i64 (D5.scode.2:Int)]) (fun W hS=>by have h_:=Y38 (R:=[peT qs,.s M [116],.b K1 (Q7 [.a 32 vk,.a 32 bk]) 25]) hS G9 U rfl;rw[show y5.p=y.p from S] at h_;exact h_) ?_;rintro⟨z3,Ξ⟩;dsimp only[ldL,List.cons_append,List.nil_append];refine MZ fun W hS=> ?_;go_wp2;go_roundw
    case rel=>exact⟨(i+1),D5.sealD,z3,by omega,(Ξ.2.1.trans S),Ξ.1,U.sealD,⟨T _ Ξ.2.2.1,T _ Ξ.2.2.2⟩,Lib.hid (by rw[Z6x];exact X.out),by go_num,hS⟩
    case measure=>simp[intOf];omega
   replace G:=Lib.hid G;go_upto_region 7 with fail;refine RL hS ?_;clear hS;refine MV ?_;refine MV ?_;refine MW ?_ (v:=.pointer (some ⟨gm,om+i*3,none⟩)) (hv:=fun _=>K0 D.out J rfl rfl rfl Tryz.underlying97 (by kernel_rfl));refine MW ?_ (v:=.pointer (some ⟨gm,om+i*3+2,none⟩));refine MF (v:=.bool false) (fun W hS=>Q5 rfl rfl (by have h_:=(Q7k (hx.ext hS.ext) qh D.out) 2 _ (show(peF q_)[2]?=some (.bool q_.sl) from rfl);rw[G.out] at h_;exact h_) (by kernel_rfl)) ?_;refine MZ fun W hS=> ?_;go_upto_region 9 with fail;refine RTp [11,12,13,14] (.q 0 (.q 1 (.q 2 (.q 3 (.q 4 (.q 5 (.q 6 (.q 7 (.q 8 (.q 10 (.q 11 (.q 12 (.q 13 (.q 14 (.q 15 (.q 16 (.q 17 (.q 18 (.q 19 (.q 20 (.q 21 (.q 22 (.e 9 (.e 23 .z)))))))))))))))))))))))) hS ?_;clear hS;(iterate 3 refine TV ?_);refine TW ?_ (v:=.pointer (some ⟨gm,om+i*3,none⟩)) (hv:=fun _=>K0 D.out J rfl rfl rfl Tryz.underlying97 (by kernel_rfl));refine TW ?_ (v:=.pointer (some ⟨gm,om+i*3,none⟩));refine TF (v:=.int .i64 q_.n) rfl (fun W hS=>Q5 rfl rfl ((Q7k (hx.ext hS.ext) qh D.out) 0 (.int .i64 q_.n) (show(Q7 [.c (.int .i64 q_.n),.c q_.vu,.c (.bool q_.sl)])[0]?=some (.int .i64 q_.n) from(J9 (off:=0) 0))) (by kernel_rfl)) ?_;refine TW ?_ (v:=.int .u64 (q_.n % 18446744073709551616)) (hv:=by intro W;first|rfl|(go_simp;done)|(go_simp;rw[Int.tmod_eq_emod_of_nonneg (by omega)];done)|(go_simp;rw[Int.tmod_eq_emod_of_nonneg (by omega)];omega));refine TW ?_ (v:=.int .u64 (q_.n % 18446744073709551616 % 4)) (hv:=by intro W;first|rfl|(go_simp;done)|(go_simp;rw[Int.tmod_eq_emod_of_nonneg (by omega)];done)|(go_simp;rw[Int.tmod_eq_emod_of_nonneg (by omega)];omega));refine TW ?_ (v:=.int .u8 ((UInt8.ofNat (q_.n % 18446744073709551616 % 4).toNat).toNat:Int)) (hv:=by intro W;have h_:=Z4h q_.n;go_simp;simp only[IntKind.wrap_u8] at h_⊢;omega);refine TV ?_;refine TV ?_;refine TW ?_ (v:=.pointer (some ⟨gm,om+i*3,none⟩)) (hv:=fun _=>K0 D.out J rfl rfl rfl Tryz.underlying97 (by kernel_rfl));refine TW ?_ (v:=.pointer (some ⟨gm,om+i*3+1,none⟩));refine TF (v:=q_.vu) rfl (fun W hS=>Q5 rfl rfl ((Q7k (hx.ext hS.ext) qh D.out) 1 q_.vu (show(Q7 [.c (.int .i64 q_.n),.c q_.vu,.c (.bool q_.sl)])[1]?=some q_.vu from(J9 (off:=1) 1))) (by kernel_rfl)) ?_;refine TV ?_;refine TV ?_;refine TW ?_ (v:=.pointer (some ⟨gm,om+i*3,none⟩)) (hv:=fun _=>K0 D.out J rfl rfl rfl Tryz.underlying97 (by kernel_rfl));refine TW ?_ (v:=.pointer (some ⟨gm,om+i*3+1,none⟩));refine TF (v:=q_.vu) rfl (fun W hS=>Q5 rfl rfl ((Q7k (hx.ext hS.ext) qh D.out) 1 q_.vu (show(Q7 [.c (.int .i64 q_.n),.c q_.vu,.c (.bool q_.sl)])[1]?=some q_.vu from(J9 (off:=1) 1))) (by kernel_rfl)) ?_;refine TF (v:=.int .i64 (q_.val.length:Int)) rfl (fun W hS=>J05 (J08 (hq q_ G4) hS.ext) rfl rfl) ?_;refine TW ?_ (v:=.int .i64 ((min q_.val.length 64:Nat):Int));refine TW ?_ (v:=u_) (hv:=fun _=>Z4j M5 rfl rfl rfl);refine TE (fun _ h=>h.pick [11,12,13,14]) ?_;refine MO (m:=[108,UInt8.ofNat (q_.n % 18446744073709551616 % 4).toNat]) (n:=2) (z:= #[.int .u8 108,.int .u8 ((UInt8.ofNat (q_.n % 18446744073709551616 % 4).toNat).toNat:Int)]) ?_;intro M6;refine MT (fun W hS=>by rw[show[108,UInt8.ofNat (q_.n % 18446744073709551616 % 4).toNat]=lb4 q_.n by unfold lb4;rfl] at hS;exact hS) ?_;refine V8 [0,12,13,14,15] [1,2,3,4] ?_;refine TE (fun _ h=>h.pick [0,12,13,14,15]) ?_;refine MT (fun W hS=>hS.pick [1,2,3,4,5,6,7,8,9,10,11,12,0,13,14,15]) ?_;refine J06 (fun W hS=>(fun f hz=>Q7l hS M0 hz:∀f,OldF (ldL D5 y5) w f→OldF [] w f)) ?_;intro T;refine ME (V:=fun _:ZD D5 y5 (D5.putD (lb4 q_.n) (List.take (min q_.val.length 64) q_.val)) w=> .int .i64 (D5.pcode (lb4 q_.n) (List.take (min q_.val.length 64) q_.val):Int)) (fun W hS=>by have h_:=Y97 (N:=[.o M6 (lb4 q_.n),peT qs]) (R:=[.s M [116],.b K1 (Q7 [.a 32 vk,.a 32 bk]) 25]) hS (hS.own (i:=12) rfl).sl (J08 M4 hS.ext) (V4e G4 M3) G9 U rfl;rw[show y5.p=y.p from S] at h_;exact h_) ?_;rintro⟨z5,G3⟩;dsimp only[ldL,List.cons_append,List.nil_append];refine V8 [11,12,13,14,15] [1,0,2,3,4] ?_;refine TZ (fun _ h=>h.pick [11,12,13,14,15]) fun W hS=> ?_;go_wp2;go_roundw
   case rel=>exact⟨(i+1),(D5.putD (lb4 q_.n) (List.take (min q_.val.length 64) q_.val)),z5,by omega,(G3.2.1.trans S),G3.1,(U.putD _ _),⟨T _ G3.2.2.1,T _ G3.2.2.2⟩,Lib.hid (by rw[Y35];exact X.out),by go_num,(hS.pick [0,1,2,3,4,5,6,7,8,9,10,11,13,14,15])⟩
   case measure=>simp[intOf];omega
  go_upto_region 5 with fail;refine RJf (R:=fun a_ w_=> ∃(ρ β γ δ τ D0 ψ μ D1 G5 ω G8 G1 G6 χ κ Γ σ D4 G2 G0 D6 Ω Δ α Z ζ η θ ν ε ξ D9 Ψ D3 D8 Y Θ D7 G7:Value),a_={tmps:=List.toArray ((.agg (Q7 [.a 32 vk,.a 32 bk]))::(.slice Ax qs.length cx)::(.pointer (some ⟨K1,0,none⟩))::undef::(.pointer none)::(.pointer (some ⟨y.p,0,none⟩))::(.int .i64 0)::(.int .i64 (i:Int))::(.tuple #[.pointer (some ⟨y.p,0,none⟩),.int .i64 0])::M::M::(.agg (Q7 [.a 32 vk,.a 32 bk]))::(.agg (Q7 [.c (.int .i64 5),.c (.int .i64 6),.c (.int .i64 12)]))::(.tuple #[.pointer (some ⟨y.p,0,none⟩),.int .i64 0])::(.pointer (some ⟨y.p,0,none⟩))::(.int .i64 0)::(.int .i64 0)::(.bool false)::ρ::β::γ::δ::τ::D0::ψ::(.bool false)::μ::D1::G5::ω::G8::G1::G6::χ::κ::Γ::σ::D4::G2::G0::D6::Ω::Δ::α::Z::ζ::η::θ::ν::ε::ξ::D9::Ψ::D3::D8::Y::Θ::D7::G7::undef::[]),defers:=[]}∧SH [] w w_ [.b y5.p (Q7 [.c y5.uid,.a 32 D5.vk,.a 32 D5.bk,.c (.int .i64 (D5.L:Int)),.c (.int .i64 (D5.P:Int)),.c (.int .i64 (D5.E:Int)),.c (.map (some y5.h)),.c y5.wv,.c y5.pv,.c y5.tv,.c y5.lv]) 110,J2b y5.h (J0j y5.acs),acT y5.acs,enT y5.acs,.r 88 2 y5.wv (List.map pvC y5.wps),.r 83 1 y5.pv (List.map J6q y5.pvs),.r 115 1 y5.tv (List.map J2u y5.tus),.r 23 32 y5.lv (List.map X6 D5.links),byT y5.bs,rwT y5.pvs,taT D5.trees y5.tus,gx,peT qs,.s M [116],.b K1 (Q7 [.a 32 vk,.a 32 bk]) 25]) ?_ ?_
  ·
   by_cases N2:i<qs.length
   ·
    refine RL hS ?_;clear hS;(iterate 3 refine MV ?_);refine Wto ?_;refine Wt ?_;refine MV ?_;refine Wfo ?_;refine Wf ?_;refine MZ fun W hS=> ?_;exact⟨_,_,_,_,_,_,_,_,_,_,_,_,_,_,_,_,_,_,_,_,_,_,_,_,_,_,_,_,_,_,_,_,_,_,_,_,_,_,_,_,rfl,hS⟩
   refine RL hS ?_;clear hS;(iterate 3 refine MV ?_);refine Wfo ?_;refine Wf ?_;refine MS ?_;refine MS ?_;refine Wf ?_;refine MZ fun W hS=> ?_;exact⟨_,_,_,_,_,_,_,_,_,_,_,_,_,_,_,_,_,_,_,_,_,_,_,_,_,_,_,_,_,_,_,_,_,_,_,_,_,_,_,_,rfl,hS⟩
  rintro _ W ⟨ρ,β,γ,δ,τ,D0,ψ,μ,D1,G5,ω,G8,G1,G6,χ,κ,Γ,σ,D4,G2,G0,D6,Ω,Δ,α,Z,ζ,η,θ,ν,ε,ξ,D9,Ψ,D3,D8,Y,Θ,D7,G7,rfl,hS⟩;go_wp2;exact bodyPost_ret (v:=.pointer (some ⟨y.p,0,none⟩)) (by simp only[results,Tryz.results36];go_simp) rfl ⟨⟨(D5,y5),⟨G9,M0⟩,U,X.out⟩,by rw[show y5.p=y.p from S],hS.pick [0,1,2,3,4,5,6,7,8,9,10]⟩
end

section
open Go.ChangeShapes Go.WideShapes Go.ChangeAt Go.RowKit Go.Deep
section
variable {H : Type} {enc : TypeId × Value → H} {W : World} {base : Nat} {sp : Nat → Bool} {held : Bool}
instance:Inhabited PE:=⟨⟨0,.slice none 0 0,[],false⟩⟩
theorem Z9c {r:Reach}{b0:Nat}{v:Value}{d:DataW H}{ps:List MemPlace}(hval:Value.okWide Tryz.prog W r b0 97 v)(hd:DataW.Trod enc Tryz.prog W base sp held 97 v d ps):
    ∃qs:List PE,peK qs W∧RR 3 W v (qs.map peC):=
  Z9f (Q:=fun y:PE=>Sl W y.vu y.val) Tryz.underlying97 (by kernel_rfl) (by decide) (fun x=>Y34 (qs:=[x]) (peC x) (by simp)) (fun h=>by
    obtain⟨n1,v2,l3,b4,_,h1,_,e⟩:=J7w h
    exact⟨⟨n1,v2,l3,b4⟩,h1.1,e⟩) hval hd
end
end
end Go.Proofs.YteehbddkcnkhfaaGreatDoor

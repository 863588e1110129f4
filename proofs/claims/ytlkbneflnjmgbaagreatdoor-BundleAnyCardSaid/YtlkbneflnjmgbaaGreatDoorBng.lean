/- Bundles: Unpack; the law BundleAny. Conditions: the tables hold their numbers. -/
import Derived.Test.YtlkbneflnjmgbaaGreatDoorBnf
set_option linter.unusedSimpArgs false
set_option linter.unusedVariables false
namespace Go.Proofs.YtlkbneflnjmgbaaGreatDoor
set_option maxHeartbeats 3000000
set_option maxRecDepth 100000
open Go.RowKit
attribute [local irreducible] wpList Z6 wpX
open K4
open S8 (Kn GA kP)
theorem Z9j (s:RSt):K1 s<9223372036854775808:=by
 unfold K1
 split
 ·
  rw[IntKind.wrap_i64];omega
 decide
theorem Y69 {L:List As}{D' :DD}{z:LD}{W:World}{R:List As}(hg:gx∈L)(hR:tyD R=true)(h1:OldF L W (J3v z.bs))(h2:OldF L W (J45 z.pvs)):SH.okQ L R W (ldL D' z++[gx]):=by
 refine⟨.inr (.inl ⟨rfl,J0l hR fun T e=> ?_⟩),.inr (.inl ⟨rfl,J0l hR fun T e=> ?_⟩),.inr (.inl ⟨rfl,J0l hR fun T e=> ?_⟩),.inr (.inl ⟨rfl,J0l hR fun T e=> ?_⟩),.inr (.inl ⟨rfl,J0l hR fun T e=> ?_⟩),.inr (.inl ⟨rfl,J0l hR fun T e=> ?_⟩),.inr (.inl ⟨rfl,J0l hR fun T e=> ?_⟩),.inr (.inl ⟨rfl,J0l hR fun T e=> ?_⟩),.inr (.inr (.inr ⟨_,_,rfl,h1⟩)),.inr (.inr (.inr ⟨_,_,rfl,h2⟩)),.inr (.inr (.inl ⟨_,_,rfl,Z3w hR⟩)),.inl hg,trivial⟩
 ·
  injection e with e;exact .inl e.symm
 ·
  cases e
 ·
  injection e with e;exact .inr (.inl e.symm)
 ·
  injection e with e;exact .inr (.inr (.inl e.symm))
 ·
  injection e with e;exact .inr (.inr (.inr (.inl e.symm)))
 ·
  injection e with e;exact .inr (.inr (.inr (.inr (.inl e.symm))))
 ·
  injection e with e;exact .inr (.inr (.inr (.inr (.inr (.inl e.symm)))))
 injection e with e;exact .inr (.inr (.inr (.inr (.inr (.inr e.symm)))))
section
variable {F : List Nat} {w W : World} {R : List As} {p : Nat} {v : Value} {s : RSt}
theorem Z3z {f:List Nat}(h:OldF (rdB p v s) W f):OldF (rdP p v s++[gx]) W f:=h.mono fun x hx=>by rw[List.mem_singleton.1 hx];simp
theorem Y6a (h:RdOk s)(hS:SH F w W (rdP p v s++[gx]++R))(hb0:s.1.length≤1000000)(hR:tyD R=true):
  Calls Tryz.prog 39 #[.pointer (some ⟨p,0,none⟩)] W fun e W' => ∃z:{z:LD // LOk (ptR s).2.1 z∧OldF (rdB p v s) w (J3v z.bs)∧OldF (rdB p v s) w (J45 z.pvs)},e=.returned (.tuple #[.agg (Q6 [.c (.pointer (some ⟨z.1.p,0,none⟩)),.c (.int .i64 (K1 (s7R s))),.c (.int .i64 (K1 (s8R s))),.c (.bool (flV (s9R s)))]),.bool true])∧SH F w W' (ldL (ptR s).2.1 z.1++[gx]++R):=
 (Q9d hb0 W hS.here).mono fun e W' h1=>by
  rcases h1 with⟨_,z,h1,h2,h3,h4,h5⟩|⟨h0,_⟩
  ·
   exact⟨⟨z,h2,h4.back hS.off.size,h5.back hS.off.size⟩,h1,hS.frameQ h3 (Y69 (by simp) hR (Z3z h4) (Z3z h5))⟩
  ·
   exact absurd h h0
theorem Y6b (h:¬RdOk s)(hS:SH F w W (rdP p v s++[gx]++R))(hb0:s.1.length≤1000000):
  Calls Tryz.prog 39 #[.pointer (some ⟨p,0,none⟩)] W fun e W' => ∃x:Option Addr×Int×Int×Bool,e=.returned (.tuple #[.agg (Q6 [.c (.pointer x.1),.c (.int .i64 x.2.1),.c (.int .i64 x.2.2.1),.c (.bool x.2.2.2)]),.bool false])∧SH F w W' ([gx]++R):=
 (Q9d hb0 W hS.here).mono fun e W' h1=>by
  rcases h1 with⟨h0,_⟩|⟨_,a,b,c,d,h1,h2⟩
  ·
   exact absurd h0 h
  ·
   exact⟨(a,b,c,d),h1,hS.frameQ h2 ⟨.inl (by simp),trivial⟩⟩
end
theorem Q9e {p:Nat}{v:Value}{s:RSt}{w:World}{f:List Nat}(h:OldF (rdB p v s) w f)(hp:w.heap.size≤p):OldF [] w f:=fun k hk D=>by
 obtain⟨x,hx,_,G⟩:=h k hk D;rw[List.mem_singleton.1 hx] at G;rw[show k=p from List.mem_singleton.1 G] at D;omega
abbrev unD (l:List UInt8):DD:=(ptR (l,0)).2.1
def Z6u (l:List UInt8):Prop:=RdOk (l,0)∧l=pkB (unD l) (K1 (s7R (l,0))).toNat (K1 (s8R (l,0))).toNat (flV (s9R (l,0)))
theorem Q7b:¬Z6u []:=fun h=>by
 have h1:=congrArg List.length h.2;unfold pkB at h1;rw[List.length_append,J6] at h1;simp only[List.length_nil] at h1;omega
def V7m (l:List UInt8)(w w' :World)(e:Ending):Prop:=
 (Z6u l∧∃z:LD,e=.returned (.tuple #[.agg (Q6 [.c (.pointer (some ⟨z.p,0,none⟩)),.c (.int .i64 (K1 (s7R (l,0)))),.c (.int .i64 (K1 (s8R (l,0)))),.c (.bool (flV (s9R (l,0))))]),.int .i64 0])∧LOk (unD l) z∧SH [] w w' (ldL (unD l) z++[gx])∧OldF [] w (J3v z.bs)∧OldF [] w (J45 z.pvs))∨
 (¬Z6u l∧e=.returned (.tuple #[.agg (Q6 [.c (.pointer none),.c (.int .i64 0),.c (.int .i64 0),.c (.bool false)]),.int .i64 14])∧SH [] w w' [gx])
attribute [local irreducible] eI be8 hs4 lb J3e J2f J01 xt hm pbs DD.tree DD.link rs S8.kP S8.kN S8.kD ofT ebs lk0 sE sL sN opn bnd ahd bsd ixN pfN erN J5c DD.links DD.trees DD.play DD.putD DD.sealD DD.pcode txV txS tkS K1 J6c X8 byV suV flV flS enV J5p pkB ptR s7R s8R s9R

theorem Q9f {u v:Value}{l m:List UInt8}(w:World)(hu:Sl w u l)(hv:Sl w v m):
  Calls Tryz.prog 41 #[u,v] w fun e w' =>Ret (.bool (decide (l=m))) w w' e:=by
 have hS:=SH.nil [] w
 go_enter Tryz.func41,Tryz.ntmps41
 go_upto_region 1 with fail;refine RL hS ?_;clear hS;refine MV ?_;refine MF (v:=str l) (fun W hS=>J2q (J0i hu hS.ext) rfl rfl) ?_;refine MV ?_;refine MF (v:=str m) (fun W hS=>J2q (J0i hv hS.ext) rfl rfl) ?_;refine MW ?_ (v:=.bool (decide (l=m))) (hv:=fun _=>Q40 (l:=l) (m:=m) (b:=(decide (l=m))) (rfl) rfl rfl rfl);refine MW ?_ (v:=.bool (decide (l=m)));refine MZ fun W hS=> ?_;go_wp2;exact bodyPost_ret (v:=.bool (decide (l=m))) (by simp only[results,Tryz.results41];go_simp) rfl ⟨rfl,hS.ext⟩
theorem Q9g {u:Value}{l:List UInt8}(hl:l.length≤1000000)(w:World)(hX:GX w)(hu:Sl w u l):
  Calls Tryz.prog 11 #[u] w fun e w' =>V7m l w w' e:=by
 have hS:=SH.nil [] w;have hS:=hS.entp (Q12 hX)
 go_enter Tryz.func11,Tryz.ntmps11
 go_upto_region 0 with fail;refine RL hS ?_;clear hS;refine MN (z:=Q6 [.c (.pointer none),.c (.int .i64 0),.c (.int .i64 0),.c (.bool false)]) (t:=40) ?_;intro Z8;refine W0 ?_;refine MZ fun W hS=> ?_
 by_cases J:RdOk (l,0)
 ·
  have M:=Lib.hid J;clear J;have U:=M.out.2.2.2.2.2.2.2;obtain⟨Y,Z,α⟩:=U;have γ:=Z9j (s8R (l,0));go_upto_region 1 with fail;refine RL hS ?_;clear hS;refine MV ?_;refine ME (V:=fun x:Nat×Value=> .pointer (some ⟨x.1,0,none⟩)) (fun W hS=>Z1m hS ((Z9k (J0i hu hS.ext) (by omega)).mono fun _ _ ⟨x,h1_,N,h3_⟩=>⟨x,h1_,N,h3_⟩) (fun _=>rfl)) ?_;rintro⟨rp,rv⟩;dsimp only;refine J0g (fun W hS=>(show w.heap.size≤rp from Nat.le_of_not_lt fun h_=>by have N:=hS.old (.b rp #[rv,.int .i64 0] 154) (by simp) rfl rp (by simp[As.foot]) h_;cases N)) ?_;intro T;refine MT (fun W hS=>hS.pick [0,1,3,2]) ?_;refine ME (V:=fun z:{z:LD // LOk (unD l) z∧OldF (rdB rp rv (l,0)) w (J3v z.bs)∧OldF (rdB rp rv (l,0)) w (J45 z.pvs)}=> .tuple #[.agg (Q6 [.c (.pointer (some ⟨z.1.p,0,none⟩)),.c (.int .i64 (K1 (s7R (l,0)))),.c (.int .i64 (K1 (s8R (l,0)))),.c (.bool (flV (s9R (l,0))))]),.bool true]) (fun W hS=>Y6a (s:=(l,0)) (R:=[.b Z8 (Q6 [.c (.pointer none),.c (.int .i64 0),.c (.int .i64 0),.c (.bool false)]) 40]) M.out hS hl rfl) ?_;rintro⟨z,hz⟩;dsimp only[ldL,List.cons_append,List.nil_append];refine MV ?_;refine MV ?_;refine Wt ?_;refine MN (z:=Q6 [.c (.pointer none),.c (.int .i64 0),.c (.int .i64 0),.c (.bool false)]) (t:=40) ?_;intro X;refine MRa 0 ?_ (h1:=by exact(V6 ⟨rfl,rfl,rfl,rfl,trivial⟩));refine Wt ?_;refine MZ fun W hS=> ?_;go_upto_region 4 with fail;refine RL hS ?_;clear hS;refine ML 0 ?_ (hs:=by rw[J5];kernel_rfl);refine ME (V:=fun u=> .tuple #[u,.int .i64 0]) (fun W hS=>J47 hS (by have h_:=Z97 (H:=flV (s9R (l,0))) (show 1≤(K1 (s7R (l,0))).toNat by omega) (by omega) (show(K1 (s8R (l,0))).toNat<9223372036854775808 by omega) W (hS.pp (i:=12) rfl) (DK.of (D:=(unD l)) (y:=z) (R:=[]) (hS.pick [1,2,3,4,5,6,7,8,9,10,11])) hz.1 M.out.ok;rw[Int.toNat_of_nonneg (by omega),Int.toNat_of_nonneg (by omega)] at h_;exact h_) (fun _=>⟨rfl,rfl⟩)) ?_;intro so;refine MV ?_;refine MV ?_;refine W0 ?_;refine MV ?_;refine W0 ?_;refine MZ fun W hS=> ?_
  by_cases G:l=pkB (unD l) (K1 (s7R (l,0))).toNat (K1 (s8R (l,0))).toNat (flV (s9R (l,0)))
  ·
   have S:=Lib.hid G;clear G;go_upto_region 5 with fail;refine RL hS ?_;clear hS;refine W0 ?_;refine Wfo ?_;refine Wf ?_;refine MV ?_;refine MV ?_;refine MC (v:=.bool true) (fun W hS=>(by have h_:=Q9f W (J0i hu hS.ext) (hS.osl (i:=0) rfl);rw[decide_eq_true S.out] at h_;exact h_)) ?_;refine Wf ?_;refine Wf ?_;refine MZ fun W hS=> ?_;go_upto_region 7 with fail;refine RL hS ?_;clear hS;refine ML 1 ?_ (hs:=by rw[J5];kernel_rfl);refine MRa 14 ?_ (h1:=by exact(V6 ⟨rfl,rfl,rfl,rfl,trivial⟩));refine W0 ?_;refine MZ fun W hS=> ?_;go_wp2;exact bodyPost_ret (K0 rfl rfl rfl (hS.blk (i:=14) rfl) (by kernel_rfl) (by rw[J5];kernel_rfl)) rfl (.inl ⟨⟨M.out,S.out⟩,z,rfl,hz.1,hS.pick [2,3,4,5,6,7,8,9,10,11,12,13],Q9e hz.2.1 T,Q9e hz.2.2 T⟩)
  have S:=Lib.hid G;clear G;go_upto_region 5 with fail;refine RL hS ?_;clear hS;refine W0 ?_;refine Wfo ?_;refine Wf ?_;refine MV ?_;refine MV ?_;refine MC (v:=.bool false) (fun W hS=>(by have h_:=Q9f W (J0i hu hS.ext) (hS.osl (i:=0) rfl);rw[decide_eq_false S.out] at h_;exact h_)) ?_;refine Wt ?_;refine Wt ?_;refine MZ fun W hS=> ?_;go_upto_region 6 with fail;refine RL hS ?_;clear hS;refine MF (v:=.agg (Q6 [.c (.pointer none),.c (.int .i64 0),.c (.int .i64 0),.c (.bool false)])) (fun W hS=>J3w rfl rfl K9 U0 J6n) ?_;refine MRa 14 ?_ (h1:=by exact(V6 ⟨rfl,rfl,rfl,rfl,trivial⟩));refine MW ?_ (v:=.int .i64 14);refine MZ fun W hS=> ?_;go_wp2;exact bodyPost_ret (K0 rfl rfl rfl (hS.blk (i:=14) rfl) (by kernel_rfl) (by rw[J5];kernel_rfl)) rfl (.inr ⟨fun h_=>S.out h_.2,rfl,hS.pick [13]⟩)
 have M:=Lib.hid J;clear J;go_upto_region 1 with fail;refine RL hS ?_;clear hS;refine MV ?_;refine ME (V:=fun x:Nat×Value=> .pointer (some ⟨x.1,0,none⟩)) (fun W hS=>Z1m hS ((Z9k (J0i hu hS.ext) (by omega)).mono fun _ _ ⟨x,h1_,N,h3_⟩=>⟨x,h1_,N,h3_⟩) (fun _=>rfl)) ?_;rintro⟨rp,rv⟩;dsimp only;refine J0g (fun W hS=>(show w.heap.size≤rp from Nat.le_of_not_lt fun h_=>by have N:=hS.old (.b rp #[rv,.int .i64 0] 154) (by simp) rfl rp (by simp[As.foot]) h_;cases N)) ?_;intro T;refine MT (fun W hS=>hS.pick [0,1,3,2]) ?_;refine ME (V:=fun x:Option Addr×Int×Int×Bool=> .tuple #[.agg (Q6 [.c (.pointer x.1),.c (.int .i64 x.2.1),.c (.int .i64 x.2.2.1),.c (.bool x.2.2.2)]),.bool false]) (fun W hS=>Y6b (s:=(l,0)) (R:=[.b Z8 (Q6 [.c (.pointer none),.c (.int .i64 0),.c (.int .i64 0),.c (.bool false)]) 40]) M.out hS hl) ?_;rintro⟨x1,x2,x3,x4⟩;dsimp only[ldL,List.cons_append,List.nil_append];refine MV ?_;refine MV ?_;refine Wf ?_;refine MN (z:=Q6 [.c (.pointer none),.c (.int .i64 0),.c (.int .i64 0),.c (.bool false)]) (t:=40) ?_;intro β;refine MRa 0 ?_ (h1:=by exact(V6 ⟨rfl,rfl,rfl,rfl,trivial⟩));refine Wf ?_;refine MZ fun W hS=> ?_;go_upto_region 3 with fail;refine RL hS ?_;clear hS;refine MF (v:=.agg (Q6 [.c (.pointer none),.c (.int .i64 0),.c (.int .i64 0),.c (.bool false)])) (fun W hS=>J3w rfl rfl K9 U0 J6n) ?_;refine MRa 2 ?_ (h1:=by exact(V6 ⟨rfl,rfl,rfl,rfl,trivial⟩));refine MW ?_ (v:=.int .i64 14);refine MZ fun W hS=> ?_;go_wp2;exact bodyPost_ret (K0 rfl rfl rfl (hS.blk (i:=2) rfl) (by kernel_rfl) (by rw[J5];kernel_rfl)) rfl (.inr ⟨fun h_=>M.out h_.1,rfl,hS.pick [1]⟩)
section
variable {F : List Nat} {w W : World} {H : List As} {u : Value} {l : List UInt8}
theorem Z9l (h:Z6u l)(hl:l.length≤1000000)(hS:SH F w W H)(hX:GX W)(hu:Sl W u l)(hR:tyD H=true):
  Calls Tryz.prog 11 #[u] W fun e W' => ∃z:{z:LD // LOk (unD l) z},e=.returned (.tuple #[.agg (Q6 [.c (.pointer (some ⟨z.1.p,0,none⟩)),.c (.int .i64 (K1 (s7R (l,0)))),.c (.int .i64 (K1 (s8R (l,0)))),.c (.bool (flV (s9R (l,0))))]),.int .i64 0])∧SH F w W' (ldL (unD l) z.1++H):=
 (Q9g hl W hX hu).mono fun e W' h1=>by
  rcases h1 with⟨_,z,h1,h2,h3,h4,h5⟩|⟨h0,_⟩
  ·
   exact⟨⟨z,h2⟩,h1,SH.frameQ (L:=[]) hS (h3.less (List.sublist_append_left _ _)) (Z40 hR h4 h5)⟩
  ·
   exact absurd h h0
theorem Q9i (h:¬Z6u l)(hl:l.length≤1000000)(hX:GX W)(hu:Sl W u l):
  Calls Tryz.prog 11 #[u] W fun e W' =>Ret (.tuple #[.agg (Q6 [.c (.pointer none),.c (.int .i64 0),.c (.int .i64 0),.c (.bool false)]),.int .i64 14]) W W' e:=
 (Q9g hl W hX hu).mono fun e W' h1=>by
  rcases h1 with⟨h0,_⟩|⟨_,h1,h2⟩
  ·
   exact absurd h0 h
  ·
   exact⟨h1,h2.ext⟩
end
theorem Y6c (w:World)(hX:GX w):
  Calls Tryz.prog 8 #[] w fun e w' =>Ret (.bool true) w w' e:=by
 have hS:=SH.nil [] w;have hS:=hS.entp (Q12 hX)
 go_enter Tryz.func8,Tryz.ntmps8
 go_upto_region 1 with fail;refine RL hS ?_;clear hS;refine MC (v:=.tuple #[.agg (Q6 [.c (.pointer none),.c (.int .i64 0),.c (.int .i64 0),.c (.bool false)]),.int .i64 14]) (fun W hS=>Q9i Q7b (by decide) (hS.pp (i:=0) rfl) (Z9m W)) ?_;refine MV ?_;refine MV ?_;refine MW ?_ (v:=.int .i64 14);refine MN (z:=Q6 [.c (.pointer none),.c (.int .i64 0),.c (.int .i64 0),.c (.bool false)]) (t:=40) ?_;intro D;refine MRa 0 ?_ (h1:=by exact(V6 ⟨rfl,rfl,rfl,rfl,trivial⟩));refine MW ?_ (v:=.int .i64 14);refine MZ fun W hS=> ?_;go_upto_region 2 with fail;refine RL hS ?_;clear hS;refine MF (v:=.agg (Q6 [.c (.pointer none),.c (.int .i64 0),.c (.int .i64 0),.c (.bool false)])) (fun W hS=>J3w rfl rfl K9 U0 J6n) ?_;refine MC (v:=.tuple #[.slice none 0 0,.int .i64 1]) (fun W hS=>Z96 W) ?_;refine MV ?_;refine MV ?_;refine MW ?_ (v:=.int .i64 1);refine MV ?_;refine MW ?_ (v:=.int .i64 1);refine MZ fun W hS=> ?_;go_upto_region 3 with fail;refine RL hS ?_;clear hS;refine MW ?_ (v:=.int .i64 14);refine Wto ?_;refine Wt ?_;refine MW ?_ (v:=.int .i64 1);refine Wto ?_;refine Wt ?_;refine Wt ?_;refine MZ fun W hS=> ?_;go_wp2;exact bodyPost_ret (v:=.bool true) (by simp only[results,Tryz.results8];go_simp) rfl ⟨rfl,hS.ext⟩
theorem V2g {u:Value}{l:List UInt8}(hl:l.length≤1000000)(w:World)(hX:GX w)(hu:Sl w u l):
  Calls Tryz.prog 12 #[u] w fun e w' =>Ret (.bool true) w w' e:=by
 have hS:=SH.nil [] w;have hS:=hS.entp (Q12 hX)
 go_enter Tryz.func12,Tryz.ntmps12
 by_cases G:Z6u l
 ·
  have J:=Lib.hid G;clear G;have M:=Lib.hid J.out.1;have S:=Lib.hid J.out.2;have N:=M.out.2.2.2.2.2.2.2;obtain⟨X,Y,Z⟩:=N;have α:=Z9j (s8R (l,0));go_upto_region 1 with fail;refine RL hS ?_;clear hS;refine MV ?_;refine ME (V:=fun z:{z:LD // LOk (unD l) z}=> .tuple #[.agg (Q6 [.c (.pointer (some ⟨z.1.p,0,none⟩)),.c (.int .i64 (K1 (s7R (l,0)))),.c (.int .i64 (K1 (s8R (l,0)))),.c (.bool (flV (s9R (l,0))))]),.int .i64 0]) (fun W hS=>Z9l J.out hl hS (hS.pp (i:=0) rfl) (J0i hu hS.ext) rfl) ?_;rintro⟨z,T⟩;have hz:LOk (unD l) z∧True:=⟨T,trivial⟩
  dsimp only[ldL,List.cons_append,List.nil_append];refine MV ?_;refine MV ?_;refine W0 ?_;refine MN (z:=Q6 [.c (.pointer none),.c (.int .i64 0),.c (.int .i64 0),.c (.bool false)]) (t:=40) ?_;intro β;refine MRa 0 ?_ (h1:=by exact(V6 ⟨rfl,rfl,rfl,rfl,trivial⟩));refine W0 ?_;refine MZ fun W hS=> ?_;go_upto_region 2 with fail;refine RL hS ?_;clear hS;refine W0 ?_;refine Wfo ?_;refine MZ fun W hS=> ?_;go_upto_region 4 with fail;refine RL hS ?_;clear hS;refine ML 0 ?_ (hs:=by rw[J5];kernel_rfl);refine ME (V:=fun u=> .tuple #[u,.int .i64 0]) (fun W hS=>J47 hS (by have h_:=Z97 (H:=flV (s9R (l,0))) (show 1≤(K1 (s7R (l,0))).toNat by omega) (by omega) (show(K1 (s8R (l,0))).toNat<9223372036854775808 by omega) W (hS.pp (i:=12) rfl) (DK.of (D:=(unD l)) (y:=z) (R:=[]) (hS.pick [1,2,3,4,5,6,7,8,9,10,11])) hz.1 M.out.ok;rw[Int.toNat_of_nonneg (by omega),Int.toNat_of_nonneg (by omega)] at h_;exact h_) (fun _=>⟨rfl,rfl⟩)) ?_;intro so;refine MV ?_;refine MV ?_;refine W0 ?_;refine MV ?_;refine W0 ?_;refine MZ fun W hS=> ?_;go_upto_region 5 with fail;refine RL hS ?_;clear hS;refine W0 ?_;refine Wto ?_;refine Wt ?_;refine MV ?_;refine MF (v:=str (pkB (unD l) (K1 (s7R (l,0))).toNat (K1 (s8R (l,0))).toNat (flV (s9R (l,0))))) (fun W hS=>J2q (hS.osl (i:=0) rfl) rfl rfl) ?_;refine MV ?_;refine MF (v:=str l) (fun W hS=>J2q (J0i hu hS.ext) rfl rfl) ?_;refine MW ?_ (v:=.bool true) (hv:=fun _=>Q40 (l:=(pkB (unD l) (K1 (s7R (l,0))).toNat (K1 (s8R (l,0))).toNat (flV (s9R (l,0))))) (m:=l) (b:=true) (decide_eq_true S.out.symm) rfl rfl rfl);refine Wt ?_;refine Wt ?_;refine MZ fun W hS=> ?_;go_wp2;exact bodyPost_ret (v:=.bool true) (by simp only[results,Tryz.results12];go_simp) rfl ⟨rfl,hS.ext⟩
 have J:=Lib.hid G;clear G;go_upto_region 1 with fail;refine RL hS ?_;clear hS;refine MV ?_;refine MC (v:=.tuple #[.agg (Q6 [.c (.pointer none),.c (.int .i64 0),.c (.int .i64 0),.c (.bool false)]),.int .i64 14]) (fun W hS=>Q9i J.out hl (hS.pp (i:=0) rfl) (J0i hu hS.ext)) ?_;refine MV ?_;refine MV ?_;refine MW ?_ (v:=.int .i64 14);refine MN (z:=Q6 [.c (.pointer none),.c (.int .i64 0),.c (.int .i64 0),.c (.bool false)]) (t:=40) ?_;intro U;refine MRa 0 ?_ (h1:=by exact(V6 ⟨rfl,rfl,rfl,rfl,trivial⟩));refine MW ?_ (v:=.int .i64 14);refine MZ fun W hS=> ?_;go_upto_region 2 with fail;refine RL hS ?_;clear hS;refine MW ?_ (v:=.int .i64 14);refine Wto ?_;refine MZ fun W hS=> ?_;go_upto_region 3 with fail;refine RL hS ?_;clear hS;refine MW ?_ (v:=.int .i64 14);refine Wto ?_;refine Wt ?_;refine MV ?_;refine MG 0 ?_ (v:=.pointer none) (hj:=(J9 (off:=0) 0));refine Wto ?_;refine Wt ?_;refine Wt ?_;refine MV ?_;refine MG 0 ?_ (v:=.int .i64 0) (hj:=(J9 (off:=1) 1));refine Wto ?_;refine Wt ?_;refine Wt ?_;refine MV ?_;refine MG 0 ?_ (v:=.int .i64 0) (hj:=(J9 (off:=2) 2));refine Wto ?_;refine Wt ?_;refine Wt ?_;refine MV ?_;refine MG 0 ?_ (v:=.bool false) (hj:=(J9 (off:=3) 3));(iterate 3 refine Wt ?_);refine MZ fun W hS=> ?_;go_wp2;exact bodyPost_ret (v:=.bool true) (by simp only[results,Tryz.results12];go_simp) rfl ⟨rfl,hS.ext⟩
theorem Q9j {u:Value}{l:List UInt8}(hl:l.length≤9223372036854775807)(w:World)(hX:GX w)(hu:Sl w u l):
  Calls Tryz.prog 5 #[u] w fun e w' =>Ret (.bool true) w w' e:=by
 have hS:=SH.nil [] w;have hS:=hS.entp (Q12 hX)
 go_enter Tryz.func5,Tryz.ntmps5
 go_upto_region 1 with fail;refine RL hS ?_;clear hS;refine MC (v:=.bool true) (fun W hS=>Y6c W (hS.pp (i:=0) rfl)) ?_;refine Wt ?_;refine MV ?_;refine MV ?_;refine MF (v:=.int .i64 (l.length:Int)) (fun W hS=>X5 (J0i hu hS.ext) rfl rfl) ?_;refine MW ?_ (v:=.int .i64 ((min l.length 1500:Nat):Int));refine MT (fun W hS=>hS.ent hu) ?_;refine MH 0 (min l.length 1500) (m:=l) (m' :=(List.take (min l.length 1500) l)) (by exact Nat.min_le_left _ _) ?_;intro D;refine MC (v:=.bool true) (fun W hS=>V2g (by rw[List.length_take];omega) W (hS.pp (i:=2) rfl) (hS.sl (i:=0) rfl)) ?_;refine Wt ?_;refine Wt ?_;refine MZ fun W hS=> ?_;go_wp2;exact bodyPost_ret (v:=.bool true) (by simp only[results,Tryz.results5];go_simp) rfl ⟨rfl,hS.ext⟩
end Go.Proofs.YtlkbneflnjmgbaaGreatDoor

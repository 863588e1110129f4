/- codec: the Writer; the Reader, where the part is there. Conditions: memory holds what is written. -/
import Derived.Test.YtlkbneflnjmgbaaGreatDoorJ6
open Go.RowKit
set_option maxRecDepth 100000
set_option linter.unusedSimpArgs false
set_option linter.unusedVariables false
namespace Go.Proofs.YtlkbneflnjmgbaaGreatDoor.K4
section
set_option maxHeartbeats 4000000
structure NewB (w:World)(l:List UInt8)(v:Value)(w' :World):Prop where
  own:Own w' v l
  off:Off [] w w'
  fr:Fr v.ownBlock w.heap.size []
end

section
set_option maxHeartbeats 4000000
theorem Z7e (w:World):
  Calls Tryz.prog 51 #[.slice none 0 0] w fun e w' => ∃v,e=.returned v∧NewB w [] v w' :=by
 have D:Off [] w w:=Off.refl _ _
 go_enter Tryz.func51,Tryz.ntmps51
 go_upto_region 1 with fail;refine wp_region_lit ?_;refine Lv ?_;refine Lw ?_ (v:=.bool true);refine J2 ?_;go_wp2;exact bodyPost_ret (v:=.slice none 0 0) (by simp only[results,Tryz.results51];go_simp) rfl ⟨_,rfl,Q1a _,D,Q18⟩
end

section
set_option maxHeartbeats 4000000
theorem Z29 (ad:Addr)(c:Nat)(l:List UInt8)(w:World)(hs:Sl w (.slice (some ad) l.length c) l)(hl:l.length≤140737488355328):
  Calls Tryz.prog 51 #[.slice (some ad) l.length c] w fun e w' => ∃v,e=.returned v∧NewB w ([]++l) v w' :=by
 have D:Off [] w w:=Off.refl _ _;have Q3:=hs
 go_enter Tryz.func51,Tryz.ntmps51
 go_upto_region 1 with fail;refine wp_region_lit ?_;refine Lv ?_;refine Lw ?_ (v:=.bool false);refine J2 ?_;go_upto_region 3 with fail;refine wp_region_lit ?_;refine LnS ?_ (z:= #[]) (t:=5) (n:=0) (c:=0);intro M W1 R hO h_;have N:Fr (Value.ownBlock (.slice (some ⟨M,0,none⟩) 0 0)) w.heap.size []:=frn D R;replace Q3:=Sl.off Q3 hO f0;replace D:=D.o hO;have V:Own W1 (.slice (some ⟨M,0,none⟩) 0 0) []:=J1s h_ (by rfl) (by show 0≤maxLen;decide);clear hO h_ R;refine Lv ?_;refine J00 (xs:=[]) (ys:=l) (by rfl) rfl rfl rfl V Q3 (by first|omega|(simp only[List.length_append,List.length_cons,List.length_nil];omega)) ?_
 (try simp only[Act.put,mA,mB,mC])
 intro U W2 S hO J G;clear G;have T:=J0n J N D.size;replace D:=D.step hO (io N);clear hO J;refine Lv ?_;refine J2 ?_;go_wp2;exact bodyPost_ret (v:=U) (by simp only[results,Tryz.results51];go_simp) rfl ⟨_,rfl,S,D,T⟩
end

section
set_option maxHeartbeats 4000000
theorem J5h {u:Value}{l:List UInt8}{w:World}(hs:Sl w u l)(hl:l.length≤140737488355328):Calls Tryz.prog 51 #[u] w fun e w' => ∃v,e=.returned v∧NewB w l v w' :=by
  obtain⟨A,c,rfl,h1,h2,h0,h3⟩:=hs;rcases A with _|ad
  · have:l=[]:=by
      cases l with
      |nil=>rfl
      |cons x r=>obtain⟨ad,h,_⟩:=h3 0 x rfl;cases h
    subst this;rw[h0 rfl];exact Z7e w
  exact Z29 ad c l w ⟨some ad,c,rfl,h1,h2,h0,h3⟩ hl
end

section
set_option maxHeartbeats 4000000
def Wr (w:World)(p:Nat)(v:Value)(l:List UInt8)(big:Bool):Prop:=Blk w p #[v,.bool big] 72∧Own w v l
end

section
set_option maxHeartbeats 4000000
structure WrTo (w:World)(p:Nat)(v:Value)(l:List UInt8)(big:Bool)(v' :Value)(w' :World):Prop where
  wr:Wr w' p v' l big
  off:Off (p::v.ownBlock.toList) w w'
  fr:Fr v'.ownBlock w.heap.size v.ownBlock.toList
end

section
set_option maxHeartbeats 4000000
theorem J7v {O:Option Nat}{n b:Nat}{F:List Nat}(h:Fr O n (b::F))(hb:O≠some b):Fr O n F:=fun x hx hn=>(List.mem_cons.1 (h x hx hn)).resolve_left fun e=>hb (by rw[←e];exact hx)
end

section
set_option maxHeartbeats 4000000
theorem wrap_u8 (c:UInt8):IntKind.wrap .u8 (c.toNat:Int)=c.toNat:=by
  have:=c.toNat_lt;rw[IntKind.wrap_u8];omega
end

section
set_option maxHeartbeats 4000000
theorem Y1o (p:Nat)(c:UInt8)(v:Value)(l:List UInt8)(big:Bool)(w:World)(hwr:Wr w p v l big)(hl:l.length<140737488355328):
  Calls Tryz.prog 21 #[.pointer (some ⟨p,0,none⟩),.int .i64 (c.toNat:Int)] w fun e w' =>e=.returned (.tuple #[])∧∃v',WrTo w p v (l++[c]) big v' w' :=by
 have c0:(0:Int)≤(c.toNat:Int):=Int.natCast_nonneg _;have c1:(c.toNat:Int)≤255:=by have:=c.toNat_lt;omega
 have wc:=wrap_u8 c;have D:Off (p::v.ownBlock.toList) w w:=Off.refl _ _;obtain⟨G,J⟩:=hwr;have K8:=J.ne_blk G (by decide);have Z:Fb p w.heap.size (p::v.ownBlock.toList):=fun _=>by simp
 have S:Fr (Value.ownBlock v) w.heap.size (p::v.ownBlock.toList):=fun x hx _=>by simp[hx]
 go_enter Tryz.func21,Tryz.ntmps21
 go_upto_region 0 with fail;refine wp_region_lit ?_;(iterate 4 refine Lv ?_);refine Lg ?_ G (v:=v);refine Lv ?_;refine Lw ?_ (v:=.int .u8 (c.toNat:Int));refine LnS ?_ (z:= #[.int .u8 (c.toNat:Int)]) (t:=5) (n:=1) (c:=1);intro α W1 Y hO h_;replace G:=G.o hO;replace J:=Own.off J hO f0;replace D:=D.o hO;have X:Own W1 (.slice (some ⟨α,0,none⟩) 1 1) [c]:=J1s h_ (by rfl) (by show 1≤maxLen;decide);clear hO h_ Y;refine J00 (xs:=l) (ys:=[c]) (by rfl) rfl rfl rfl J (Own.sl X) (by first|omega|(simp only[List.length_append,List.length_cons,List.length_nil];omega)) ?_
 (try simp only[Act.put,mA,mB,mC])
 intro T W2 M hO R N;clear N;have U:=J0m R K8 (Q2 G);have V:=J0n R S D.size;replace G:=J0j G hO (nmo K8);replace D:=D.step hO (io S);clear hO R;refine Lv ?_;refine Lv ?_;refine J1k (v:=T) (J77 M) (by rfl) rfl rfl rfl G (by show 0<2;decide) (by kernel_rfl) ?_
 (try simp only[Act.put,mA,mB,mC])
 intro W3 hO h_;replace G:Blk W3 p #[T,.bool big] 72:=h_;clear h_;replace M:=Own.off M hO (f1 U);replace D:=D.p hO Z;clear hO;refine J2 ?_;go_wp2;exact bodyPost_end (v:=.tuple #[]) (by simp only[results,Tryz.results21];go_simp) rfl ⟨rfl,_,⟨G,M⟩,D,J7v V U⟩
end

section
set_option maxHeartbeats 4000000
end

section
set_option maxHeartbeats 4000000
end

section
set_option maxHeartbeats 4000000
end

section
set_option maxHeartbeats 4000000
theorem J3u {p n:Nat}{v:Value}{l:List UInt8}{big:Bool}{w:World}(hn:n<256)(hwr:Wr w p v l big)(hl:l.length<140737488355328):
    Calls Tryz.prog 21 #[.pointer (some ⟨p,0,none⟩),.int .i64 (n:Int)] w fun e w' =>e=.returned (.tuple #[])∧∃v',WrTo w p v (l++[u8 n]) big v' w' :=by
  have:=Y1o p (u8 n) v l big w hwr hl;have e:((u8 n).toNat:Int)=n:=by rw[J4f];omega
  rw[e] at this;exact this
end

section
set_option maxHeartbeats 4000000
theorem V3w (n:Nat):u8 (n % 256)=u8 n:=by
  apply UInt8.toNat_inj.1;rw[J4f,J4f,Nat.mod_mod]
end

section
set_option maxHeartbeats 4000000
theorem Z2b (p:Nat)(v:Value)(l:List UInt8)(big:Bool)(w:World)(hwr:Wr w p v l big)(hl:l.length<140737488355328):
  Calls Tryz.prog 28 #[.pointer (some ⟨p,0,none⟩),.bool true] w fun e w' =>e=.returned (.tuple #[])∧∃v',WrTo w p v (l++[u8 1]) big v' w' :=by
 have G:Off (p::v.ownBlock.toList) w w:=Off.refl _ _;obtain⟨D,M⟩:=hwr;have K8:=M.ne_blk D (by decide);have U:Fb p w.heap.size (p::v.ownBlock.toList):=fun _=>by simp
 have T:Fr (Value.ownBlock v) w.heap.size (p::v.ownBlock.toList):=fun x hx _=>by simp[hx]
 go_enter Tryz.func28,Tryz.ntmps28
 go_upto_region 3 with fail;refine wp_region_lit ?_;refine Lv ?_;refine Lw ?_ (v:=.int .i64 1);refine Lc ?_ (J3u (n:=1) (by decide) ⟨D,M⟩ (by omega));rintro W1 ⟨X,J⟩;have N:=J.fr;have hO:=J.off;have kk:=J.wr.1;have R:=J.wr.2;clear J;have S:=J0m N K8 (Q2 D);have V:=J0n N T G.size;replace G:=G.step hO (ic U (io T));replace D:=kk;have S:=Own.ne_blk R D (by decide);clear hO N kk;refine J2 ?_;go_wp2;exact bodyPost_end (v:=.tuple #[]) (by simp only[results,Tryz.results28];go_simp) rfl ⟨rfl,_,⟨D,R⟩,G,J7v V S⟩
end

section
set_option maxHeartbeats 4000000
theorem Z07 (p:Nat)(v:Value)(l:List UInt8)(big:Bool)(w:World)(hwr:Wr w p v l big)(hl:l.length<140737488355328):
  Calls Tryz.prog 28 #[.pointer (some ⟨p,0,none⟩),.bool false] w fun e w' =>e=.returned (.tuple #[])∧∃v',WrTo w p v (l++[u8 0]) big v' w' :=by
 have G:Off (p::v.ownBlock.toList) w w:=Off.refl _ _;obtain⟨D,M⟩:=hwr;have K8:=M.ne_blk D (by decide);have U:Fb p w.heap.size (p::v.ownBlock.toList):=fun _=>by simp
 have T:Fr (Value.ownBlock v) w.heap.size (p::v.ownBlock.toList):=fun x hx _=>by simp[hx]
 go_enter Tryz.func28,Tryz.ntmps28
 go_upto_region 3 with fail;refine wp_region_lit ?_;refine Lv ?_;refine Lw ?_ (v:=.int .i64 0);refine Lc ?_ (J3u (n:=0) (by decide) ⟨D,M⟩ (by omega));rintro W1 ⟨X,J⟩;have N:=J.fr;have hO:=J.off;have kk:=J.wr.1;have R:=J.wr.2;clear J;have S:=J0m N K8 (Q2 D);have V:=J0n N T G.size;replace G:=G.step hO (ic U (io T));replace D:=kk;have S:=Own.ne_blk R D (by decide);clear hO N kk;refine J2 ?_;go_wp2;exact bodyPost_end (v:=.tuple #[]) (by simp only[results,Tryz.results28];go_simp) rfl ⟨rfl,_,⟨D,R⟩,G,J7v V S⟩
end

section
set_option maxHeartbeats 4000000
end

section
set_option maxHeartbeats 4000000
theorem Q7u (p:Nat)(v:Value)(l:List UInt8)(w:World)(hwr:Wr w p v l false)(hl:l.length≤140737488355328):
  Calls Tryz.prog 34 #[.pointer (some ⟨p,0,none⟩)] w fun e w' => ∃u,e=.returned (.tuple #[u,.int .i64 0])∧NewB w l u w' :=by
 have D:Off [] w w:=Off.refl _ _;obtain⟨N,S⟩:=hwr
 go_enter Tryz.func34,Tryz.ntmps34
 go_upto_region 3 with fail;refine wp_region_lit ?_;(iterate 3 refine Lv ?_);refine Lg ?_ N (v:=.bool false);refine Lw ?_ (v:=.bool false);refine J2 ?_;go_upto_region 5 with fail;refine wp_region_lit ?_;(iterate 3 refine Lv ?_);refine Lg ?_ N (v:=v);refine J3y (R:=fun v W=>NewB w l v W) ((J5h (Own.sl S) (by omega)).mono fun _ _ h=>h) (by rfl) rfl (by kernel_rfl) rfl ?_
 (try simp only[Act.put,mA,mB,mC])
 rintro G W1 J;have hO:=J.off;have U:=J.own;have M:Of (Value.ownBlock G) none w.heap.size:=J.fr;clear J;have T:Fr (Value.ownBlock G) w.heap.size []:=J0n M Q18 D.size;replace D:=D.o hO;clear hO M;refine Lv ?_;refine Lw ?_ (v:=.int .i64 0);refine J2 ?_;go_wp2;refine bodyPost_ret (v:=.tuple #[G,.int .i64 0]) (by simp only[results,Tryz.results34];go_simp) rfl ⟨_,rfl,U,D,T⟩
end

section
set_option maxHeartbeats 4000000
theorem V3x (n:Int)(X:Nat)(hx:n % 18446744073709551616=(X:Int))(p:Nat)(v:Value)(l:List UInt8)(big:Bool)(w:World)(hwr:Wr w p v l big)(hl:l.length<140737488355320):
  Calls Tryz.prog 27 #[.pointer (some ⟨p,0,none⟩),.int .i64 n] w fun e w' =>e=.returned (.tuple #[])∧∃v',WrTo w p v (l++be8 X) big v' w' :=by
 have M:IntKind.wrap .u64 n=(X:Int):=by rw[IntKind.wrap_u64];exact hx
 have x0:(0:Int)≤(X:Int):=Int.natCast_nonneg _;have x1:(X:Int)<18446744073709551616:=by omega
 have J:Off (p::v.ownBlock.toList) w w:=Off.refl _ _;obtain⟨G,U⟩:=hwr;have K8:=U.ne_blk G (by decide);have N:Fb p w.heap.size (p::v.ownBlock.toList):=fun _=>by simp
 have ν:Fr (Value.ownBlock v) w.heap.size (p::v.ownBlock.toList):=fun x hx _=>by simp[hx]
 go_enter Tryz.func27,Tryz.ntmps27
 go_wp2_with fail
 refine wp_loop_rounds 9 ?_;rw[rounds_succ];go_upto_region 3 with fail;refine wp_region_lit ?_;refine Lv ?_;refine Lv ?_;refine Lw ?_ (v:=.int .u64 (X:Int)) (hv:=by go_simp;(try simp only[M]));refine Lw ?_ (v:=.int .i64 7);refine Lw ?_ (v:=.int .i64 56);refine Lv ?_;refine Lw ?_ (v:=.int .u8 ((X / 72057594037927936 % 256:Nat):Int)) (hv:=by go_simp;(try simp only[IntKind.wrap_u8,IntKind.wrap_i64]);(try omega));refine Lw ?_ (v:=.int .i64 ((X / 72057594037927936 % 256:Nat):Int)) (hv:=by go_simp;(try simp only[IntKind.wrap_u8,IntKind.wrap_i64]);(try omega));refine Lc ?_ (J3u (n:=X / 72057594037927936 % 256) (by omega) ⟨G,U⟩ (by first|omega|(simp only[List.length_append,List.length_cons,List.length_nil];omega)));rintro W1 ⟨D4,D⟩;have β:=D.fr;have hO:=D.off;have kk:=D.wr.1;have ζ:=D.wr.2;clear D;have ρ:=J0m β K8 (Q2 G);have δ:=J0n β ν J.size;replace J:=J.step hO (ic N (io ν));replace G:=kk;have ρ:=Own.ne_blk ζ G (by decide);clear hO β kk;refine J2 ?_
 go_wp2_with fail
 rw[rounds_succ];go_upto_region 3 with fail;refine wp_region_lit ?_;refine Lv ?_;refine Lv ?_;refine Lw ?_ (v:=.int .u64 (X:Int)) (hv:=by go_simp;(try simp only[M]));refine Lw ?_ (v:=.int .i64 6);refine Lw ?_ (v:=.int .i64 48);refine Lv ?_;refine Lw ?_ (v:=.int .u8 ((X / 281474976710656 % 256:Nat):Int)) (hv:=by go_simp;(try simp only[IntKind.wrap_u8,IntKind.wrap_i64]);(try omega));refine Lw ?_ (v:=.int .i64 ((X / 281474976710656 % 256:Nat):Int)) (hv:=by go_simp;(try simp only[IntKind.wrap_u8,IntKind.wrap_i64]);(try omega));refine Lc ?_ (J3u (n:=X / 281474976710656 % 256) (by omega) ⟨G,ζ⟩ (by first|omega|(simp only[List.length_append,List.length_cons,List.length_nil];omega)));rintro W2 ⟨D9,D⟩;have T:=D.fr;have hO:=D.off;have kk:=D.wr.1;have Ψ:=D.wr.2;clear D;have ψ:=J0m T ρ (Q2 G);have ε:=J0n T δ J.size;replace J:=J.step hO (ic N (io δ));replace G:=kk;have ψ:=Own.ne_blk Ψ G (by decide);clear hO T kk;refine J2 ?_
 go_wp2_with fail
 rw[rounds_succ];go_upto_region 3 with fail;refine wp_region_lit ?_;refine Lv ?_;refine Lv ?_;refine Lw ?_ (v:=.int .u64 (X:Int)) (hv:=by go_simp;(try simp only[M]));refine Lw ?_ (v:=.int .i64 5);refine Lw ?_ (v:=.int .i64 40);refine Lv ?_;refine Lw ?_ (v:=.int .u8 ((X / 1099511627776 % 256:Nat):Int)) (hv:=by go_simp;(try simp only[IntKind.wrap_u8,IntKind.wrap_i64]);(try omega));refine Lw ?_ (v:=.int .i64 ((X / 1099511627776 % 256:Nat):Int)) (hv:=by go_simp;(try simp only[IntKind.wrap_u8,IntKind.wrap_i64]);(try omega));refine Lc ?_ (J3u (n:=X / 1099511627776 % 256) (by omega) ⟨G,Ψ⟩ (by first|omega|(simp only[List.length_append,List.length_cons,List.length_nil];omega)));rintro W3 ⟨D6,D⟩;have α:=D.fr;have hO:=D.off;have kk:=D.wr.1;have ω:=D.wr.2;clear D;have Γ:=J0m α ψ (Q2 G);have D0:=J0n α ε J.size;replace J:=J.step hO (ic N (io ε));replace G:=kk;have Γ:=Own.ne_blk ω G (by decide);clear hO α kk;refine J2 ?_
 go_wp2_with fail
 rw[rounds_succ];go_upto_region 3 with fail;refine wp_region_lit ?_;refine Lv ?_;refine Lv ?_;refine Lw ?_ (v:=.int .u64 (X:Int)) (hv:=by go_simp;(try simp only[M]));refine Lw ?_ (v:=.int .i64 4);refine Lw ?_ (v:=.int .i64 32);refine Lv ?_;refine Lw ?_ (v:=.int .u8 ((X / 4294967296 % 256:Nat):Int)) (hv:=by go_simp;(try simp only[IntKind.wrap_u8,IntKind.wrap_i64]);(try omega));refine Lw ?_ (v:=.int .i64 ((X / 4294967296 % 256:Nat):Int)) (hv:=by go_simp;(try simp only[IntKind.wrap_u8,IntKind.wrap_i64]);(try omega));refine Lc ?_ (J3u (n:=X / 4294967296 % 256) (by omega) ⟨G,ω⟩ (by first|omega|(simp only[List.length_append,List.length_cons,List.length_nil];omega)));rintro W4 ⟨G0,D⟩;have Z:=D.fr;have hO:=D.off;have kk:=D.wr.1;have μ:=D.wr.2;clear D;have σ:=J0m Z Γ (Q2 G);have Θ:=J0n Z D0 J.size;replace J:=J.step hO (ic N (io D0));replace G:=kk;have σ:=Own.ne_blk μ G (by decide);clear hO Z kk;refine J2 ?_
 go_wp2_with fail
 rw[rounds_succ];go_upto_region 3 with fail;refine wp_region_lit ?_;refine Lv ?_;refine Lv ?_;refine Lw ?_ (v:=.int .u64 (X:Int)) (hv:=by go_simp;(try simp only[M]));refine Lw ?_ (v:=.int .i64 3);refine Lw ?_ (v:=.int .i64 24);refine Lv ?_;refine Lw ?_ (v:=.int .u8 ((X / 16777216 % 256:Nat):Int)) (hv:=by go_simp;(try simp only[IntKind.wrap_u8,IntKind.wrap_i64]);(try omega));refine Lw ?_ (v:=.int .i64 ((X / 16777216 % 256:Nat):Int)) (hv:=by go_simp;(try simp only[IntKind.wrap_u8,IntKind.wrap_i64]);(try omega));refine Lc ?_ (J3u (n:=X / 16777216 % 256) (by omega) ⟨G,μ⟩ (by first|omega|(simp only[List.length_append,List.length_cons,List.length_nil];omega)));rintro W5 ⟨D7,D⟩;have S:=D.fr;have hO:=D.off;have kk:=D.wr.1;have η:=D.wr.2;clear D;have φ:=J0m S σ (Q2 G);have ξ:=J0n S Θ J.size;replace J:=J.step hO (ic N (io Θ));replace G:=kk;have φ:=Own.ne_blk η G (by decide);clear hO S kk;refine J2 ?_
 go_wp2_with fail
 rw[rounds_succ];go_upto_region 3 with fail;refine wp_region_lit ?_;refine Lv ?_;refine Lv ?_;refine Lw ?_ (v:=.int .u64 (X:Int)) (hv:=by go_simp;(try simp only[M]));refine Lw ?_ (v:=.int .i64 2);refine Lw ?_ (v:=.int .i64 16);refine Lv ?_;refine Lw ?_ (v:=.int .u8 ((X / 65536 % 256:Nat):Int)) (hv:=by go_simp;(try simp only[IntKind.wrap_u8,IntKind.wrap_i64]);(try omega));refine Lw ?_ (v:=.int .i64 ((X / 65536 % 256:Nat):Int)) (hv:=by go_simp;(try simp only[IntKind.wrap_u8,IntKind.wrap_i64]);(try omega));refine Lc ?_ (J3u (n:=X / 65536 % 256) (by omega) ⟨G,η⟩ (by first|omega|(simp only[List.length_append,List.length_cons,List.length_nil];omega)));rintro W6 ⟨D8,D⟩;have R:=D.fr;have hO:=D.off;have kk:=D.wr.1;have Ξ:=D.wr.2;clear D;have θ:=J0m R φ (Q2 G);have κ:=J0n R ξ J.size;replace J:=J.step hO (ic N (io ξ));replace G:=kk;have θ:=Own.ne_blk Ξ G (by decide);clear hO R kk;refine J2 ?_
 go_wp2_with fail
 rw[rounds_succ];go_upto_region 3 with fail;refine wp_region_lit ?_;refine Lv ?_;refine Lv ?_;refine Lw ?_ (v:=.int .u64 (X:Int)) (hv:=by go_simp;(try simp only[M]));refine Lw ?_ (v:=.int .i64 1);refine Lw ?_ (v:=.int .i64 8);refine Lv ?_;refine Lw ?_ (v:=.int .u8 ((X / 256 % 256:Nat):Int)) (hv:=by go_simp;(try simp only[IntKind.wrap_u8,IntKind.wrap_i64]);(try omega));refine Lw ?_ (v:=.int .i64 ((X / 256 % 256:Nat):Int)) (hv:=by go_simp;(try simp only[IntKind.wrap_u8,IntKind.wrap_i64]);(try omega));refine Lc ?_ (J3u (n:=X / 256 % 256) (by omega) ⟨G,Ξ⟩ (by first|omega|(simp only[List.length_append,List.length_cons,List.length_nil];omega)));rintro W7 ⟨D5,D⟩;have V:=D.fr;have hO:=D.off;have kk:=D.wr.1;have χ:=D.wr.2;clear D;have Ω:=J0m V θ (Q2 G);have Δ:=J0n V κ J.size;replace J:=J.step hO (ic N (io κ));replace G:=kk;have Ω:=Own.ne_blk χ G (by decide);clear hO V kk;refine J2 ?_
 go_wp2_with fail
 rw[rounds_succ];go_upto_region 3 with fail;refine wp_region_lit ?_;refine Lv ?_;refine Lv ?_;refine Lw ?_ (v:=.int .u64 (X:Int)) (hv:=by go_simp;(try simp only[M]));refine Lw ?_ (v:=.int .i64 0);refine Lw ?_ (v:=.int .i64 0);refine Lv ?_;refine Lw ?_ (v:=.int .u8 ((X % 256:Nat):Int)) (hv:=by go_simp;(try simp only[IntKind.wrap_u8,IntKind.wrap_i64]);(try omega));refine Lw ?_ (v:=.int .i64 ((X % 256:Nat):Int)) (hv:=by go_simp;(try simp only[IntKind.wrap_u8,IntKind.wrap_i64]);(try omega));refine Lc ?_ (J3u (n:=X % 256) (by omega) ⟨G,χ⟩ (by first|omega|(simp only[List.length_append,List.length_cons,List.length_nil];omega)));rintro W8 ⟨D3,D⟩;have Y:=D.fr;have hO:=D.off;have kk:=D.wr.1;have γ:=D.wr.2;clear D;have τ:=J0m Y Ω (Q2 G);have D1:=J0n Y Δ J.size;replace J:=J.step hO (ic N (io Δ));replace G:=kk;have τ:=Own.ne_blk γ G (by decide);clear hO Y kk;refine J2 ?_
 go_wp2_with fail
 rw[rounds_succ];go_wp2;have e8:(((((((l++[u8 (X / 72057594037927936 % 256)])++[u8 (X / 281474976710656 % 256)])++[u8 (X / 1099511627776 % 256)])++[u8 (X / 4294967296 % 256)])++[u8 (X / 16777216 % 256)])++[u8 (X / 65536 % 256)])++[u8 (X / 256 % 256)])++[u8 (X % 256)]=l++be8 X:=by simp only[V3w,be8,List.append_assoc,List.cons_append,List.nil_append]
 rw[e8] at γ;exact bodyPost_end (v:=.tuple #[]) (by simp only[results,Tryz.results27];go_simp) rfl ⟨rfl,_,⟨G,γ⟩,J,J7v D1 τ⟩
end

section
set_option maxHeartbeats 4000000
theorem V3y (s:List UInt8)(hs:s.length=32)(p:Nat)(v:Value)(l:List UInt8)(big:Bool)(w:World)(hwr:Wr w p v l big)(hl:l.length<140737488355290):
  Calls Tryz.prog 26 #[.pointer (some ⟨p,0,none⟩),.agg (bs8 s).toArray] w fun e w' =>e=.returned (.tuple #[])∧∃v',WrTo w p v (l++s) big v' w' :=by
 have D:Off (p::v.ownBlock.toList) w w:=Off.refl _ _;obtain⟨G,J⟩:=hwr;have K8:=J.ne_blk G (by decide);have Z:Fb p w.heap.size (p::v.ownBlock.toList):=fun _=>by simp
 have U:Fr (Value.ownBlock v) w.heap.size (p::v.ownBlock.toList):=fun x hx _=>by simp[hx]
 go_enter Tryz.func26,Tryz.ntmps26
 go_upto_region 0 with fail;refine wp_region_lit ?_;refine Ln ?_ (z:=(bs8 s).toArray) (t:=22);intro α W1 Y hO h_;replace G:=G.o hO;replace J:=Own.off J hO f0;replace D:=D.o hO;have M:=h_;clear hO h_ Y;refine J2 ?_;go_upto_region 2 with fail;refine J17 6 [] (by kernel_rfl) (fun x hx=>by cases hx) (by kernel_rfl) ?_;simp only[List.take_succ_cons,List.take_zero,List.take_nil]
 (try simp only[Act.put,mA,mB,mC])
 (iterate 4 refine Xv ?_);refine Xc ?_ (v:=v) (V2 G);refine Xv ?_;refine K3 ?_;intro β W2 hE hN hD;clear hN hD;simp only[J05,Act.put,mA,mB,mC,List.drop_succ_cons,List.drop_zero,List.drop_nil,List.length_nil,Nat.add_zero];have hO:=J0b hE;replace G:=G.o hO;replace M:=M.o hO;replace J:=Own.off J hO f0;replace D:=D.o hO;clear hO hE β;have γ:Sl W2 (.slice (some ⟨α,0,none⟩) 32 32) s:=Z25 M hs.symm (Nat.le_refl _) (by decide) (fun j x hj=>by rw[Nat.zero_add];simpa using Q3e hj);refine J00 (xs:=l) (ys:=s) (by rfl) rfl rfl rfl J γ (by omega) ?_
 (try simp only[Act.put,mA,mB,mC])
 intro T W3 N hO S R;clear R;have V:=J0m S K8 (Q2 G);have X:=J0n S U D.size;replace G:=J0j G hO (nmo K8);replace D:=D.step hO (io U);clear hO S;refine Lv ?_;refine Lv ?_;refine J1k (v:=T) (J77 N) (by rfl) rfl rfl rfl G (by show 0<2;decide) (by kernel_rfl) ?_
 (try simp only[Act.put,mA,mB,mC])
 intro W4 hO h_;replace G:Blk W4 p #[T,.bool big] 72:=h_;clear h_;replace N:=Own.off N hO (f1 V);replace D:=D.p hO Z;clear hO;refine LN ?_;go_wp2;exact bodyPost_end (v:=.tuple #[]) (by simp only[results,Tryz.results26];go_simp) rfl ⟨rfl,_,⟨G,N⟩,D,J7v X V⟩
end

section
set_option maxHeartbeats 4000000
end

section
set_option maxHeartbeats 4000000
theorem Y5q (p:Nat)(v:Value)(l:List UInt8)(big:Bool)(w:World)(hwr:Wr w p v l big)(u:Value)(m:List UInt8)(hu:Sl w u m)(hm:m.length≤65535)(hup:sb u m≠some p)(hub:∀x,v.ownBlock=some x→sb u m≠some x)(hl:l.length<140737488280000):
  Calls Tryz.prog 22 #[.pointer (some ⟨p,0,none⟩),u] w fun e w' =>e=.returned (.tuple #[])∧∃v',WrTo w p v (l++[u8 (m.length / 256),u8 m.length]++m) big v' w' :=by
 obtain⟨A,c,rfl,κ,ξ,ρ,μ⟩:=id hu;have D:Off (p::v.ownBlock.toList) w w:=Off.refl _ _;obtain⟨G,M⟩:=hwr;have K8:=M.ne_blk G (by decide);have ζ:Fb p w.heap.size (p::v.ownBlock.toList):=fun _=>by simp
 have Z:Fr (Value.ownBlock v) w.heap.size (p::v.ownBlock.toList):=fun x hx _=>by simp[hx]
 have J:=hu;have γ:=hub
 go_enter Tryz.func22,Tryz.ntmps22
 go_upto_region 2 with fail;refine wp_region_lit ?_;refine Lv ?_;refine J2b (l:=m) J (by rfl) rfl rfl ?_
 (try simp only[Act.put,mA,mB,mC])
 refine Lw ?_ (v:=.bool false);refine Lw ?_ (v:=.bool false);refine J2 ?_;go_upto_region 0 with fail;refine wp_region_lit ?_;(iterate 4 refine Lv ?_);refine Lg ?_ G (v:=v);refine Lv ?_;refine J2b (l:=m) J (by rfl) rfl rfl ?_
 (try simp only[Act.put,mA,mB,mC])
 refine Lv ?_;refine Lw ?_ (v:=.int .u8 ((u8 (m.length / 256)).toNat:Int)) (hv:=by go_simp;(try simp only[J4f,IntKind.wrap_u8]);omega);refine Lv ?_;refine J2b (l:=m) J (by rfl) rfl rfl ?_
 (try simp only[Act.put,mA,mB,mC])
 refine Lw ?_ (v:=.int .u8 ((u8 m.length).toNat:Int)) (hv:=by go_simp;(try simp only[J4f,IntKind.wrap_u8]);omega);refine LnS ?_ (z:= #[.int .u8 ((u8 (m.length / 256)).toNat:Int),.int .u8 ((u8 m.length).toNat:Int)]) (t:=5) (n:=2) (c:=2);intro β W1 θ hO h_;replace G:=G.o hO;replace M:=Own.off M hO f0;replace J:=Sl.off J hO f0;replace D:=D.o hO;have δ:Own W1 (.slice (some ⟨β,0,none⟩) 2 2) [u8 (m.length / 256),u8 m.length]:=J1s h_ (by rfl) (by show 2≤maxLen;decide);clear hO h_ θ;refine J00 (xs:=l) (ys:=[u8 (m.length / 256),u8 m.length]) (by rfl) rfl rfl rfl M (Own.sl δ) (by first|omega|(simp only[List.length_append,List.length_cons,List.length_nil];omega)) ?_
 (try simp only[Act.put,mA,mB,mC])
 intro ν W2 η hO U S;clear S;have V:=J0m U K8 (Q2 G);have X:=J0n U Z D.size;replace G:=J0j G hO (nmo K8);replace J:=Sl.off J hO (fo γ);replace D:=D.step hO (io Z);clear hO U;refine Lv ?_;refine J00 (xs:=(l++[u8 (m.length / 256),u8 m.length])) (ys:=m) (by rfl) rfl rfl rfl η J (by first|omega|(simp only[List.length_append,List.length_cons,List.length_nil];omega)) ?_
 (try simp only[Act.put,mA,mB,mC])
 intro Y W3 N hO T R;clear R;have α:=J0m T V (Q2 G);have ε:=J0n T X D.size;replace G:=J0j G hO (nmo V);replace D:=D.step hO (io X);clear hO T;refine Lv ?_;refine Lv ?_;refine J1k (v:=Y) (J77 N) (by rfl) rfl rfl rfl G (by show 0<2;decide) (by kernel_rfl) ?_
 (try simp only[Act.put,mA,mB,mC])
 intro W4 hO h_;replace G:Blk W4 p #[Y,.bool big] 72:=h_;clear h_;replace N:=Own.off N hO (f1 α);replace D:=D.p hO ζ;clear hO;refine J2 ?_;go_wp2;exact bodyPost_end (v:=.tuple #[]) (by simp only[results,Tryz.results22];go_simp) rfl ⟨rfl,_,⟨G,N⟩,D,J7v ε α⟩
end

section
set_option maxHeartbeats 4000000
theorem Z56 (n:Nat)(w:World):
  Calls Tryz.prog 37 #[.int .i64 (n:Int)] w fun e w' =>Ret (str [u8 n]) w w' e:=by
 have D:Off [] w w:=Off.refl _ _
 go_enter Tryz.func37,Tryz.ntmps37
 go_upto_region 1 with fail;refine wp_region_lit ?_;refine Lv ?_;refine Lw ?_ (v:=.int .u8 ((u8 n).toNat:Int)) (hv:=by go_simp;(try simp only[J6e,IntKind.wrap_u8]);(try omega));refine LnS ?_ (z:= #[.int .u8 ((u8 n).toNat:Int)]) (t:=5) (n:=1) (c:=1);intro G W1 J hO h_;replace D:=D.o hO;have M:Own W1 (.slice (some ⟨G,0,none⟩) 1 1) [u8 n]:=J1s h_ (by rfl) (by show 1≤maxLen;decide);clear hO h_ J;refine Y78 (l:=[u8 n]) (Own.sl M) (by rfl) rfl rfl ?_
 (try simp only[Act.put,mA,mB,mC])
 refine Lv ?_;refine J2 ?_;go_wp2;exact bodyPost_ret (v:=str [u8 n]) (by simp only[results,Tryz.results37];go_simp) rfl ⟨rfl,D.ext⟩
end

section
set_option maxHeartbeats 4000000
end

section
set_option maxHeartbeats 4000000
end

section
set_option maxHeartbeats 4000000
def Rdr (w:World)(p:Nat)(v:Value)(l:List UInt8)(e:Int):Prop:=Blk w p #[v,.int .i64 e] 154∧Sl w v l∧sb v l≠some p
end

section
set_option maxHeartbeats 4000000
structure RdTo (w:World)(p:Nat)(v:Value)(l:List UInt8)(l' :List UInt8)(e:Int)(v' :Value)(w' :World):Prop where
  rd:Rdr w' p v' l' e
  sub:Sub v' l' (sb v l)
  off:Off [p] w w'
end

section
set_option maxHeartbeats 4000000
theorem Q3g (p:Nat)(v:Value)(l:List UInt8)(w:World)(hrd:Rdr w p v l 0)(n:Nat)(hn:n≤l.length)(hl:l.length<140737488000000):
  Calls Tryz.prog 93 #[.pointer (some ⟨p,0,none⟩),.int .i64 (n:Int)] w fun e w' => ∃u,e=.returned u∧Sl w' u (l.take n)∧Sub u (l.take n) (sb v l)∧(0<n→∃ad c,u=.slice (some ad) n c)∧∃v',RdTo w p v l (l.drop n) 0 v' w' :=by
 have J:Off [p] w w:=Off.refl _ _;obtain⟨D,G,K8⟩:=hrd;have Y:Fb p w.heap.size [p]:=fun _=>by simp
 go_enter Tryz.func93,Tryz.ntmps93
 go_upto_region 1 with fail;refine wp_region_lit ?_;refine Lv ?_;refine Lw ?_ (v:=.bool false);refine Lw ?_ (v:=.bool false);(iterate 3 refine Lv ?_);refine Lg ?_ D (v:=.int .i64 0);(iterate 3 refine Lw ?_ (v:=.bool false));refine J2 ?_;go_upto_region 3 with fail;refine wp_region_lit ?_;(iterate 3 refine Lv ?_);refine Lg ?_ D (v:=v);refine J2b (l:=l) G (by rfl) rfl rfl ?_
 (try simp only[Act.put,mA,mB,mC])
 refine Lv ?_;refine Lw ?_ (v:=.bool false);refine Lw ?_ (v:=.bool false);refine J2 ?_;go_upto_region 6 with fail;refine wp_region_lit ?_;(iterate 3 refine Lv ?_);refine Lg ?_ D (v:=v);refine Lv ?_;refine Y17 (n:=n) G (by omega) (by rfl) rfl rfl rfl ?_
 (try simp only[Act.put,mA,mB,mC])
 intro T N V Z;have X:sb T (List.take n l)≠some p:=J55 V K8;refine Lv ?_;refine J2 ?_;go_upto_region 7 with fail;refine wp_region_lit ?_;(iterate 4 refine Lv ?_);refine Lg ?_ D (v:=v);refine Lv ?_;refine Q4i (n:=n) G (by omega) (by rfl) rfl rfl rfl ?_
 (try simp only[Act.put,mA,mB,mC])
 intro R M U;have S:sb R (List.drop n l)≠some p:=J55 U K8;refine Lv ?_;refine Lv ?_;refine J1k (v:=R) (Q1 M) (by rfl) rfl rfl rfl D (by show 0<2;decide) (by kernel_rfl) ?_
 (try simp only[Act.put,mA,mB,mC])
 intro W1 hO h_;replace D:Blk W1 p #[R,.int .i64 0] 154:=h_;clear h_;replace N:=Sl.off N hO (f1 X);replace M:=Sl.off M hO (f1 S);replace J:=J.p hO Y;clear hO;refine J2 ?_;go_wp2;exact bodyPost_ret (v:=T) (by simp only[results,Tryz.results93];go_simp) rfl ⟨_,rfl,N,V,Z,_,⟨D,M,S⟩,U,J⟩
end

section
set_option maxHeartbeats 4000000
theorem Q1i (p:Nat)(v:Value)(c:UInt8)(r:List UInt8)(w:World)(hrd:Rdr w p v (c::r) 0)(hl:(c::r).length<140737488000000):
  Calls Tryz.prog 66 #[.pointer (some ⟨p,0,none⟩)] w fun e w' =>e=.returned (.int .i64 (c.toNat:Int))∧∃v',RdTo w p v (c::r) r 0 v' w' :=by
 have G:Off [p] w w:=Off.refl _ _;obtain⟨J,S,K8⟩:=hrd;have Y:Fb p w.heap.size [p]:=fun _=>by simp
 go_enter Tryz.func66,Tryz.ntmps66
 go_upto_region 1 with fail;refine wp_region_lit ?_;refine Lv ?_;refine J3y (R:=fun u W=>Sl W u (List.take 1 (c::r))∧Sub u (List.take 1 (c::r)) (sb v (c::r))∧(0<1→∃ad c,u=.slice (some ad) 1 c)∧∃v2,RdTo w p v (c::r) (List.drop 1 (c::r)) 0 v2 W) ((Q3g p v (c::r) w ⟨J,S,K8⟩ 1 (by simp) (by first|omega|(simp only[List.length_append,List.length_cons,List.length_nil];omega))).mono fun _ _ h=>h) (by rfl) rfl (by kernel_rfl) rfl ?_
 (try simp only[Act.put,mA,mB,mC])
 rintro γ W1 ⟨hu,δ,Z,T,D⟩
 (try simp only[Act.put,mA,mB,mC])
 have hO:=D.off;have kk:=D.rd.1;have N:=D.rd.2.1;have M:=D.sub;clear D;replace G:=G.p hO Y;replace J:=kk;clear kk hO;have α:=hu;have V:=N;clear hu N;have X:sb T (List.drop 1 (c::r))≠some p:=J55 M K8;refine Lv ?_;refine J2 ?_;obtain⟨ad,cc,β⟩:=Z (by decide);subst β;go_upto_region 2 with fail;refine wp_region_lit ?_;refine Lv ?_;refine Lw ?_ (v:=.bool false);refine J2 ?_;go_upto_region 4 with fail;refine wp_region_lit ?_;refine Lv ?_;refine J5j (j:=0) (c:=c) α rfl (by rfl) rfl rfl rfl ?_
 (try simp only[Act.put,mA,mB,mC])
 intro ε U;refine J6s (by rfl) rfl rfl U (by kernel_rfl) ?_
 (try simp only[Act.put,mA,mB,mC])
 refine Lw ?_ (v:=.int .i64 (c.toNat:Int)) (hv:=by have:=c.toNat_lt;go_simp;(try simp only[IntKind.wrap_i64]);(try omega));refine Lv ?_;refine J2 ?_;go_wp2;exact bodyPost_ret (v:=.int .i64 (c.toNat:Int)) (by simp only[results,Tryz.results66];first|(go_simp;done)|(go_simp;rfl)) rfl ⟨rfl,_,⟨J,V,X⟩,M,G⟩
end

section
set_option maxHeartbeats 4000000
theorem Y7m (p:Nat)(v:Value)(r:List UInt8)(w:World)(hrd:Rdr w p v (u8 0::r) 0)(hl:(u8 0::r).length<140737488000000):
  Calls Tryz.prog 70 #[.pointer (some ⟨p,0,none⟩)] w fun e w' =>e=.returned (.bool false)∧∃v',RdTo w p v (u8 0::r) r 0 v' w' :=by
 have G:Off [p] w w:=Off.refl _ _;obtain⟨M,J,K8⟩:=hrd;have T:Fb p w.heap.size [p]:=fun _=>by simp
 go_enter Tryz.func70,Tryz.ntmps70
 go_upto_region 1 with fail;refine wp_region_lit ?_;refine Lv ?_;refine Lc ?_ (Q1i p _ (u8 0) r _ ⟨M,J,K8⟩ (by first|omega|(simp only[List.length_append,List.length_cons,List.length_nil];omega))) (v:=.int .i64 0);rintro W1 ⟨S,D⟩;have hO:=D.off;have kk:=D.rd.1;have R:=D.rd.2.1;have N:=D.sub;clear D;replace G:=G.p hO T;replace M:=kk;clear kk hO;have U:=R;clear R;have V:sb S r≠some p:=J55 N K8;clear J K8;refine Lw ?_ (v:=.int .i64 0);refine J2 ?_;go_wp2;exact bodyPost_ret (v:=.bool false) (by simp only[results,Tryz.results70];first|(go_simp;done)|(go_simp;rfl)) rfl ⟨rfl,_,⟨M,U,V⟩,N,G⟩
end

section
set_option maxHeartbeats 4000000
theorem Y7n (p:Nat)(v:Value)(r:List UInt8)(w:World)(hrd:Rdr w p v (u8 1::r) 0)(hl:(u8 1::r).length<140737488000000):
  Calls Tryz.prog 70 #[.pointer (some ⟨p,0,none⟩)] w fun e w' =>e=.returned (.bool true)∧∃v',RdTo w p v (u8 1::r) r 0 v' w' :=by
 have G:Off [p] w w:=Off.refl _ _;obtain⟨M,J,K8⟩:=hrd;have T:Fb p w.heap.size [p]:=fun _=>by simp
 go_enter Tryz.func70,Tryz.ntmps70
 go_upto_region 1 with fail;refine wp_region_lit ?_;refine Lv ?_;refine Lc ?_ (Q1i p _ (u8 1) r _ ⟨M,J,K8⟩ (by first|omega|(simp only[List.length_append,List.length_cons,List.length_nil];omega))) (v:=.int .i64 1);rintro W1 ⟨S,D⟩;have hO:=D.off;have kk:=D.rd.1;have R:=D.rd.2.1;have N:=D.sub;clear D;replace G:=G.p hO T;replace M:=kk;clear kk hO;have U:=R;clear R;have V:sb S r≠some p:=J55 N K8;clear J K8;refine Lw ?_ (v:=.int .i64 1);refine J2 ?_;go_wp2;exact bodyPost_ret (v:=.bool true) (by simp only[results,Tryz.results70];first|(go_simp;done)|(go_simp;rfl)) rfl ⟨rfl,_,⟨M,U,V⟩,N,G⟩
end

section
set_option maxHeartbeats 4000000
section
variable {w : World} {o : Oper} {a : Act}
theorem J4v {x:Operand}{t:TypeId}{Y:Nat}(ho:o.op=.binOp .shl 3 x (.const (.int .u64 8)) t)(hx:a.eval x=.int .i64 (IntKind.wrap .i64 (Y:Int))):(execOp a.eval o).run Tryz.prog w=.ok (.value (.int .i64 (IntKind.wrap .i64 ((Y*256:Nat):Int)))) w:=by
  have h:=K31 Y;simp only[execOp,ho,hx];go_simp
theorem J6i {x y:Operand}{t:TypeId}{Y z Y' :Nat}(hz:z<256)(hY:Y' =Y*256+z)(ho:o.op=.binOp .or 3 x y t)(hx:a.eval x=.int .i64 (IntKind.wrap .i64 ((Y*256:Nat):Int)))(hy:a.eval y=.int .i64 (z:Int)):(execOp a.eval o).run Tryz.prog w=.ok (.value (.int .i64 (IntKind.wrap .i64 (Y' :Int)))) w:=by
  have h:=or8 Y z hz;subst hY;simp only[execOp,ho,hx,hy];go_simp;rw[show((Y*256:Nat):Int)=(Y:Int)*256 by omega,show((Y*256+z:Nat):Int)=(Y:Int)*256+z by omega] at h;exact h
end
end

section
set_option maxHeartbeats 4000000
theorem Y7o (X:Nat)(hX:X<18446744073709551616):((((((((0*256+(u8 (X / 72057594037927936)).toNat)*256+(u8 (X / 281474976710656)).toNat)*256+(u8 (X / 1099511627776)).toNat)*256+(u8 (X / 4294967296)).toNat)*256+(u8 (X / 16777216)).toNat)*256+(u8 (X / 65536)).toNat)*256+(u8 (X / 256)).toNat)*256+(u8 X).toNat)=X:=by
  simp only[J4f];omega
end

section
set_option maxHeartbeats 4000000
theorem Y7p (p:Nat)(v:Value)(X:Nat)(hX:X<18446744073709551616)(r:List UInt8)(w:World)(hrd:Rdr w p v (be8 X++r) 0)(hl:(be8 X++r).length<140737488000000):
  Calls Tryz.prog 69 #[.pointer (some ⟨p,0,none⟩)] w fun e w' =>e=.returned (.int .i64 (IntKind.wrap .i64 (X:Int)))∧∃v',RdTo w p v (be8 X++r) r 0 v' w' :=by
 obtain⟨Y1,ν⟩:∃Y:Nat,Y=0*256+(u8 (X / 72057594037927936)).toNat:=⟨_,rfl⟩
 have V:=Lib.hid ν;clear ν;obtain⟨Y2,θ⟩:∃Y:Nat,Y=Y1*256+(u8 (X / 281474976710656)).toNat:=⟨_,rfl⟩
 have κ:=Lib.hid θ;clear θ;obtain⟨Y3,Z⟩:∃Y:Nat,Y=Y2*256+(u8 (X / 1099511627776)).toNat:=⟨_,rfl⟩
 have β:=Lib.hid Z;clear Z;obtain⟨Y4,η⟩:∃Y:Nat,Y=Y3*256+(u8 (X / 4294967296)).toNat:=⟨_,rfl⟩
 have ζ:=Lib.hid η;clear η;obtain⟨Y5,ρ⟩:∃Y:Nat,Y=Y4*256+(u8 (X / 16777216)).toNat:=⟨_,rfl⟩
 have μ:=Lib.hid ρ;clear ρ;obtain⟨Y6,T⟩:∃Y:Nat,Y=Y5*256+(u8 (X / 65536)).toNat:=⟨_,rfl⟩
 have γ:=Lib.hid T;clear T;obtain⟨Y7,ξ⟩:∃Y:Nat,Y=Y6*256+(u8 (X / 256)).toNat:=⟨_,rfl⟩
 have σ:=Lib.hid ξ;clear ξ;obtain⟨Y8,ε⟩:∃Y:Nat,Y=Y7*256+(u8 X).toNat:=⟨_,rfl⟩
 have U:=Lib.hid ε;clear ε;have N:Off [p] w w:=Off.refl _ _;obtain⟨S,τ,K8⟩:=hrd;have ω:Fb p w.heap.size [p]:=fun _=>by simp
 go_enter Tryz.func69,Tryz.ntmps69
 go_upto_region 2 with fail;refine wp_region_lit ?_;refine Lv ?_;refine J3y (R:=fun u W=>Sl W u (List.take 8 (be8 X++r))∧Sub u (List.take 8 (be8 X++r)) (sb v (be8 X++r))∧(0<8→∃ad c,u=.slice (some ad) 8 c)∧∃v2,RdTo w p v (be8 X++r) (List.drop 8 (be8 X++r)) 0 v2 W) ((Q3g p v (be8 X++r) w ⟨S,τ,K8⟩ 8 (by rw[List.length_append,show(be8 X).length=8 from rfl];omega) (by first|omega|(simp only[List.length_append,List.length_cons,List.length_nil];omega))).mono fun _ _ h=>h) (by rfl) rfl (by kernel_rfl) rfl ?_
 (try simp only[Act.put,mA,mB,mC])
 rintro Γ W1 ⟨hu,Δ,Θ,φ,M⟩
 (try simp only[Act.put,mA,mB,mC])
 have hO:=M.off;have kk:=M.rd.1;have δ:=M.rd.2.1;have α:=M.sub;clear M;replace N:=N.p hO ω;replace S:=kk;clear kk hO;have G:=hu;have χ:=δ;clear hu δ;have ψ:sb φ (List.drop 8 (be8 X++r))≠some p:=J55 α K8;refine Y12 (n:=8) rfl G (by rfl) rfl rfl ?_
 (try simp only[Act.put,mA,mB,mC])
 refine Lw ?_ (v:=.int .i64 0);refine J2 ?_
 go_wp2_with fail
 refine wp_loop_rounds 9 ?_;rw[rounds_succ];go_upto_region 4 with fail;refine wp_region_lit ?_;refine J5j (j:=0) (c:=u8 (X / 72057594037927936)) G rfl (by rfl) rfl rfl rfl ?_
 (try simp only[Act.put,mA,mB,mC])
 intro J D;refine J6s (by rfl) rfl rfl D (by kernel_rfl) ?_
 (try simp only[Act.put,mA,mB,mC])
 refine Lv ?_;refine J2 ?_;go_upto_region 5 with fail;refine wp_region_lit ?_;refine Lw ?_ (v:=.int .i64 0);refine Lw ?_ (v:=.int .i64 (IntKind.wrap .i64 ((0*256:Nat):Int))) (hv:=by exact J4v (Y:=0) rfl rfl);refine Lv ?_;refine Lw ?_ (v:=.int .i64 ((u8 (X / 72057594037927936)).toNat:Int)) (hv:=by have:=(u8 (X / 72057594037927936)).toNat_lt;go_simp;(try simp only[IntKind.wrap_i64]);(try omega));refine Lw ?_ (v:=.int .i64 (IntKind.wrap .i64 ((Y1:Nat):Int))) (hv:=by exact J6i (Y:=0) (UInt8.toNat_lt _) V.out rfl rfl rfl);refine Lv ?_;refine J2 ?_
 go_wp2_with fail
 rw[rounds_succ];go_upto_region 4 with fail;refine wp_region_lit ?_;refine J5j (j:=1) (c:=u8 (X / 281474976710656)) G rfl (by rfl) rfl rfl rfl ?_
 (try simp only[Act.put,mA,mB,mC])
 intro J D;refine J6s (by rfl) rfl rfl D (by kernel_rfl) ?_
 (try simp only[Act.put,mA,mB,mC])
 refine Lv ?_;refine J2 ?_;go_upto_region 5 with fail;refine wp_region_lit ?_;refine Lv ?_;refine Lw ?_ (v:=.int .i64 (IntKind.wrap .i64 ((Y1*256:Nat):Int))) (hv:=by exact J4v (Y:=Y1) rfl rfl);refine Lv ?_;refine Lw ?_ (v:=.int .i64 ((u8 (X / 281474976710656)).toNat:Int)) (hv:=by have:=(u8 (X / 281474976710656)).toNat_lt;go_simp;(try simp only[IntKind.wrap_i64]);(try omega));refine Lw ?_ (v:=.int .i64 (IntKind.wrap .i64 ((Y2:Nat):Int))) (hv:=by exact J6i (Y:=Y1) (UInt8.toNat_lt _) κ.out rfl rfl rfl);refine Lv ?_;refine J2 ?_
 go_wp2_with fail
 rw[rounds_succ];go_upto_region 4 with fail;refine wp_region_lit ?_;refine J5j (j:=2) (c:=u8 (X / 1099511627776)) G rfl (by rfl) rfl rfl rfl ?_
 (try simp only[Act.put,mA,mB,mC])
 intro J D;refine J6s (by rfl) rfl rfl D (by kernel_rfl) ?_
 (try simp only[Act.put,mA,mB,mC])
 refine Lv ?_;refine J2 ?_;go_upto_region 5 with fail;refine wp_region_lit ?_;refine Lv ?_;refine Lw ?_ (v:=.int .i64 (IntKind.wrap .i64 ((Y2*256:Nat):Int))) (hv:=by exact J4v (Y:=Y2) rfl rfl);refine Lv ?_;refine Lw ?_ (v:=.int .i64 ((u8 (X / 1099511627776)).toNat:Int)) (hv:=by have:=(u8 (X / 1099511627776)).toNat_lt;go_simp;(try simp only[IntKind.wrap_i64]);(try omega));refine Lw ?_ (v:=.int .i64 (IntKind.wrap .i64 ((Y3:Nat):Int))) (hv:=by exact J6i (Y:=Y2) (UInt8.toNat_lt _) β.out rfl rfl rfl);refine Lv ?_;refine J2 ?_
 go_wp2_with fail
 rw[rounds_succ];go_upto_region 4 with fail;refine wp_region_lit ?_;refine J5j (j:=3) (c:=u8 (X / 4294967296)) G rfl (by rfl) rfl rfl rfl ?_
 (try simp only[Act.put,mA,mB,mC])
 intro J D;refine J6s (by rfl) rfl rfl D (by kernel_rfl) ?_
 (try simp only[Act.put,mA,mB,mC])
 refine Lv ?_;refine J2 ?_;go_upto_region 5 with fail;refine wp_region_lit ?_;refine Lv ?_;refine Lw ?_ (v:=.int .i64 (IntKind.wrap .i64 ((Y3*256:Nat):Int))) (hv:=by exact J4v (Y:=Y3) rfl rfl);refine Lv ?_;refine Lw ?_ (v:=.int .i64 ((u8 (X / 4294967296)).toNat:Int)) (hv:=by have:=(u8 (X / 4294967296)).toNat_lt;go_simp;(try simp only[IntKind.wrap_i64]);(try omega));refine Lw ?_ (v:=.int .i64 (IntKind.wrap .i64 ((Y4:Nat):Int))) (hv:=by exact J6i (Y:=Y3) (UInt8.toNat_lt _) ζ.out rfl rfl rfl);refine Lv ?_;refine J2 ?_
 go_wp2_with fail
 rw[rounds_succ];go_upto_region 4 with fail;refine wp_region_lit ?_;refine J5j (j:=4) (c:=u8 (X / 16777216)) G rfl (by rfl) rfl rfl rfl ?_
 (try simp only[Act.put,mA,mB,mC])
 intro J D;refine J6s (by rfl) rfl rfl D (by kernel_rfl) ?_
 (try simp only[Act.put,mA,mB,mC])
 refine Lv ?_;refine J2 ?_;go_upto_region 5 with fail;refine wp_region_lit ?_;refine Lv ?_;refine Lw ?_ (v:=.int .i64 (IntKind.wrap .i64 ((Y4*256:Nat):Int))) (hv:=by exact J4v (Y:=Y4) rfl rfl);refine Lv ?_;refine Lw ?_ (v:=.int .i64 ((u8 (X / 16777216)).toNat:Int)) (hv:=by have:=(u8 (X / 16777216)).toNat_lt;go_simp;(try simp only[IntKind.wrap_i64]);(try omega));refine Lw ?_ (v:=.int .i64 (IntKind.wrap .i64 ((Y5:Nat):Int))) (hv:=by exact J6i (Y:=Y4) (UInt8.toNat_lt _) μ.out rfl rfl rfl);refine Lv ?_;refine J2 ?_
 go_wp2_with fail
 rw[rounds_succ];go_upto_region 4 with fail;refine wp_region_lit ?_;refine J5j (j:=5) (c:=u8 (X / 65536)) G rfl (by rfl) rfl rfl rfl ?_
 (try simp only[Act.put,mA,mB,mC])
 intro J D;refine J6s (by rfl) rfl rfl D (by kernel_rfl) ?_
 (try simp only[Act.put,mA,mB,mC])
 refine Lv ?_;refine J2 ?_;go_upto_region 5 with fail;refine wp_region_lit ?_;refine Lv ?_;refine Lw ?_ (v:=.int .i64 (IntKind.wrap .i64 ((Y5*256:Nat):Int))) (hv:=by exact J4v (Y:=Y5) rfl rfl);refine Lv ?_;refine Lw ?_ (v:=.int .i64 ((u8 (X / 65536)).toNat:Int)) (hv:=by have:=(u8 (X / 65536)).toNat_lt;go_simp;(try simp only[IntKind.wrap_i64]);(try omega));refine Lw ?_ (v:=.int .i64 (IntKind.wrap .i64 ((Y6:Nat):Int))) (hv:=by exact J6i (Y:=Y5) (UInt8.toNat_lt _) γ.out rfl rfl rfl);refine Lv ?_;refine J2 ?_
 go_wp2_with fail
 rw[rounds_succ];go_upto_region 4 with fail;refine wp_region_lit ?_;refine J5j (j:=6) (c:=u8 (X / 256)) G rfl (by rfl) rfl rfl rfl ?_
 (try simp only[Act.put,mA,mB,mC])
 intro J D;refine J6s (by rfl) rfl rfl D (by kernel_rfl) ?_
 (try simp only[Act.put,mA,mB,mC])
 refine Lv ?_;refine J2 ?_;go_upto_region 5 with fail;refine wp_region_lit ?_;refine Lv ?_;refine Lw ?_ (v:=.int .i64 (IntKind.wrap .i64 ((Y6*256:Nat):Int))) (hv:=by exact J4v (Y:=Y6) rfl rfl);refine Lv ?_;refine Lw ?_ (v:=.int .i64 ((u8 (X / 256)).toNat:Int)) (hv:=by have:=(u8 (X / 256)).toNat_lt;go_simp;(try simp only[IntKind.wrap_i64]);(try omega));refine Lw ?_ (v:=.int .i64 (IntKind.wrap .i64 ((Y7:Nat):Int))) (hv:=by exact J6i (Y:=Y6) (UInt8.toNat_lt _) σ.out rfl rfl rfl);refine Lv ?_;refine J2 ?_
 go_wp2_with fail
 rw[rounds_succ];go_upto_region 4 with fail;refine wp_region_lit ?_;refine J5j (j:=7) (c:=u8 X) G rfl (by rfl) rfl rfl rfl ?_
 (try simp only[Act.put,mA,mB,mC])
 intro J D;refine J6s (by rfl) rfl rfl D (by kernel_rfl) ?_
 (try simp only[Act.put,mA,mB,mC])
 refine Lv ?_;refine J2 ?_;go_upto_region 5 with fail;refine wp_region_lit ?_;refine Lv ?_;refine Lw ?_ (v:=.int .i64 (IntKind.wrap .i64 ((Y7*256:Nat):Int))) (hv:=by exact J4v (Y:=Y7) rfl rfl);refine Lv ?_;refine Lw ?_ (v:=.int .i64 ((u8 X).toNat:Int)) (hv:=by have:=(u8 X).toNat_lt;go_simp;(try simp only[IntKind.wrap_i64]);(try omega));refine Lw ?_ (v:=.int .i64 (IntKind.wrap .i64 ((Y8:Nat):Int))) (hv:=by exact J6i (Y:=Y7) (UInt8.toNat_lt _) U.out rfl rfl rfl);refine Lv ?_;refine J2 ?_
 go_wp2_with fail
 rw[rounds_succ];go_wp2;exact bodyPost_ret (v:=.int .i64 (IntKind.wrap .i64 ((Y8:Nat):Int))) (by simp only[results,Tryz.results69];first|(go_simp;done)|(go_simp;rfl)) rfl ⟨by rw[U.out,σ.out,γ.out,μ.out,ζ.out,β.out,κ.out,V.out,Y7o X hX],_,⟨S,χ,ψ⟩,α,N⟩
end

section
set_option maxHeartbeats 4000000
attribute [local irreducible] wpList
theorem Y7q (p:Nat)(v:Value)(w:World)(hrd:Rdr w p v ([]) 0):
  Calls Tryz.prog 72 #[.pointer (some ⟨p,0,none⟩)] w fun e w' =>Ret (.int .i64 0) w w' e:=by
 have G:Off [] w w:=Off.refl _ _;obtain⟨D,J,K8⟩:=hrd
 go_enter Tryz.func72,Tryz.ntmps72
 go_upto_region 3 with fail;refine wp_region_lit ?_;(iterate 3 refine Lv ?_);refine Lg ?_ D (v:=.int .i64 0);refine Lw ?_ (v:=.bool true);refine Lw ?_ (v:=.bool true);(iterate 3 refine Lv ?_);refine Lg ?_ D (v:=v);refine J2b (l:=[]) J (by rfl) rfl rfl ?_
 (try simp only[Act.put,mA,mB,mC])
 (iterate 3 refine Lw ?_ (v:=.bool false));refine J2 ?_;go_upto_region 5 with fail;refine wp_region_lit ?_;(iterate 3 refine Lv ?_);refine Lg ?_ D (v:=.int .i64 0);refine Lw ?_ (v:=.int .i64 0);refine J2 ?_;go_wp2;exact bodyPost_ret (v:=.int .i64 0) (by simp only[results,Tryz.results72];first|(go_simp;done)|(go_simp;rfl)) rfl ⟨rfl,G.ext⟩
end

section
set_option maxHeartbeats 4000000
attribute [local irreducible] wpList
theorem Z7f (p:Nat)(v:Value)(c:UInt8)(r:List UInt8)(w:World)(hrd:Rdr w p v (c::r) 0):
  Calls Tryz.prog 72 #[.pointer (some ⟨p,0,none⟩)] w fun e w' =>Ret (.int .i64 4) w w' e:=by
 have G:Off [] w w:=Off.refl _ _;obtain⟨D,J,K8⟩:=hrd
 go_enter Tryz.func72,Tryz.ntmps72
 go_upto_region 3 with fail;refine wp_region_lit ?_;(iterate 3 refine Lv ?_);refine Lg ?_ D (v:=.int .i64 0);refine Lw ?_ (v:=.bool true);refine Lw ?_ (v:=.bool true);(iterate 3 refine Lv ?_);refine Lg ?_ D (v:=v);refine J2b (l:=(c::r)) J (by rfl) rfl rfl ?_
 (try simp only[Act.put,mA,mB,mC])
 (iterate 3 refine Lw ?_ (v:=.bool true));refine J2 ?_;go_wp2;exact bodyPost_ret (v:=.int .i64 4) (by simp only[results,Tryz.results72];first|(go_simp;done)|(go_simp;rfl)) rfl ⟨rfl,G.ext⟩
end

section
set_option maxHeartbeats 4000000
attribute [local irreducible] wpList
end

section
set_option maxHeartbeats 4000000
attribute [local irreducible] wpList
theorem K33 (a b:UInt8)(T r:List UInt8){m:Nat}(hm:T.length=m):List.drop 2 (List.take (2+m) (a::b::(T++r)))=T:=by
  rw[Nat.add_comm];show List.take m (T++r)=T;rw[List.take_append_of_le_length (by omega),List.take_of_length_le (by omega)]
end

section
set_option maxHeartbeats 4000000
attribute [local irreducible] wpList
theorem K34 (a b:UInt8)(T r:List UInt8){m:Nat}(hm:T.length=m):List.drop (2+m) (a::b::(T++r))=r:=by
  rw[Nat.add_comm];show List.drop m (T++r)=r;rw[List.drop_append,List.drop_eq_nil_of_le (by omega),hm];simp
end

section
set_option maxHeartbeats 4000000
attribute [local irreducible] wpList
theorem Z2f (m:Nat)(hm:m≤65535):bits .or .i64 (((u8 (m / 256)).toNat:Int)*256) ((u8 m).toNat:Int)=(m:Int):=by
  have h:=or8 (m / 256) (m % 256) (by omega);have e1:IntKind.wrap .i64 ((m / 256*256:Nat):Int)=((u8 (m / 256)).toNat:Int)*256:=by rw[IntKind.wrap_i64,J4f];omega
  have e2:IntKind.wrap .i64 ((m / 256*256+m % 256:Nat):Int)=(m:Int):=by rw[IntKind.wrap_i64];omega
  rw[e1,e2] at h;rw[J4f m];exact h
end

section
set_option maxHeartbeats 4000000
attribute [local irreducible] wpList
theorem Y22 (p m:Nat)(v:Value)(T r:List UInt8)(hm:T.length=m)(hm2:m≤65535)(most:Int)(hmost:(m:Int)≤most)(w:World)(hrd:Rdr w p v (u8 (m / 256)::u8 m::(T++r)) 0)(hl:(u8 (m / 256)::u8 m::(T++r)).length<140737488000000):
  Calls Tryz.prog 67 #[.pointer (some ⟨p,0,none⟩),.int .i64 most] w fun e w' => ∃u,e=.returned u∧Own w' u T∧Fr u.ownBlock w.heap.size []∧∃v',RdTo w p v (u8 (m / 256)::u8 m::(T++r)) r 0 v' w' :=by
 obtain⟨J,cb,rfl,X⟩:=Q1d hrd.2.1 (by simp);have κ:=Z2f m hm2;have N:(u8 (m / 256)::u8 m::(T++r)).length=2+m+r.length:=by simp;omega
 have ω:(0:Int)≤(m:Int):=Int.natCast_nonneg _;have σ:(m:Int)≤65535:=by omega
 have G:Off [p] w w:=Off.refl _ _;obtain⟨D,M,K8⟩:=hrd;have μ:Fb p w.heap.size [p]:=fun _=>by simp
 go_enter Tryz.func67,Tryz.ntmps67
 go_upto_region 1 with fail;refine wp_region_lit ?_;refine Lv ?_;refine Lw ?_ (v:=.bool false);refine Lw ?_ (v:=.bool false);(iterate 3 refine Lv ?_);refine Lg ?_ D (v:=.int .i64 0);refine Lw ?_ (v:=.bool false);refine Lw ?_ (v:=.bool false);refine J2 ?_;go_upto_region 3 with fail;refine wp_region_lit ?_;(iterate 3 refine Lv ?_);refine Lg ?_ D (v:=.slice (some J) (u8 (m / 256)::u8 m::(T++r)).length cb);refine J2b (l:=(u8 (m / 256)::u8 m::(T++r))) M (by rfl) rfl rfl ?_
 (try simp only[Act.put,mA,mB,mC])
 refine Lw ?_ (v:=.bool false);refine J2 ?_;go_upto_region 6 with fail;refine J17 17 [] (by kernel_rfl) (fun x hx=>by cases hx) (by kernel_rfl) ?_;simp only[List.take_succ_cons,List.take_zero,List.take_nil]
 (try simp only[Act.put,mA,mB,mC])
 (iterate 3 refine Xv ?_);refine Xc ?_ (v:=.slice (some J) (u8 (m / 256)::u8 m::(T++r)).length cb) (V2 D)
 (refine J0d (v:=.pointer (some (J.add 0))) (by rfl) (fun W hW=>J4l (j:=0) (by omega) rfl rfl rfl) ?_)
 (try simp only[Act.put,mA,mB,mC])
 refine J8y (v:=.int .u8 ((u8 (m / 256)).toNat:Int)) (by rfl) rfl rfl (fun W hW=>J0q (X 0 (u8 (m / 256)) rfl) hW) (by kernel_rfl) ?_
 (try simp only[Act.put,mA,mB,mC])
 (refine J0d (v:=.int .i64 ((u8 (m / 256)).toNat:Int)) (by rfl) (fun W hW=>by have:=(u8 (m / 256)).toNat_lt;go_simp;(try simp only[IntKind.wrap_i64]);(try omega)) ?_)
 (try simp only[Act.put,mA,mB,mC])
 (refine J0d (v:=.int .i64 (((u8 (m / 256)).toNat:Int)*256)) (by rfl) (fun W hW=>by have:=(u8 (m / 256)).toNat_lt;go_simp;(try simp only[IntKind.wrap_i64]);(try omega)) ?_)
 (try simp only[Act.put,mA,mB,mC])
 (iterate 3 refine Xv ?_);refine Xc ?_ (v:=.slice (some J) (u8 (m / 256)::u8 m::(T++r)).length cb) (V2 D)
 (refine J0d (v:=.pointer (some (J.add 1))) (by rfl) (fun W hW=>J4l (j:=1) (by omega) rfl rfl rfl) ?_)
 (try simp only[Act.put,mA,mB,mC])
 refine J8y (v:=.int .u8 ((u8 m).toNat:Int)) (by rfl) rfl rfl (fun W hW=>J0q (X 1 (u8 m) rfl) hW) (by kernel_rfl) ?_
 (try simp only[Act.put,mA,mB,mC])
 (refine J0d (v:=.int .i64 ((u8 m).toNat:Int)) (by rfl) (fun W hW=>by have:=(u8 m).toNat_lt;go_simp;(try simp only[IntKind.wrap_i64]);(try omega)) ?_)
 (try simp only[Act.put,mA,mB,mC])
 (refine J0d (v:=.int .i64 (m:Int)) (by rfl) (fun W hW=>by have h8:=κ;go_simp) ?_)
 (try simp only[Act.put,mA,mB,mC])
 refine Xv ?_;refine K3 ?_;intro β W1 hE hN hD;clear hN hD;simp only[J05,Act.put,mA,mB,mC,List.drop_succ_cons,List.drop_zero,List.drop_nil,List.length_nil,Nat.add_zero];have hO:=J0b hE;replace D:=D.o hO;replace M:=Sl.off M hO f0;replace G:=G.o hO;clear hO hE β;refine LN ?_;go_upto_region 7 with fail;refine wp_region_lit ?_;refine Lv ?_;refine Lv ?_;refine Lw ?_ (v:=.bool false);refine Lw ?_ (v:=.bool false);refine J2 ?_;go_upto_region 10 with fail;refine wp_region_lit ?_;(iterate 3 refine Lv ?_);refine Lg ?_ D (v:=.slice (some J) (u8 (m / 256)::u8 m::(T++r)).length cb);refine J2b (l:=(u8 (m / 256)::u8 m::(T++r))) M (by rfl) rfl rfl ?_
 (try simp only[Act.put,mA,mB,mC])
 refine Lv ?_;refine Lw ?_ (v:=.int .i64 ((2+m:Nat):Int)) (hv:=by go_simp;(try simp only[IntKind.wrap_i64]);(try omega));refine Lw ?_ (v:=.bool false);refine Lw ?_ (v:=.bool false);refine J2 ?_;go_upto_region 13 with fail;refine wp_region_lit ?_;refine Lv ?_;refine Lv ?_;refine Lw ?_ (v:=.int .i64 ((2+m:Nat):Int)) (hv:=by go_simp;(try simp only[IntKind.wrap_i64]);(try omega));refine J3y (R:=fun u W=>Sl W u (List.take (2+m) (u8 (m / 256)::u8 m::(T++r)))∧Sub u (List.take (2+m) (u8 (m / 256)::u8 m::(T++r))) (sb (.slice (some J) (u8 (m / 256)::u8 m::(T++r)).length cb) (u8 (m / 256)::u8 m::(T++r)))∧(0<(2+m)→∃ad c,u=.slice (some ad) (2+m) c)∧∃v2,RdTo W1 p (.slice (some J) (u8 (m / 256)::u8 m::(T++r)).length cb) (u8 (m / 256)::u8 m::(T++r)) (List.drop (2+m) (u8 (m / 256)::u8 m::(T++r))) 0 v2 W) ((Q3g p (.slice (some J) (u8 (m / 256)::u8 m::(T++r)).length cb) (u8 (m / 256)::u8 m::(T++r)) W1 ⟨D,M,K8⟩ (2+m) (by rw[N];omega) (by first|omega|(rw[List.length_drop,List.length_take,N];omega))).mono fun _ _ h=>h) (by rfl) rfl (by kernel_rfl) rfl ?_
 (try simp only[Act.put,mA,mB,mC])
 rintro τ W2 ⟨hu,χ,ψ,ζ,S⟩
 (try simp only[Act.put,mA,mB,mC])
 have hO:=S.off;have kk:=S.rd.1;have γ:=S.rd.2.1;have Z:=S.sub;clear S;replace G:=G.p hO μ;replace D:=kk;clear kk hO;have θ:=hu;have V:=γ;clear hu γ;have δ:sb ζ (List.drop (2+m) (u8 (m / 256)::u8 m::(T++r)))≠some p:=J55 Z K8;refine Q4i (n:=2) θ (by rw[List.length_take,N];omega) (by rfl) rfl rfl rfl ?_
 (try simp only[Act.put,mA,mB,mC])
 intro φ η ρ;refine J3y (R:=fun v W=>NewB W2 (List.drop 2 (List.take (2+m) (u8 (m / 256)::u8 m::(T++r)))) v W) ((J5h η (by first|omega|(rw[List.length_drop,List.length_take,N];omega))).mono fun _ _ h=>h) (by rfl) rfl (by kernel_rfl) rfl ?_
 (try simp only[Act.put,mA,mB,mC])
 rintro U W3 Y;have hO:=Y.off;have ε:=Y.own;have α:Of (Value.ownBlock U) none W2.heap.size:=Y.fr;clear Y;have ξ:=J0m α (fun h=>by cases h) (Q2 D);have ν:Fr (Value.ownBlock U) w.heap.size [p]:=J0n α Q18 G.size;replace D:=D.o hO;replace V:=Sl.off V hO f0;replace G:=G.o hO;clear hO α;refine Lv ?_;refine J2 ?_;go_wp2;have e1:=K33 (u8 (m / 256)) (u8 m) T r hm;have e2:=K34 (u8 (m / 256)) (u8 m) T r hm;rw[e1] at ε;rw[e2] at V Z δ;exact bodyPost_ret (v:=U) (by simp only[results,Tryz.results67];go_simp) rfl ⟨_,rfl,ε,J7v ν ξ,_,⟨D,V,δ⟩,Z,G⟩
end

section
set_option maxHeartbeats 4000000
attribute [local irreducible] wpList
end

section
set_option maxHeartbeats 4000000
attribute [local irreducible] wpList
theorem V46 (u:Value)(l:List UInt8)(w:World)(hs:Sl w u l)(hl:l.length≤140737488355328):
  Calls Tryz.prog 40 #[u] w fun e w' => ∃p,e=.returned (.pointer (some ⟨p,0,none⟩))∧∃v,Rdr w' p v l 0∧Off [] w w' ∧Fb p w.heap.size []∧Fr v.ownBlock w.heap.size []:=by
 have D:Off [] w w:=Off.refl _ _;have Q3:=hs
 go_enter Tryz.func40,Tryz.ntmps40
 go_upto_region 1 with fail;refine wp_region_lit ?_;refine Lv ?_;refine J3y (R:=fun v W=>NewB w l v W) ((J5h Q3 (by first|omega|(simp only[List.length_append,List.length_cons,List.length_nil];omega))).mono fun _ _ h=>h) (by rfl) rfl (by kernel_rfl) rfl ?_
 (try simp only[Act.put,mA,mB,mC])
 rintro N W1 J;have hO:=J.off;have G:=J.own;have S:Of (Value.ownBlock N) none w.heap.size:=J.fr;clear J;have Y:Fr (Value.ownBlock N) w.heap.size []:=J0n S Q18 D.size;replace D:=D.o hO;clear hO S;obtain⟨A5,c5,Z,_⟩:=Own.len G;subst Z;refine Lw ?_ (v:=.agg #[.slice A5 l.length c5,.int .i64 0]) (hv:=by first|rfl|(go_simp;done)|(go_simp;rfl));refine Ln ?_ (z:= #[.slice A5 l.length c5,.int .i64 0]) (t:=154);intro U W2 M hO h_;have X:=J3c (Own.lt G) M;have V:=fbn D M;replace G:=Own.off G hO f0;replace D:=D.o hO;have T:=h_;clear hO h_ M;refine Lv ?_;refine J2 ?_;go_wp2;exact bodyPost_ret (v:=.pointer (some ⟨U,0,none⟩)) (by simp only[results,Tryz.results40];go_simp) rfl ⟨_,rfl,_,⟨T,Own.sl G,Y14 X⟩,D,V,Y⟩
end

section
set_option maxHeartbeats 4000000
attribute [local irreducible] wpList Z6
theorem V47:(bs8 (List.replicate 32 0)).toArray.size=32:=by rw[List.size_toArray,V7,List.length_replicate]
end

section
set_option maxHeartbeats 4000000
attribute [local irreducible] wpList Z6
theorem Q7x {S:List UInt8}{n:Nat}(h:S.length=n):(bs8 S).toArray.size=n:=by rw[List.size_toArray,V7,h]
end

section
set_option maxHeartbeats 4000000
attribute [local irreducible] wpList Z6
theorem Y7s (p:Nat)(v:Value)(S r:List UInt8)(hS:S.length=32)(w:World)(hrd:Rdr w p v (S++r) 0)(hl:(S++r).length<140737488000000):
  Calls Tryz.prog 68 #[.pointer (some ⟨p,0,none⟩)] w fun e w' =>e=.returned (.agg (bs8 S).toArray)∧∃v',RdTo w p v (S++r) r 0 v' w' :=by
 have η:List.take 32 (S++r)=S:=by rw[List.take_append_of_le_length (by omega),List.take_of_length_le (by omega)]
 have β:(List.take 32 (S++r)).length=32:=by rw[η,hS]
 have D:Off [p] w w:=Off.refl _ _;obtain⟨J,M,K8⟩:=hrd;have ξ:Fb p w.heap.size [p]:=fun _=>by simp
 go_enter Tryz.func68,Tryz.ntmps68
 go_upto_region 0 with fail;refine wp_region_lit ?_;refine Ln ?_ (z:=(bs8 (List.replicate 32 0)).toArray) (t:=22);intro Z8 W1 γ hO h_;have V:=bn J γ;have Z7:=J3c (Sl.lt M) γ;have ρ:=fbn D γ;replace J:=J.o hO;replace M:=Sl.off M hO f0;replace D:=D.o hO;have G:=h_;clear hO h_ γ;refine J2 ?_;go_upto_region 1 with fail;refine wp_region_lit ?_;refine Ln ?_ (z:=(bs8 (List.replicate 32 0)).toArray) (t:=22);intro δ W2 Y hO h_;have U:=bn J Y;have τ:=bn G Y;have κ:=J3c (Sl.lt M) Y;have σ:=fbn D Y;replace J:=J.o hO;replace G:=G.o hO;replace M:=Sl.off M hO f0;replace D:=D.o hO;have N:=h_;clear hO h_ Y;refine J2 ?_;go_upto_region 2 with fail;refine J3z (.q 0 (.q 1 (.e 2 (.e 3 .z)))) (fun W=>True) (by kernel_rfl) (by kernel_rfl) ?_;intro W3 hO;replace J:=J.o hO;replace G:=G.o hO;replace N:=N.o hO;replace M:=Sl.off M hO f0;replace D:=D.o hO;clear hO;refine⟨trivial,?_⟩
 (refine J3o (v:=?_) rfl (by rfl) (fun W hS=> ?_) ?_;rotate_left 1;(focus (go_simp;first|done|with_reducible rfl)))
 (try simp only[Act.put,mA,mB,mC])
 (refine J3o (v:=?_) rfl (by rfl) (fun W hS=> ?_) ?_;rotate_left 1;(focus (go_simp;first|done|with_reducible rfl)))
 (try simp only[Act.put,mA,mB,mC])
 refine J39 rfl ?_;refine J3y (R:=fun u W=>Sl W u (List.take 32 (S++r))∧Sub u (List.take 32 (S++r)) (sb v (S++r))∧(0<32→∃ad c,u=.slice (some ad) 32 c)∧∃v2,RdTo W3 p v (S++r) (List.drop 32 (S++r)) 0 v2 W) ((Q3g p v (S++r) W3 ⟨J,M,K8⟩ 32 (by rw[List.length_append,hS];omega) (by first|omega|(simp only[List.length_append,List.length_cons,List.length_nil];omega))).mono fun _ _ h=>h) (by rfl) rfl (by kernel_rfl) rfl ?_
 (try simp only[Act.put,mA,mB,mC])
 rintro φ W4 ⟨hu,χ,ψ,α,Z⟩
 (try simp only[Act.put,mA,mB,mC])
 have hO:=Z.off;have kk:=Z.rd.1;have ε:=Z.rd.2.1;have X:=Z.sub;clear Z;replace G:=G.p hO V.symm;replace N:=N.p hO U.symm;replace D:=D.p hO ξ;replace J:=kk;clear kk hO;have μ:=hu;have T:=ε;clear hu ε;have ζ:sb α (List.drop 32 (S++r))≠some p:=J55 X K8;have θ:sb α (List.drop 32 (S++r))≠some Z8:=J55 X Z7;have ν:sb α (List.drop 32 (S++r))≠some δ:=J55 X κ;refine J2e (fun W=>True) (fun W hS=>trivial) trivial ?_;refine J39 rfl ?_;refine Y18 (l:=List.take 32 (S++r)) μ N (by rw[β];rfl) (by rw[β]) (by rw[β];omega) (by rfl) rfl rfl rfl ?_
 (try simp only[Act.put,mA,mB,mC])
 intro W5 hO h_;rw[η] at h_;replace N:Blk W5 δ (bs8 S).toArray 22:=h_;clear h_;replace J:=J.p hO U;replace G:=G.p hO τ;replace T:=Sl.off T hO (f1 ν);replace D:=D.p hO σ;clear hO;refine J2e (fun W=>True) (fun W hS=>trivial) trivial ?_;refine Q6j ?_;go_upto_region 3 with fail;refine wp_region_lit ?_;refine L0 ?_ N (hi:=by rw[Q7x hS];kernel_rfl);refine Lp ?_ G (cells:=(bs8 S).toArray) (hi:=by rw[Q7x hS];kernel_rfl) (hs:=by rw[V47,Q7x hS]) (h1:=by exact all_oneCell_toArray (Q19 _));intro W6 hO h_;replace G:Blk W6 Z8 ((bs8 S).toArray) 22:=h_;clear h_;replace J:=J.p hO V;replace T:=Sl.off T hO (f1 θ);replace D:=D.p hO ρ;clear hO;refine J2 ?_;go_wp2;have hd:List.drop 32 (S++r)=r:=by rw[List.drop_append,List.drop_eq_nil_of_le (by omega),hS];simp
 rw[hd] at T X ζ;refine bodyPost_ret (Z0 rfl rfl G (by kernel_rfl) (by rw[Q7x hS];kernel_rfl)) rfl ⟨rfl,_,⟨J,T,ζ⟩,X,D⟩
end
end Go.Proofs.YtlkbneflnjmgbaaGreatDoor.K4

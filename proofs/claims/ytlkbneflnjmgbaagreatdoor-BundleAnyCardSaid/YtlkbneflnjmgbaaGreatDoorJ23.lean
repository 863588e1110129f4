/- Contracts and plain laws for bundleAny_holds. Conditions: the tables hold their numbers. -/
import Derived.Test.YtlkbneflnjmgbaaGreatDoorJ22
open Go.RowKit
set_option linter.unusedSimpArgs false
set_option linter.unusedVariables false
namespace Go.Proofs.YtlkbneflnjmgbaaGreatDoor
section
set_option maxHeartbeats 3000000
set_option maxRecDepth 100000
attribute [local irreducible] wpList Z6 wpX
def J01 (l:List UInt8):List UInt8:=l++List.replicate 32 0
def J3e (b:UInt8)(l:List UInt8):List UInt8:=(J01 l).map (· ^^^b)
def J2f (b:UInt8)(k:Nat):List UInt8:=J3e b (lb 32 k)
theorem Q41 {l:List UInt8}(h:l.length=32):(J01 l).length=64:=by unfold J01;simp[h]
theorem Z9p {b:UInt8}{l:List UInt8}(h:l.length=32):(J3e b l).length=64:=by unfold J3e;rw[List.length_map,Q41 h]
theorem J22 (b:UInt8)(k:Nat):(J2f b k).length=64:=Z9p (J6 _ _)
def xt (b:UInt8)(j:Nat)(L:List UInt8):List UInt8:=(L.take j).map (· ^^^b)++L.drop j
theorem Z1q (b:UInt8)(j:Nat)(L:List UInt8):(xt b j L).length=L.length:=by unfold xt;simp;omega
theorem K2o (b:UInt8)(L:List UInt8):xt b 0 L=L:=by unfold xt;simp
theorem V2l {b:UInt8}{j:Nat}{L:List UInt8}(h:L.length≤j):xt b j L=L.map (· ^^^b):=by unfold xt;rw[List.take_of_length_le h,List.drop_of_length_le h,List.append_nil]
theorem V7p {b c:UInt8}{j:Nat}{L:List UInt8}(h:L[j]?=some c):(xt b j L)[j]?=some c:=by
 have D:=(List.getElem?_eq_some_iff.1 h).1;unfold xt;rw[List.getElem?_append_right (by simp;omega),List.length_map,List.length_take,Nat.min_eq_left (by omega),Nat.sub_self,List.getElem?_drop];exact h
theorem Y6f {b c:UInt8}{j:Nat}{L:List UInt8}(h:L[j]?=some c):(xt b j L).set j (c^^^b)=xt b (j+1) L:=by
 have D:=(List.getElem?_eq_some_iff.1 h).1;unfold xt;rw[List.set_append_right _ _ (by simp;omega),List.length_map,List.length_take,Nat.min_eq_left (by omega),Nat.sub_self,List.drop_eq_getElem_cons D,List.set_cons_zero,List.take_succ_eq_append_getElem D,List.map_append,List.append_assoc];rw[(List.getElem?_eq_some_iff.1 h).2];rfl
theorem V7q (c d:UInt8):bits .xor .u8 (c.toNat:Int) (d.toNat:Int)=((c^^^d).toNat:Int):=(Z9q c.toNat_lt d.toNat_lt).trans (by rw[UInt8.toNat_xor])
def hm (k:Nat)(F:List UInt8):Nat:=hs4 (J2f 92 k++lb 32 (hs4 (J2f 54 k++F)))
theorem V7r (k:Nat)(F:List UInt8):hm k F<2^256:=V2k _
def opn (bk i:Nat)(v:Int):Nat:=hm bk ([111,112,101,110]++lb 32 i++eI v)
def bnd (o i:Nat)(v:Int)(x:List UInt8):Nat:=hm o (lb 32 i++eI v++x)
def lk0 (id:List UInt8):Nat:=hs4 ([4]++id)
def lkT (id:List UInt8)(e:Int)(r a:Nat):List UInt8:=[3]++([u8 (id.length / 256),u8 id.length]++id)++eI e++lb 32 r++lb 32 a
def lkn (id:List UInt8)(e:Int)(r a:Nat):Nat:=hs4 (lkT id e r a)
theorem J4k (id:List UInt8)(e:Int)(r a:Nat):(lkT id e r a).length=id.length+75:=by unfold lkT;simp[K5,J6]
def nz (X j:Nat):List UInt8:=(be8 X).take j++List.replicate (8-j) 0
theorem Z9r (X:Nat){j:Nat}(h:j≤8):(nz X j).length=8:=by unfold nz;rw[List.length_append,List.length_take,show(be8 X).length=8 from rfl,List.length_replicate];omega
theorem Y6g (X:Nat){j:Nat}(h:j<8):(nz X j).set j (by8 X j)=nz X (j+1):=by
 have hl:((be8 X).take j).length=j:=by rw[List.length_take,show(be8 X).length=8 from rfl];omega
 unfold nz;rw[List.set_append_right _ _ (by omega),hl,Nat.sub_self,Q9l X h,show 8-j=8-(j+1)+1 by omega,List.replicate_succ,List.set_cons_zero,List.append_assoc];rfl
theorem K2p (X:Nat):nz X 8=be8 X:=by unfold nz;rw[List.take_of_length_le (by rw[show(be8 X).length=8 from rfl];exact Nat.le_refl _),Nat.sub_self,List.replicate_zero,List.append_nil]
theorem J0s (X:Nat):(be8 X).length=8:=rfl
theorem V7s (X:Nat):(be8 X).take 8=be8 X:=List.take_of_length_le (by rw[show(be8 X).length=8 from rfl];exact Nat.le_refl _)
theorem Y6h (p:Nat)(v:Value)(F:List UInt8){R:Nat}(hR:R=hs4 F)(hlen:F.length≤70368744177664)(w:World)(hkB:Blk w p (hcs v F) 239)(hrS:Sl w v (hr4 F))(hG:GS4 w):
  Calls Tryz.prog 97 #[.pointer (some ⟨p,0,none⟩)] w fun e w' =>Ret (.agg (J0 .u8 32 (J7 R))) w w' e:=by
 rw[hR,←Z9n];exact Z41 p v F hlen w hkB hrS hG
attribute [local irreducible] eI be8 hs4 lb J3e J2f J01 xt nz

theorem V7t {v:Value}{l:List UInt8}{b:UInt8}(hl:l.length=32)(w:World)(hs:Sl w v l):
  Calls Tryz.prog 112 #[v,.int .u8 (b.toNat:Int)] w fun e w' => ∃u,e=.returned u∧SH [] w w' [.o u (J3e b l)]:=by
 have D:=Q41 hl;have hS:=SH.nil [] w
 go_enter Tryz.func112,Tryz.ntmps112
 go_upto_region 1 with fail;refine RL hS ?_;clear hS;refine MK (n:=64) (by first|omega|(simp only[lA,lM,lT,lD,lC,lN,J6,K5,V0,V1];omega)) ?_;intro M;refine MV ?_;refine MZ fun W hS=> ?_;go_upto_region 2 with fail;refine RL hS ?_;clear hS;refine MV ?_;refine MV ?_;refine MCo 0 (m:=l) (l:=(List.replicate 64 0)) (fun W hS=>(J0i hs hS.ext)) (by rw[List.length_replicate];omega) (by omega) ?_;refine MT (fun W hS=>by rw[show l++List.drop l.length (List.replicate 64 0)=J01 l from(by unfold J01;rw[List.drop_replicate,hl])] at hS;exact hS) ?_;refine MZ fun W hS=> ?_;go_upto_region 3 with fail;refine RL hS ?_;clear hS;refine MV ?_;refine MF (v:=.int .i64 64) (fun W hS=>(by rw[show(64:Int)=((J01 l).length:Int) by rw[D];rfl];exact X5 (hS.osl (i:=0) rfl) rfl rfl)) ?_;refine W0 ?_;refine MZ fun W hS=> ?_
 go_wp2_with fail
 go_loopw [13] (fun jj wr=> ∃(j:Nat),(j≤64)∧(jj=.int .i64 (j:Int))∧SH [] w wr [.o M (xt b j (J01 l))])
  (fun jj _=>64-(intOf jj).toNat)
 case atStart=>exact⟨0,Nat.zero_le _,rfl,(by rw[K2o];exact hS)⟩
 clear hS
 case round=>
  obtain⟨j,hj,rfl,hS⟩:=hrel
  by_cases J:j<64
  ·
   obtain⟨c0,G⟩:∃c,(J01 l)[j]?=some c:=⟨_,List.getElem?_eq_getElem (by omega)⟩
   go_upto_region 4 with fail;refine RL hS ?_;clear hS;refine Wto ?_;refine MZ fun W hS=> ?_;go_upto_region 6 with fail;refine RL hS ?_;clear hS;refine MV ?_;refine MV ?_;refine MIo 0 j (l:=(xt b j (J01 l))) (by rw[Z1q];omega) ?_;intro S _ N;refine MF (v:=.int .u8 (c0.toNat:Int)) (fun W hS=>Z9 rfl rfl (Z9s (hS.own (i:=0) rfl) N.out (V7p G)) (by kernel_rfl)) ?_;refine MV ?_;refine MW ?_ (v:=.int .u8 ((c0^^^b).toNat:Int)) (hv:=by intro W;go_simp;rw[←UInt8.toNat_xor];exact V7q _ _);refine MIo 0 j (l:=(xt b j (J01 l))) (by rw[Z1q];omega) ?_;intro T _ R;refine MPo 0 (j:=j) (b:=(c0^^^b)) (l:=(xt b j (J01 l))) (by rw[Z1q];omega) R.out ?_;refine MT (fun W hS=>by rw[show(xt b j (J01 l)).set j (c0^^^b)=xt b (j+1) (J01 l) from Y6f G] at hS;exact hS) ?_;refine MZ fun W hS=> ?_;go_wp2;go_roundw
   case rel=>exact⟨j+1,by omega,by go_num,hS⟩
   case measure=>simp[intOf];omega
  obtain rfl:j=64:=by omega
  rw[V2l (Nat.le_of_eq D)] at hS;go_upto_region 4 with fail;refine RL hS ?_;clear hS;refine Wfo ?_;refine MZ fun W hS=> ?_;go_wp2;exact bodyPost_ret (v:=M) (by simp only[results,Tryz.results112];go_simp) rfl ⟨_,rfl,by rw[show J3e b l=(J01 l).map (· ^^^b) by unfold J3e;rfl];exact hS.pick [0]⟩
theorem Z9t {v:Value}{k:Nat}{b:UInt8}(w:World)(hs:Sl w v (lb 32 k)):Calls Tryz.prog 112 #[v,.int .u8 (b.toNat:Int)] w fun e w' => ∃u,e=.returned u∧SH [] w w' [.o u (J2f b k)]:=by
 unfold J2f;exact V7t (J6 _ _) w hs
theorem Q7c {q:Prop}{k R:Nat}{v:Value}(ps:List (List UInt8))(A:Option Addr)(c:Nat){F:List UInt8}(hF:ps.flatten=F)(hlen:F.length≤1099511627776)(hpn:ps.length≤9223372036854775000)(hR:R=hm k F)(w:World)(hps:∀i l,ps[i]?=some l→∃ad u,A=some ad∧w.cell? (ad.add i)=some u∧Sl w u l)(hv:Sl w v (lb 32 k))(hG:GT q w):
  Calls Tryz.prog 82 #[v,.slice A ps.length c] w fun e w' =>Ret (.agg (J0 .u8 32 (J7 R))) w w' e:=by
 have ζ:=Lib.hid hps;clear hps;have ε:(lb 32 k).length=32:=J6 _ _;have hS:=SH.nil [] w
 go_enter Tryz.func82,Tryz.ntmps82
 go_upto_region 0 with fail;refine RL hS ?_;clear hS;refine MN (z:=J0 .u8 32 (J7 0)) (t:=22) ?_;intro S;refine MZ fun W hS=> ?_;go_upto_region 1 with fail;refine RL hS ?_;clear hS;refine MV ?_;refine MF (v:=.int .i64 32) (fun W hS=>(by rw[show(32:Int)=((lb 32 k).length:Int) by rw[ε];rfl];exact X5 (J0i hv hS.ext) rfl rfl)) ?_;refine Wfo ?_;refine MZ fun W hS=> ?_;go_upto_region 4 with fail;refine RL hS ?_;clear hS;refine ME (fun W hS=>(Z9u W (J23 hG.1 hS.ext)).mono fun e W' ⟨p,h1,h2,h3,h4⟩=>⟨p,h1,(hS.new (x:=.b p _ _) h3 h4.1 (fun k hk=>by rw[List.mem_singleton.1 hk];exact h2) rfl rfl).onil rfl⟩) ?_;intro D;refine MT (H' :=[.o (.slice none 0 0) (hr4 []),.b D (hcs (.slice none 0 0) []) 239,.b S (J0 .u8 32 (J7 0)) 22]) (fun W hS=>hS) ?_;refine MV ?_;refine MZ fun W hS=> ?_;go_upto_region 5 with fail;refine RL hS ?_;clear hS;refine MV ?_;refine MV ?_;refine ME (V:=fun v=>v) (fun W hS=>J47 hS (Z9t (b:=54) W (J0i hv hS.ext)) (fun _=>⟨rfl,rfl⟩)) ?_;intro Z;refine MT (fun W hS=>hS.read (i:=0) rfl (hS.osl (i:=0) rfl) J1e) ?_;refine ME (V:=fun _=> .tuple #[]) (fun W hS=>J4o [3,2,1,0] [4] (hS.entp (Q21 (J23 hG.1 (J24 _)))) (fun hS=>Q42 D (.slice none 0 0) Z [] (J2f 54 k) (by first|omega|(simp only[lA,lM,lT,lD,lC,lN,J6,J22,K5,V0,V1];omega)) W hS) (fun _=>⟨.inr ⟨rfl,rfl⟩,.inr ⟨rfl,rfl⟩,.inl (by simp),.inl (by simp),trivial⟩)) ?_;intro Y;refine MD 2 ?_;refine MD 2 ?_;refine MT (fun W hS=>by rw[List.nil_append] at hS;exact hS) ?_;refine MZ fun W hS=> ?_;go_upto_region 6 with fail;refine RL hS ?_;clear hS;refine MV ?_;refine MV ?_;refine W0 ?_;refine MZ fun W hS=> ?_
 go_wp2_with fail
 go_loopw [24] (fun ii wr=> ∃(i:Nat)(bv:Value),(i≤ps.length)∧(ii=.int .i64 (i:Int))∧SH [] w wr [.b D (hcs bv (J2f 54 k++(List.take i ps).flatten)) 239,.o bv (hr4 (J2f 54 k++(List.take i ps).flatten)),.b S (J0 .u8 32 (J7 0)) 22])
  (fun ii _=>ps.length-(intOf ii).toNat)
 case atStart=>exact⟨0,Y,Nat.zero_le _,rfl,(by rw[List.take_zero,List.flatten_nil,List.append_nil];exact hS)⟩
 clear hS
 case round=>
  obtain⟨i,bv,hi,rfl,hS⟩:=hrel
  by_cases G:i<ps.length
  ·
   obtain⟨l_,J⟩:∃l,ps[i]?=some l:=⟨_,List.getElem?_eq_getElem G⟩
   obtain⟨γ,u_,α,η,δ⟩:=ζ.out i l_ J;have θ:(List.take i ps).flatten.length+l_.length≤F.length:=by rw[←hF,←List.length_append,←J5o J];exact Q43 _ _
   go_upto_region 7 with fail;refine RL hS ?_;clear hS;refine Wto ?_;refine MZ fun W hS=> ?_;go_upto_region 8 with fail;refine RL hS ?_;clear hS;refine MW ?_ (v:=.pointer (some (γ.add i))) (hv:=fun _=>Q7d (j:=i) G rfl (by rw[←α];rfl) rfl);refine MF (v:=u_) (fun W hS=>Z9 rfl rfl (J0q η hS.ext) (by kernel_rfl)) ?_;refine MV ?_;refine MZ fun W hS=> ?_;go_upto_region 9 with fail;refine RL hS ?_;clear hS;refine MV ?_;refine MV ?_;refine ME (V:=fun _=> .tuple #[]) (fun W hS=>J4o [2,3,1,0] [4] ((hS.ent δ).entp (Q21 (J23 hG.1 (J24 _)))) (fun hS=>Q42 D bv u_ (J2f 54 k++(List.take i ps).flatten) l_ (by first|omega|(simp only[lA,lM,lT,lD,lC,lN,J6,J22,K5,V0,V1];omega)) W hS) (fun _=>⟨.inr ⟨rfl,rfl⟩,.inr ⟨rfl,rfl⟩,.inl (by simp),.inl (by simp),trivial⟩)) ?_;intro X;refine MD 2 ?_;refine MD 2 ?_;refine MZ fun W hS=> ?_;go_wp2;go_roundw
   case rel=>exact⟨i+1,X,by omega,by go_num,(by rw[J5o J,←List.append_assoc];exact hS)⟩
   case measure=>simp[intOf];omega
  obtain rfl:i=ps.length:=by omega
  rw[List.take_length,hF] at hS;go_upto_region 7 with fail;refine RL hS ?_;clear hS;refine Wfo ?_;refine MZ fun W hS=> ?_;go_upto_region 11 with fail;refine RL hS ?_;clear hS;refine MV ?_;obtain⟨U1,T⟩:=exh (hs4 (J2f 54 k++F));refine MC (v:=.agg (J0 .u8 32 (J7 U1))) (fun W hS=>Y6h D bv (J2f 54 k++F) T.out (by first|omega|(simp only[lA,lM,lT,lD,lC,lN,J6,J22,K5,V0,V1];omega)) W (hS.blk (i:=0) rfl) (hS.osl (i:=1) rfl) (J23 hG.1 hS.ext)) ?_;refine MN (z:=J0 .u8 32 (J7 0)) (t:=22) ?_;intro M;refine MR 0 ?_;refine MZ fun W hS=> ?_;go_upto_region 12 with fail;refine RTp [0,1,2] (.q 0 (.q 2 (.e 1 (.e 3 (.e 4 (.e 5 .z)))))) hS ?_;clear hS;refine TV ?_;refine TW ?_ (v:=.slice (some ⟨M,0,none⟩) 32 32);refine TE (fun _ h=>h.pick [0,1,2]) ?_;refine ME (V:=fun v=>v) (fun W hS=>J47 hS (Z9t (b:=92) W (J0i hv hS.ext)) (fun _=>⟨rfl,rfl⟩)) ?_;intro N;refine TNp [0,1,2,3] [1,2,3] ?_;refine TE (fun _ h=>h.pick [0,1,2,3]) ?_;refine MB (z:= #[N,.slice (some ⟨M,0,none⟩) 32 32]) (t:=35) (n:=2) (c:=2) ?_ (hr:=fun W hS=>J0a [N,.slice (some ⟨M,0,none⟩) 32 32] rfl rfl (vsc (Q1 (hS.osl (i:=0) rfl)).1 (vsc (Q1 (V5 (V:=U1) (n:=32) (off:=0) (c:=32) (hS.blk (i:=1) rfl) ap0 (by decide) (by decide))).1 vs0)) Tryz.underlying187 (by kernel_rfl) (by kernel_rfl) rfl (by decide) (by decide));intro β;refine TNp [0,1,2,3,4] [1,2,3,4] ?_;refine TE (fun _ h=>h.pick [0,1,2,3,4]) ?_;obtain⟨U2,U⟩:=exh (hs4 ((J2f 92 k)++(lb 32 U1)));refine MC (v:=.agg (J0 .u8 32 (J7 U2))) (fun W hS=>J9l U.out [J2f 92 k,lb 32 U1] (some ⟨β,0,none⟩) 2 (by simp only[List.flatten_cons,List.flatten_nil,List.append_nil,List.nil_append,List.append_assoc,List.cons_append]) (by first|omega|(simp only[lA,lM,lT,lD,lC,lN,J6,J22,K5,V0,V1];omega)) (by simp) W (J1q (hS.blk (i:=0) rfl) (pvc (hS.osl (i:=1) rfl) (pvc (V5 (V:=U1) (n:=32) (off:=0) (c:=32) (hS.blk (i:=2) rfl) ap0 (by decide) (by decide)) pv0))) (J23 hG.1 hS.ext)) ?_;refine TNp [0,1,2,3,4] [0,1,2,3,4] ?_;refine TE (fun _ h=>h.pick [0,1,2,3,4]) ?_;refine MR 5 ?_;refine TNp [0,1,2,3,4] [0,1,2,3,4] ?_;refine TZ (fun _ h=>h.pick [0,1,2,3,4]) fun W hS=> ?_;rw[show U2=R by rw[hR];try rw[U.out];try rw[T.out];first|done|rfl] at hS;go_wp2;exact bodyPost_ret (Z0 rfl rfl (hS.blk (i:=5) rfl) (by kernel_rfl) (by rw[J1];kernel_rfl)) rfl ⟨rfl,hS.ext⟩
end

section
open S8 (vprv vsm kP lo)
def pfN (vk:Nat)(l:List UInt8):Nat:=(vprv vk l).1
def erN (vk:Nat)(l:List UInt8):Nat:=(vprv vk l).2
def ixN (vk:Nat)(l:List UInt8):Nat:=lo (vsm (pfN vk l)).1
namespace DD
def leaf (D:DD)(m:Md):Nat×Nat:=(ixN D.vk m.l,bnd (opn D.bk (ixN D.vk m.l) (m.ver:Int)) (ixN D.vk m.l) (m.ver:Int) m.x)
def lvs (D:DD)(e:Nat):List (Nat×Nat):=(D.upto e).map D.leaf
def tree (D:DD)(e:Nat):TR:=ofT (D.lvs e)
def link (D:DD):Nat→Nat
  |0=>lk0 D.id
  |e+1=>lkn D.id ((e+1:Nat):Int) (rs (D.tree (e+1))) (link D e)
theorem Y71 {D:DD}{e:Nat}(h:e<D.puts.length):D.nxt.lvs e=D.lvs e:=by unfold lvs;rw[upto_nxt_lt h];rfl
theorem tree_nxt {D:DD}{e:Nat}(h:e<D.puts.length):D.nxt.tree e=D.tree e:=by unfold tree;rw[Y71 h]
theorem link_nxt {D:DD}:∀{e:Nat},e<D.puts.length→D.nxt.link e=D.link e
  |0,_=>rfl
  |e+1,h=>by
    show lkn _ _ (rs (D.nxt.tree (e+1))) (D.nxt.link e)=_;rw[tree_nxt h,link_nxt (Nat.lt_of_succ_lt h)];rfl
theorem link_put (D:DD)(l x:List UInt8):∀e,(D.put l x).link e=D.link e
  |0=>rfl
  |e+1=>by
    show lkn _ _ _ ((D.put l x).link e)=_;rw[link_put D l x e];rfl
def trees (D:DD):List TR:=(List.range D.puts.length).map D.tree
def links (D:DD):List Nat:=(List.range D.puts.length).map D.link
theorem trees_len (D:DD):D.trees.length=D.puts.length:=by unfold trees;simp
theorem links_len (D:DD):D.links.length=D.puts.length:=by unfold links;simp
theorem trees_at {D:DD}{e:Nat}(h:e<D.puts.length):D.trees[e]?=some (D.tree e):=by unfold trees;rw[List.getElem?_map,List.getElem?_range h];rfl
theorem links_at {D:DD}{e:Nat}(h:e<D.puts.length):D.links[e]?=some (D.link e):=by unfold links;rw[List.getElem?_map,List.getElem?_range h];rfl
theorem nxt_len (D:DD):D.nxt.puts.length=D.puts.length+1:=by unfold nxt;simp
theorem trees_nxt (D:DD):D.nxt.trees=D.trees++[D.nxt.tree D.puts.length]:=by
  unfold trees;rw[nxt_len,List.range_succ,List.map_append]
  congr 1
  exact List.map_congr_left fun e he=>tree_nxt (List.mem_range.1 he)
theorem links_nxt (D:DD):D.nxt.links=D.links++[D.nxt.link D.puts.length]:=by
  unfold links;rw[nxt_len,List.range_succ,List.map_append]
  congr 1
  exact List.map_congr_left fun e he=>link_nxt (List.mem_range.1 he)
end DD
theorem V3b (vk:Nat)(l:List UInt8):ixN vk l<2^256:=S8.lo_lt _
end

section
def mlk:List (List UInt8×Nat)→List UInt8→Option Nat
  |[],_=>none
  |x::m,k=>if x.1=k then some x.2 else mlk m k
def mpt (o:Option Nat):Value:=match o with
  |none=> .pointer none
  |some b=> .pointer (some ⟨b,0,none⟩)
def Q44 (h:Nat)(m:List (List UInt8×Nat))(W:World):Prop:=∃es clock,W.heap[h]?=some (.map es clock)∧es.toList.map (fun e=>(e.key,e.val))=m.map fun x=>(str x.1,mpt (some x.2))
abbrev J3b (h:Nat)(m:List (List UInt8×Nat)):As:=.m none [h] (Q44 h m)
theorem Z43 {W:World}{h:Nat}{m:List (List UInt8×Nat)}(hm:Q44 h m W):h<W.heap.size:=by
  obtain⟨es,c,h1,_⟩:=hm;exact(Array.getElem?_eq_some_iff.1 h1).1
theorem Q48 {W:World}{h:Nat}{m:List (List UInt8×Nat)}(hm:Q44 h m W):(J3b h m).holds W:=by
  refine⟨hm,fun k hk=>by rw[List.mem_singleton.1 hk];exact Z43 hm,fun k hk=> ?_,fun W' hs he=> ?_⟩
  · obtain⟨es,c,h1,_⟩:=hm;rw[List.mem_singleton.1 hk];unfold J9w;rw[h1]
  obtain⟨es,c,h1,h2⟩:=hm;exact⟨es,c,by rw[he h (by simp)];exact h1,h2⟩
theorem Y0e {k:List UInt8}:∀(l:List MapEntry) (m:List (List UInt8×Nat)) (i:Nat),l.map (fun e=>(e.key,e.val))=m.map (fun x=>(str x.1,mpt (some x.2)))→
    (mlk m k=none∧Instr.findNow .string (str k) l i=some none)∨∃b j e,mlk m k=some b∧Instr.findNow .string (str k) l i=some (some (i+j,mpt (some b)))∧l[j]?=some e∧e.key=str k∧e.val=mpt (some b)
  |[],[],_,_=> .inl ⟨rfl,rfl⟩
  |[],_::_,_,h=>by cases h
  |_::_,[],_,h=>by cases h
  |e::l,x::m,i,h=>by
    rw[List.map_cons,List.map_cons] at h;injection h with h1 h2
    injection h1 with hk hv
    have hn:Instr.sameNow .string (str k) e.key=some (decide (k=x.1)):=by
      rw[hk];unfold str;show some (_==_)=_
      congr 1
      rw[Bool.eq_iff_iff,MapKept.bytes_beq,decide_eq_true_iff];exact⟨fun h=>by injection h with h;injection h,fun h=>by rw[h]⟩
    by_cases hx:x.1=k
    · refine .inr ⟨x.2,0,e,by unfold mlk;rw[if_pos hx],?_,rfl,by rw[hk,hx],hv⟩
      unfold Instr.findNow;rw[hn,decide_eq_true hx.symm,hv];rfl
    have hf:Instr.findNow .string (str k) (e::l) i=Instr.findNow .string (str k) l (i+1):=by
      conv=>lhs;unfold Instr.findNow
      rw[hn,decide_eq_false (fun h=>hx h.symm)]
    have hm:mlk (x::m) k=mlk m k:=by
     conv=>lhs;unfold mlk
     rw[if_neg hx]
    rw[hf,hm];rcases Y0e l m (i+1) h2 with⟨h3,h4⟩|⟨b,j,e',h3,h4,h5,h6,h7⟩
    · exact .inl ⟨h3,h4⟩
    exact .inr ⟨b,j+1,e',h3,by rw[h4];congr 3;omega,by simpa using h5,h6,h7⟩
section
variable {P : Program} {W : World} {h : Nat} {m : List (List UInt8 × Nat)} {tm kt et : TypeId} {a : Act} {o : Oper} {k : List UInt8}
theorem J6f {x y:Operand}(hm:Q44 h m W)(ht:P.underlying tm=some (.map kt et))(hk:P.underlying kt=some .string)(hz:(P.info? et).map (·.zero)=some (some (.pointer none)))(ho:o.op=.lookup tm x y false)(hx:a.eval x=.map (some h))(hy:a.eval y=str k):
    (execOp a.eval o).run P W=.ok (.value (mpt (mlk m k))) W:=by
  obtain⟨es,c,h1,h2⟩:=hm;have D:∀e,(Instr.checkKey e 10000 kt (str k)).run P W=.ok () W:=fun e=>MapKept.run_checkKey (k:=str k) hk (by simp[MapKept.IsKey,str]) e 9999
  have G:(zeroValue et).run P W=.ok (.pointer none) W:=by
    cases hq:P.info? et with
    |none=>simp[hq] at hz
    |some i=>
      have hz' :i.zero=some (.pointer none):=by simpa[hq] using hz
      simp[zeroValue,typeInfo,hq,hz',Sem.run_bind]
  have hr:(Instr.lookup tm (.map (some h)) (str k) false).run P W=.ok (mpt (mlk m k)) W:=by
    rcases Y0e (k:=k) es.toList m 0 h2 with⟨h3,h4⟩|⟨b,j,e',h3,h4,h5,h6,h7⟩
    · rw[h3];simp[Instr.lookup,run_underlying ht,MapKept.run_getObj_map h1,D,MapKept.run_findKey hk h4,G,Result.andThen,mpt]
    rw[h3];simp[Instr.lookup,run_underlying ht,MapKept.run_getObj_map h1,D,MapKept.run_findKey hk h4,Result.andThen,mpt]
  simp[execOp,ho,hx,hy,hr,Sem.run_bind]
theorem Q45 {x:Operand}{ty:TypeId}(hm:Q44 h m W)(ht:P.underlying tm=some (.map kt et))(hty:o.type=ty)(ho:o.op=.call {callee:=.builtin .len,args:= #[x],argTypes:= #[tm]})(hx:a.eval x=.map (some h)):
    (execOp a.eval o).run P W=.ok (.value (.int .i64 (m.length:Int))) W:=by
  obtain⟨es,c,h1,h2⟩:=hm;have hl:es.size=m.length:=by have:=congrArg List.length h2;rw[List.length_map,List.length_map,Array.length_toList] at this;exact this
  unfold execOp;simp[ho,resolve,invoke,builtin,Sem.run_bind,hx,Builtin.len_,run_underlying ht,MapKept.run_getObj_map h1,goInt,Result.andThen,hl]
end
def mst (m:List (List UInt8×Nat))(k:List UInt8)(b:Nat):List (List UInt8×Nat):=match mlk m k with
  |none=>m++[(k,b)]
  |some _=>m
section
variable {P : Program} {ops : Array Oper} {Q : Exit → Act → World → Prop} {w : World} {r : List Oper} {o : Oper} {a a' : Act} {F : List Nat} {H H' : List As} {h : Nat} {m : List (List UInt8 × Nat)} {tm kt et : TypeId} {k : List UInt8} {b : Nat}
theorem Y6z {W:World}(hm:Q44 h m W)(ht:P.underlying tm=some (.map kt et))(hk:P.underlying kt=some .string)(hb:mlk m k=none∨mlk m k=some b):
    ∃W',(Instr.mapUpdate tm (.map (some h)) (str k) (mpt (some b))).run P W=.ok () W' ∧Off [h] W W' ∧Q44 h (mst m k b) W' :=by
  obtain⟨es,c,h1,h2⟩:=hm;have J:(Instr.checkKey false 10000 kt (str k)).run P W=.ok () W:=MapKept.run_checkKey (k:=str k) hk (by simp[MapKept.IsKey,str]) false 9999
  have D:∀ob:Obj,Off [h] W {W with heap:=W.heap.setIfInBounds h ob}:=fun ob=>⟨rfl,rfl,rfl,by simp,fun k _ hk=>by
    show(W.heap.setIfInBounds h ob)[k]?=_
    rw[Array.getElem?_setIfInBounds_ne (fun e=>hk (by rw[e];simp))]⟩
  have G:∀ob:Obj,(W.heap.setIfInBounds h ob)[h]?=some ob:=fun ob=>(MapKept.heap_set h1).1;rcases Y0e (k:=k) es.toList m 0 h2 with⟨h3,h4⟩|⟨b',j,e',h3,h4,h5,h6,h7⟩
  · refine⟨{W with heap:=W.heap.setIfInBounds h (.map (es.push {key:=str k,val:=mpt (some b),born:=c}) (c+1))},?_,D _,?_⟩
    · have h5:=MapKept.run_findKey (w:=W) hk h4
      simp[Instr.mapUpdate,run_underlying ht,MapKept.run_getObj_map h1,J,h5,MapKept.run_setObj_map _ h1,Result.andThen]
    refine⟨_,_,G _,?_⟩;unfold mst;rw[h3,Array.toList_push,List.map_append,List.map_append,h2];rfl
  rw[Nat.zero_add] at h4;have M:b' =b:=by rcases hb with hb|hb<;>rw[h3] at hb<;>cases hb;rfl
  subst M;have h8:es[j]?=some e' :=by rw[←Array.getElem?_toList];exact h5
  have hs:Instr.sameBits 10000 (str k) (str k)=true:=by unfold str Instr.sameBits;exact(MapKept.bytes_beq _ _).2 rfl
  have N:(Instr.keyThatStays (((es[j]?).map (·.key)).getD (str k)) (str k)).run P W=.ok (str k) W:=by
    rw[h8];show(Instr.keyThatStays e'.key (str k)).run P W=_
    rw[h6];unfold Instr.keyThatStays;rw[if_pos hs];rfl
  refine⟨{W with heap:=W.heap.setIfInBounds h (.map (es.modify j fun e=>{e with key:=str k,val:=mpt (some b')}) c)},?_,D _,?_⟩
  · have h9:=MapKept.run_findKey (w:=W) hk h4
    simp[Instr.mapUpdate,run_underlying ht,MapKept.run_getObj_map h1,J,h9,N,MapKept.run_setObj_map _ h1,Result.andThen]
  refine⟨_,_,G _,?_⟩;unfold mst;rw[h3,←h2];apply List.ext_getElem?;intro i;rw[List.getElem?_map,List.getElem?_map,Array.getElem?_toList,Array.getElem?_toList,Array.getElem?_modify]
  split
  · subst_vars;rw[h8,←h6,←h7];rfl
  rfl
theorem MMU (i:Nat){x y z:Operand}(hb:mlk m k=none∨mlk m k=some b)(ht:P.underlying tm=some (.map kt et))(hk:P.underlying kt=some .string)(hh:wpM P ops (.L Q) F w H' r a')(hi:H[i]?=some (J3b h m):=by exact rfl)(hw:Region.wanted o (yielded ops a.tmps)=true:=by exact rfl)
    (ho:o.op=.mapUpdate tm x y z:=by exact rfl) (hx:a.eval x=.map (some h):=by exact rfl) (hy:a.eval y=str k:=by exact rfl) (hz:a.eval z=mpt (some b):=by exact rfl)
    (hH:H.set i (J3b h (mst m k b))=H' :=by dsimp only[sB,sC];first|done|exact rfl) (hp:a.put o.dst undef=a' :=by first|exact pl (by dsimp only[mB,mC];first|done|exact rfl)|exact pn|exact rfl):wpM P ops (.L Q) F w H (o::r) a:=by
  subst hp hH;intro W hS;obtain⟨W',h1,h2,h3⟩:=Y6z (k:=k) (b:=b) (hS.at_ hi).1 ht hk hb;have hr:(execOp a.eval o).run P W=.ok .skip W' :=by simp[execOp,ho,hx,hy,hz,h1,Sem.run_bind]
  show wpList P ops Q (o::r) a W;unfold wpList;rw[if_pos hw];refine .inl ?_;unfold Oper.wp;rw[hr];exact hh W' (hS.set hi rfl h2 (fun k hk _=>hk) (Q48 h3) (fun k hk _=>hk) (.inr rfl) (fun _ _ e=>by cases e))
theorem MMN {t:TypeId}{a' :Nat→Act}(hh:∀b,wpM P ops (.L Q) F w (J3b b []::H) r (a' b))(ht:H.all (SH.tyOk (J3b 0 []))=true:=by exact rfl)(hw:Region.wanted o (yielded ops a.tmps)=true:=by exact rfl)(ho:o.op=.makeMap t none:=by exact rfl)
    (hp:∀b,a.put o.dst (.map (some b))=a' b:=by intro b;first|exact pl (by dsimp only[mB,mC];first|done|exact rfl)|exact pn|exact rfl):wpM P ops (.L Q) F w H (o::r) a:=by
  intro W hS;refine J5i hw (v:=.map (some W.heap.size)) (W:=W.alloc (.map #[] 0)) (by simp[execOp,ho,Instr.makeMap,Sem.run_bind]) ?_;rw[hp];have hK:Q44 W.heap.size [] (W.alloc (.map #[] 0)):=⟨#[],0,(MapKept.heap_alloc W _).1,rfl⟩
  exact hh _ _ (hS.new (x:=J3b W.heap.size []) (Q24 _ _) (Q48 hK) (fun k hk=>by rw[List.mem_singleton.1 hk];exact Nat.le_refl _) rfl ht)
end
end

section
theorem Z44 {P:Program}{ops:Array Oper}{K:Act→World→Prop}{F:List Nat}{w:World}{G H:List As}{t:Tr}{a:Act}{p:Prop}(hp:∀W,SH F w W H→p)(h:p→wpP P ops K F w G H t a):wpP P ops K F w G H t a:=⟨fun W hS=>(h (hp W hS)).1 W hS,fun W hS=>(h (hp W hS)).2 W hS⟩
structure En where
  ep:Nat
  ver:Nat
  u:Value
  x:List UInt8
structure Ac where
  b:Nat
  l:List UInt8
  ix:Nat
  pf:Nat
  mv:Value
  es:List En
structure Pv where
  lu:Value
  xu:Value
  l:List UInt8
  x:List UInt8
def enC (e:En):List Value:=fcs [.c (.int .i64 (e.ep:Int)),.c (.int .i64 (e.ver:Int)),.c e.u]
abbrev acF (a:Ac):Array Value:=Q6 [.a 32 a.ix,.a 80 a.pf,.c a.mv]
abbrev pvF (p:Pv):Array Value:=Q6 [.c p.lu,.c p.xu]
def pvC (p:Pv):List Value:=fcs [.c p.lu,.c p.xu]
theorem Y6y {ps:List Pv}:∀e∈ps.map pvC,e.length=2:=fun e he=>by obtain⟨y,_,rfl⟩:=List.mem_map.1 he;rfl
theorem V84 {p:Pv}:∀(i:Nat) (v:Value),(pvF p)[i]?=some v→(pvC p)[i]?=some v:=fun i v h=>by unfold pvC;rw[←Q95,Array.getElem?_toList];exact h
theorem Z22 {w W:World}{v:Value}{l:List UInt8}(h:Own w v l)(e:∀b,v.ownBlock=some b→W.heap[b]?=w.heap[b]?):Own W v l:=by
  obtain⟨h1,h2⟩:=h;refine⟨h1,h2.imp id ?_⟩;rintro⟨g,D,G,rfl,hb,hh,r⟩;exact⟨g,D,G,rfl,hb,by rw[e g rfl];exact hh,r⟩
theorem Y0b {t:TypeId}{k:Nat}{w W:World}{v:Value}{es:List (List Value)}(h:Row t k w v es)(e:∀b,v.ownBlock=some b→W.heap[b]?=w.heap[b]?):Row t k W v es:=by
  refine⟨⟨h.1.1,h.1.2.imp id ?_⟩,h.2⟩;rintro⟨g,D,G,rfl,hb,hh,r⟩;exact⟨g,D,G,rfl,hb,by rw[e g rfl];exact hh,r⟩
theorem Y0c {w W:World}{b:Nat}{c:Array Value}{t:TypeId}(h:Blk w b c t)(e:W.heap[b]?=w.heap[b]?):Blk W b c t:=e.trans h
def acK (acs:List Ac)(W:World):Prop:=(∀a∈acs,Blk W a.b (acF a) 127)∧(acs.map (·.b)).Nodup
abbrev acT (acs:List Ac):As:=.m (some 127) (acs.map (·.b)) (acK acs)
theorem J9m {acs:List Ac}{w:World}(h:acK acs w):(acT acs).holds w:=by
  refine⟨h,fun k hk=> ?_,fun k hk=> ?_,fun W' _ e=>⟨fun a ha=>Y0c (h.1 a ha) (e a.b (List.mem_map.2 ⟨a,ha,rfl⟩)),h.2⟩⟩
  · obtain⟨a,ha,rfl⟩:=List.mem_map.1 hk;exact Q2 (h.1 a ha)
  obtain⟨a,ha,rfl⟩:=List.mem_map.1 hk;exact As.tyOf (x:=.b a.b (acF a) 127) (h.1 a ha) rfl a.b (by simp[As.foot])
def K2x (acs:List Ac):List Nat:=acs.flatMap fun a=>a.mv.ownBlock.toList
def enK (acs:List Ac)(W:World):Prop:=(∀a∈acs,Row 130 3 W a.mv (a.es.map enC))∧acs.Pairwise fun a b=> ∀k∈a.mv.ownBlock.toList,k∉b.mv.ownBlock.toList
abbrev enT (acs:List Ac):As:=.m (some 130) (K2x acs) (enK acs)
theorem J9n {acs:List Ac}{w:World}(h:enK acs w):(enT acs).holds w:=by
  refine⟨h,fun k hk=> ?_,fun k hk=> ?_,fun W' _ e=>⟨fun a ha=>Y0b (h.1 a ha) fun b hb=>e b (List.mem_flatMap.2 ⟨a,ha,by rw[hb];simp⟩),h.2⟩⟩
  · obtain⟨a,ha,h1⟩:=List.mem_flatMap.1 hk;exact As.lt (x:=.r 130 3 a.mv (a.es.map enC)) (h.1 a ha) k h1
  obtain⟨a,ha,h1⟩:=List.mem_flatMap.1 hk;exact As.tyOf (x:=.r 130 3 a.mv (a.es.map enC)) (h.1 a ha) rfl k h1
def J3v (bs:List (Value×List UInt8)):List Nat:=bs.flatMap fun b=>(sb b.1 b.2).toList
def byK (bs:List (Value×List UInt8))(W:World):Prop:=∀b∈bs,Sl W b.1 b.2
abbrev byT (bs:List (Value×List UInt8)):As:=.p (J3v bs) (byK bs)
theorem Q62 {bs:List (Value×List UInt8)}{w:World}(h:byK bs w):(byT bs).holds w:=by
  refine⟨h,fun k hk=> ?_,fun W' _ e b hb=>Q14 (h b hb) fun k hk=>e k (List.mem_flatMap.2 ⟨b,hb,by rw[hk];simp⟩)⟩;obtain⟨b,hb,h1⟩:=List.mem_flatMap.1 hk;exact Sl.lt (h b hb) k (As.mem_toList h1)
def J45 (rs:List (Value×List Pv)):List Nat:=rs.flatMap fun r=>fbR r.1 (r.2.map pvC)
def rwK (rs:List (Value×List Pv))(W:World):Prop:=∀r∈rs,RR 2 W r.1 (r.2.map pvC)
abbrev rwT (rs:List (Value×List Pv)):As:=.p (J45 rs) (rwK rs)
theorem Q63 {rs:List (Value×List Pv)}{w:World}(h:rwK rs w):(rwT rs).holds w:=by
  have h1:∀r∈rs,(As.p (fbR r.1 (r.2.map pvC)) fun W=>RR 2 W r.1 (r.2.map pvC)).holds w:=fun r hr=>RR.pholds (by decide) Y6y (h r hr);refine⟨h,fun k hk=> ?_,fun W' hs e r hr=>(h1 r hr).2.2 W' hs fun k hk=>e k (List.mem_flatMap.2 ⟨r,hr,hk⟩)⟩;obtain⟨r,hr,h2⟩:=List.mem_flatMap.1 hk;exact(h1 r hr).2.1 k h2
def taK (ts:List TR)(us:List Value)(W:World):Prop:=ts.length=us.length∧∀(i:Nat) (T:TR) (u:Value),ts[i]?=some T→us[i]?=some u→TA W T u
abbrev taT (ts:List TR)(us:List Value):As:=.t 160 (taK ts us)
theorem Q64 {ts:List TR}{us:List Value}{w:World}(h:taK ts us w):(taT ts us).holds w:=
  ⟨h,fun W' hs e=>⟨h.1,fun i T u h1 h2=>(h.2 i T u h1 h2).keep e⟩⟩
def V7h (bs:List (Value×List UInt8)):List Nat:=bs.flatMap fun b=>b.1.ownBlock.toList
def obK (bs:List (Value×List UInt8))(W:World):Prop:=(∀b∈bs,Own W b.1 b.2)∧bs.Pairwise fun a b=> ∀k∈a.1.ownBlock.toList,k∉b.1.ownBlock.toList
abbrev obT (bs:List (Value×List UInt8)):As:=.m (some 5) (V7h bs) (obK bs)
theorem Q67 {bs:List (Value×List UInt8)}{w:World}(h:obK bs w):(obT bs).holds w:=by
  refine⟨h,fun k hk=> ?_,fun k hk=> ?_,fun W' _ e=>⟨fun b hb=>Z22 (h.1 b hb) fun k hk=>e k (List.mem_flatMap.2 ⟨b,hb,by rw[hk];simp⟩),h.2⟩⟩
  · obtain⟨b,hb,h1⟩:=List.mem_flatMap.1 hk;exact As.lt (x:=.o b.1 b.2) (h.1 b hb) k h1
  obtain⟨b,hb,h1⟩:=List.mem_flatMap.1 hk;exact As.tyOf (x:=.o b.1 b.2) (h.1 b hb) rfl k h1
theorem SH.obnil {F:List Nat}{w W:World}{H:List As}(h:SH F w W H)(ht:H.all (fun y=>SH.tyOk (obT []) y)=true):SH F w W (obT []::H):=h.mnil (some 5) (Q67 (bs:=[]) ⟨fun y hy=>(by cases hy),.nil⟩) ht
theorem SH.obadd {F:List Nat}{w W:World}{H:List As}{bs:List (Value×List UInt8)}{v:Value}{l:List UInt8}(h:SH F w W (.o v l::obT bs::H)):SH F w W (obT (bs++[(v,l)])::H):=by
  have h1:=h.own (i:=0) rfl;have h2:obK bs W:=(h.at_ (i:=1) rfl).1;have ha:=(h.ap2 (i:=0) (j:=1) rfl rfl (by decide)).1 rfl
  have hk:obK (bs++[(v,l)]) W:=by
    refine⟨fun z hz=> ?_,List.pairwise_append.2 ⟨h2.2,List.pairwise_singleton ..,fun a J b hb k G D=> ?_⟩⟩
    · rcases List.mem_append.1 hz with hz|hz
      · exact h2.1 z hz
      rw[List.mem_singleton.1 hz];exact h1
    rw[List.mem_singleton.1 hb] at D;exact ha k D (List.mem_flatMap.2 ⟨a,J,G⟩)
  refine h.merge rfl rfl rfl (Q67 hk) fun k M=> ?_;obtain⟨z,hz,h3⟩:=List.mem_flatMap.1 M;rcases List.mem_append.1 hz with hz|hz
  · exact .inr (List.mem_flatMap.2 ⟨z,hz,h3⟩)
  rw[List.mem_singleton.1 hz] at h3;exact .inl h3
theorem SH.byadd {F:List Nat}{w W:World}{H:List As}{bs:List (Value×List UInt8)}{v u:Value}{l x:List UInt8}(h:SH F w W (.o v l:: .o u x::byT bs::H)):SH F w W (byT (bs++[(v,l),(u,x)])::H):=by
  have h1:=(h.own (i:=0) rfl).sl;have h2:=(h.own (i:=1) rfl).sl;have h3:byK bs W:=(h.at_ (i:=2) rfl).1;refine SH.foldF (N:=[.o v l,.o u x,byT bs]) h (Q62 fun z hz=> ?_) fun k hk=> ?_
  · rcases List.mem_append.1 hz with hz|hz
    · exact h3 z hz
    rcases List.mem_cons.1 hz with rfl|hz
    · exact h1
    rw[List.mem_singleton.1 hz];exact h2
  obtain⟨z,hz,h4⟩:=List.mem_flatMap.1 hk;rcases List.mem_append.1 hz with hz|hz
  · exact⟨byT bs,by simp,fun T K e=>(by cases e),List.mem_flatMap.2 ⟨z,hz,h4⟩⟩
  rcases List.mem_cons.1 hz with rfl|hz
  · exact⟨.o v l,by simp,fun T K e=>(by cases e),by rw[show(As.o v l).foot=v.ownBlock.toList from rfl,J2x (As.mem_toList h4)];simp⟩
  rw[List.mem_singleton.1 hz] at h4;exact⟨.o u x,by simp,fun T K e=>(by cases e),by rw[show(As.o u x).foot=u.ownBlock.toList from rfl,J2x (As.mem_toList h4)];simp⟩
structure LD where
  p:Nat
  h:Nat
  uid:Value
  wv:Value
  pv:Value
  tv:Value
  lv:Value
  acs:List Ac
  wps:List Pv
  pvs:List (Value×List Pv)
  tus:List Value
  bs:List (Value×List UInt8)
abbrev Y0d (D:DD)(y:LD):Array Value:=Q6 [.c y.uid,.a 32 D.vk,.a 32 D.bk,.c (.int .i64 (D.L:Int)),.c (.int .i64 (D.P:Int)),.c (.int .i64 (D.E:Int)),.c (.map (some y.h)),.c y.wv,.c y.pv,.c y.tv,.c y.lv]
def J16 (acs:List Ac):List (List UInt8×Nat):=acs.map fun a=>(a.l,a.b)
abbrev J48 (v:Value):List Value:=[v]
abbrev J8m (r:Value×List Pv):List Value:=[r.1]
abbrev ldL (D:DD)(y:LD):List As:=[.b y.p (Y0d D y) 112,J3b y.h (J16 y.acs),acT y.acs,enT y.acs,.r 115 2 y.wv (y.wps.map pvC),.r 87 1 y.pv (y.pvs.map J8m),.r 113 1 y.tv (y.tus.map J48),.r 22 32 y.lv (D.links.map J46),byT y.bs,rwT y.pvs,taT D.trees y.tus]
abbrev pvP (p:Pv):J4a:=(p.l,p.x)
structure LOk (D:DD)(y:LD):Prop where
  w:y.wps.map pvP=D.waits
  p:y.pvs.map (fun r=>r.2.map pvP)=D.puts
  a:y.acs.map (·.l)=D.labs
  n:∀a∈y.acs,a.ix=ixN D.vk a.l∧a.pf=pfN D.vk a.l
  e:∀a∈y.acs,a.es.map (fun e=>(e.ep,e.ver,e.x))=(D.made.filter fun m=>decide (m.l=a.l)).map fun m=>(m.ep,m.ver,m.x)
  i:(y.uid,D.id)∈y.bs
  bw:∀q∈y.wps,(q.lu,q.l)∈y.bs∧(q.xu,q.x)∈y.bs
  bp:∀r∈y.pvs,∀q∈r.2,(q.lu,q.l)∈y.bs∧(q.xu,q.x)∈y.bs
  be:∀a∈y.acs,∀q∈a.es,(q.u,q.x)∈y.bs
structure DOk (D:DD):Prop where
  id1:1≤D.id.length
  id2:D.id.length≤16
  l1:1≤D.L
  l2:D.L≤64
  p1:1≤D.P
  p2:D.P≤16
  e1:1≤D.E
  e2:D.E≤32
  ep:D.puts.length≤D.E+1
  zero:D.puts[0]?=some []
  pl:∀ps∈D.puts,ps.length≤D.P
  wl:D.waits.length≤D.P
  ll:D.labs.length≤D.L
  lab:∀l∈D.labs,1≤l.length∧l.length≤32∧erN D.vk l=0
  val:∀q∈D.puts.flatten++D.waits,q.2.length≤64
def DK (D:DD)(y:LD)(w:World):Prop:=∀x∈ldL D y,x.holds w
section
variable {D : DD} {y : LD} {w : World}
theorem DK.d (h:DK D y w):Blk w y.p (Y0d D y) 112:=h (.b y.p (Y0d D y) 112) (by simp)
theorem DK.m (h:DK D y w):Q44 y.h (J16 y.acs) w:=(h (J3b y.h (J16 y.acs)) (by simp)).1
theorem DK.en (h:DK D y w):enK y.acs w:=(h (enT y.acs) (by simp)).1
theorem DK.wt (h:DK D y w):Row 115 2 w y.wv (y.wps.map pvC):=h (.r 115 2 y.wv (y.wps.map pvC)) (by simp)
theorem DK.pu (h:DK D y w):Row 87 1 w y.pv (y.pvs.map J8m):=h (.r 87 1 y.pv (y.pvs.map J8m)) (by simp)
theorem DK.tr (h:DK D y w):Row 113 1 w y.tv (y.tus.map J48):=h (.r 113 1 y.tv (y.tus.map J48)) (by simp)
theorem DK.lk (h:DK D y w):Row 22 32 w y.lv (D.links.map J46):=h (.r 22 32 y.lv (D.links.map J46)) (by simp)
theorem DK.by (h:DK D y w):byK y.bs w:=(h (byT y.bs) (by simp)).1
theorem DK.rw (h:DK D y w):rwK y.pvs w:=(h (rwT y.pvs) (by simp)).1
theorem DK.ta (h:DK D y w):taK D.trees y.tus w:=(h (taT D.trees y.tus) (by simp)).1
end
theorem DK.of {D:DD}{y:LD}{F:List Nat}{w W:World}{R:List As}(h:SH F w W (ldL D y++R)):DK D y W:=fun x hx=>h.all x (List.mem_append.2 (.inl hx))
end

section
section
variable {w : World} {o : Oper} {a : Act} {x y z : Operand} {t : TypeId} {l : List UInt8}
end
theorem Y2j {w:World}{v:Value}{l:List UInt8}(h:Own w v l)(hl:0<l.length):∃g,v.ownBlock=some g:=by
  rcases h.2 with⟨rfl,hn⟩|⟨g',D,G,rfl,_⟩
  · first|omega|(simp at hn;omega)|(subst hn;simp at hl)
  exact⟨g',rfl⟩
theorem MSm (i:Nat){ops:Array Oper}{Q:Exit→Act→World→Prop}{F:List Nat}{w:World}{H H' :List As}{r:List Oper}{o:Oper}{a a' :Act}{x:Operand}{v:Value}{l:List UInt8}(hl:0<l.length)(h:wpM Tryz.prog ops (.L Q) F w H' r a')(hi:H[i]?=some (.o v l):=by exact rfl)(hw:Region.wanted o (yielded ops a.tmps)=true:=by exact rfl)
    (ho:o.op=.convert 35 35 x:=by exact rfl) (hx:a.eval x=v:=by exact rfl) (hH:H.set i (.s v l)=H' :=by dsimp only[sB,sC];first|done|exact rfl) (hp:a.put o.dst v=a' :=by first|exact pl (by dsimp only[mB,mC];first|done|exact rfl)|exact pn|exact rfl):wpM Tryz.prog ops (.L Q) F w H (o::r) a:=by
  subst hp hH;intro W hS;obtain⟨g,hg⟩:=Y2j (hS.own hi) hl;refine Y16 (hS.own hi) hg hw ho hx fun W' hO hs=>h W' ?_
  exact hS.set (x:=.o v l) (y:=.s v l) hi rfl hO (fun k hk _=>hk) hs (fun k hk _=>by
    have:=J2x (As.mem_toList hk);show k∈v.ownBlock.toList;rw[this];simp) (.inl rfl) (fun _ _ e=>by cases e)
end
end Go.Proofs.YtlkbneflnjmgbaaGreatDoor

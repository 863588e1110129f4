/- Contracts and plain laws for directHolds_holds. Conditions: the tables hold their numbers. -/
import Derived.Test.YtpljgkofbfeelaaGreatDoorJ22
open Go renaming World->AA,Value->AB,bodyPost_ret->BC,execOp->AQ,Calls->Az,Program->AC,TypeId->AD,Oper->AT
open Go.Sem renaming run_bind->Ad
open _root_.List renaming length_append->Ai,mem_singleton->Ae,nil_append->BM,append_nil->Aj,append_assoc->Ak,getElem?_eq_getElem->Af,getElem?_map->BO,length_drop->AW,length_replicate->BE,length_map->BS,map_cons->AX,mem_cons->AY,flatten_cons->An,mem_append->Ar,length_take->BT,map_append->BU
open _root_.Nat renaming le_refl->AJ,zero_le->Ah,zero_add->AL,mul_one->AO
open _root_.Array renaming getElem?_toList->BZ,length_toList->BR
open Go.RowKit
set_option maxRecDepth 100000
set_option linter.unusedSimpArgs false
set_option linter.unusedVariables false
namespace Go.Proofs.YtpljgkofbfeelaaGreatDoor
section
theorem Q81:∀l:List UInt8,(l.map fun c=>[AB.int .u8 (c.toNat:Int)]).flatten=bs8 l
  |[]=>rfl
  |c::l=>by rw[AX,An,Q81 l];rfl
theorem V3i {W:AA}{v:AB}{l:List UInt8}(h:Own W v l):Row 5 1 W v (l.map fun c=>[AB.int .u8 (c.toNat:Int)]):=
  ⟨by rw[BS,Q81];exact h,fun e he=>by obtain⟨_,_,rfl⟩:=List.mem_map.1 he;rfl⟩
theorem V3j {W:AA}{v:AB}{l:List UInt8}(h:Row 5 1 W v (l.map fun c=>[AB.int .u8 (c.toNat:Int)])):Own W v l:=by
  have h1:=h.1;rw[BS,Q81] at h1;exact h1
theorem Y1q {W:AA}{v:AB}{l:List UInt8}(h:Own W v l)(hp:0<l.length):∃g c cur,v=.slice (some ⟨g,0,none⟩) l.length c∧Blk W g cur 5∧cur.toList.take l.length=bs8 l∧l.length≤cur.size:=by
  rcases h.2 with⟨_,h0⟩|⟨g,c,cur,hv,_,hh,hc,_,hs,ht⟩
  · omega
  exact⟨g,c,cur,hv,hh,by rwa [AO] at ht,by omega⟩
theorem Q97 {W:AA}{v:AB}{l:List UInt8}{g n c j:Nat}{b:UInt8}(h:Own W v l)(hv:v=.slice (some ⟨g,0,none⟩) n c)(hj:l[j]?=some b):W.cell? ⟨g,0+j,none⟩=some (.int .u8 (b.toNat:Int)):=by
  have G:=(List.getElem?_eq_some_iff.1 hj).1;obtain⟨g',c',D,e,hB,ht,hs⟩:=Y1q h (by omega);rw[hv] at e;injection e with e1 _ _
  injection e1 with e1
  injection e1 with e1
  subst e1;rw[J3 hB,AL,←BZ,←List.getElem?_take_of_lt (l:=D.toList) G,ht];unfold bs8;rw[BO,hj];rfl
section
variable {ops : Array AT} {Q : Exit → Act → AA → Prop} {w : AA} {r : List AT} {o : AT} {a a' : Act} {F : List Nat} {H H' : List As} {k : Wk}
theorem MIo (i j:Nat){x y:Operand}{v:Value}{l:List UInt8}{kk:IntKind}{a' :Nat→Act}(hj:j<l.length)(h:∀g c,RowKit.Hid (v=.slice (some ⟨g,0,none⟩) l.length c)→wpM Tryz.prog ops k F w H r (a' g))(hi:H[i]?=some (.o v l):=by exact rfl)(hw:Region.wanted o (yielded ops a.tmps)=true:=by exact rfl)
    (ho:o.op=.indexAddr 22 x y:=by exact rfl) (hx:a.eval x=v:=by exact rfl) (hy:a.eval y=.int kk (j:Int):=by exact rfl)
    (hp:∀g,a.put o.dst (.pointer (some ⟨g,0+j,none⟩))=a' g:=by intro b;first|exact pl (by dsimp only[mB,mC];first|done|exact rfl)|exact pn|exact rfl):wpM Tryz.prog ops k F w H (o::r) a:=by
  intro W hS;obtain⟨g,G,cs,hv,_⟩:=Y1q (hS.own hi) (by omega);have D:∀W,(AQ a.eval o).run Tryz.prog W=.ok (.value (.pointer (some ⟨g,0+j,none⟩))) W:=fun W=>by rw[Q3j hj ho (hx.trans hv) hy,Addr.add_mid]
  cases k with
  |L Q=>exact J3s hw (D W) (by rw[hp];exact h g G (Lib.hid hv) W hS)
  |X E=>exact J4e hw (fun W' _=>D W') (by rw[hp];exact h g G (Lib.hid hv) W hS)
theorem MPo (i:Nat){ty:TypeId}{x y:Operand}{g j n c:Nat}{b:UInt8}{v:Value}{l:List UInt8}(hj:j<l.length)(hv:v=.slice (some ⟨g,0,none⟩) n c)(h:wpM Tryz.prog ops (.L Q) F w H' r a')(hi:H[i]?=some (.o v l):=by exact rfl)(hw:Region.wanted o (yielded ops a.tmps)=true:=by exact rfl)
    (ho:o.op=.store ty x y:=by exact rfl) (hx:a.eval x=.pointer (some ⟨g,0+j,none⟩):=by exact rfl) (hy:a.eval y=.int .u8 (b.toNat:Int):=by exact rfl) (hz:(Tryz.prog.info? ty).map (·.size)=some 1:=by kernel_rfl)
    (hH:H.set i (.o v (l.set j b))=H' :=by dsimp only[sB,sC];first|done|exact rfl) (hp:a.put o.dst undef=a' :=by first|exact pl (by dsimp only[mB,mC];first|done|exact rfl)|exact pn|exact rfl):wpM Tryz.prog ops (.L Q) F w H (o::r) a:=by
  subst hp hH;intro W hS;refine Y1k (j:=j) (q:=0) (e:=[.int .u8 ((l[j]).toNat:Int)]) ⟨rfl,rfl⟩ (V3i (hS.own hi)) hv (by rw[BO,Af hj];rfl) (by decide) hw ho (hx.trans (by rw[AL,AO,Nat.add_zero])) hy hz fun W' h1 h2=>h W' (hS.seto hi h2 (V3j ?_) (fun k hk _=>by rw[hk];simp));rw[List.map_set];exact h1
theorem MCo (i:Nat){x y:Operand}{u v:Value}{l m:List UInt8}{a' :Act}(hs:∀W,SH F w W H→Sl W u m)(hm:m.length≤l.length)(hp0:0<m.length)(h:wpM Tryz.prog ops (.L Q) F w H' r a')(hi:H[i]?=some (.o v l):=by exact rfl)(hw:Region.wanted o (yielded ops a.tmps)=true:=by exact rfl)
    (ho:o.op=.call {callee:=.builtin .copy,args:= #[x,y],argTypes:= #[22,22]}:=by exact rfl) (hx:a.eval x=v:=by exact rfl) (hy:a.eval y=u:=by exact rfl)
    (hH:H.set i (.o v (m++l.drop m.length))=H' :=by dsimp only[sB,sC];first|done|exact rfl) (hp:a.put o.dst (goInt m.length)=a' :=by first|exact pl (by dsimp only[mB,mC];first|done|exact rfl)|exact pn|exact rfl):wpM Tryz.prog ops (.L Q) F w H (o::r) a:=by
  subst hp hH;intro W hS;obtain⟨A,cc,rfl,h1,h2,h0,h3⟩:=hs W hS;obtain⟨ad,rfl,_⟩:=h3 0 m[0] (Af hp0);have hO:=hS.own hi;rcases hO.2 with⟨_,e0⟩|⟨g,c,D,hv,hb,hB,hc,N,M,ht⟩
  · omega
  rw[AO] at ht M;have R:l.length≤D.size:=by omega
  have G:=run_copy_row (P:=Tryz.prog) W 22 22 o.type 5 g 0 l.length c ad m.length cc D 5 (bs8 m) Tryz.underlying22 J59 hB (by rw[Q9];exact(Nat.min_eq_left hm).symm) (fun j u hj=>by
    simp only[bs8,BO,Option.map_eq_some_iff] at hj;obtain⟨z,hz,rfl⟩:=hj;obtain⟨S,e,hc⟩:=h3 j z hz;obtain rfl:=Option.some.inj e
    exact hc) (by rw[Q9];omega) (J94 m)
  have e:(D.toList.take 0++bs8 m++D.toList.drop (0+(bs8 m).length))=bs8 m++D.toList.drop m.length:=by
    rw[List.take_zero,BM,AL,Q9]
  rw[e] at G;have h4:Blk (W.setRow g (bs8 m++D.toList.drop m.length).toArray) g (bs8 m++D.toList.drop m.length).toArray 5:=J2o hB _;have J:(m++l.drop m.length).length=l.length:=by rw[Ai,AW];omega
  refine J38 hw (v:=goInt m.length) (W:=W.setRow g (bs8 m++D.toList.drop m.length).toArray) ?_ (h _ (hS.seto hi (by rw[hv];exact⟨rfl,rfl,rfl,by simp,fun k _ hk=>setRow_other W g k _ (fun e=>hk (by subst e;show k∈[k];simp))⟩) ⟨by rw[Q9,AO],.inr ⟨g,c,_,by rw[J];exact hv,hb,h4,by rw[J];exact hc,N,?_,?_⟩⟩ (fun k hk _=>by rw[hk];simp)))
  · unfold AQ
    simp only[ho,resolve,invoke,builtin,Ad,Sem.run_pure,Result.andThen_ok,List.map_toArray,AX,List.map_nil,hx,hv,hy,G,Q9]
  · have e3:(bs8 m++D.toList.drop m.length).toArray.size=D.size:=by
      rw[show(bs8 m++D.toList.drop m.length).toArray.size=(bs8 m++D.toList.drop m.length).length from rfl,Ai,AW,Q9,←BR (xs:=D)];have:D.toList.length=D.size:=BR;omega
    rw[AO,e3];exact M
  rw[AO,J];refine(show((bs8 m++D.toList.drop m.length).toArray.toList).take l.length=bs8 (m++l.drop m.length) from ?_)
  have e4:(bs8 m++D.toList.drop m.length).take l.length=bs8 m++(D.toList.drop m.length).take (l.length-m.length):=by
    rw[List.take_append,Q9,List.take_of_length_le (by rw[Q9];exact hm)]
  have e5:bs8 (m++l.drop m.length)=bs8 m++(bs8 l).drop m.length:=by unfold bs8;rw[BU,List.map_drop]
  refine e4.trans (e5.trans ?_).symm;rw[←ht,List.drop_take]
end
end

section
theorem V8e:fsz []=0:=rfl
theorem V8d (v:AB)(l:List Fd):fsz (.c v::l)=1+fsz l:=rfl
theorem V8c (n X:Nat)(l:List Fd):fsz (.a n X::l)=n+fsz l:=rfl
section
variable {ops : Array AT} {Q : Exit → Act → AA → Prop} {w : AA} {r : List AT} {o : AT} {a a' : Act} {F : List Nat} {H H' : List As}
end
end

section
set_option maxHeartbeats 3000000
attribute [local irreducible] wpList Z9 wpX
def K3 (l:List UInt8):List UInt8:=l++List.replicate 32 0
def J33 (b:UInt8)(l:List UInt8):List UInt8:=(K3 l).map (· ^^^b)
def J25 (b:UInt8)(k:Nat):List UInt8:=J33 b (lb 32 k)
theorem Q3y {l:List UInt8}(h:l.length=32):(K3 l).length=64:=by unfold K3;simp[h]
theorem Z92 {b:UInt8}{l:List UInt8}(h:l.length=32):(J33 b l).length=64:=by unfold J33;rw[BS,Q3y h]
theorem J1g (b:UInt8)(k:Nat):(J25 b k).length=64:=Z92 (J7 _ _)
def xt (b:UInt8)(j:Nat)(L:List UInt8):List UInt8:=(L.take j).map (· ^^^b)++L.drop j
theorem J7z (b:UInt8)(j:Nat)(L:List UInt8):(xt b j L).length=L.length:=by unfold xt;simp;omega
theorem V6k (b:UInt8)(L:List UInt8):xt b 0 L=L:=by unfold xt;simp
theorem V16 {b:UInt8}{j:Nat}{L:List UInt8}(h:L.length≤j):xt b j L=L.map (· ^^^b):=by unfold xt;rw[List.take_of_length_le h,List.drop_of_length_le h,Aj]
theorem Y8r {b c:UInt8}{j:Nat}{L:List UInt8}(h:L[j]?=some c):(xt b j L)[j]?=some c:=by
 have D:=(List.getElem?_eq_some_iff.1 h).1;unfold xt;rw[List.getElem?_append_right (by simp;omega),BS,BT,Nat.min_eq_left (by omega),Nat.sub_self,List.getElem?_drop];exact h
theorem Z3r {b c:UInt8}{j:Nat}{L:List UInt8}(h:L[j]?=some c):(xt b j L).set j (c^^^b)=xt b (j+1) L:=by
 have D:=(List.getElem?_eq_some_iff.1 h).1;unfold xt;rw[List.set_append_right _ _ (by simp;omega),BS,BT,Nat.min_eq_left (by omega),Nat.sub_self,List.drop_eq_getElem_cons D,List.set_cons_zero,List.take_succ_eq_append_getElem D,BU,Ak];rw[(List.getElem?_eq_some_iff.1 h).2];rfl
theorem Y8s (c d:UInt8):bits .xor .u8 (c.toNat:Int) (d.toNat:Int)=((c^^^d).toNat:Int):=(Z93 c.toNat_lt d.toNat_lt).trans (by rw[UInt8.toNat_xor])
def hm (k:Nat)(F:List UInt8):Nat:=hs4 (J25 92 k++lb 32 (hs4 (J25 54 k++F)))
theorem Y8t (k:Nat)(F:List UInt8):hm k F<2^256:=J7y _
def opn (bk i:Nat)(v:Int):Nat:=hm bk ([111,112,101,110]++lb 32 i++eI v)
def bnd (o i:Nat)(v:Int)(x:List UInt8):Nat:=hm o (lb 32 i++eI v++x)
def lk0 (id:List UInt8):Nat:=hs4 ([4]++id)
def lkT (id:List UInt8)(e:Int)(r a:Nat):List UInt8:=[3]++([u8 (id.length / 256),u8 id.length]++id)++eI e++lb 32 r++lb 32 a
def lkn (id:List UInt8)(e:Int)(r a:Nat):Nat:=hs4 (lkT id e r a)
theorem J3k (id:List UInt8)(e:Int)(r a:Nat):(lkT id e r a).length=id.length+75:=by unfold lkT;simp[Y8,J7]
def nz (X j:Nat):List UInt8:=(be8 X).take j++List.replicate (8-j) 0
theorem Z94 (X:Nat){j:Nat}(h:j≤8):(nz X j).length=8:=by unfold nz;rw[Ai,BT,show(be8 X).length=8 from rfl,BE];omega
theorem Y4n (X:Nat){j:Nat}(h:j<8):(nz X j).set j (by8 X j)=nz X (j+1):=by
 have hl:((be8 X).take j).length=j:=by rw[BT,show(be8 X).length=8 from rfl];omega
 unfold nz;rw[List.set_append_right _ _ (by omega),hl,Nat.sub_self,Q96 X h,show 8-j=8-(j+1)+1 by omega,List.replicate_succ,List.set_cons_zero,Ak];rfl
theorem K2c (X:Nat):nz X 8=be8 X:=by unfold nz;rw[List.take_of_length_le (by rw[show(be8 X).length=8 from rfl];exact AJ _),Nat.sub_self,List.replicate_zero,Aj]
theorem J5f (X:Nat):(be8 X).length=8:=rfl
theorem V6l (X:Nat):(be8 X).take 8=be8 X:=List.take_of_length_le (by rw[show(be8 X).length=8 from rfl];exact AJ _)
theorem Y4o (p:Nat)(v:AB)(F:List UInt8){R:Nat}(hR:R=hs4 F)(hlen:F.length≤70368744177664)(w:AA)(hkB:Blk w p (hcs v F) 260)(hrS:Sl w v (hr4 F))(hG:GS4 w):
  Az Tryz.prog 113 #[.pointer (some ⟨p,0,none⟩)] w fun e w' =>V5 (.agg (J0 .u8 32 (J2 R))) w w' e:=by
 rw[hR,←Z91];exact Z3s p v F hlen w hkB hrS hG
attribute [local irreducible] eI be8 hs4 lb J33 J25 K3 xt nz

theorem V6m {v:AB}{l:List UInt8}{b:UInt8}(hl:l.length=32)(w:AA)(hs:Sl w v l):
  Az Tryz.prog 118 #[v,.int .u8 (b.toNat:Int)] w fun e w' => ∃u,e=.returned u∧SH [] w w' [.o u (J33 b l)]:=by
 have G:=Q3y hl;have hS:=SH.nil [] w
 go_enter Tryz.func118,Tryz.ntmps118
 go_upto_region 1 with fail;refine RL hS ?_;clear hS;refine MK (n:=64) (by first|omega|(simp only[lA,lM,lT,lD,lC,lN,J7,Y8,Z0,Z5];omega)) ?_;intro M;refine MV ?_;refine MZ fun W hS=> ?_;go_upto_region 2 with fail;refine RL hS ?_;clear hS;refine MV ?_;refine MV ?_;refine MCo 0 (m:=l) (l:=(List.replicate 64 0)) (fun W hS=>(K4 hs hS.ext)) (by rw[BE];omega) (by omega) ?_;refine MT (fun W hS=>by rw[show l++List.drop l.length (List.replicate 64 0)=K3 l from(by unfold K3;rw[List.drop_replicate,hl])] at hS;exact hS) ?_;refine MZ fun W hS=> ?_;go_upto_region 3 with fail;refine RL hS ?_;clear hS;refine MV ?_;refine MF (v:=.int .i64 64) (fun W hS=>(by rw[show(64:Int)=((K3 l).length:Int) by rw[G];rfl];exact Q8 (hS.osl (i:=0) rfl) rfl rfl)) ?_;refine W0 ?_;refine MZ fun W hS=> ?_
 go_wp2_with fail
 go_loopw [13] (fun jj wr=> ∃(j:Nat),(j≤64)∧(jj=.int .i64 (j:Int))∧SH [] w wr [.o M (xt b j (K3 l))])
  (fun jj _=>64-(intOf jj).toNat)
 case atStart=>exact⟨0,Ah _,rfl,(by rw[V6k];exact hS)⟩
 clear hS
 case round=>
  obtain⟨j,hj,rfl,hS⟩:=hrel
  by_cases J:j<64
  ·
   obtain⟨c0,D⟩:∃c,(K3 l)[j]?=some c:=⟨_,Af (by omega)⟩
   go_upto_region 4 with fail;refine RL hS ?_;clear hS;refine Wto ?_;refine MZ fun W hS=> ?_;go_upto_region 6 with fail;refine RL hS ?_;clear hS;refine MV ?_;refine MV ?_;refine MIo 0 j (l:=(xt b j (K3 l))) (by rw[J7z];omega) ?_;intro S _ N;refine MF (v:=.int .u8 (c0.toNat:Int)) (fun W hS=>Q6 rfl rfl (Q97 (hS.own (i:=0) rfl) N.out (Y8r D)) (by kernel_rfl)) ?_;refine MV ?_;refine MW ?_ (v:=.int .u8 ((c0^^^b).toNat:Int)) (hv:=by intro W;go_simp;rw[←UInt8.toNat_xor];exact Y8s _ _);refine MIo 0 j (l:=(xt b j (K3 l))) (by rw[J7z];omega) ?_;intro T _ R;refine MPo 0 (j:=j) (b:=(c0^^^b)) (l:=(xt b j (K3 l))) (by rw[J7z];omega) R.out ?_;refine MT (fun W hS=>by rw[show(xt b j (K3 l)).set j (c0^^^b)=xt b (j+1) (K3 l) from Z3r D] at hS;exact hS) ?_;refine MZ fun W hS=> ?_;go_wp2;go_roundw
   case rel=>exact⟨j+1,by omega,by go_num,hS⟩
   case measure=>simp[intOf];omega
  obtain rfl:j=64:=by omega
  rw[V16 (Nat.le_of_eq G)] at hS;go_upto_region 4 with fail;refine RL hS ?_;clear hS;refine Wfo ?_;refine MZ fun W hS=> ?_;go_wp2;exact BC (v:=M) (by simp only[results,Tryz.results118];go_simp) rfl ⟨_,rfl,by rw[show J33 b l=(K3 l).map (· ^^^b) by unfold J33;rfl];exact hS.pick [0]⟩
theorem Z95 {v:AB}{k:Nat}{b:UInt8}(w:AA)(hs:Sl w v (lb 32 k)):Az Tryz.prog 118 #[v,.int .u8 (b.toNat:Int)] w fun e w' => ∃u,e=.returned u∧SH [] w w' [.o u (J25 b k)]:=by
 unfold J25;exact V6m (J7 _ _) w hs
theorem Q77 {q:Prop}{k R:Nat}{v:AB}(ps:List (List UInt8))(A:Option Addr)(c:Nat){F:List UInt8}(hF:ps.flatten=F)(hlen:F.length≤1099511627776)(hpn:ps.length≤9223372036854775000)(hR:R=hm k F)(w:AA)(hps:∀i l,ps[i]?=some l→∃ad u,A=some ad∧w.cell? (ad.add i)=some u∧Sl w u l)(hv:Sl w v (lb 32 k))(hG:GT q w):
  Az Tryz.prog 71 #[v,.slice A ps.length c] w fun e w' =>V5 (.agg (J0 .u8 32 (J2 R))) w w' e:=by
 have δ:=Lib.hid hps;clear hps;have β:(lb 32 k).length=32:=J7 _ _;have hS:=SH.nil [] w
 go_enter Tryz.func71,Tryz.ntmps71
 go_upto_region 0 with fail;refine RL hS ?_;clear hS;refine MN (z:=J0 .u8 32 (J2 0)) (t:=23) ?_;intro S;refine MZ fun W hS=> ?_;go_upto_region 1 with fail;refine RL hS ?_;clear hS;refine MV ?_;refine MF (v:=.int .i64 32) (fun W hS=>(by rw[show(32:Int)=((lb 32 k).length:Int) by rw[β];rfl];exact Q8 (K4 hv hS.ext) rfl rfl)) ?_;refine Wfo ?_;refine MZ fun W hS=> ?_;go_upto_region 4 with fail;refine RL hS ?_;clear hS;refine ME (fun W hS=>(Z96 W (J0h hG.1 hS.ext)).mono fun e W' ⟨p,h1,h2,h3,h4⟩=>⟨p,h1,(hS.new (x:=.b p _ _) h3 h4.1 (fun k hk=>by rw[Ae.1 hk];exact h2) rfl rfl).onil rfl⟩) ?_;intro D;refine MT (H' :=[.o (.slice none 0 0) (hr4 []),.b D (hcs (.slice none 0 0) []) 260,.b S (J0 .u8 32 (J2 0)) 23]) (fun W hS=>hS) ?_;refine MV ?_;refine MZ fun W hS=> ?_;go_upto_region 5 with fail;refine RL hS ?_;clear hS;refine MV ?_;refine MV ?_;refine ME (V:=fun v=>v) (fun W hS=>J1y hS (Z95 (b:=54) W (K4 hv hS.ext)) (fun _=>⟨rfl,rfl⟩)) ?_;intro η;refine MT (fun W hS=>hS.read (i:=0) rfl (hS.osl (i:=0) rfl) J2n) ?_;refine ME (V:=fun _=> .tuple #[]) (fun W hS=>Z97 [3,2,1,0] [4] (hS.entp (Q1n (J0h hG.1 (J1s _)))) (fun hS=>Q3z D (.slice none 0 0) η [] (J25 54 k) (by first|omega|(simp only[lA,lM,lT,lD,lC,lN,J7,J1g,Y8,Z0,Z5];omega)) W hS) (fun _=>⟨.inr ⟨rfl,rfl⟩,.inr ⟨rfl,rfl⟩,.inl (by simp),.inl (by simp),trivial⟩)) ?_;intro Y;refine MD 2 ?_;refine MD 2 ?_;refine MT (fun W hS=>by rw[BM] at hS;exact hS) ?_;refine MZ fun W hS=> ?_;go_upto_region 6 with fail;refine RL hS ?_;clear hS;refine MV ?_;refine MV ?_;refine W0 ?_;refine MZ fun W hS=> ?_
 go_wp2_with fail
 go_loopw [24] (fun ii wr=> ∃(i:Nat)(bv:AB),(i≤ps.length)∧(ii=.int .i64 (i:Int))∧SH [] w wr [.b D (hcs bv (J25 54 k++(List.take i ps).flatten)) 260,.o bv (hr4 (J25 54 k++(List.take i ps).flatten)),.b S (J0 .u8 32 (J2 0)) 23])
  (fun ii _=>ps.length-(intOf ii).toNat)
 case atStart=>exact⟨0,Y,Ah _,rfl,(by rw[List.take_zero,List.flatten_nil,Aj];exact hS)⟩
 clear hS
 case round=>
  obtain⟨i,bv,hi,rfl,hS⟩:=hrel
  by_cases G:i<ps.length
  ·
   obtain⟨l_,J⟩:∃l,ps[i]?=some l:=⟨_,Af G⟩
   obtain⟨ε,u_,γ,Z,α⟩:=δ.out i l_ J;have θ:(List.take i ps).flatten.length+l_.length≤F.length:=by rw[←hF,←Ai,←J5c J];exact Q40 _ _
   go_upto_region 7 with fail;refine RL hS ?_;clear hS;refine Wto ?_;refine MZ fun W hS=> ?_;go_upto_region 8 with fail;refine RL hS ?_;clear hS;refine MW ?_ (v:=.pointer (some (ε.add i))) (hv:=fun _=>Q78 (j:=i) G rfl (by rw[←γ];rfl) rfl);refine MF (v:=u_) (fun W hS=>Q6 rfl rfl (J19 Z hS.ext) (by kernel_rfl)) ?_;refine MV ?_;refine MZ fun W hS=> ?_;go_upto_region 9 with fail;refine RL hS ?_;clear hS;refine MV ?_;refine MV ?_;refine ME (V:=fun _=> .tuple #[]) (fun W hS=>Z97 [2,3,1,0] [4] ((hS.ent α).entp (Q1n (J0h hG.1 (J1s _)))) (fun hS=>Q3z D bv u_ (J25 54 k++(List.take i ps).flatten) l_ (by first|omega|(simp only[lA,lM,lT,lD,lC,lN,J7,J1g,Y8,Z0,Z5];omega)) W hS) (fun _=>⟨.inr ⟨rfl,rfl⟩,.inr ⟨rfl,rfl⟩,.inl (by simp),.inl (by simp),trivial⟩)) ?_;intro X;refine MD 2 ?_;refine MD 2 ?_;refine MZ fun W hS=> ?_;go_wp2;go_roundw
   case rel=>exact⟨i+1,X,by omega,by go_num,(by rw[J5c J,←Ak];exact hS)⟩
   case measure=>simp[intOf];omega
  obtain rfl:i=ps.length:=by omega
  rw[List.take_length,hF] at hS;go_upto_region 7 with fail;refine RL hS ?_;clear hS;refine Wfo ?_;refine MZ fun W hS=> ?_;go_upto_region 11 with fail;refine RL hS ?_;clear hS;refine MV ?_;obtain⟨U1,U⟩:=exh (hs4 (J25 54 k++F));refine MC (v:=.agg (J0 .u8 32 (J2 U1))) (fun W hS=>Y4o D bv (J25 54 k++F) U.out (by first|omega|(simp only[lA,lM,lT,lD,lC,lN,J7,J1g,Y8,Z0,Z5];omega)) W (hS.blk (i:=0) rfl) (hS.osl (i:=1) rfl) (J0h hG.1 hS.ext)) ?_;refine MN (z:=J0 .u8 32 (J2 0)) (t:=23) ?_;intro M;refine MR 0 ?_;refine MZ fun W hS=> ?_;go_upto_region 12 with fail;refine RTp [0,1,2] (.q 0 (.q 2 (.e 1 (.e 3 (.e 4 (.e 5 .z)))))) hS ?_;clear hS;refine TV ?_;refine TW ?_ (v:=.slice (some ⟨M,0,none⟩) 32 32);refine TE (fun _ h=>h.pick [0,1,2]) ?_;refine ME (V:=fun v=>v) (fun W hS=>J1y hS (Z95 (b:=92) W (K4 hv hS.ext)) (fun _=>⟨rfl,rfl⟩)) ?_;intro T;refine Y6 [0,1,2,3] [1,2,3] ?_;refine TE (fun _ h=>h.pick [0,1,2,3]) ?_;refine MB (z:= #[T,.slice (some ⟨M,0,none⟩) 32 32]) (t:=22) (n:=2) (c:=2) ?_ (hr:=fun W hS=>Y0 [T,.slice (some ⟨M,0,none⟩) 32 32] rfl rfl (vsc (J6 (hS.osl (i:=0) rfl)).1 (vsc (J6 (Q7 (V:=U1) (n:=32) (off:=0) (c:=32) (hS.blk (i:=1) rfl) ap0 (by decide) (by decide))).1 vs0)) Tryz.underlying155 (by kernel_rfl) (by kernel_rfl) rfl (by decide) (by decide));intro ζ;refine Y6 [0,1,2,3,4] [1,2,3,4] ?_;refine TE (fun _ h=>h.pick [0,1,2,3,4]) ?_;obtain⟨U2,N⟩:=exh (hs4 ((J25 92 k)++(lb 32 U1)));refine MC (v:=.agg (J0 .u8 32 (J2 U2))) (fun W hS=>J2x N.out [J25 92 k,lb 32 U1] (some ⟨ζ,0,none⟩) 2 (by simp only[An,List.flatten_nil,Aj,BM,Ak,List.cons_append]) (by first|omega|(simp only[lA,lM,lT,lD,lC,lN,J7,J1g,Y8,Z0,Z5];omega)) (by simp) W (J0c (hS.blk (i:=0) rfl) (pvc (hS.osl (i:=1) rfl) (pvc (Q7 (V:=U1) (n:=32) (off:=0) (c:=32) (hS.blk (i:=2) rfl) ap0 (by decide) (by decide)) pv0))) (J0h hG.1 hS.ext)) ?_;refine Y6 [0,1,2,3,4] [0,1,2,3,4] ?_;refine TE (fun _ h=>h.pick [0,1,2,3,4]) ?_;refine MR 5 ?_;refine Y6 [0,1,2,3,4] [0,1,2,3,4] ?_;refine TZ (fun _ h=>h.pick [0,1,2,3,4]) fun W hS=> ?_;rw[show U2=R by rw[hR];try rw[N.out];try rw[U.out];first|done|rfl] at hS;go_wp2;exact BC (Z6 rfl rfl (hS.blk (i:=5) rfl) (by kernel_rfl) (by rw[J1];kernel_rfl)) rfl ⟨rfl,hS.ext⟩
end

section
open S8 (vprv vsm kP lo)
def pfN (vk:Nat)(l:List UInt8):Nat:=(vprv vk l).1
def erN (vk:Nat)(l:List UInt8):Nat:=(vprv vk l).2
def ixN (vk:Nat)(l:List UInt8):Nat:=lo (vsm (pfN vk l)).1
namespace DD
def leaf (D:DD)(m:Md):Nat×Nat:=(ixN D.vk m.l,bnd (opn D.bk (ixN D.vk m.l) (m.ver:Int)) (ixN D.vk m.l) (m.ver:Int) m.x)
def lvs (D:DD)(e:Nat):List (Nat×Nat):=(D.upto e).map D.leaf
def tree (D:DD)(e:Nat):TR:=ofT (D.lvs e)
def link (D:DD):Nat→Nat
  |0=>lk0 D.id
  |e+1=>lkn D.id ((e+1:Nat):Int) (rs (D.tree (e+1))) (link D e)
theorem Y5i {D:DD}{e:Nat}(h:e<D.puts.length):D.nxt.lvs e=D.lvs e:=by unfold lvs;rw[upto_nxt_lt h];rfl
theorem tree_nxt {D:DD}{e:Nat}(h:e<D.puts.length):D.nxt.tree e=D.tree e:=by unfold tree;rw[Y5i h]
theorem link_nxt {D:DD}:∀{e:Nat},e<D.puts.length→D.nxt.link e=D.link e
  |0,_=>rfl
  |e+1,h=>by
    show lkn _ _ (rs (D.nxt.tree (e+1))) (D.nxt.link e)=_;rw[tree_nxt h,link_nxt (Nat.lt_of_succ_lt h)];rfl
theorem link_put (D:DD)(l x:List UInt8):∀e,(D.put l x).link e=D.link e
  |0=>rfl
  |e+1=>by
    show lkn _ _ _ ((D.put l x).link e)=_;rw[link_put D l x e];rfl
def trees (D:DD):List TR:=(List.range D.puts.length).map D.tree
def links (D:DD):List Nat:=(List.range D.puts.length).map D.link
theorem trees_len (D:DD):D.trees.length=D.puts.length:=by unfold trees;simp
theorem links_len (D:DD):D.links.length=D.puts.length:=by unfold links;simp
theorem trees_at {D:DD}{e:Nat}(h:e<D.puts.length):D.trees[e]?=some (D.tree e):=by unfold trees;rw[BO,List.getElem?_range h];rfl
theorem links_at {D:DD}{e:Nat}(h:e<D.puts.length):D.links[e]?=some (D.link e):=by unfold links;rw[BO,List.getElem?_range h];rfl
theorem nxt_len (D:DD):D.nxt.puts.length=D.puts.length+1:=by unfold nxt;simp
theorem trees_nxt (D:DD):D.nxt.trees=D.trees++[D.nxt.tree D.puts.length]:=by
  unfold trees;rw[nxt_len,List.range_succ,BU]
  congr 1
  exact List.map_congr_left fun e he=>tree_nxt (List.mem_range.1 he)
theorem links_nxt (D:DD):D.nxt.links=D.links++[D.nxt.link D.puts.length]:=by
  unfold links;rw[nxt_len,List.range_succ,BU]
  congr 1
  exact List.map_congr_left fun e he=>link_nxt (List.mem_range.1 he)
end DD
theorem Q42 (vk:Nat)(l:List UInt8):ixN vk l<2^256:=S8.lo_lt _
theorem Z3u (D:DD)(m:Md):(D.leaf m).1<2^256∧(D.leaf m).2<2^256:=⟨Q42 _ _,Y8t _ _⟩
end
end Go.Proofs.YtpljgkofbfeelaaGreatDoor

namespace Go.Proofs.YtpljgkofbfeelaaGreatDoor.S8
open Sc (LL J0k)
def s1P:Nat:=114357819437381932551506943292233391401526845028636896338274259687389550464206
def s1X:Nat:=47024039051628811779107516702321879712624584126105895814772064878575390995579
def s1Y:Nat:=36463181788650339775237385953296199005534778670103291544839962084555217917972
theorem kP_1:kP 1=s1P:=by
  unfold kP kN;rw[Q7j (show Y08 (lb 32 1)=8678345711762074483941435942459349315791744468269612026220829880717679751032992162212105630643471702240689105779349018571374047650718608606628566249376974 by decide+kernel)];rw[show clN (lo 8678345711762074483941435942459349315791744468269612026220829880717679751032992162212105630643471702240689105779349018571374047650718608606628566249376974)=41354757114163650016304086911142683682198188400503391378057401993857692208328 by decide+kernel];exact Y0a (x:=26822555233711949854380153315158647482531717314742952720223963642152101436051) (y:=56461774818723834839721450787889437474891852695816614318545467683432985644238) (by decide) (by decide) (by decide) (by decide+kernel) (by decide+kernel)
theorem Y0b:OnC (fp s1X,fp s1Y):=by unfold OnC;decide+kernel
theorem Y5k:J5m s1P [97] 0=enc (fp s1X,fp s1Y):=by
  unfold J5m;rw[Q7j (show Y08 ([3,1]++lb 32 s1P++[97]++[u8 0,0])=4217728401137996085136769034409487805852939532085486328493455349853149161186833495216620188908688633613128681065855967220427564136070603473464087361574932 by decide+kernel)];rw[Q3d (by decide) (by decide)];decide+kernel
def s1Q:Q4:=(s1X,s1Y,1,s1X*s1Y % PP)
theorem K2p:RQ4 s1Q (fp s1X,fp s1Y):=Z4l (by decide) (by decide) Y0b rfl
theorem K2q:pm (fp s1X,fp s1Y) 8=(fp 4469178358068918509625982920184479197551857748499590235157424197441462617855,fp 16503622182197511828209738090181657542955776088139777616436718276135933772672):=
  Z2a (Q7k K2p (by decide)) (by decide+kernel) (by decide+kernel)
theorem s1_ok:candOk s1P [97] 0=true:=by
  refine candOk_iff.2 ?_;unfold candP;rw[Y5k,(dec_enc Y0b).2,K2q];refine⟨(dec_enc Y0b).1,fun h=> ?_⟩;have:=congrArg Prod.fst h;revert this;decide+kernel
end Go.Proofs.YtpljgkofbfeelaaGreatDoor.S8
namespace Go.Proofs.YtpljgkofbfeelaaGreatDoor
section
theorem Y5l {vk c:Nat}{l:List UInt8}(h:S8.candOk (S8.kP vk) l c=true)(hc:c<256):erN vk l=0:=by
  unfold erN;cases hv:S8.vpt (S8.kP vk) l with
  |none=>
    have:=S8.vpt_none hv c hc;rw[h] at this;cases this
  |some r=>rw[S8.vprv_some hv]
theorem V2o:S8.candOk (S8.kP 1) [97] 0=true:=(congrArg (fun V=>S8.candOk V [97] 0) S8.kP_1).trans S8.s1_ok
theorem V7n:erN 1 [97]=0:=Y5l V2o (Nat.zero_lt_succ _)
end

section
def mlk:List (List UInt8×Nat)→List UInt8→Option Nat
  |[],_=>none
  |x::m,k=>if x.1=k then some x.2 else mlk m k
def mpt (o:Option Nat):AB:=match o with
  |none=> .pointer none
  |some b=> .pointer (some ⟨b,0,none⟩)
def Q47 (h:Nat)(m:List (List UInt8×Nat))(W:AA):Prop:=∃es clock,W.heap[h]?=some (.map es clock)∧es.toList.map (fun e=>(e.key,e.val))=m.map fun x=>(V3 x.1,mpt (some x.2))
abbrev J24 (h:Nat)(m:List (List UInt8×Nat)):As:=.m none [h] (Q47 h m)
theorem Z43 {W:AA}{h:Nat}{m:List (List UInt8×Nat)}(hm:Q47 h m W):h<W.heap.size:=by
  obtain⟨es,c,h1,_⟩:=hm;exact(Array.getElem?_eq_some_iff.1 h1).1
theorem Q4c {W:AA}{h:Nat}{m:List (List UInt8×Nat)}(hm:Q47 h m W):(J24 h m).holds W:=by
  refine⟨hm,fun k hk=>by rw[Ae.1 hk];exact Z43 hm,fun k hk=> ?_,fun W' hs he=> ?_⟩
  · obtain⟨es,c,h1,_⟩:=hm;rw[Ae.1 hk];unfold J9i;rw[h1]
  obtain⟨es,c,h1,h2⟩:=hm;exact⟨es,c,by rw[he h (by simp)];exact h1,h2⟩
theorem Y01 {k:List UInt8}:∀(l:List MapEntry) (m:List (List UInt8×Nat)) (i:Nat),l.map (fun e=>(e.key,e.val))=m.map (fun x=>(V3 x.1,mpt (some x.2)))→
    (mlk m k=none∧Instr.findNow .string (V3 k) l i=some none)∨∃b j e,mlk m k=some b∧Instr.findNow .string (V3 k) l i=some (some (i+j,mpt (some b)))∧l[j]?=some e∧e.key=V3 k∧e.val=mpt (some b)
  |[],[],_,_=> .inl ⟨rfl,rfl⟩
  |[],_::_,_,h=>by cases h
  |_::_,[],_,h=>by cases h
  |e::l,x::m,i,h=>by
    rw[AX,AX] at h;injection h with h1 h2
    injection h1 with hk hv
    have hn:Instr.sameNow .string (V3 k) e.key=some (decide (k=x.1)):=by
      rw[hk];unfold V3;show some (_==_)=_
      congr 1
      rw[Bool.eq_iff_iff,MapKept.bytes_beq,decide_eq_true_iff];exact⟨fun h=>by injection h with h;injection h,fun h=>by rw[h]⟩
    by_cases hx:x.1=k
    · refine .inr ⟨x.2,0,e,by unfold mlk;rw[if_pos hx],?_,rfl,by rw[hk,hx],hv⟩
      unfold Instr.findNow;rw[hn,decide_eq_true hx.symm,hv];rfl
    have hf:Instr.findNow .string (V3 k) (e::l) i=Instr.findNow .string (V3 k) l (i+1):=by
      conv=>lhs;unfold Instr.findNow
      rw[hn,decide_eq_false (fun h=>hx h.symm)]
    have hm:mlk (x::m) k=mlk m k:=by
     conv=>lhs;unfold mlk
     rw[if_neg hx]
    rw[hf,hm];rcases Y01 l m (i+1) h2 with⟨h3,h4⟩|⟨b,j,e',h3,h4,h5,h6,h7⟩
    · exact .inl ⟨h3,h4⟩
    exact .inr ⟨b,j+1,e',h3,by rw[h4];congr 3;omega,by simpa using h5,h6,h7⟩
section
variable {P : AC} {W : AA} {h : Nat} {m : List (List UInt8 × Nat)} {tm kt et : AD} {a : Act} {o : AT} {k : List UInt8}
theorem J67 {x y:Operand}(hm:Q47 h m W)(ht:P.underlying tm=some (.map kt et))(hk:P.underlying kt=some .string)(hz:(P.info? et).map (·.zero)=some (some (.pointer none)))(ho:o.op=.lookup tm x y false)(hx:a.eval x=.map (some h))(hy:a.eval y=V3 k):
    (AQ a.eval o).run P W=.ok (.value (mpt (mlk m k))) W:=by
  obtain⟨es,c,h1,h2⟩:=hm;have D:∀e,(Instr.checkKey e 10000 kt (V3 k)).run P W=.ok () W:=fun e=>MapKept.run_checkKey (k:=V3 k) hk (by simp[MapKept.IsKey,V3]) e 9999
  have G:(zeroValue et).run P W=.ok (.pointer none) W:=by
    cases hq:P.info? et with
    |none=>simp[hq] at hz
    |some i=>
      have hz' :i.zero=some (.pointer none):=by simpa[hq] using hz
      simp[zeroValue,typeInfo,hq,hz',Ad]
  have hr:(Instr.lookup tm (.map (some h)) (V3 k) false).run P W=.ok (mpt (mlk m k)) W:=by
    rcases Y01 (k:=k) es.toList m 0 h2 with⟨h3,h4⟩|⟨b,j,e',h3,h4,h5,h6,h7⟩
    · rw[h3];simp[Instr.lookup,run_underlying ht,MapKept.run_getObj_map h1,D,MapKept.run_findKey hk h4,G,Result.andThen,mpt]
    rw[h3];simp[Instr.lookup,run_underlying ht,MapKept.run_getObj_map h1,D,MapKept.run_findKey hk h4,Result.andThen,mpt]
  simp[AQ,ho,hx,hy,hr,Ad]
theorem Q49 {x:Operand}{ty:TypeId}(hm:Q47 h m W)(ht:P.underlying tm=some (.map kt et))(hty:o.type=ty)(ho:o.op=.call {callee:=.builtin .len,args:= #[x],argTypes:= #[tm]})(hx:a.eval x=.map (some h)):
    (execOp a.eval o).run P W=.ok (.value (.int .i64 (m.length:Int))) W:=by
  obtain⟨es,c,h1,h2⟩:=hm;have hl:es.size=m.length:=by have:=congrArg List.length h2;rw[BS,BS,BR] at this;exact this
  unfold AQ;simp[ho,resolve,invoke,builtin,Ad,hx,Builtin.len_,run_underlying ht,MapKept.run_getObj_map h1,goInt,Result.andThen,hl]
end
def mst (m:List (List UInt8×Nat))(k:List UInt8)(b:Nat):List (List UInt8×Nat):=match mlk m k with
  |none=>m++[(k,b)]
  |some _=>m
section
variable {P : AC} {ops : Array AT} {Q : Exit → Act → AA → Prop} {w : AA} {r : List AT} {o : AT} {a a' : Act} {F : List Nat} {H H' : List As} {h : Nat} {m : List (List UInt8 × Nat)} {tm kt et : AD} {k : List UInt8} {b : Nat}
theorem Y5g {W:AA}(hm:Q47 h m W)(ht:P.underlying tm=some (.map kt et))(hk:P.underlying kt=some .string)(hb:mlk m k=none∨mlk m k=some b):
    ∃W',(Instr.mapUpdate tm (.map (some h)) (V3 k) (mpt (some b))).run P W=.ok () W' ∧Off [h] W W' ∧Q47 h (mst m k b) W' :=by
  obtain⟨es,c,h1,h2⟩:=hm;have J:(Instr.checkKey false 10000 kt (V3 k)).run P W=.ok () W:=MapKept.run_checkKey (k:=V3 k) hk (by simp[MapKept.IsKey,V3]) false 9999
  have D:∀ob:Obj,Off [h] W {W with heap:=W.heap.setIfInBounds h ob}:=fun ob=>⟨rfl,rfl,rfl,by simp,fun k _ hk=>by
    show(W.heap.setIfInBounds h ob)[k]?=_
    rw[Array.getElem?_setIfInBounds_ne (fun e=>hk (by rw[e];simp))]⟩
  have G:∀ob:Obj,(W.heap.setIfInBounds h ob)[h]?=some ob:=fun ob=>(MapKept.heap_set h1).1;rcases Y01 (k:=k) es.toList m 0 h2 with⟨h3,h4⟩|⟨b',j,e',h3,h4,h5,h6,h7⟩
  · refine⟨{W with heap:=W.heap.setIfInBounds h (.map (es.push {key:=V3 k,val:=mpt (some b),born:=c}) (c+1))},?_,D _,?_⟩
    · have h5:=MapKept.run_findKey (w:=W) hk h4
      simp[Instr.mapUpdate,run_underlying ht,MapKept.run_getObj_map h1,J,h5,MapKept.run_setObj_map _ h1,Result.andThen]
    refine⟨_,_,G _,?_⟩;unfold mst;rw[h3,Array.toList_push,BU,BU,h2];rfl
  rw[AL] at h4;have M:b' =b:=by rcases hb with hb|hb<;>rw[h3] at hb<;>cases hb;rfl
  subst M;have h8:es[j]?=some e' :=by rw[←BZ];exact h5
  have hs:Instr.sameBits 10000 (V3 k) (V3 k)=true:=by unfold V3 Instr.sameBits;exact(MapKept.bytes_beq _ _).2 rfl
  have N:(Instr.keyThatStays (((es[j]?).map (·.key)).getD (V3 k)) (V3 k)).run P W=.ok (V3 k) W:=by
    rw[h8];show(Instr.keyThatStays e'.key (V3 k)).run P W=_
    rw[h6];unfold Instr.keyThatStays;rw[if_pos hs];rfl
  refine⟨{W with heap:=W.heap.setIfInBounds h (.map (es.modify j fun e=>{e with key:=V3 k,val:=mpt (some b')}) c)},?_,D _,?_⟩
  · have h9:=MapKept.run_findKey (w:=W) hk h4
    simp[Instr.mapUpdate,run_underlying ht,MapKept.run_getObj_map h1,J,h9,N,MapKept.run_setObj_map _ h1,Result.andThen]
  refine⟨_,_,G _,?_⟩;unfold mst;rw[h3,←h2];apply List.ext_getElem?;intro i;rw[BO,BO,BZ,BZ,Array.getElem?_modify]
  split
  · subst_vars;rw[h8,←h6,←h7];rfl
  rfl
theorem MMU (i:Nat){x y z:Operand}(hb:mlk m k=none∨mlk m k=some b)(ht:P.underlying tm=some (.map kt et))(hk:P.underlying kt=some .string)(hh:wpM P ops (.L Q) F w H' r a')(hi:H[i]?=some (J24 h m):=by exact rfl)(hw:Region.wanted o (yielded ops a.tmps)=true:=by exact rfl)
    (ho:o.op=.mapUpdate tm x y z:=by exact rfl) (hx:a.eval x=.map (some h):=by exact rfl) (hy:a.eval y=V3 k:=by exact rfl) (hz:a.eval z=mpt (some b):=by exact rfl)
    (hH:H.set i (J24 h (mst m k b))=H' :=by dsimp only[sB,sC];first|done|exact rfl) (hp:a.put o.dst undef=a' :=by first|exact pl (by dsimp only[mB,mC];first|done|exact rfl)|exact pn|exact rfl):wpM P ops (.L Q) F w H (o::r) a:=by
  subst hp hH;intro W hS;obtain⟨W',h1,h2,h3⟩:=Y5g (k:=k) (b:=b) (hS.at_ hi).1 ht hk hb;have hr:(AQ a.eval o).run P W=.ok .skip W' :=by simp[AQ,ho,hx,hy,hz,h1,Ad]
  show wpList P ops Q (o::r) a W;unfold wpList;rw[if_pos hw];refine .inl ?_;unfold AT.wp;rw[hr];exact hh W' (hS.set hi rfl h2 (fun k hk _=>hk) (Q4c h3) (fun k hk _=>hk) (.inr rfl) (fun _ _ e=>by cases e))
theorem MMN {t:TypeId}{a' :Nat→Act}(hh:∀b,wpM P ops (.L Q) F w (J24 b []::H) r (a' b))(ht:H.all (SH.tyOk (J24 0 []))=true:=by exact rfl)(hw:Region.wanted o (yielded ops a.tmps)=true:=by exact rfl)(ho:o.op=.makeMap t none:=by exact rfl)
    (hp:∀b,a.put o.dst (.map (some b))=a' b:=by intro b;first|exact pl (by dsimp only[mB,mC];first|done|exact rfl)|exact pn|exact rfl):wpM P ops (.L Q) F w H (o::r) a:=by
  intro W hS;refine J38 hw (v:=.map (some W.heap.size)) (W:=W.alloc (.map #[] 0)) (by simp[AQ,ho,Instr.makeMap,Ad]) ?_;rw[hp];have hK:Q47 W.heap.size [] (W.alloc (.map #[] 0)):=⟨#[],0,(MapKept.heap_alloc W _).1,rfl⟩
  exact hh _ _ (hS.new (x:=J24 W.heap.size []) (Q1w _ _) (Q4c hK) (fun k hk=>by rw[Ae.1 hk];exact AJ _) rfl ht)
end
end

section
theorem J9l {P:AC}{ops:Array AT}{K:Act→AA→Prop}{F:List Nat}{w:AA}{G H:List As}{t:Tr}{a:Act}{p:Prop}(hp:∀W,SH F w W H→p)(h:p→wpP P ops K F w G H t a):wpP P ops K F w G H t a:=⟨fun W hS=>(h (hp W hS)).1 W hS,fun W hS=>(h (hp W hS)).2 W hS⟩
structure En where
  ep:Nat
  ver:Nat
  u:AB
  x:List UInt8
structure Ac where
  b:Nat
  l:List UInt8
  ix:Nat
  pf:Nat
  mv:AB
  es:List En
structure Pv where
  lu:AB
  xu:AB
  l:List UInt8
  x:List UInt8
abbrev enF (e:En):Array AB:=Q2 [.c (.int .i64 (e.ep:Int)),.c (.int .i64 (e.ver:Int)),.c e.u]
def enC (e:En):List AB:=fcs [.c (.int .i64 (e.ep:Int)),.c (.int .i64 (e.ver:Int)),.c e.u]
abbrev acF (a:Ac):Array AB:=Q2 [.a 32 a.ix,.a 80 a.pf,.c a.mv]
abbrev pvF (p:Pv):Array AB:=Q2 [.c p.lu,.c p.xu]
def pvC (p:Pv):List AB:=fcs [.c p.lu,.c p.xu]
theorem Y5f {ps:List Pv}:∀e∈ps.map pvC,e.length=2:=fun e he=>by obtain⟨y,_,rfl⟩:=List.mem_map.1 he;rfl
theorem V77 {e:En}:∀(i:Nat) (v:AB),(enF e)[i]?=some v→(enC e)[i]?=some v:=fun i v h=>by unfold enC;rw[←Q41,BZ];exact h
theorem V7a {p:Pv}:∀(i:Nat) (v:AB),(pvF p)[i]?=some v→(pvC p)[i]?=some v:=fun i v h=>by unfold pvC;rw[←Q41,BZ];exact h
theorem Z9y {t:AD}{k:Nat}{w W:AA}{v:AB}{es:List (List AB)}(h:Row t k w v es)(e:∀b,v.ownBlock=some b→W.heap[b]?=w.heap[b]?):Row t k W v es:=by
  refine⟨⟨h.1.1,h.1.2.imp id ?_⟩,h.2⟩;rintro⟨g,G,D,rfl,hb,hh,r⟩;exact⟨g,G,D,rfl,hb,by rw[e g rfl];exact hh,r⟩
theorem Z9z {w W:AA}{b:Nat}{c:Array AB}{t:AD}(h:Blk w b c t)(e:W.heap[b]?=w.heap[b]?):Blk W b c t:=e.trans h
def acK (acs:List Ac)(W:AA):Prop:=(∀a∈acs,Blk W a.b (acF a) 94)∧(acs.map (·.b)).Nodup
abbrev acT (acs:List Ac):As:=.m (some 94) (acs.map (·.b)) (acK acs)
theorem J8y {acs:List Ac}{w:AA}(h:acK acs w):(acT acs).holds w:=by
  refine⟨h,fun k hk=> ?_,fun k hk=> ?_,fun W' _ e=>⟨fun a ha=>Z9z (h.1 a ha) (e a.b (List.mem_map.2 ⟨a,ha,rfl⟩)),h.2⟩⟩
  · obtain⟨a,ha,rfl⟩:=List.mem_map.1 hk;exact V8 (h.1 a ha)
  obtain⟨a,ha,rfl⟩:=List.mem_map.1 hk;exact As.tyOf (x:=.b a.b (acF a) 94) (h.1 a ha) rfl a.b (by simp[As.foot])
def K2n (acs:List Ac):List Nat:=acs.flatMap fun a=>a.mv.ownBlock.toList
def enK (acs:List Ac)(W:AA):Prop:=(∀a∈acs,Row 97 3 W a.mv (a.es.map enC))∧acs.Pairwise fun a b=> ∀k∈a.mv.ownBlock.toList,k∉b.mv.ownBlock.toList
abbrev enT (acs:List Ac):As:=.m (some 97) (K2n acs) (enK acs)
theorem J8z {acs:List Ac}{w:AA}(h:enK acs w):(enT acs).holds w:=by
  refine⟨h,fun k hk=> ?_,fun k hk=> ?_,fun W' _ e=>⟨fun a ha=>Z9y (h.1 a ha) fun b hb=>e b (List.mem_flatMap.2 ⟨a,ha,by rw[hb];simp⟩),h.2⟩⟩
  · obtain⟨a,ha,h1⟩:=List.mem_flatMap.1 hk;exact As.lt (x:=.r 97 3 a.mv (a.es.map enC)) (h.1 a ha) k h1
  obtain⟨a,ha,h1⟩:=List.mem_flatMap.1 hk;exact As.tyOf (x:=.r 97 3 a.mv (a.es.map enC)) (h.1 a ha) rfl k h1
def Q1t (bs:List (AB×List UInt8)):List Nat:=bs.flatMap fun b=>(sb b.1 b.2).toList
def byK (bs:List (AB×List UInt8))(W:AA):Prop:=∀b∈bs,Sl W b.1 b.2
abbrev byT (bs:List (AB×List UInt8)):As:=.p (Q1t bs) (byK bs)
theorem Q65 {bs:List (AB×List UInt8)}{w:AA}(h:byK bs w):(byT bs).holds w:=by
  refine⟨h,fun k hk=> ?_,fun W' _ e b hb=>J77 (h b hb) fun k hk=>e k (List.mem_flatMap.2 ⟨b,hb,by rw[hk];simp⟩)⟩;obtain⟨b,hb,h1⟩:=List.mem_flatMap.1 hk;exact Sl.lt (h b hb) k (As.mem_toList h1)
def Q2y (rs:List (AB×List Pv)):List Nat:=rs.flatMap fun r=>fbR r.1 (r.2.map pvC)
def rwK (rs:List (AB×List Pv))(W:AA):Prop:=∀r∈rs,RR 2 W r.1 (r.2.map pvC)
abbrev rwT (rs:List (AB×List Pv)):As:=.p (Q2y rs) (rwK rs)
theorem Q66 {rs:List (AB×List Pv)}{w:AA}(h:rwK rs w):(rwT rs).holds w:=by
  have h1:∀r∈rs,(As.p (fbR r.1 (r.2.map pvC)) fun W=>RR 2 W r.1 (r.2.map pvC)).holds w:=fun r hr=>RR.pholds (by decide) Y5f (h r hr);refine⟨h,fun k hk=> ?_,fun W' hs e r hr=>(h1 r hr).2.2 W' hs fun k hk=>e k (List.mem_flatMap.2 ⟨r,hr,hk⟩)⟩;obtain⟨r,hr,h2⟩:=List.mem_flatMap.1 hk;exact(h1 r hr).2.1 k h2
def taK (ts:List TR)(us:List AB)(W:AA):Prop:=ts.length=us.length∧∀(i:Nat) (T:TR) (u:AB),ts[i]?=some T→us[i]?=some u→TA W T u
abbrev taT (ts:List TR)(us:List AB):As:=.t 163 (taK ts us)
theorem Q67 {ts:List TR}{us:List AB}{w:AA}(h:taK ts us w):(taT ts us).holds w:=
  ⟨h,fun W' hs e=>⟨h.1,fun i T u h1 h2=>(h.2 i T u h1 h2).keep e⟩⟩
theorem SH.byadd {F:List Nat}{w W:AA}{H:List As}{bs:List (AB×List UInt8)}{v u:AB}{l x:List UInt8}(h:SH F w W (.o v l:: .o u x::byT bs::H)):SH F w W (byT (bs++[(v,l),(u,x)])::H):=by
  have h1:=(h.own (i:=0) rfl).sl;have h2:=(h.own (i:=1) rfl).sl;have h3:byK bs W:=(h.at_ (i:=2) rfl).1;refine SH.foldF (N:=[.o v l,.o u x,byT bs]) h (Q65 fun z hz=> ?_) fun k hk=> ?_
  · rcases Ar.1 hz with hz|hz
    · exact h3 z hz
    rcases AY.1 hz with rfl|hz
    · exact h1
    rw[Ae.1 hz];exact h2
  obtain⟨z,hz,h4⟩:=List.mem_flatMap.1 hk;rcases Ar.1 hz with hz|hz
  · exact⟨byT bs,by simp,fun T K e=>(by cases e),List.mem_flatMap.2 ⟨z,hz,h4⟩⟩
  rcases AY.1 hz with rfl|hz
  · exact⟨.o v l,by simp,fun T K e=>(by cases e),by rw[show(As.o v l).foot=v.ownBlock.toList from rfl,J3d (As.mem_toList h4)];simp⟩
  rw[Ae.1 hz] at h4;exact⟨.o u x,by simp,fun T K e=>(by cases e),by rw[show(As.o u x).foot=u.ownBlock.toList from rfl,J3d (As.mem_toList h4)];simp⟩
structure LD where
  p:Nat
  h:Nat
  uid:AB
  wv:AB
  pv:AB
  tv:AB
  lv:AB
  acs:List Ac
  wps:List Pv
  pvs:List (AB×List Pv)
  tus:List AB
  bs:List (AB×List UInt8)
abbrev Y00 (D:DD)(y:LD):Array AB:=Q2 [.c y.uid,.a 32 D.vk,.a 32 D.bk,.c (.int .i64 (D.L:Int)),.c (.int .i64 (D.P:Int)),.c (.int .i64 (D.E:Int)),.c (.map (some y.h)),.c y.wv,.c y.pv,.c y.tv,.c y.lv]
def J0j (acs:List Ac):List (List UInt8×Nat):=acs.map fun a=>(a.l,a.b)
abbrev J28 (v:AB):List AB:=[v]
abbrev J5y (r:AB×List Pv):List AB:=[r.1]
abbrev ldL (D:DD)(y:LD):List As:=[.b y.p (Y00 D y) 81,J24 y.h (J0j y.acs),acT y.acs,enT y.acs,.r 84 2 y.wv (y.wps.map pvC),.r 77 1 y.pv (y.pvs.map J5y),.r 82 1 y.tv (y.tus.map J28),.r 23 32 y.lv (D.links.map J0d),byT y.bs,rwT y.pvs,taT D.trees y.tus]
abbrev pvP (p:Pv):J5i:=(p.l,p.x)
structure LOk (D:DD)(y:LD):Prop where
  w:y.wps.map pvP=D.waits
  p:y.pvs.map (fun r=>r.2.map pvP)=D.puts
  a:y.acs.map (·.l)=D.labs
  n:∀a∈y.acs,a.ix=ixN D.vk a.l∧a.pf=pfN D.vk a.l
  e:∀a∈y.acs,a.es.map (fun e=>(e.ep,e.ver,e.x))=(D.made.filter fun m=>decide (m.l=a.l)).map fun m=>(m.ep,m.ver,m.x)
  i:(y.uid,D.id)∈y.bs
  bw:∀q∈y.wps,(q.lu,q.l)∈y.bs∧(q.xu,q.x)∈y.bs
  bp:∀r∈y.pvs,∀q∈r.2,(q.lu,q.l)∈y.bs∧(q.xu,q.x)∈y.bs
  be:∀a∈y.acs,∀q∈a.es,(q.u,q.x)∈y.bs
structure DOk (D:DD):Prop where
  id1:1≤D.id.length
  id2:D.id.length≤16
  l1:1≤D.L
  l2:D.L≤64
  p1:1≤D.P
  p2:D.P≤16
  e1:1≤D.E
  e2:D.E≤32
  ep:D.puts.length≤D.E+1
  zero:D.puts[0]?=some []
  pl:∀ps∈D.puts,ps.length≤D.P
  wl:D.waits.length≤D.P
  ll:D.labs.length≤D.L
  lab:∀l∈D.labs,1≤l.length∧l.length≤32∧erN D.vk l=0
  val:∀q∈D.puts.flatten++D.waits,q.2.length≤64
def DK (D:DD)(y:LD)(w:AA):Prop:=∀x∈ldL D y,x.holds w
section
variable {D : DD} {y : LD} {w : AA}
theorem DK.d (h:DK D y w):Blk w y.p (Y00 D y) 81:=h (.b y.p (Y00 D y) 81) (by simp)
theorem DK.m (h:DK D y w):Q47 y.h (J0j y.acs) w:=(h (J24 y.h (J0j y.acs)) (by simp)).1
theorem DK.ac (h:DK D y w):acK y.acs w:=(h (acT y.acs) (by simp)).1
theorem DK.en (h:DK D y w):enK y.acs w:=(h (enT y.acs) (by simp)).1
theorem DK.wt (h:DK D y w):Row 84 2 w y.wv (y.wps.map pvC):=h (.r 84 2 y.wv (y.wps.map pvC)) (by simp)
theorem DK.tr (h:DK D y w):Row 82 1 w y.tv (y.tus.map J28):=h (.r 82 1 y.tv (y.tus.map J28)) (by simp)
theorem DK.lk (h:DK D y w):Row 23 32 w y.lv (D.links.map J0d):=h (.r 23 32 y.lv (D.links.map J0d)) (by simp)
theorem DK.by (h:DK D y w):byK y.bs w:=(h (byT y.bs) (by simp)).1
theorem DK.rw (h:DK D y w):rwK y.pvs w:=(h (rwT y.pvs) (by simp)).1
theorem DK.ta (h:DK D y w):taK D.trees y.tus w:=(h (taT D.trees y.tus) (by simp)).1
end
theorem DK.of {D:DD}{y:LD}{F:List Nat}{w W:AA}{R:List As}(h:SH F w W (ldL D y++R)):DK D y W:=fun x hx=>h.all x (Ar.2 (.inl hx))
end

section
section
variable {w : AA} {o : AT} {a : Act} {x y z : Operand} {t : AD} {l : List UInt8}
end
theorem Y1p {w:AA}{v:AB}{l:List UInt8}(h:Own w v l)(hl:0<l.length):∃g,v.ownBlock=some g:=by
  rcases h.2 with⟨rfl,hn⟩|⟨g',G,D,rfl,_⟩
  · first|omega|(simp at hn;omega)|(subst hn;simp at hl)
  exact⟨g',rfl⟩
theorem MSm (i:Nat){ops:Array Oper}{Q:Exit→Act→World→Prop}{F:List Nat}{w:World}{H H' :List As}{r:List Oper}{o:Oper}{a a' :Act}{x:Operand}{v:Value}{l:List UInt8}(hl:0<l.length)(h:wpM Tryz.prog ops (.L Q) F w H' r a')(hi:H[i]?=some (.o v l):=by exact rfl)(hw:Region.wanted o (yielded ops a.tmps)=true:=by exact rfl)
    (ho:o.op=.convert 22 22 x:=by exact rfl) (hx:a.eval x=v:=by exact rfl) (hH:H.set i (.s v l)=H' :=by dsimp only[sB,sC];first|done|exact rfl) (hp:a.put o.dst v=a' :=by first|exact pl (by dsimp only[mB,mC];first|done|exact rfl)|exact pn|exact rfl):wpM Tryz.prog ops (.L Q) F w H (o::r) a:=by
  subst hp hH;intro W hS;obtain⟨g,hg⟩:=Y1p (hS.own hi) hl;refine Y15 (hS.own hi) hg hw ho hx fun W' hO hs=>h W' ?_
  exact hS.set (x:=.o v l) (y:=.s v l) hi rfl hO (fun k hk _=>hk) hs (fun k hk _=>by
    have:=J3d (As.mem_toList hk);show k∈v.ownBlock.toList;rw[this];simp) (.inl rfl) (fun _ _ e=>by cases e)
end
end Go.Proofs.YtpljgkofbfeelaaGreatDoor

/- Contracts and plain laws for custumalPast_holds. Conditions: the tables hold their numbers. -/
import Derived.Lib.AppendZeros
import Derived.Test.YteehbddkcnkhfaaGreatDoorJ6
open Go.RowKit
set_option linter.unusedSimpArgs false
set_option linter.unusedVariables false
namespace Go.Proofs.YteehbddkcnkhfaaGreatDoor
section
theorem Y5z (n:Nat):(Builtin.zeroCells (Value.int .u8 0).cells n).toList=bs8 (List.replicate n 0):=by
  simp[Builtin.zeroCells,bs8,Value.cells,List.map_replicate,Nat.mod_one,List.map_const']
theorem J84 {P:Program}(w:World)(t tn ty e:TypeId)(i:TypeInfo)(k:IntKind)(ht:P.underlying t=some (.slice e))(htn:P.underlying tn=some (.int k))(hi:P.info? e=some i)(hz:i.zero=some (.int .u8 0))(hsz:i.size=1)(hby:i.bytes=1)
    (v:Value) (n:Nat) (xs:List Value) (hown:w.ownsRow 0 e 1 v n xs) (m:Nat) (hm:0<m) (hlen:n+m≤140737488355328):
    ∃v' w',(Builtin.append_ #[t,tn] ty #[v,.int .i64 (m:Int)]).run P w=.ok v' w' ∧w'.ownsRow 0 e 1 v' (n+m) (xs++bs8 (List.replicate m 0))∧w.grownBy w' v.ownBlock∧(v'.ownBlock=v.ownBlock∨v'.ownBlock=some w.heap.size):=by
  have hlen' :(xs++bs8 (List.replicate m 0)).length=(n+m)*1:=by rw[List.length_append,hown.1,U0,List.length_replicate];omega
  have N:∀(old:Nat),old<n+m→∀(α:Option Nat),
      (w.drew.alloc (.cells (xs.toArray++(bs8 (List.replicate m 0)).toArray++Builtin.zeroCells (Value.int .u8 0).cells (grownCap w (n+m) old e-(n+m))) e)).ownsRow 0 e 1
        (.slice (some ⟨w.heap.size,0,none⟩) (n+m) (grownCap w (n+m) old e)) (n+m) (xs++bs8 (List.replicate m 0))∧
      w.grownBy (w.drew.alloc (.cells (xs.toArray++(bs8 (List.replicate m 0)).toArray++Builtin.zeroCells (Value.int .u8 0).cells (grownCap w (n+m) old e-(n+m))) e)) α:=by
    intro old ho α;have β:=grownCap_ge w (n+m) old e;have R:grownCap w (n+m) old e≤maxLen:=grownCap_le_maxLen w (n+m) old e (by unfold maxLen;omega);refine⟨⟨hlen',.inr ⟨w.heap.size,_,_,rfl,Nat.zero_le _,heap_alloc_new w.drew _,β,R,?_,?_⟩⟩,⟨rfl,rfl,rfl,by simp,fun k hk _=>_root_.Go.heap_alloc_old w.drew _ (by simpa using hk)⟩⟩
    · simp only[Array.size_append,List.size_toArray,size_zeroCells,hown.1,U0,List.length_replicate,Value.cells,List.size_toArray]
      simp;omega
    · simp only[Array.toList_append,List.append_assoc]
      rw[←List.append_assoc,←hlen'];exact List.take_left
  have hw:IntKind.i64.wrap (m:Int)=m:=by rw[IntKind.wrap_i64];omega
  have V:¬((m:Int)<0):=by omega
  have S:¬(281474976710656<(m:Int)):=by omega
  have T:Builtin.zeroCells (Value.int .u8 0).cells m=(bs8 (List.replicate m 0)).toArray:=Array.toList_inj.1 (Y5z m);rcases hown.2 with⟨rfl,rfl⟩|⟨g,D,M,rfl,_,hg,ε,R,γ,X⟩
  · have hx:xs=[]:=List.eq_nil_of_length_eq_zero (by simpa using hown.1)
    subst hx;have hr:=Lib.run_append_nil_zeros (P:=P) w t tn ty e i (.int .u8 0) .i64 k ht htn hi hz m hm (by omega) (by omega) (by rw[hby];omega);have G:=N 0 (by omega) (Value.ownBlock (.slice none 0 0));simp only[Nat.zero_add,List.nil_append,Array.empty_append] at G⊢;rw[T] at hr;exact⟨_,_,hr,by simpa using G.1,G.2,.inr rfl⟩
  by_cases J:n+m≤D
  · have Z:=run_storeCells_at P g (n*1) e (bs8 (List.replicate m 0)) 0 M w hg (by rw[U0,List.length_replicate,γ];simp;omega) (Q62 _)
    simp only[Nat.add_zero,Nat.mul_one] at Z;refine⟨.slice (some ⟨g,0,none⟩) (n+m) D,w.setRow g (M.toList.take n++bs8 (List.replicate m 0)++M.toList.drop (n+(bs8 (List.replicate m 0)).length)).toArray,?_,?_,?_,.inl rfl⟩
    · have U:m≠0:=by omega
      simp[Builtin.append_,run_underlying ht,run_underlying htn,sizeOf,typeInfo,zeroValue,hi,hz,asInt,asIntOf,hw,V,hby,S,hsz,U,J,T,Addr.add_lit,Z]
    · refine⟨hlen',.inr ⟨g,D,_,rfl,Nat.zero_le _,setRow_heap w g M _ e _ hg,J,R,?_,?_⟩⟩
      · simp only[List.size_toArray,List.length_append,List.length_take,List.length_drop,Array.length_toList,U0,List.length_replicate]
        omega
      have ht' :M.toList.take n=xs:=by simpa using X
      rw[ht',←hlen'];exact List.take_left
    exact⟨rfl,rfl,rfl,by simp,fun k _ hk=>setRow_other w g k _ (fun e=>hk (by simp[Value.ownBlock,e]))⟩
  have Y:∀j u,xs[j]?=some u→w.cell? ((⟨g,0,none⟩:Addr).add j)=some u:=hown.cells (g:=g) rfl;have δ:=run_firstCells_some (P:=P) w.drew 1 n ⟨g,0,none⟩ n D xs hown.1 (by simpa using Y);have G:=N D (by omega) (Value.ownBlock (.slice (some ⟨g,0,none⟩) n D));have h63' :¬(9223372036854775807<((n:Int)+(m:Int))):=by omega
  have hf:=growslice_fits (need:=n+m) (old:=D) (bytes:=1) (by omega) (by omega);have h48' :¬(281474976710656<Builtin.nextslicecap (n+m) D):=by omega
  refine⟨_,_,?_,G.1,G.2,.inr rfl⟩;have U:m≠0:=by omega
  simp[Builtin.append_,run_underlying ht,run_underlying htn,sizeOf,typeInfo,zeroValue,hi,hz,asInt,asIntOf,hw,V,hby,S,hsz,U,J,h63',h48',Question.forced,T,δ,newRow,grownCap,Array.append_assoc]
  congr 2
  simp[←List.append_toArray]
theorem Q8q {ops:Array Oper}{Q:Exit→Act→World→Prop}{w:World}{l:List Oper}{o:Oper}{a:Act}{s x:Operand}{v:Value}{xs:List UInt8}{m:Nat}(hm:0<m)(hw:Region.wanted o (yielded ops a.tmps)=true)
    (ho:o.op=.call {callee:=.builtin .append,args:= #[s,x],argTypes:= #[22,3]}) (hs:a.eval s=v) (hx:a.eval x=.int .i64 (m:Int)) (hown:Own w v xs) (hlen:xs.length+m≤140737488355328)
    (h:∀v' W,Own W v' (xs++List.replicate m 0)→Off v.ownBlock.toList w W→Of v'.ownBlock v.ownBlock w.heap.size→wpList Tryz.prog ops Q l (a.put o.dst v') W):wpList Tryz.prog ops Q (o::l) a w:=by
  obtain⟨i,hi,hz,G,J⟩:=info_parts J6w;obtain⟨v',W,D,h1,h2,h3⟩:=J84 (P:=Tryz.prog) w 22 3 o.type 5 i .i64 Tryz.underlying22 Tryz.underlying3 hi hz G J v xs.length (bs8 xs) hown m hm hlen;refine J5i hw (v:=v') (W:=W) ?_ (h v' W ?_ (J8i h2) (Z8d h3))
  · unfold execOp
    simp only[ho,resolve,invoke,builtin,Sem.run_bind,Sem.run_pure,Result.andThen_ok,List.map_toArray,List.map_cons,List.map_nil,hs,hx,D]
  unfold Own;rw[List.length_append,J99,List.length_replicate];exact h1
end

section

section
variable {w : World} {o : Oper} {a : Act}
theorem Q6z {P:Program}{t e:TypeId}{k kk:IntKind}{m j:Nat}{f:Nat→Int}{x y:Operand}(hj:j<m)(ht:P.underlying t=some (.array m e))(he:(P.info? e).map (·.size)=some 1)(hg:(isAgg e).run P w=.ok false w)(ho:o.op=.index t x y)(hx:a.eval x=.agg (J1 kk m f))(hy:a.eval y=.int k (j:Int)):
    (execOp a.eval o).run P w=.ok (.value (.int kk (f j))) w:=by
  cases hq:P.info? e with
  |none=>simp[hq] at he
  |some i=>
    have hs:i.size=1:=by simpa[hq] using he
    have hp:=V3 kk m f j hj;simp[execOp,ho,hx,hy,Instr.index,asIntOf,part,run_underlying ht,Sem.run_bind,sizeOf,typeInfo,hq,hs,hj,hg,hp]
end
def Q3r:Value→Nat
  | .slice _ n _=>n
  |_=>0
theorem Z3l {w:World}{v:Value}{l:List UInt8}(h:Own w v l):Q3r v=l.length:=by
  obtain⟨A,c,rfl,_⟩:=h.len;rfl
def u8 (n:Nat):UInt8:=UInt8.ofNat n
theorem V33 (n:Nat):(u8 n).toNat=n % 256:=UInt8.toNat_ofNat'
theorem J6n (n:Nat):((u8 n).toNat:Int)=(n:Int) % 256:=by rw[V33];rfl
def be8 (X:Nat):List UInt8:=[u8 (X / 72057594037927936),u8 (X / 281474976710656),u8 (X / 1099511627776),u8 (X / 4294967296),u8 (X / 16777216),u8 (X / 65536),u8 (X / 256),u8 X]
def w8 (x:Int):Int:=IntKind.wrap .u8 x
theorem Q2j (ps:List (List UInt8))(i:Nat):(ps.take i).flatten.length≤ps.flatten.length:=by
  have:ps.flatten=(ps.take i).flatten++(ps.drop i).flatten:=by rw[←List.flatten_append,List.take_append_drop]
  rw[this,List.length_append];omega
theorem J50 {ps:List (List UInt8)}{i:Nat}{l:List UInt8}(h:ps[i]?=some l):(ps.take (i+1)).flatten=(ps.take i).flatten++l:=by
  rw[List.take_add_one,h];simp
theorem Z3o (L:List UInt8)(X:Nat):L++[u8 (X / 72057594037927936)]++[u8 (X / 281474976710656)]++[u8 (X / 1099511627776)]++[u8 (X / 4294967296)]++[u8 (X / 16777216)]++[u8 (X / 65536)]++[u8 (X / 256)]++[u8 X]=L++be8 X:=by
  simp only[be8,List.append_assoc,List.cons_append,List.nil_append]
theorem J80 {w:World}{v:Value}{l:List UInt8}(h:Sl w v l):Q3r v=l.length:=by
  obtain⟨A,c,rfl,_⟩:=h;rfl
theorem J2k {w:World}{o:Oper}{a:Act}{x:Operand}{p:Int}(ho:o.op=.convert 99 5 x)(hx:a.eval x=.int .u64 p):(execOp a.eval o).run Tryz.prog w=.ok (.value (.int .u8 (w8 p))) w:=by
  simp[execOp,ho,hx,convert,run_underlying Tryz.underlying5,run_underlying Tryz.underlying99,Sem.run_bind,Conv.intToInt,w8]
theorem J38 (X n D:Nat)(h:2^n=D):w8 (sr ((X:Nat):Int) n)=((u8 (X / D)).toNat:Int):=by
  subst h;unfold w8 sr;rw[J6n,IntKind.wrap_u8,Int.natCast_ediv,Int.natCast_pow];rfl
theorem Z3m (X:Nat):w8 (sr ((X:Nat):Int) 0)=((u8 X).toNat:Int):=by rw[J38 X 0 1 (by decide),Nat.div_one]
theorem Y5o {w:World}:(isAgg 99).run Tryz.prog w=.ok false w:=by
  simp[isAgg,run_underlying Tryz.underlying99,Sem.run_bind]
theorem Y6o (x:Int):0≤w8 x∧w8 x<256:=by unfold w8;rw[IntKind.wrap_u8];omega
theorem Z5t {P:Program}{w:World}{o:Oper}{a:Act}{x y:Operand}{t t' :TypeId}{k:IntKind}{p:Int}{n:Nat}(hn:n≤64)(ho:o.op=.binOp .shr t x y t')(hx:a.eval x=.int .i64 p)(hy:a.eval y=.int k (n:Int)):(execOp a.eval o).run P w=.ok (.value (.int .i64 (p / 2^n))) w:=by
  have h:min ((n:Int)).toNat IntKind.i64.bits=n:=by rw[Int.toNat_natCast];exact Nat.min_eq_left hn
  simp only[execOp,ho,hx,hy,eqGuard,binOp,Sem.run_bind];simp[Op.shift,h,go_sem,Sem.run_bind]
theorem Q74 {w:World}{o:Oper}{a:Act}{x:Operand}{p:Int}(ho:o.op=.convert 3 5 x)(hx:a.eval x=.int .i64 p):(execOp a.eval o).run Tryz.prog w=.ok (.value (.int .u8 (w8 p))) w:=by
  simp[execOp,ho,hx,convert,run_underlying Tryz.underlying5,run_underlying Tryz.underlying3,Sem.run_bind,Conv.intToInt,w8]
section
variable {P : Program} {w : World} {o : Oper} {a : Act} {x y : Operand} {t t' : TypeId} {p q : Int}
theorem Z5u (ho:o.op=.binOp .and t x y t')(hx:a.eval x=.int .i64 p)(hy:a.eval y=.int .i64 q):(execOp a.eval o).run P w=.ok (.value (.int .i64 (bits .and .i64 p q))) w:=by
  simp only[execOp,ho,hx,hy];rfl
end
end

section
section
variable {w : World} {o : Oper} {a : Act}
theorem Y1n:(Tryz.prog.info? 22).map (·.size)=some 1:=by kernel_rfl
theorem Q5k {x y:Operand}{k:IntKind}{ad:Addr}{n c j:Nat}(hj:j<n)(ho:o.op=.indexAddr 168 x y)(hx:a.eval x=.slice (some ad) n c)(hy:a.eval y=.int k (j:Int)):
    (execOp a.eval o).run Tryz.prog w=.ok (.value (.pointer (some (ad.add j)))) w:=by
  have h1:=Y1n;cases hq:Tryz.prog.info? 22 with
  |none=>simp[hq] at h1
  |some i=>
    have hs:i.size=1:=by simpa[hq] using h1
    simp[execOp,ho,hx,hy,Instr.indexAt,asIntOf,run_underlying Tryz.underlying168,Sem.run_bind,sizeOf,typeInfo,hq,hs,hj]
end
end
end Go.Proofs.YteehbddkcnkhfaaGreatDoor

namespace Go.Proofs.YteehbddkcnkhfaaGreatDoor.S8
section
end

section

section
variable {w : World} {o : Oper} {a : Act}
end
section
variable {P : Program} {w : World} {o : Oper} {a : Act} {x y : Operand} {t t' : TypeId} {p q : Int}
end
end

section

def zc (n:Nat):Nat:=(239-n % 128) % 128
def pad (l:List UInt8):List UInt8:=l++[128]++List.replicate (zc l.length) 0++List.replicate 8 0++be8 (8*l.length)
def nb (n:Nat):Nat:=(n+1+zc n+16) / 128
theorem Q6w (n:Nat):(n+1+zc n) % 128=112∧zc n<128:=by unfold zc;omega
theorem V6k {n k:Nat}(h:k<zc n):(n+1+k) % 128≠112:=by unfold zc at h;omega
theorem Z0p (l:List UInt8):(pad l).length=128*nb l.length:=by
  have h:=Q6w l.length;unfold pad nb;simp only[List.length_append,List.length_cons,List.length_nil,List.length_replicate,be8];omega
def Hs (P:List UInt8):Nat→Nat→Int
  |0=>hf
  |j+1=>prs (Hs P j) (bt (P.drop (128*j)))
def ob (H:Nat→Int)(j:Nat):Int:=w8 (sr (H (j / 8)) (8*(7-j % 8)))
def Q4g (H:Nat→Int)(n j:Nat):Int:=if j<n then ob H j else 0
theorem Z5a (H:Nat→Int):Q4g H 0=fun _=>0:=by funext j;unfold Q4g;rw[if_neg (by omega)]
theorem Z5b (H:Nat→Int)(i k:Nat)(hk:k<8):upd (Q4g H (8*i+k)) (8*i+k) (w8 (sr (H i) (8*(7-k))))=Q4g H (8*i+(k+1)):=by
  funext j
  unfold upd Q4g
  by_cases h:j=8*i+k
  · subst h
    rw[if_pos rfl,if_pos (by omega),ob,show(8*i+k) / 8=i by omega,show(8*i+k) % 8=k by omega]
  rw[if_neg h]
  by_cases hl:j<8*i+k
  · rw[if_pos hl,if_pos (by omega)]
  rw[if_neg hl,if_neg (by omega)]
theorem Y09 (H:Nat→Int):J1 .u8 64 (Q4g H 64)=J1 .u8 64 (ob H):=J07 _ _ _ _ fun j hj=>by unfold Q4g;rw[if_pos hj]
def sm (l:List UInt8):Nat→Int:=ob (Hs (pad l) (nb l.length))
theorem Q11 (P:List UInt8)(j:Nat):List.drop 128 (List.drop (128*j) P)=List.drop (128*(j+1)) P:=by
  rw[List.drop_drop];congr 1
theorem Z5c {w:World}{v:Value}{l:List UInt8}(h:Own w v l):Sl w v (List.drop (128*0) l):=h.sl
end

section
set_option maxHeartbeats 4000000
set_option maxRecDepth 100000
attribute [local irreducible] wpList
theorem Y5l (h:Nat→Int)(l:List UInt8)(u:Value)(hl:128≤l.length)(w:World)(hs:Sl w u l)(hG:GS w):Calls Tryz.prog 131 #[.agg (J1 .u64 8 h),u] w fun e w' =>X5 (.agg (J1 .u64 8 (prs h (bt l)))) w w' e:=by
  obtain⟨ad,c,rfl,_⟩:=Z2r hs (by omega);exact Y4h h l ad c hl w hs hG

theorem V6q (ps:List (List UInt8))(A:Option Addr)(c:Nat)(F:List UInt8)(hF:ps.flatten=F)(hlen:F.length≤70368744177664)(hpn:ps.length≤9223372036854775000)(w:World)(hps:∀i l,ps[i]?=some l→∃ad u,A=some ad∧w.cell? (ad.add i)=some u∧Sl w u l)(hG:GS w):
  Calls Tryz.prog 89 #[.slice A ps.length c] w fun e w' =>X5 (.agg (J1 .u8 64 (sm F))) w w' e:=by
 have HG:=Lib.hid hG;have T9:=Lib.hid hps;clear hG hps;have κ:=Z0p F;have Z3:=(Q6w F.length).2;have D:Off [] w w:=Off.refl _ _
 go_enter Tryz.func89,Tryz.ntmps89
 go_upto_region 0 with fail;refine wp_region_lit ?_;refine Ln ?_ (z:=J1 .u8 64 (fun _=>0)) (t:=89);intro K1 W1 G4 hO h_;have T7:=fbn D G4;replace D:=D.o hO;have G:=h_;clear hO h_ G4;refine J5 ?_;go_upto_region 2 with fail;refine wp_region_lit ?_;refine Lv ?_;refine Lv ?_;refine Lw ?_ (v:=.int .i64 0);refine J5 ?_;have J:=Q25 W1;have N:Fr (Value.ownBlock (.slice none 0 0)) w.heap.size []:=Y43;have Y7:Value.ownBlock (.slice none 0 0)≠some K1:=fun e_=>by cases e_
 go_wp2_with fail
 go_loopw [3,15] (fun sv ii wr=> ∃(i:Nat)(bv:Value),(i≤ps.length)∧(bv=sv)∧(ii=.int .i64 (i:Int))∧Off [] w wr∧Blk wr K1 (J1 .u8 64 (fun _=>0)) 89∧Own wr bv ((List.take i ps).flatten)∧Fr (Value.ownBlock bv) w.heap.size []∧(Value.ownBlock bv)≠some K1)
  (fun sv ii _=>ps.length-(intOf ii).toNat)
 case atStart=>exact⟨0,_,Nat.zero_le _,rfl,rfl,D,G,J,N,Y7⟩
 case round=>
  obtain⟨i,bv,hi,rfl,rfl,D,G,J,N,Y7⟩:=hrel;obtain⟨W2,γ⟩:=J67 D;subst γ
  by_cases ξ:i<ps.length
  ·
   obtain⟨l_,Γ⟩:∃l,ps[i]?=some l:=⟨_,List.getElem?_eq_getElem ξ⟩
   obtain⟨R4,u_,T2,R5,N1⟩:=T9.out i l_ Γ;have Y4:(List.take i ps).flatten.length+l_.length≤F.length:=by rw[←hF,←List.length_append,←J50 Γ];exact Q2j _ _
   go_upto_region 3 with fail;refine wp_region_lit ?_;refine Lw ?_ (v:=.bool true);refine J5 ?_;go_upto_region 4 with fail;refine wp_region_lit ?_;refine Lw ?_ (v:=.pointer (some (R4.add i))) (hv:=Q5k (j:=i) ξ rfl (by rw[←T2];rfl) rfl);refine V0d (by rfl) rfl rfl (J0e R5 D.ext) (by kernel_rfl) ?_
   (try simp only[Act.put,mA,mB,mC])
   refine Lv ?_;refine J5 ?_;go_upto_region 5 with fail;refine wp_region_lit ?_;refine Lv ?_;refine Lv ?_;refine J0g (xs:=((List.take i ps).flatten)) (ys:=l_) (by rfl) rfl rfl rfl J (N1.off D f0) (by first|omega|(simp only[List.length_append,List.length_cons,List.length_nil,List.length_replicate];omega)) ?_
   (try simp only[Act.put,mA,mB,mC])
   intro Y1 W3 D0 hO Ξ τ;clear τ;have M3:=J2x Ξ Y7 (Q2 G);have M6:=J3v Ξ N D.size;replace G:=J0n G hO (nmo Y7);replace D:=D.step hO (io N);clear hO Ξ;have J:=D0;clear D0;have N:=M6;have Y7:=M3;refine Lv ?_;refine J5 ?_;go_wp2;go_roundw
   case rel=>exact⟨i+1,_,by omega,rfl,by go_num,D,G,(by rw[J50 Γ];exact J),N,Y7⟩
   case measure=>simp[intOf];omega
  obtain rfl:i=ps.length:=by omega
  rw[List.take_length,hF] at J;go_upto_region 3 with fail;refine wp_region_lit ?_;refine Lw ?_ (v:=.bool false);refine J5 ?_;go_upto_region 7 with fail;refine wp_region_lit ?_;refine Lv ?_;refine J9v (l:=F) (J.sl) (by rfl) rfl rfl ?_
  (try simp only[Act.put,mA,mB,mC])
  refine Lw ?_ (v:=.int .u64 ((F.length:Nat):Int)) (hv:=by go_simp;(try simp only[IntKind.wrap_u64,IntKind.wrap_i64]);(try omega));refine Lw ?_ (v:=.int .u64 ((8*F.length:Nat):Int)) (hv:=by rw[show((8*F.length:Nat):Int)=sl ((F.length:Nat):Int) 3 from(by unfold sl;rw[IntKind.wrap_u64];omega)];exact J3l (n:=3) (by decide) rfl rfl rfl);refine Lv ?_;refine J5 ?_;go_upto_region 8 with fail;refine wp_region_lit ?_;refine Lv ?_;refine LnS ?_ (z:= #[.int .u8 128]) (t:=5) (n:=1) (c:=1);intro N6 W3 T1 hO h_;replace G:=G.o hO;replace J:=Own.off J hO f0;replace D:=D.o hO;have η:Own W3 (.slice (some ⟨N6,0,none⟩) 1 1) [128]:=J2e h_ (by rfl) (by show 1≤maxLen;decide);clear hO h_ T1;refine J0g (xs:=F) (ys:=[128]) (by rfl) rfl rfl rfl J (η.sl) (by first|omega|(simp only[List.length_append,List.length_cons,List.length_nil,List.length_replicate];omega)) ?_
  (try simp only[Act.put,mA,mB,mC])
  intro Z4 W4 G2 hO χ φ;clear φ;have S4:=J2x χ Y7 (Q2 G);have S9:=J3v χ N D.size;replace G:=J0n G hO (nmo Y7);replace D:=D.step hO (io N);clear hO χ;have J:=G2;clear G2;have N:=S9;have Y7:=S4;refine Lv ?_;refine J5 ?_;clear η
  go_wp2_with fail
  go_loopw [3] (fun sv wr=> ∃(k:Nat)(bv:Value),(k≤zc F.length)∧(bv=sv)∧Off [] w wr∧Blk wr K1 (J1 .u8 64 (fun _=>0)) 89∧Own wr bv (F++[128]++List.replicate k 0)∧Fr (Value.ownBlock bv) w.heap.size []∧(Value.ownBlock bv)≠some K1)
   (fun sv _=>F.length+300-Q3r sv)
  case atStart=>exact⟨0,_,Nat.zero_le _,rfl,D,G,(by rw[List.replicate_zero,List.append_nil];exact J),N,Y7⟩
  case round=>
   obtain⟨k,bv,hk,rfl,D,G,J,N,Y7⟩:=hrel;obtain⟨W5,γ⟩:=J67 D;subst γ;have lb:=Z3l J
   by_cases hz:k<zc F.length
   ·
    have N5:=V6k hz;go_upto_region 9 with fail;refine wp_region_lit ?_;refine Lv ?_;refine J9v (l:=(F++[128]++List.replicate k 0)) (J.sl) (by rfl) rfl rfl ?_
    (try simp only[Act.put,mA,mB,mC])
    refine Lw ?_ (v:=.int .i64 (((F.length+1+k) % 128:Nat):Int)) (hv:=by go_simp;(try simp only[List.length_append,List.length_cons,List.length_nil,List.length_replicate]);rw[Int.tmod_eq_emod_of_nonneg (by omega)];omega);refine Lw ?_ (v:=.bool true) (hv:=by go_simp;omega);refine J5 ?_;go_upto_region 10 with fail;refine wp_region_lit ?_;refine Lv ?_;refine LnS ?_ (z:= #[.int .u8 0]) (t:=5) (n:=1) (c:=1);intro N0 W6 M9 hO h_;replace G:=G.o hO;replace J:=Own.off J hO f0;replace D:=D.o hO;have Ψ:Own W6 (.slice (some ⟨N0,0,none⟩) 1 1) [0]:=J2e h_ (by rfl) (by show 1≤maxLen;decide);clear hO h_ M9;refine J0g (xs:=(F++[128]++List.replicate k 0)) (ys:=[0]) (by rfl) rfl rfl rfl J (Ψ.sl) (by first|omega|(simp only[List.length_append,List.length_cons,List.length_nil,List.length_replicate];omega)) ?_
    (try simp only[Act.put,mA,mB,mC])
    intro Y3 W7 D8 hO Ω σ;clear σ;have R9:=J2x Ω Y7 (Q2 G);have R2:=J3v Ω N D.size;replace G:=J0n G hO (nmo Y7);replace D:=D.step hO (io N);clear hO Ω;have J:=D8;clear D8;have N:=R2;have Y7:=R9;refine Lv ?_;refine J5 ?_;have la:=Z3l J;simp only[List.length_append,List.length_cons,List.length_nil,List.length_replicate] at la lb;go_wp2;go_roundw
    case rel=>exact⟨k+1,_,by omega,rfl,D,G,(by rw[List.replicate_succ',←List.append_assoc];exact J),N,Y7⟩
    case measure=>simp only[la,lb];omega
   obtain rfl:k=zc F.length:=by omega
   have N5:=(Q6w F.length).1;go_upto_region 9 with fail;refine wp_region_lit ?_;refine Lv ?_;refine J9v (l:=(F++[128]++List.replicate (zc F.length) 0)) (J.sl) (by rfl) rfl rfl ?_
   (try simp only[Act.put,mA,mB,mC])
   refine Lw ?_ (v:=.int .i64 (((F.length+1+zc F.length) % 128:Nat):Int)) (hv:=by go_simp;(try simp only[List.length_append,List.length_cons,List.length_nil,List.length_replicate]);rw[Int.tmod_eq_emod_of_nonneg (by omega)];omega);refine Lw ?_ (v:=.bool false) (hv:=by first|(go_simp;done)|(go_simp;omega));refine J5 ?_;go_upto_region 11 with fail;refine wp_region_lit ?_;refine Lv ?_;refine Q8q (xs:=(F++[128]++List.replicate (zc F.length) 0)) (m:=8) (by decide) (by rfl) rfl rfl rfl J (by first|omega|(simp only[List.length_append,List.length_cons,List.length_nil,List.length_replicate];omega)) ?_
   (try simp only[Act.put,mA,mB,mC])
   intro S5 W6 G7 hO ψ;have M5:=J2x ψ Y7 (Q2 G);have R7:=J3v ψ N D.size;replace G:=J0n G hO (nmo Y7);replace D:=D.step hO (io N);clear hO ψ;have J:=G7;clear G7;have N:=R7;have Y7:=M5;refine Lv ?_;refine J5 ?_
   go_wp2_with fail
   refine wp_loop_rounds 9 ?_;rw[rounds_succ];go_upto_region 15 with fail;refine wp_region_lit ?_;refine Lv ?_;refine Lv ?_;refine Lw ?_ (v:=.int .i64 7);refine Lw ?_ (v:=.int .i64 56);refine Lw ?_ (v:=.int .u64 (sr ((8*F.length:Nat):Int) 56)) (hv:=J12 (n:=56) (by decide) rfl rfl rfl);refine Lw ?_ (v:=.int .u8 ((u8 ((8*F.length) / 72057594037927936)).toNat:Int)) (hv:=by rw[←J38 (8*F.length) 56 72057594037927936 (by decide)];exact J2k rfl rfl);refine LnS ?_ (z:= #[.int .u8 ((u8 ((8*F.length) / 72057594037927936)).toNat:Int)]) (t:=5) (n:=1) (c:=1);intro G0 W7 X hO h_;have V4:∀x,(Value.ownBlock S5)=some x→Value.ownBlock (.slice (some ⟨G0,0,none⟩) 1 1)≠some x:=J98 (Own.lt J) X;replace G:=G.o hO;replace J:=Own.off J hO f0;replace D:=D.o hO;have M:Own W7 (.slice (some ⟨G0,0,none⟩) 1 1) [u8 ((8*F.length) / 72057594037927936)]:=J2e h_ (by rfl) (by show 1≤maxLen;decide);clear hO h_ X;refine J0g (xs:=((F++[128]++List.replicate (zc F.length) 0)++List.replicate 8 0)) (ys:=[u8 ((8*F.length) / 72057594037927936)]) (by rfl) rfl rfl rfl J (M.sl) (by first|omega|(simp only[List.length_append,List.length_cons,List.length_nil,List.length_replicate];omega)) ?_
   (try simp only[Act.put,mA,mB,mC])
   intro S6 W8 V hO S R;clear R;have Y:=J2x S Y7 (Q2 G);have β:=Q0s S V4 (Own.lt M);have α:=J3v S N D.size;replace G:=J0n G hO (nmo Y7);replace M:=Own.off M hO (fo V4);replace D:=D.step hO (io N);clear hO S;have J:=V;clear V;have N:=α;have Y7:=Y;have V4:=β;refine Lv ?_;refine J5 ?_
   go_wp2_with fail
   rw[rounds_succ];go_upto_region 15 with fail;refine wp_region_lit ?_;refine Lv ?_;refine Lv ?_;refine Lw ?_ (v:=.int .i64 6);refine Lw ?_ (v:=.int .i64 48);refine Lw ?_ (v:=.int .u64 (sr ((8*F.length:Nat):Int) 48)) (hv:=J12 (n:=48) (by decide) rfl rfl rfl);refine Lw ?_ (v:=.int .u8 ((u8 ((8*F.length) / 281474976710656)).toNat:Int)) (hv:=by rw[←J38 (8*F.length) 48 281474976710656 (by decide)];exact J2k rfl rfl);clear M V4;refine LnS ?_ (z:= #[.int .u8 ((u8 ((8*F.length) / 281474976710656)).toNat:Int)]) (t:=5) (n:=1) (c:=1);intro D1 W9 X hO h_;have V4:∀x,(Value.ownBlock S6)=some x→Value.ownBlock (.slice (some ⟨D1,0,none⟩) 1 1)≠some x:=J98 (Own.lt J) X;replace G:=G.o hO;replace J:=Own.off J hO f0;replace D:=D.o hO;have M:Own W9 (.slice (some ⟨D1,0,none⟩) 1 1) [u8 ((8*F.length) / 281474976710656)]:=J2e h_ (by rfl) (by show 1≤maxLen;decide);clear hO h_ X;refine J0g (xs:=(((F++[128]++List.replicate (zc F.length) 0)++List.replicate 8 0)++[u8 ((8*F.length) / 72057594037927936)])) (ys:=[u8 ((8*F.length) / 281474976710656)]) (by rfl) rfl rfl rfl J (M.sl) (by first|omega|(simp only[List.length_append,List.length_cons,List.length_nil,List.length_replicate];omega)) ?_
   (try simp only[Act.put,mA,mB,mC])
   intro S2 X3 V hO S R;clear R;have Y:=J2x S Y7 (Q2 G);have β:=Q0s S V4 (Own.lt M);have α:=J3v S N D.size;replace G:=J0n G hO (nmo Y7);replace M:=Own.off M hO (fo V4);replace D:=D.step hO (io N);clear hO S;have J:=V;clear V;have N:=α;have Y7:=Y;have V4:=β;refine Lv ?_;refine J5 ?_
   go_wp2_with fail
   rw[rounds_succ];go_upto_region 15 with fail;refine wp_region_lit ?_;refine Lv ?_;refine Lv ?_;refine Lw ?_ (v:=.int .i64 5);refine Lw ?_ (v:=.int .i64 40);refine Lw ?_ (v:=.int .u64 (sr ((8*F.length:Nat):Int) 40)) (hv:=J12 (n:=40) (by decide) rfl rfl rfl);refine Lw ?_ (v:=.int .u8 ((u8 ((8*F.length) / 1099511627776)).toNat:Int)) (hv:=by rw[←J38 (8*F.length) 40 1099511627776 (by decide)];exact J2k rfl rfl);clear M V4;refine LnS ?_ (z:= #[.int .u8 ((u8 ((8*F.length) / 1099511627776)).toNat:Int)]) (t:=5) (n:=1) (c:=1);intro D4 R6 X hO h_;have V4:∀x,(Value.ownBlock S2)=some x→Value.ownBlock (.slice (some ⟨D4,0,none⟩) 1 1)≠some x:=J98 (Own.lt J) X;replace G:=G.o hO;replace J:=Own.off J hO f0;replace D:=D.o hO;have M:Own R6 (.slice (some ⟨D4,0,none⟩) 1 1) [u8 ((8*F.length) / 1099511627776)]:=J2e h_ (by rfl) (by show 1≤maxLen;decide);clear hO h_ X;refine J0g (xs:=((((F++[128]++List.replicate (zc F.length) 0)++List.replicate 8 0)++[u8 ((8*F.length) / 72057594037927936)])++[u8 ((8*F.length) / 281474976710656)])) (ys:=[u8 ((8*F.length) / 1099511627776)]) (by rfl) rfl rfl rfl J (M.sl) (by first|omega|(simp only[List.length_append,List.length_cons,List.length_nil,List.length_replicate];omega)) ?_
   (try simp only[Act.put,mA,mB,mC])
   intro T8 Z2 V hO S R;clear R;have Y:=J2x S Y7 (Q2 G);have β:=Q0s S V4 (Own.lt M);have α:=J3v S N D.size;replace G:=J0n G hO (nmo Y7);replace M:=Own.off M hO (fo V4);replace D:=D.step hO (io N);clear hO S;have J:=V;clear V;have N:=α;have Y7:=Y;have V4:=β;refine Lv ?_;refine J5 ?_
   go_wp2_with fail
   rw[rounds_succ];go_upto_region 15 with fail;refine wp_region_lit ?_;refine Lv ?_;refine Lv ?_;refine Lw ?_ (v:=.int .i64 4);refine Lw ?_ (v:=.int .i64 32);refine Lw ?_ (v:=.int .u64 (sr ((8*F.length:Nat):Int) 32)) (hv:=J12 (n:=32) (by decide) rfl rfl rfl);refine Lw ?_ (v:=.int .u8 ((u8 ((8*F.length) / 4294967296)).toNat:Int)) (hv:=by rw[←J38 (8*F.length) 32 4294967296 (by decide)];exact J2k rfl rfl);clear M V4;refine LnS ?_ (z:= #[.int .u8 ((u8 ((8*F.length) / 4294967296)).toNat:Int)]) (t:=5) (n:=1) (c:=1);intro G1 S3 X hO h_;have V4:∀x,(Value.ownBlock T8)=some x→Value.ownBlock (.slice (some ⟨G1,0,none⟩) 1 1)≠some x:=J98 (Own.lt J) X;replace G:=G.o hO;replace J:=Own.off J hO f0;replace D:=D.o hO;have M:Own S3 (.slice (some ⟨G1,0,none⟩) 1 1) [u8 ((8*F.length) / 4294967296)]:=J2e h_ (by rfl) (by show 1≤maxLen;decide);clear hO h_ X;refine J0g (xs:=(((((F++[128]++List.replicate (zc F.length) 0)++List.replicate 8 0)++[u8 ((8*F.length) / 72057594037927936)])++[u8 ((8*F.length) / 281474976710656)])++[u8 ((8*F.length) / 1099511627776)])) (ys:=[u8 ((8*F.length) / 4294967296)]) (by rfl) rfl rfl rfl J (M.sl) (by first|omega|(simp only[List.length_append,List.length_cons,List.length_nil,List.length_replicate];omega)) ?_
   (try simp only[Act.put,mA,mB,mC])
   intro R3 X4 V hO S R;clear R;have Y:=J2x S Y7 (Q2 G);have β:=Q0s S V4 (Own.lt M);have α:=J3v S N D.size;replace G:=J0n G hO (nmo Y7);replace M:=Own.off M hO (fo V4);replace D:=D.step hO (io N);clear hO S;have J:=V;clear V;have N:=α;have Y7:=Y;have V4:=β;refine Lv ?_;refine J5 ?_
   go_wp2_with fail
   rw[rounds_succ];go_upto_region 15 with fail;refine wp_region_lit ?_;refine Lv ?_;refine Lv ?_;refine Lw ?_ (v:=.int .i64 3);refine Lw ?_ (v:=.int .i64 24);refine Lw ?_ (v:=.int .u64 (sr ((8*F.length:Nat):Int) 24)) (hv:=J12 (n:=24) (by decide) rfl rfl rfl);refine Lw ?_ (v:=.int .u8 ((u8 ((8*F.length) / 16777216)).toNat:Int)) (hv:=by rw[←J38 (8*F.length) 24 16777216 (by decide)];exact J2k rfl rfl);clear M V4;refine LnS ?_ (z:= #[.int .u8 ((u8 ((8*F.length) / 16777216)).toNat:Int)]) (t:=5) (n:=1) (c:=1);intro D9 R1 X hO h_;have V4:∀x,(Value.ownBlock R3)=some x→Value.ownBlock (.slice (some ⟨D9,0,none⟩) 1 1)≠some x:=J98 (Own.lt J) X;replace G:=G.o hO;replace J:=Own.off J hO f0;replace D:=D.o hO;have M:Own R1 (.slice (some ⟨D9,0,none⟩) 1 1) [u8 ((8*F.length) / 16777216)]:=J2e h_ (by rfl) (by show 1≤maxLen;decide);clear hO h_ X;refine J0g (xs:=((((((F++[128]++List.replicate (zc F.length) 0)++List.replicate 8 0)++[u8 ((8*F.length) / 72057594037927936)])++[u8 ((8*F.length) / 281474976710656)])++[u8 ((8*F.length) / 1099511627776)])++[u8 ((8*F.length) / 4294967296)])) (ys:=[u8 ((8*F.length) / 16777216)]) (by rfl) rfl rfl rfl J (M.sl) (by first|omega|(simp only[List.length_append,List.length_cons,List.length_nil,List.length_replicate];omega)) ?_
   (try simp only[Act.put,mA,mB,mC])
   intro M2 Y2 V hO S R;clear R;have Y:=J2x S Y7 (Q2 G);have β:=Q0s S V4 (Own.lt M);have α:=J3v S N D.size;replace G:=J0n G hO (nmo Y7);replace M:=Own.off M hO (fo V4);replace D:=D.step hO (io N);clear hO S;have J:=V;clear V;have N:=α;have Y7:=Y;have V4:=β;refine Lv ?_;refine J5 ?_
   go_wp2_with fail
   rw[rounds_succ];go_upto_region 15 with fail;refine wp_region_lit ?_;refine Lv ?_;refine Lv ?_;refine Lw ?_ (v:=.int .i64 2);refine Lw ?_ (v:=.int .i64 16);refine Lw ?_ (v:=.int .u64 (sr ((8*F.length:Nat):Int) 16)) (hv:=J12 (n:=16) (by decide) rfl rfl rfl);refine Lw ?_ (v:=.int .u8 ((u8 ((8*F.length) / 65536)).toNat:Int)) (hv:=by rw[←J38 (8*F.length) 16 65536 (by decide)];exact J2k rfl rfl);clear M V4;refine LnS ?_ (z:= #[.int .u8 ((u8 ((8*F.length) / 65536)).toNat:Int)]) (t:=5) (n:=1) (c:=1);intro G6 S7 X hO h_;have V4:∀x,(Value.ownBlock M2)=some x→Value.ownBlock (.slice (some ⟨G6,0,none⟩) 1 1)≠some x:=J98 (Own.lt J) X;replace G:=G.o hO;replace J:=Own.off J hO f0;replace D:=D.o hO;have M:Own S7 (.slice (some ⟨G6,0,none⟩) 1 1) [u8 ((8*F.length) / 65536)]:=J2e h_ (by rfl) (by show 1≤maxLen;decide);clear hO h_ X;refine J0g (xs:=(((((((F++[128]++List.replicate (zc F.length) 0)++List.replicate 8 0)++[u8 ((8*F.length) / 72057594037927936)])++[u8 ((8*F.length) / 281474976710656)])++[u8 ((8*F.length) / 1099511627776)])++[u8 ((8*F.length) / 4294967296)])++[u8 ((8*F.length) / 16777216)])) (ys:=[u8 ((8*F.length) / 65536)]) (by rfl) rfl rfl rfl J (M.sl) (by first|omega|(simp only[List.length_append,List.length_cons,List.length_nil,List.length_replicate];omega)) ?_
   (try simp only[Act.put,mA,mB,mC])
   intro T6 Z1 V hO S R;clear R;have Y:=J2x S Y7 (Q2 G);have β:=Q0s S V4 (Own.lt M);have α:=J3v S N D.size;replace G:=J0n G hO (nmo Y7);replace M:=Own.off M hO (fo V4);replace D:=D.step hO (io N);clear hO S;have J:=V;clear V;have N:=α;have Y7:=Y;have V4:=β;refine Lv ?_;refine J5 ?_
   go_wp2_with fail
   rw[rounds_succ];go_upto_region 15 with fail;refine wp_region_lit ?_;refine Lv ?_;refine Lv ?_;refine Lw ?_ (v:=.int .i64 1);refine Lw ?_ (v:=.int .i64 8);refine Lw ?_ (v:=.int .u64 (sr ((8*F.length:Nat):Int) 8)) (hv:=J12 (n:=8) (by decide) rfl rfl rfl);refine Lw ?_ (v:=.int .u8 ((u8 ((8*F.length) / 256)).toNat:Int)) (hv:=by rw[←J38 (8*F.length) 8 256 (by decide)];exact J2k rfl rfl);clear M V4;refine LnS ?_ (z:= #[.int .u8 ((u8 ((8*F.length) / 256)).toNat:Int)]) (t:=5) (n:=1) (c:=1);intro M0 N4 X hO h_;have V4:∀x,(Value.ownBlock T6)=some x→Value.ownBlock (.slice (some ⟨M0,0,none⟩) 1 1)≠some x:=J98 (Own.lt J) X;replace G:=G.o hO;replace J:=Own.off J hO f0;replace D:=D.o hO;have M:Own N4 (.slice (some ⟨M0,0,none⟩) 1 1) [u8 ((8*F.length) / 256)]:=J2e h_ (by rfl) (by show 1≤maxLen;decide);clear hO h_ X;refine J0g (xs:=((((((((F++[128]++List.replicate (zc F.length) 0)++List.replicate 8 0)++[u8 ((8*F.length) / 72057594037927936)])++[u8 ((8*F.length) / 281474976710656)])++[u8 ((8*F.length) / 1099511627776)])++[u8 ((8*F.length) / 4294967296)])++[u8 ((8*F.length) / 16777216)])++[u8 ((8*F.length) / 65536)])) (ys:=[u8 ((8*F.length) / 256)]) (by rfl) rfl rfl rfl J (M.sl) (by first|omega|(simp only[List.length_append,List.length_cons,List.length_nil,List.length_replicate];omega)) ?_
   (try simp only[Act.put,mA,mB,mC])
   intro X0 X2 V hO S R;clear R;have Y:=J2x S Y7 (Q2 G);have α:=J3v S N D.size;replace G:=J0n G hO (nmo Y7);replace M:=Own.off M hO (fo V4);replace D:=D.step hO (io N);clear hO S;have J:=V;clear V;have N:=α;have Y7:=Y;refine Lv ?_;refine J5 ?_
   go_wp2_with fail
   rw[rounds_succ];go_upto_region 15 with fail;refine wp_region_lit ?_;refine Lv ?_;refine Lv ?_;refine Lw ?_ (v:=.int .i64 0);refine Lw ?_ (v:=.int .i64 0);refine Lw ?_ (v:=.int .u64 (sr ((8*F.length:Nat):Int) 0)) (hv:=J12 (n:=0) (by decide) rfl rfl rfl);refine Lw ?_ (v:=.int .u8 ((u8 (8*F.length)).toNat:Int)) (hv:=by rw[←Z3m (8*F.length)];exact J2k rfl rfl);clear M V4;refine LnS ?_ (z:= #[.int .u8 ((u8 (8*F.length)).toNat:Int)]) (t:=5) (n:=1) (c:=1);intro M8 R0 X hO h_;replace G:=G.o hO;replace J:=Own.off J hO f0;replace D:=D.o hO;have M:Own R0 (.slice (some ⟨M8,0,none⟩) 1 1) [u8 (8*F.length)]:=J2e h_ (by rfl) (by show 1≤maxLen;decide);clear hO h_ X;refine J0g (xs:=(((((((((F++[128]++List.replicate (zc F.length) 0)++List.replicate 8 0)++[u8 ((8*F.length) / 72057594037927936)])++[u8 ((8*F.length) / 281474976710656)])++[u8 ((8*F.length) / 1099511627776)])++[u8 ((8*F.length) / 4294967296)])++[u8 ((8*F.length) / 16777216)])++[u8 ((8*F.length) / 65536)])++[u8 ((8*F.length) / 256)])) (ys:=[u8 (8*F.length)]) (by rfl) rfl rfl rfl J (M.sl) (by first|omega|(simp only[List.length_append,List.length_cons,List.length_nil,List.length_replicate];omega)) ?_
   (try simp only[Act.put,mA,mB,mC])
   intro Θ X1 V hO S R;clear R;have Y:=J2x S Y7 (Q2 G);replace G:=J0n G hO (nmo Y7);replace D:=D.step hO (io N);clear hO S;have J:=V;clear V;have Y7:=Y;refine Lv ?_;refine J5 ?_
   go_wp2_with fail
   rw[rounds_succ];go_upto_region 16 with fail;refine wp_region_lit ?_;refine Z2o (by rfl) rfl rfl ((Q66 HG.out D.ext).2) (by kernel_rfl) (by rw[J0];kernel_rfl) ?_
   (try simp only[Act.put,mA,mB,mC])
   refine LnP ?_ (z:=J1 .u64 8 (fun _=>0)) (t:=230) (cells:=J1 .u64 8 hf) (hi:=by rw[J0];kernel_rfl) (hs:=by rw[J0,J0]) (h1:=by exact Y6 _ _ _);intro ε R8 ν hO h_;have M4:=bn G ν;have D6:=J3u (Own.lt J) ν;have N7:=fbn D ν;replace G:=G.o hO;replace J:=Own.off J hO f0;replace D:=D.o hO;have T:=h_;clear hO h_ ν;refine J5 ?_;clear M V4;rw[Z3o] at J;have U:Sl R8 Θ (List.drop (128*0) (pad F)):=Z5c J;have ζ:sb Θ (List.drop (128*0) (pad F))≠some K1:=Y77 Y7;have δ:sb Θ (List.drop (128*0) (pad F))≠some ε:=Y77 D6;clear J N Y7 D6
   go_wp2_with fail
   go_loopw [3] (fun sv wr=> ∃(j:Nat)(u:Value),(j≤nb F.length)∧(u=sv)∧Off [] w wr∧Blk wr K1 (J1 .u8 64 (fun _=>0)) 89∧Blk wr ε (J1 .u64 8 (Hs (pad F) j)) 230∧Sl wr u (List.drop (128*j) (pad F))∧(sb u (List.drop (128*j) (pad F)))≠some K1∧(sb u (List.drop (128*j) (pad F)))≠some ε)
    (fun sv _=>Q3r sv)
   case atStart=>exact⟨0,_,Nat.zero_le _,rfl,D,G,T,U,ζ,δ⟩
   case round=>
    obtain⟨j,u,hj,rfl,D,G,T,U,ζ,δ⟩:=hrel;obtain⟨N9,γ⟩:=J67 D;subst γ;have lb:=J80 U
    by_cases G8:j<nb F.length
    ·
     have μ:128≤(List.drop (128*j) (pad F)).length:=by rw[List.length_drop,κ];omega
     go_upto_region 17 with fail;refine wp_region_lit ?_;refine Lv ?_;refine J9v (l:=(List.drop (128*j) (pad F))) U (by rfl) rfl rfl ?_
     (try simp only[Act.put,mA,mB,mC])
     refine Lw ?_ (v:=.bool true) (hv:=by go_simp;(try simp only[List.length_drop,κ]);omega);refine J5 ?_;go_upto_region 19 with fail;refine wp_region_lit ?_;refine L0A ?_ T;refine Lv ?_;refine Lr ?_ (Y5l (Hs (pad F) j) (List.drop (128*j) (pad F)) u μ N9 U (Q66 HG.out D.ext));intro M1 hO;replace G:=G.o hO;replace T:=T.o hO;replace U:=Sl.off U hO f0;replace D:=D.o hO;clear hO;refine Lp ?_ T (cells:=J1 .u64 8 (prs (Hs (pad F) j) (bt (List.drop (128*j) (pad F))))) (hi:=by rw[J0];kernel_rfl) (hs:=by rw[J0,J0]) (h1:=by exact Y6 _ _ _);intro G3 hO h_;replace T:Blk G3 ε (J1 .u64 8 (prs (Hs (pad F) j) (bt (List.drop (128*j) (pad F))))) 230:=h_;clear h_;replace G:=G.p hO M4;replace U:=Sl.off U hO (f1 δ);replace D:=D.p hO N7;clear hO;refine J5 ?_;go_upto_region 18 with fail;refine wp_region_lit ?_;refine Lv ?_;refine Z8j (n:=128) U (by exact μ) (by rfl) rfl rfl rfl ?_
     (try simp only[Act.put,mA,mB,mC])
     intro D7 Δ D3;have D5:sb D7 (List.drop 128 (List.drop (128*j) (pad F)))≠some K1:=Z8i D3 ζ;have G5:sb D7 (List.drop 128 (List.drop (128*j) (pad F)))≠some ε:=Z8i D3 δ;refine Lv ?_;refine J5 ?_;clear U ζ δ;rw[Q11] at Δ;rw[Q11] at D5;rw[Q11] at G5;have U:=Δ;clear Δ;have ζ:=D5;have δ:=G5;have la:=J80 U;simp only[List.length_drop,κ] at la lb;go_wp2;go_roundw
     case rel=>exact⟨j+1,_,by omega,rfl,D,G,T,U,ζ,δ⟩
     case measure=>simp only[la,lb];omega
    obtain rfl:j=nb F.length:=by omega
    go_upto_region 17 with fail;refine wp_region_lit ?_;refine Lv ?_;refine J9v (l:=(List.drop (128*nb F.length) (pad F))) U (by rfl) rfl rfl ?_
    (try simp only[Act.put,mA,mB,mC])
    refine Lw ?_ (v:=.bool false) (hv:=by first|(go_simp;done)|(go_simp;(try simp only[List.length_drop,κ]);omega));refine J5 ?_;go_upto_region 20 with fail;refine wp_region_lit ?_;refine Ln ?_ (z:=J1 .u8 64 (fun _=>0)) (t:=89);intro ρ M1 θ hO h_;have T5:=bn G θ;have N3:=bn T θ;have N8:=J3u (Sl.lt U) θ;have M7:=fbn D θ;replace G:=G.o hO;replace T:=T.o hO;replace U:=Sl.off U hO f0;replace D:=D.o hO;have Z:=h_;clear hO h_ θ;refine J5 ?_;go_upto_region 21 with fail;refine wp_region_lit ?_;refine L0A ?_ T;refine Lw ?_ (v:=.int .i64 0);refine J5 ?_
    go_wp2_with fail
    go_loopw [61] (fun ii wr=> ∃(i:Nat),(i≤8)∧(ii=.int .i64 (i:Int))∧Off [] w wr∧Blk wr K1 (J1 .u8 64 (fun _=>0)) 89∧Blk wr ε (J1 .u64 8 (Hs (pad F) (nb F.length))) 230∧Blk wr ρ (J1 .u8 64 (Q4g (Hs (pad F) (nb F.length)) (8*i))) 89∧Sl wr u (List.drop (128*nb F.length) (pad F)))
     (fun ii _=>8-(intOf ii).toNat)
    case atStart=>exact⟨0,Nat.zero_le _,rfl,D,G,T,(by rw[Nat.mul_zero,Z5a];exact Z),U⟩
    case round=>
     obtain⟨i,hi,rfl,D,G,T,Z,U⟩:=hrel;obtain⟨G3,γ⟩:=J67 D;subst γ
     by_cases h8:i<8
     ·
      go_upto_region 22 with fail;refine wp_region_lit ?_;refine Lw ?_ (v:=.bool true);refine J5 ?_;go_upto_region 23 with fail;refine wp_region_lit ?_;refine Lv ?_;refine Lw ?_ (v:=.int .u64 (Hs (pad F) (nb F.length) i)) (hv:=Q6z (m:=8) h8 Tryz.underlying230 (by kernel_rfl) Y5o rfl rfl rfl);refine Lv ?_;refine Lv ?_;refine J5 ?_
      go_wp2_with fail
      go_loopw [65] (fun jj wr=> ∃(k:Nat),(k≤8)∧(jj=.int .i64 (k:Int))∧Off [] w wr∧Blk wr K1 (J1 .u8 64 (fun _=>0)) 89∧Blk wr ε (J1 .u64 8 (Hs (pad F) (nb F.length))) 230∧Blk wr ρ (J1 .u8 64 (Q4g (Hs (pad F) (nb F.length)) (8*i+k))) 89∧Sl wr u (List.drop (128*nb F.length) (pad F)))
       (fun jj _=>8-(intOf jj).toNat)
      case atStart=>exact⟨0,Nat.zero_le _,rfl,D,G,T,Z,U⟩
      case round=>
       obtain⟨k,hk,rfl,D,G,T,Z,U⟩:=hrel;obtain⟨G9,γ⟩:=J67 D;subst γ
       by_cases ω:k<8
       ·
        go_upto_region 25 with fail;refine wp_region_lit ?_;refine Lw ?_ (v:=.bool true);refine J5 ?_;go_upto_region 27 with fail;refine wp_region_lit ?_;refine Lv ?_;refine Lw ?_ (v:=.int .i64 (((8*i:Nat):Int))) (hv:=by go_simp;(try simp only[IntKind.wrap_u64,IntKind.wrap_i64]);(try omega));refine Lv ?_;refine Lw ?_ (v:=.int .i64 (((8*i+k:Nat):Int))) (hv:=by go_simp;(try simp only[IntKind.wrap_u64,IntKind.wrap_i64]);(try omega));refine Lv ?_;refine Lv ?_;refine Lw ?_ (v:=.int .i64 (((7-k:Nat):Int))) (hv:=by go_simp;(try simp only[IntKind.wrap_u64,IntKind.wrap_i64]);(try omega));refine Lw ?_ (v:=.int .i64 (((8*(7-k):Nat):Int))) (hv:=by go_simp;(try simp only[IntKind.wrap_u64,IntKind.wrap_i64]);(try omega));refine Lw ?_ (v:=.int .u64 (sr (Hs (pad F) (nb F.length) i) (8*(7-k)))) (hv:=J12 (n:=8*(7-k)) (by omega) rfl rfl rfl);refine Lw ?_ (v:=.int .u8 (w8 (sr (Hs (pad F) (nb F.length) i) (8*(7-k))))) (hv:=by exact J2k rfl rfl);refine Lw ?_ (v:=.pointer (some ⟨ρ,0+(8*i+k),none⟩)) (hv:=rxa Tryz.underlying89 (by omega));refine J3j (v:=.int .u8 (w8 (sr (Hs (pad F) (nb F.length) i) (8*(7-k))))) ⟨rfl,rfl⟩ (by rfl) rfl rfl rfl Z (by rw[J0,Nat.zero_add];omega) (by kernel_rfl) ?_
        (try simp only[Act.put,mA,mB,mC])
        intro N2 hO h_;rw[Nat.zero_add,K3] at h_;replace Z:Blk N2 ρ (J1 .u8 64 (upd (Q4g (Hs (pad F) (nb F.length)) (8*i+k)) (8*i+k) (w8 (sr (Hs (pad F) (nb F.length) i) (8*(7-k)))))) 89:=h_;clear h_;replace G:=G.p hO T5;replace T:=T.p hO N3;replace U:=Sl.off U hO (f1 N8);replace D:=D.p hO M7;clear hO;refine J5 ?_;go_wp2;go_roundw
        case rel=>exact⟨k+1,by omega,by go_num,D,G,T,(by rw[←Z5b _ _ _ ω];exact Z),U⟩
        case measure=>simp[intOf];omega
       obtain rfl:k=8:=by omega
       go_upto_region 25 with fail;refine wp_region_lit ?_;refine Lw ?_ (v:=.bool false);refine J5 ?_;go_wp2;go_roundw
       case rel=>exact⟨i+1,by omega,by go_num,D,G,T,(by rw[show 8*(i+1)=8*i+8 by omega];exact Z),U⟩
       case measure=>simp[intOf];omega
     obtain rfl:i=8:=by omega
     rw[show 8*8=64 by rfl,Y09] at Z;go_upto_region 22 with fail;refine wp_region_lit ?_;refine Lw ?_ (v:=.bool false);refine J5 ?_;go_upto_region 30 with fail;refine wp_region_lit ?_;refine L0A ?_ Z;refine Lp ?_ G (cells:=J1 .u8 64 (ob (Hs (pad F) (nb F.length)))) (hi:=by rw[J0];kernel_rfl) (hs:=by rw[J0,J0]) (h1:=by exact Y6 _ _ _);intro G9 hO h_;replace G:Blk G9 K1 (J1 .u8 64 (ob (Hs (pad F) (nb F.length)))) 89:=h_;clear h_;replace D:=D.p hO T7;clear hO;refine J5 ?_;go_wp2;refine bodyPost_ret (Z8 rfl rfl G (by kernel_rfl) (by rw[J0];kernel_rfl)) rfl ⟨rfl,D.ext⟩
end

section
end

section
def GR (w:World):Prop:=Rd w 5 (J1 .u64 80 kf)∧Rd w 4 (J1 .u64 8 hf)
theorem V1p {w W:World}(h:GR w)(e:Ext w W):GR W:=⟨h.1.ext e,h.2.ext e⟩
def bo (H:Nat→Int)(j:Nat):UInt8:=u8 (ob H j).toNat
theorem Y7w (H:Nat→Int)(j:Nat):((bo H j).toNat:Int)=ob H j:=by
  have:=Y6o (sr (H (j / 8)) (8*(7-j % 8)));unfold bo;rw[J6n];unfold ob;omega
def wb (H:Nat→Int)(n:Nat):List UInt8:=(List.range n).map (bo H)
theorem Q55 (H:Nat→Int)(n:Nat):(wb H n).length=n:=by simp[wb]
theorem Y5c (H:Nat→Int)(i:Nat):wb H (8*i)++[bo H (8*i+0)]++[bo H (8*i+1)]++[bo H (8*i+2)]++[bo H (8*i+3)]++[bo H (8*i+4)]++[bo H (8*i+5)]++[bo H (8*i+6)]++[bo H (8*i+7)]=wb H (8*(i+1)):=by
  unfold wb;rw[show 8*(i+1)=8*i+7+1 by omega];simp only[List.range_succ,List.map_append,List.map_cons,List.map_nil,List.append_assoc,Nat.add_zero,List.cons_append,List.nil_append]
def smb (l:List UInt8):List UInt8:=wb (Hs (pad l) (nb l.length)) 64
theorem Q3n (l:List UInt8):(smb l).length=64:=Q55 _ _
theorem Z5d (l:List UInt8):(J1 .u8 64 (sm l)).toList=bs8 (smb l):=by
  unfold J1 bs8 smb wb;rw[List.map_map];simp only[List.map_inj_left,Function.comp];intro j _;rw[Y7w];rfl
end
end Go.Proofs.YteehbddkcnkhfaaGreatDoor.S8

namespace Go.Proofs.YteehbddkcnkhfaaGreatDoor
theorem Q8c {P:Program}{ops:Array Oper}{w:World}{E E' :Act→Prop}(h:∀a,E a→E' a):∀(l:List Oper) (a:Act),wpX P ops w E l a→wpX P ops w E' l a
  |[],a,x=>h a x
  |_::l,_,⟨v,hy,hk⟩=>⟨v,hy,Q8c h l _ hk⟩
def nws (xs:List NewOp)(β:Nat→Nat):List As:=xs.map fun x=> .b (β x.i) x.z x.t
theorem SH.news {F:List Nat}{w W W' :World}{H:List As}{β:Nat→Nat}(h:SH F w W H)(q:Ext W W'):∀(xs:List NewOp),(∀x∈xs,W.heap.size≤β x.i∧Blk W' (β x.i) x.z x.t)→xs.Pairwise (fun x y=>β x.i≠β y.i)→(∀x∈xs,H.all (SH.tyOk (.b 0 x.z x.t))=true)→SH F w W' (nws xs β++H)
  |[],_,_,_=>h.grow q
  |x::xs,hb,hd,ht=>by
    have h1:=SH.news h q xs (fun y hy=>hb y (by simp[hy])) (List.pairwise_cons.1 hd).2 (fun y hy=>ht y (by simp[hy]));have hx:=hb x (by simp);have h2:SH F w W' (.b (β x.i) x.z x.t::H):=h.new (x:=.b (β x.i) x.z x.t) (J0b q) hx.2 (fun k hk=>by rw[List.mem_singleton.1 hk];exact hx.1) rfl (ht x (by simp));have hn:=(List.pairwise_cons.1 hd).1;show SH F w W' (.b (β x.i) x.z x.t::(nws xs β++H));refine⟨h1.off,fun y hy=> ?_,List.pairwise_cons.2 ⟨fun y hy=> ?_,h1.ap⟩,fun y hy hm k hk hlt=> ?_⟩
    · rcases List.mem_cons.1 hy with rfl|hy
      · exact hx.2
      · exact h1.all y hy
    · rcases List.mem_append.1 hy with hy|hy
      · obtain⟨z,hz,rfl⟩:=List.mem_map.1 hy
        have hne:=hn z hz;exact⟨fun _ k hk hk' =>hne ((List.mem_singleton.1 hk).symm.trans (List.mem_singleton.1 hk')),fun _ k hk hk' =>hne ((List.mem_singleton.1 hk').symm.trans (List.mem_singleton.1 hk))⟩
      · exact(List.pairwise_cons.1 h2.ap).1 y hy
    · rcases List.mem_cons.1 hy with rfl|hy
      · have:=hx.1;have:=h.size;rw[List.mem_singleton.1 hk] at hlt;omega
      · exact h1.old y hy hm k hk hlt
section
variable {P : Program} {Q : Exit → Act → World → Prop} {F : List Nat} {w : World} {H : List As} {l : List Oper} {a a' : Act}
theorem RXn {id:Nat}{W:World}{l1 l2:List Oper}(m:Nat)(xs:List NewOp)(hS:SH F w W H)
    (h:wpM P l.toArray (.X (fun a1 W1=> ∀(β:Nat→Nat)(W' :World),Ext W1 W' →(∀x∈xs,W1.heap.size≤β x.i∧Blk W' (β x.i) x.z x.t)→(∀x∈xs,∀y∈xs,x.i≠y.i→β x.i≠β y.i)→wpList P l.toArray (NoPanic Q) l2 (J00 xs β a1) W')) F w H l1 a')
    (hok:∀x∈xs,Q31 P l.toArray x) (hm:P.follows .mixedOrders=true:=by as_aux_lemma=>kernel_rfl)
    (hB:(Region.noSelect l.toArray && Q1l .any l.toArray (m+xs.length) m 0 (Array.replicate l.length false) && decide (m+xs.length≤l.length) && decide (xs.map (·.i)).Nodup && decide (xs.map (·.d)).Nodup && xs.all (fun x=>decide (x.i<m+xs.length)) &&
      Q32 .any l.toArray (K4 (m+xs.length) 0 (Array.replicate l.length false)) xs.length (xs.map (·.i)) (K4 m 0 (Array.replicate l.length false)) &&
      (Region.ready .any l.toArray (K4 (m+xs.length) 0 (Array.replicate l.length false))).all (fun j=>decide (m+xs.length≤j)) &&
      Region.seqB .any l.toArray (l.length-(m+xs.length)) (m+xs.length) (K4 (m+xs.length) 0 (Array.replicate l.length false)))=true:=by as_aux_lemma=>kernel_rfl)
    (h1:l.take m=l1:=by(try simp only[List.append,List.take_succ_cons,List.take_zero,List.take_nil]);exact rfl) (h2:l.drop (m+xs.length)=l2:=by(try simp only[List.append,List.length_cons,List.length_nil,List.drop_succ_cons,List.drop_zero,List.drop_nil]);exact rfl)
    (hp:a=a' :=by(try simp only[Act.put,mA,mB,mC]);exact rfl):(Code.region id l.toArray true).wp P Q a W:=by
  subst hp h1 h2;exact J1o m xs hm hok hB (Q8c (fun a1 h3 β W' h4 h5 h6=>h3 W (Below.refl _ _) β W' h4 h5 h6) _ _ (h W hS))
theorem MZB {ops ops2:Array Oper}{l2:List Oper}{xs:List NewOp}{H' :(Nat→Nat)→List As}{a2:(Nat→Nat)→Act}(h:∀β,wpM P ops2 (.L Q) F w (H' β) l2 (a2 β))(hnd:(xs.map (·.i)).Nodup:=by decide)(ht:∀x∈xs,H.all (SH.tyOk (.b 0 x.z x.t))=true:=by(intro x hx;simp only[List.mem_cons,List.not_mem_nil,or_false] at hx;rcases hx with rfl|rfl|rfl|rfl<;>rfl))
    (hH:∀β,nws xs β++H=H' β:=by exact fun _=>rfl) (hp:∀β,J00 xs β a=a2 β:=by(intro β;dsimp only[J00,Act.put,mA,mB,mC];first|done|exact rfl)):
    wpM P ops (.X (fun a1 W1=> ∀(β:Nat→Nat)(W' :World),Ext W1 W' →(∀x∈xs,W1.heap.size≤β x.i∧Blk W' (β x.i) x.z x.t)→(∀x∈xs,∀y∈xs,x.i≠y.i→β x.i≠β y.i)→wpList P ops2 Q l2 (J00 xs β a1) W')) F w H [] a:=fun W hS=>K5 fun W1 h1 β W' h2 h3 h4=>by
  rw[hp β];refine h β W' ?_;rw[←hH β];refine(hS.grow h1).news h2 xs h3 ?_ ht
  have:xs.Pairwise fun x y=>x.i≠y.i:=by
    have:=List.pairwise_map.1 hnd;exact this
  exact List.Pairwise.imp_of_mem (fun hx hy D=>h4 _ hx _ hy D) this
end
end Go.Proofs.YteehbddkcnkhfaaGreatDoor

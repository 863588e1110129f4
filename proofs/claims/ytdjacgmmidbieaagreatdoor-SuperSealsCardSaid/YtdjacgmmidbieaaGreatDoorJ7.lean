/- Contracts and plain laws for superSeals_holds. Conditions: the tables hold their numbers. -/
import Derived.Lib.AppendZeros
import Derived.Test.YtdjacgmmidbieaaGreatDoorJ6
open Go renaming World->AA,Value->AB,execOp->AV,Program->AD,Operand->AW,TypeId->AE,Oper->AF,IntKind->AI
open Go.IntKind renaming wrap_i64->AJ,wrap_u64->AK
open Go.Sem renaming run_bind->Ah
open _root_.List renaming length_append->Ao,length_cons->AY,mem_singleton->Ai,append_nil->Ar,append_assoc->At,length_nil->Av,length_drop->AZ,length_replicate->BJ,mem_cons->Ad
open _root_.Nat renaming zero_le->An,zero_add->AP
open Go.RowKit
set_option linter.unusedSimpArgs false
set_option linter.unusedVariables false
namespace Go.Proofs.YtdjacgmmidbieaaGreatDoor
section
theorem Y4d (n:Nat):(Builtin.zeroCells (AB.int .u8 0).cells n).toList=bs8 (List.replicate n 0):=by
  simp[Builtin.zeroCells,bs8,AB.cells,List.map_replicate,Nat.mod_one,List.map_const']
theorem J7u {P:AD}(w:AA)(t tn ty e:AE)(i:TypeInfo)(k:AI)(ht:P.underlying t=some (.slice e))(htn:P.underlying tn=some (.int k))(hi:P.info? e=some i)(hz:i.zero=some (.int .u8 0))(hsz:i.size=1)(hby:i.bytes=1)
    (v:AB) (n:Nat) (xs:List AB) (hown:w.ownsRow 0 e 1 v n xs) (m:Nat) (hm:0<m) (hlen:n+m≤140737488355328):
    ∃v' w',(Builtin.append_ #[t,tn] ty #[v,.int .i64 (m:Int)]).run P w=.ok v' w' ∧w'.ownsRow 0 e 1 v' (n+m) (xs++bs8 (List.replicate m 0))∧w.grownBy w' v.ownBlock∧(v'.ownBlock=v.ownBlock∨v'.ownBlock=some w.heap.size):=by
  have hlen' :(xs++bs8 (List.replicate m 0)).length=(n+m)*1:=by rw[Ao,hown.1,X8,BJ];omega
  have N:∀(old:Nat),old<n+m→∀(α:Option Nat),
      (w.drew.alloc (.cells (xs.toArray++(bs8 (List.replicate m 0)).toArray++Builtin.zeroCells (AB.int .u8 0).cells (grownCap w (n+m) old e-(n+m))) e)).ownsRow 0 e 1
        (.slice (some ⟨w.heap.size,0,none⟩) (n+m) (grownCap w (n+m) old e)) (n+m) (xs++bs8 (List.replicate m 0))∧
      w.grownBy (w.drew.alloc (.cells (xs.toArray++(bs8 (List.replicate m 0)).toArray++Builtin.zeroCells (AB.int .u8 0).cells (grownCap w (n+m) old e-(n+m))) e)) α:=by
    intro old ho α;have β:=grownCap_ge w (n+m) old e;have U:grownCap w (n+m) old e≤maxLen:=grownCap_le_maxLen w (n+m) old e (by unfold maxLen;omega);refine⟨⟨hlen',.inr ⟨w.heap.size,_,_,rfl,An _,heap_alloc_new w.drew _,β,U,?_,?_⟩⟩,⟨rfl,rfl,rfl,by simp,fun k hk _=>_root_.Go.heap_alloc_old w.drew _ (by simpa using hk)⟩⟩
    · simp only[Array.size_append,List.size_toArray,size_zeroCells,hown.1,X8,BJ,AB.cells,List.size_toArray]
      simp;omega
    · simp only[Array.toList_append,At]
      rw[←At,←hlen'];exact List.take_left
  have hw:AI.i64.wrap (m:Int)=m:=by rw[AI.wrap_i64];omega
  have S:¬((m:Int)<0):=by omega
  have R:¬(281474976710656<(m:Int)):=by omega
  have T:Builtin.zeroCells (AB.int .u8 0).cells m=(bs8 (List.replicate m 0)).toArray:=Array.toList_inj.1 (Y4d m);rcases hown.2 with⟨rfl,rfl⟩|⟨g,D,M,rfl,_,hg,ε,U,δ,X⟩
  · have hx:xs=[]:=List.eq_nil_of_length_eq_zero (by simpa using hown.1)
    subst hx;have hr:=Lib.run_append_nil_zeros (P:=P) w t tn ty e i (.int .u8 0) .i64 k ht htn hi hz m hm (by omega) (by omega) (by rw[hby];omega);have G:=N 0 (by omega) (AB.ownBlock (.slice none 0 0));simp only[AP,List.nil_append,Array.empty_append] at G⊢;rw[T] at hr;exact⟨_,_,hr,by simpa using G.1,G.2,.inr rfl⟩
  by_cases J:n+m≤D
  · have Z:=run_storeCells_at P g (n*1) e (bs8 (List.replicate m 0)) 0 M w hg (by rw[X8,BJ,δ];simp;omega) (Q1w _)
    simp only[Nat.add_zero,Nat.mul_one] at Z;refine⟨.slice (some ⟨g,0,none⟩) (n+m) D,w.setRow g (M.toList.take n++bs8 (List.replicate m 0)++M.toList.drop (n+(bs8 (List.replicate m 0)).length)).toArray,?_,?_,?_,.inl rfl⟩
    · have V:m≠0:=by omega
      simp[Builtin.append_,run_underlying ht,run_underlying htn,sizeOf,typeInfo,zeroValue,hi,hz,asInt,asIntOf,hw,S,hby,R,hsz,V,J,T,Addr.add_lit,Z]
    · refine⟨hlen',.inr ⟨g,D,_,rfl,An _,setRow_heap w g M _ e _ hg,J,U,?_,?_⟩⟩
      · simp only[List.size_toArray,Ao,List.length_take,AZ,Array.length_toList,X8,BJ]
        omega
      have ht' :M.toList.take n=xs:=by simpa using X
      rw[ht',←hlen'];exact List.take_left
    exact⟨rfl,rfl,rfl,by simp,fun k _ hk=>setRow_other w g k _ (fun e=>hk (by simp[AB.ownBlock,e]))⟩
  have Y:∀j u,xs[j]?=some u→w.cell? ((⟨g,0,none⟩:Addr).add j)=some u:=hown.cells (g:=g) rfl;have γ:=run_firstCells_some (P:=P) w.drew 1 n ⟨g,0,none⟩ n D xs hown.1 (by simpa using Y);have G:=N D (by omega) (AB.ownBlock (.slice (some ⟨g,0,none⟩) n D));have h63' :¬(9223372036854775807<((n:Int)+(m:Int))):=by omega
  have hf:=growslice_fits (need:=n+m) (old:=D) (bytes:=1) (by omega) (by omega);have h48' :¬(281474976710656<Builtin.nextslicecap (n+m) D):=by omega
  refine⟨_,_,?_,G.1,G.2,.inr rfl⟩;have V:m≠0:=by omega
  simp[Builtin.append_,run_underlying ht,run_underlying htn,sizeOf,typeInfo,zeroValue,hi,hz,asInt,asIntOf,hw,S,hby,R,hsz,V,J,h63',h48',Question.forced,T,γ,newRow,grownCap,Array.append_assoc]
  congr 2
  simp[←List.append_toArray]
theorem Q96 {ops:Array Oper}{Q:Exit→Act→World→Prop}{w:World}{l:List Oper}{o:Oper}{a:Act}{s x:Operand}{v:Value}{xs:List UInt8}{m:Nat}(hm:0<m)(hw:Region.wanted o (yielded ops a.tmps)=true)
    (ho:o.op=.call {callee:=.builtin .append,args:= #[s,x],argTypes:= #[45,3]}) (hs:a.eval s=v) (hx:a.eval x=.int .i64 (m:Int)) (hown:Own w v xs) (hlen:xs.length+m≤140737488355328)
    (h:∀v' W,Own W v' (xs++List.replicate m 0)→Off v.ownBlock.toList w W→Of v'.ownBlock v.ownBlock w.heap.size→wpList Tryz.prog ops Q l (a.put o.dst v') W):wpList Tryz.prog ops Q (o::l) a w:=by
  obtain⟨i,hi,hz,J,G⟩:=info_parts J6i;obtain⟨v',W,D,h1,h2,h3⟩:=J7u (P:=Tryz.prog) w 45 3 o.type 5 i .i64 Tryz.underlying45 Tryz.underlying3 hi hz J G v xs.length (bs8 xs) hown m hm hlen;refine J6h hw (v:=v') (W:=W) ?_ (h v' W ?_ (Q0l h2) (Z2c h3))
  · unfold AV
    simp only[ho,resolve,invoke,builtin,Ah,Sem.run_pure,Result.andThen_ok,List.map_toArray,List.map_cons,List.map_nil,hs,hx,D]
  unfold Own;rw[Ao,J56,BJ];exact h1
end

section

section
variable {w : AA} {o : AF} {a : Act}
theorem Q7h {P:AD}{t e:AE}{k kk:AI}{m j:Nat}{f:Nat→Int}{x y:AW}(hj:j<m)(ht:P.underlying t=some (.array m e))(he:(P.info? e).map (·.size)=some 1)(hg:(isAgg e).run P w=.ok false w)(ho:o.op=.index t x y)(hx:a.eval x=.agg (J0 kk m f))(hy:a.eval y=.int k (j:Int)):
    (AV a.eval o).run P w=.ok (.value (.int kk (f j))) w:=by
  cases hq:P.info? e with
  |none=>simp[hq] at he
  |some i=>
    have hs:i.size=1:=by simpa[hq] using he
    have hp:=Q6 kk m f j hj;simp[AV,ho,hx,hy,Instr.index,asIntOf,part,run_underlying ht,Ah,sizeOf,typeInfo,hq,hs,hj,hg,hp]
end
def J70:AB→Nat
  | .slice _ n _=>n
  |_=>0
theorem Z3s {w:AA}{v:AB}{l:List UInt8}(h:Own w v l):J70 v=l.length:=by
  obtain⟨A,c,rfl,_⟩:=h.len;rfl
def u8 (n:Nat):UInt8:=UInt8.ofNat n
theorem V0w (n:Nat):(u8 n).toNat=n % 256:=UInt8.toNat_ofNat'
theorem J86 (n:Nat):((u8 n).toNat:Int)=(n:Int) % 256:=by rw[V0w];rfl
def be8 (X:Nat):List UInt8:=[u8 (X / 72057594037927936),u8 (X / 281474976710656),u8 (X / 1099511627776),u8 (X / 4294967296),u8 (X / 16777216),u8 (X / 65536),u8 (X / 256),u8 X]
def w8 (x:Int):Int:=AI.wrap .u8 x
theorem Q97 (ps:List (List UInt8))(i:Nat):(ps.take i).flatten.length≤ps.flatten.length:=by
  have:ps.flatten=(ps.take i).flatten++(ps.drop i).flatten:=by rw[←List.flatten_append,List.take_append_drop]
  rw[this,Ao];omega
theorem J8g {ps:List (List UInt8)}{i:Nat}{l:List UInt8}(h:ps[i]?=some l):(ps.take (i+1)).flatten=(ps.take i).flatten++l:=by
  rw[List.take_add_one,h];simp
theorem J4n {w:AA}{v:AB}{l:List UInt8}(h:Sl w v l):J70 v=l.length:=by
  obtain⟨A,c,rfl,_⟩:=h;rfl
theorem Q6n {w:AA}{o:AF}{a:Act}{x:AW}{p:Int}(ho:o.op=.convert 105 5 x)(hx:a.eval x=.int .u64 p):(AV a.eval o).run Tryz.prog w=.ok (.value (.int .u8 (w8 p))) w:=by
  simp[AV,ho,hx,convert,run_underlying Tryz.underlying5,run_underlying Tryz.underlying105,Ah,Conv.intToInt,w8]
theorem Y0b (X n D:Nat)(h:2^n=D):w8 (sr ((X:Nat):Int) n)=((u8 (X / D)).toNat:Int):=by
  subst h;unfold w8 sr;rw[J86,AI.wrap_u8,Int.natCast_ediv,Int.natCast_pow];rfl
theorem Y4b {w:AA}:(isAgg 105).run Tryz.prog w=.ok false w:=by
  simp[isAgg,run_underlying Tryz.underlying105,Ah]
theorem Y3u (P:List UInt8)(n m:Nat):bt (P.drop n) m=bt P (n+m):=by
  unfold bt;simp[List.getD_eq_getElem?_getD,List.getElem?_drop]
theorem Y6a (x:Int):0≤w8 x∧w8 x<256:=by unfold w8;rw[AI.wrap_u8];omega
theorem J26 {P:AD}{w:AA}{o:AF}{a:Act}{x y:AW}{t t' :AE}{k:AI}{p:Int}{n:Nat}(hn:n≤64)(ho:o.op=.binOp .shr t x y t')(hx:a.eval x=.int .i64 p)(hy:a.eval y=.int k (n:Int)):(AV a.eval o).run P w=.ok (.value (.int .i64 (p / 2^n))) w:=by
  have h:min ((n:Int)).toNat AI.i64.bits=n:=by rw[Int.toNat_natCast];exact Nat.min_eq_left hn
  simp only[AV,ho,hx,hy,eqGuard,binOp,Ah];simp[Op.shift,h,go_sem,Ah]
theorem J45 {w:AA}{o:AF}{a:Act}{x:AW}{p:Int}(ho:o.op=.convert 3 5 x)(hx:a.eval x=.int .i64 p):(AV a.eval o).run Tryz.prog w=.ok (.value (.int .u8 (w8 p))) w:=by
  simp[AV,ho,hx,convert,run_underlying Tryz.underlying5,run_underlying Tryz.underlying3,Ah,Conv.intToInt,w8]
theorem Y4e (X D:Nat):w8 (((X / D:Nat):Int))=((u8 (X / D)).toNat:Int):=by
  unfold w8;rw[J86,AI.wrap_u8]
theorem Y2v (X:Nat):w8 ((X:Nat):Int)=((u8 X).toNat:Int):=by
  unfold w8;rw[J86,AI.wrap_u8]
theorem Z2s (X n D:Nat)(h:2^n=D):((X:Nat):Int) / 2^n=((X / D:Nat):Int):=by
  subst h;rw[Int.natCast_ediv,Int.natCast_pow];rfl
section
variable {P : AD} {w : AA} {o : AF} {a : Act} {x y : AW} {t t' : AE} {p q : Int}
theorem J8h {k:AI}{n:Nat}(hn:n≤64)(ho:o.op=.binOp .shl t x y t')(hx:a.eval x=.int .i64 p)(hy:a.eval y=.int k (n:Int)):(AV a.eval o).run P w=.ok (.value (.int .i64 (AI.wrap .i64 (p*2^n)))) w:=by
  have h:min ((n:Int)).toNat AI.i64.bits=n:=by rw[Int.toNat_natCast];exact Nat.min_eq_left hn
  simp only[AV,ho,hx,hy,eqGuard,binOp,Ah];simp[Op.shift,h,go_sem,Ah]
theorem J3u (ho:o.op=.binOp .and t x y t')(hx:a.eval x=.int .i64 p)(hy:a.eval y=.int .i64 q):(AV a.eval o).run P w=.ok (.value (.int .i64 (bits .and .i64 p q))) w:=by
  simp only[AV,ho,hx,hy];rfl
theorem Q09 (ho:o.op=.binOp .or t x y t')(hx:a.eval x=.int .i64 p)(hy:a.eval y=.int .i64 q):(AV a.eval o).run P w=.ok (.value (.int .i64 (bits .or .i64 p q))) w:=by
  simp only[AV,ho,hx,hy];rfl
theorem Q5h (ho:o.op=.binOp .xor t x y t')(hx:a.eval x=.int .i64 p)(hy:a.eval y=.int .i64 q):(AV a.eval o).run P w=.ok (.value (.int .i64 (bits .xor .i64 p q))) w:=by
  simp only[AV,ho,hx,hy];rfl
end
end

section
section
variable {w : AA} {o : AF} {a : Act}
theorem Y0d:(Tryz.prog.info? 45).map (·.size)=some 1:=by kernel_rfl
theorem Z3r {x y:AW}{k:AI}{ad:Addr}{n c j:Nat}(hj:j<n)(ho:o.op=.indexAddr 158 x y)(hx:a.eval x=.slice (some ad) n c)(hy:a.eval y=.int k (j:Int)):
    (AV a.eval o).run Tryz.prog w=.ok (.value (.pointer (some (ad.add j)))) w:=by
  have h1:=Y0d;cases hq:Tryz.prog.info? 45 with
  |none=>simp[hq] at h1
  |some i=>
    have hs:i.size=1:=by simpa[hq] using h1
    simp[AV,ho,hx,hy,Instr.indexAt,asIntOf,run_underlying Tryz.underlying158,Ah,sizeOf,typeInfo,hq,hs,hj]
end
end
end Go.Proofs.YtdjacgmmidbieaaGreatDoor

namespace Go.Proofs.YtdjacgmmidbieaaGreatDoor.S8
section
end

section

section
variable {w : AA} {o : AF} {a : Act}
end
section
variable {P : AD} {w : AA} {o : AF} {a : Act} {x y : AW} {t t' : AE} {p q : Int}
end
end

section

def zc (n:Nat):Nat:=(239-n % 128) % 128
def Z4 (l:List UInt8):List UInt8:=l++[128]++List.replicate (zc l.length) 0++List.replicate 8 0++be8 (8*l.length)
def nb (n:Nat):Nat:=(n+1+zc n+16) / 128
theorem J9y (n:Nat):(n+1+zc n) % 128=112∧zc n<128:=by unfold zc;omega
theorem Y6h {n k:Nat}(h:k<zc n):(n+1+k) % 128≠112:=by unfold zc at h;omega
theorem Q3a (l:List UInt8):(Z4 l).length=128*nb l.length:=by
  have h:=J9y l.length;unfold Z4 nb;simp only[Ao,AY,Av,BJ,be8];omega
def Hs (P:List UInt8):Nat→Nat→Int
  |0=>hf
  |j+1=>prs (Hs P j) (bt (P.drop (128*j)))
def ob (H:Nat→Int)(j:Nat):Int:=w8 (sr (H (j / 8)) (8*(7-j % 8)))
def Q4n (H:Nat→Int)(n j:Nat):Int:=if j<n then ob H j else 0
theorem Z5k (H:Nat→Int):Q4n H 0=fun _=>0:=by funext j;unfold Q4n;rw[if_neg (by omega)]
theorem Z5l (H:Nat→Int)(i k:Nat)(hk:k<8):upd (Q4n H (8*i+k)) (8*i+k) (w8 (sr (H i) (8*(7-k))))=Q4n H (8*i+(k+1)):=by
  funext j
  unfold upd Q4n
  by_cases h:j=8*i+k
  · subst h
    rw[if_pos rfl,if_pos (by omega),ob,show(8*i+k) / 8=i by omega,show(8*i+k) % 8=k by omega]
  rw[if_neg h]
  by_cases hl:j<8*i+k
  · rw[if_pos hl,if_pos (by omega)]
  rw[if_neg hl,if_neg (by omega)]
theorem Z9h (H:Nat→Int):J0 .u8 64 (Q4n H 64)=J0 .u8 64 (ob H):=K6 _ _ _ _ fun j hj=>by unfold Q4n;rw[if_pos hj]
def sm (l:List UInt8):Nat→Int:=ob (Hs (Z4 l) (nb l.length))
theorem Z5m (P:List UInt8)(j:Nat):List.drop 128 (List.drop (128*j) P)=List.drop (128*(j+1)) P:=by
  rw[List.drop_drop];congr 1
theorem Z5n {w:AA}{v:AB}{l:List UInt8}(h:Own w v l):Sl w v (List.drop (128*0) l):=h.sl
end
end Go.Proofs.YtdjacgmmidbieaaGreatDoor.S8

namespace Go.Proofs.YtdjacgmmidbieaaGreatDoor
def bk (X k:Nat):List UInt8:=(List.range k).map fun i=>u8 (X / 2^(8*(7-i)))
theorem Y86 (L:List UInt8)(X:Nat):L++bk X 0=L:=Ar L
theorem Y87 (L:List UInt8)(X k:Nat):L++bk X (k+1)=L++bk X k++[u8 (X / 2^(8*(7-k)))]:=by
  unfold bk;rw[List.range_succ,List.map_append,At];rfl
theorem Y88 (L:List UInt8)(X:Nat):L++bk X 8=L++be8 X:=by
  congr 1
  simp[bk,be8,List.range_succ]
theorem J35 (X k:Nat):(bk X k).length=k:=by unfold bk;rw[List.length_map,List.length_range]
end Go.Proofs.YtdjacgmmidbieaaGreatDoor

namespace Go.Proofs.YtdjacgmmidbieaaGreatDoor.S8
section
set_option maxHeartbeats 1500000
set_option maxRecDepth 100000
attribute [local irreducible] wpList K1 wpX
theorem Y4a (h:Nat→Int)(l:List UInt8)(u:AB)(hl:128≤l.length)(w:AA)(hs:Sl w u l)(hG:GS w):Calls Tryz.prog 100 #[.agg (J0 .u64 8 h),u] w fun e w' =>V4 (.agg (J0 .u64 8 (prs h (bt l)))) w w' e:=by
 obtain⟨ad,c,rfl,_⟩:=Q6b hs (by omega);exact Y2n h l ad c hl w hs hG
theorem MA0 {ops:Array Oper}{Q:Exit→Act→World→Prop}{F:List Nat}{w:World}{H:List As}{l:List Oper}{o:Oper}{a:Act}(i:Nat){s x:Operand}{v:Value}{xs:List UInt8}{m:Nat}{H' :Value→List As}{a' :Value→Act}(hm:0<m)(hlen:xs.length+m≤140737488355328)(h:∀v',wpM Tryz.prog ops (.L Q) F w (H' v') l (a' v'))(hi:H[i]?=some (.o v xs):=by exact rfl)(hw:Region.wanted o (yielded ops a.tmps)=true:=by exact rfl)
  (ho:o.op=.call {callee:=.builtin .append,args:= #[s,x],argTypes:= #[45,3]}:=by exact rfl) (hs:a.eval s=v:=by exact rfl) (hx:a.eval x=.int .i64 (m:Int):=by exact rfl)
  (hH:∀v',H.set i (.o v' (xs++List.replicate m 0))=H' v' :=by intro v';dsimp only[sB,sC];first|done|exact rfl) (hp:∀v,a.put o.dst v=a' v:=by intro b;first|exact pl (by dsimp only[mB,mC];first|done|exact rfl)|exact pn|exact rfl):wpM Tryz.prog ops (.L Q) F w H (o::l) a:=by
 intro W hS;refine Q96 hm hw ho hs hx (hS.own hi) hlen fun v' W' h1 h2 h3=> ?_;rw[hp];exact h v' W' (by rw[←hH];exact hS.seto hi h2 h1 h3)

theorem V4w (ps:List (List UInt8))(A:Option Addr)(c:Nat)(F:List UInt8)(hF:ps.flatten=F)(hlen:F.length≤70368744177664)(hpn:ps.length≤9223372036854775000)(w:AA)(hps:∀i l,ps[i]?=some l→∃ad u,A=some ad∧w.cell? (ad.add i)=some u∧Sl w u l)(hG:GS w):
  Calls Tryz.prog 55 #[.slice A ps.length c] w fun e w' =>V4 (.agg (J0 .u8 64 (sm F))) w w' e:=by
 have HG:=Lib.hid hG;have T:=Lib.hid hps;clear hG hps;have G:=Q3a F;have η:=(J9y F.length).2;have hS:=SH.nil [] w
 go_enter Tryz.func55,Tryz.ntmps55
 go_upto_region 0 with fail;refine RL hS ?_;clear hS;refine MN (z:=J0 .u8 64 (fun _=>0)) (t:=24) ?_;intro K9;refine MZ fun W hS=> ?_;go_upto_region 2 with fail;refine RL hS ?_;clear hS;refine MV ?_;refine MV ?_;refine W0 ?_;refine MZ fun W hS=> ?_;have hS:=hS.onil rfl
 go_wp2_with fail
 go_loopw [3,15] (fun sv ii wr=> ∃(i:Nat)(bv:AB),(i≤ps.length)∧(bv=sv)∧(ii=.int .i64 (i:Int))∧SH [] w wr [.o bv ((List.take i ps).flatten),.b K9 (J0 .u8 64 (fun _=>0)) 24])
  (fun sv ii _=>ps.length-(intOf ii).toNat)
 case atStart=>exact⟨0,_,An _,rfl,rfl,hS⟩
 clear hS
 case round=>
  obtain⟨i,bv,hi,rfl,rfl,hS⟩:=hrel
  by_cases M:i<ps.length
  ·
   obtain⟨l_,R⟩:∃l,ps[i]?=some l:=⟨_,List.getElem?_eq_getElem M⟩
   obtain⟨Z,u_,γ,δ,ε⟩:=T.out i l_ R;have ζ:(List.take i ps).flatten.length+l_.length≤F.length:=by rw[←hF,←Ao,←J8g R];exact Q97 _ _
   go_upto_region 3 with fail;refine RL hS ?_;clear hS;refine Wt ?_;refine MZ fun W hS=> ?_;go_upto_region 4 with fail;refine RL hS ?_;clear hS;refine MW ?_ (v:=.pointer (some (Z.add i))) (hv:=fun _=>Z3r (j:=i) M rfl (by rw[←γ];rfl) rfl);refine MF (v:=u_) (fun W hS=>V6 rfl rfl (U0 δ hS.ext) (by kernel_rfl)) ?_;refine MV ?_;refine MZ fun W hS=> ?_;go_upto_region 5 with fail;refine RL hS ?_;clear hS;refine MV ?_;refine MV ?_;refine MA 0 (xs:=((List.take i ps).flatten)) (ys:=l_) (fun W hS=>(J3j ε hS.ext)) (by first|omega|(simp only[Ao,AY,Av,BJ,J35];omega)) ?_;intro α;refine MV ?_;refine MZ fun W hS=> ?_;go_wp2;go_roundw
   case rel=>exact⟨i+1,α,by omega,rfl,by go_num,(by rw[J8g R];exact hS)⟩
   case measure=>simp[intOf];omega
  obtain rfl:i=ps.length:=by omega
  rw[List.take_length,hF] at hS;go_upto_region 3 with fail;refine RL hS ?_;clear hS;refine Wf ?_;refine MZ fun W hS=> ?_;go_upto_region 7 with fail;refine RL hS ?_;clear hS;refine MV ?_;refine MF (v:=.int .i64 (F.length:Int)) (fun W hS=>J03 (hS.osl (i:=0) rfl) rfl rfl) ?_;refine MW ?_ (v:=.int .u64 ((F.length:Nat):Int)) (hv:=by intro W;go_simp;(try simp only[AI.wrap_u64,AI.wrap_i64]);(try omega));refine MW ?_ (v:=.int .u64 ((8*F.length:Nat):Int)) (hv:=by intro W;rw[show((8*F.length:Nat):Int)=sl ((F.length:Nat):Int) 3 from(by unfold sl;rw[AI.wrap_u64];omega)];exact J8a (n:=3) (by decide) rfl rfl rfl);refine MV ?_;refine MZ fun W hS=> ?_;go_upto_region 8 with fail;refine RL hS ?_;clear hS;refine MV ?_;refine MO (m:=[128]) (n:=1) (z:= #[.int .u8 128]) ?_;intro ξ;refine MA 1 (xs:=F) (ys:=[128]) (fun W hS=>(hS.osl (i:=0) rfl)) (by first|omega|(simp only[Ao,AY,Av,BJ,J35];omega)) ?_;intro κ;refine MV ?_;refine MZ fun W hS=> ?_
  go_wp2_with fail
  go_loopw [3] (fun sv wr=> ∃(k:Nat)(bv:AB),(k≤zc F.length)∧(bv=sv)∧SH [] w wr [.o bv (F++[128]++List.replicate k 0),.b K9 (J0 .u8 64 (fun _=>0)) 24])
   (fun sv _=>F.length+300-J70 sv)
  case atStart=>exact⟨0,_,An _,rfl,(by rw[List.replicate_zero,Ar];exact(hS.pick [1,2]))⟩
  clear hS
  case round=>
   obtain⟨k,bv,hk,rfl,hS⟩:=hrel;have lb:=Z3s (hS.own (i:=0) rfl)
   by_cases hz:k<zc F.length
   ·
    have β:=Y6h hz;go_upto_region 9 with fail;refine RL hS ?_;clear hS;refine MV ?_;refine MF (v:=.int .i64 ((F++[128]++List.replicate k 0).length:Int)) (fun W hS=>J03 (hS.osl (i:=0) rfl) rfl rfl) ?_;refine MW ?_ (v:=.int .i64 (((F.length+1+k) % 128:Nat):Int)) (hv:=by intro W;go_simp;(try simp only[Ao,AY,Av,BJ]);rw[Int.tmod_eq_emod_of_nonneg (by omega)];omega);refine MW ?_ (v:=.bool true) (hv:=by intro W;go_simp;omega);refine MZ fun W hS=> ?_;go_upto_region 10 with fail;refine RL hS ?_;clear hS;refine MV ?_;refine MO (m:=[0]) (n:=1) (z:= #[.int .u8 0]) ?_;intro μ;refine MA 1 (xs:=(F++[128]++List.replicate k 0)) (ys:=[0]) (fun W hS=>(hS.osl (i:=0) rfl)) (by first|omega|(simp only[Ao,AY,Av,BJ,J35];omega)) ?_;intro Y;refine MV ?_;refine MZ fun W hS=> ?_;have la:=Z3s (hS.own (i:=1) rfl);simp only[Ao,AY,Av,BJ] at la lb;go_wp2;go_roundw
    case rel=>exact⟨k+1,Y,by omega,rfl,(by have h_:=(hS.pick [1,2]);rw[At _ (List.replicate k 0),←List.replicate_succ'] at h_;exact h_)⟩
    case measure=>simp only[la,lb];omega
   obtain rfl:k=zc F.length:=by omega
   have β:=(J9y F.length).1;go_upto_region 9 with fail;refine RL hS ?_;clear hS;refine MV ?_;refine MF (v:=.int .i64 ((F++[128]++List.replicate (zc F.length) 0).length:Int)) (fun W hS=>J03 (hS.osl (i:=0) rfl) rfl rfl) ?_;refine MW ?_ (v:=.int .i64 (((F.length+1+zc F.length) % 128:Nat):Int)) (hv:=by intro W;go_simp;(try simp only[Ao,AY,Av,BJ]);rw[Int.tmod_eq_emod_of_nonneg (by omega)];omega);refine MW ?_ (v:=.bool false) (hv:=by intro W;first|(go_simp;done)|(go_simp;omega));refine MZ fun W hS=> ?_;go_upto_region 11 with fail;refine RL hS ?_;clear hS;refine MV ?_;refine MA0 0 (xs:=(F++[128]++List.replicate (zc F.length) 0)) (m:=8) (by decide) (by first|omega|(simp only[Ao,AY,Av,BJ,J35];omega)) ?_;intro θ;refine MV ?_;refine MZ fun W hS=> ?_
   go_wp2_with fail
   go_loopw [3,7] (fun sv ii wr=> ∃(k:Nat)(bv:AB),(k≤8)∧(bv=sv)∧(ii=.int .i64 (7-(k:Int)))∧SH [] w wr [.o bv (F++[128]++List.replicate (zc F.length) 0++List.replicate 8 0++bk (8*F.length) k),.b K9 (J0 .u8 64 (fun _=>0)) 24])
    (fun sv ii _=>(intOf ii+1).toNat)
   case atStart=>exact⟨0,_,An _,rfl,rfl,(by rw[Y86];exact hS)⟩
   clear hS
   case round=>
    obtain⟨k,bv,hk,rfl,rfl,hS⟩:=hrel
    by_cases D:k<8
    ·
     go_upto_region 13 with fail;refine RL hS ?_;clear hS;refine MV ?_;refine MW ?_ (v:=.bool true) (hv:=by intro W;go_simp;omega);refine MZ fun W hS=> ?_;go_upto_region 15 with fail;refine RL hS ?_;clear hS;(iterate 3 refine MV ?_);refine MW ?_ (v:=.int .i64 (((8*(7-k):Nat):Int))) (hv:=by intro W;go_simp;(try simp only[AI.wrap_u64,AI.wrap_i64]);(try omega));refine MW ?_ (v:=.int .u64 (sr ((8*F.length:Nat):Int) (8*(7-k)))) (hv:=fun _=>J38 (n:=8*(7-k)) (by omega) rfl rfl rfl);refine MW ?_ (v:=.int .u8 ((u8 ((8*F.length) / 2^(8*(7-k)))).toNat:Int)) (hv:=by intro W;rw[←Y0b (8*F.length) (8*(7-k)) _ rfl];exact Q6n rfl rfl);refine MO (m:=[u8 ((8*F.length) / 2^(8*(7-k)))]) (n:=1) (z:= #[.int .u8 ((u8 ((8*F.length) / 2^(8*(7-k)))).toNat:Int)]) ?_;intro ν;refine MA 1 (xs:=(F++[128]++List.replicate (zc F.length) 0++List.replicate 8 0++bk (8*F.length) k)) (ys:=[u8 ((8*F.length) / 2^(8*(7-k)))]) (fun W hS=>(hS.osl (i:=0) rfl)) (by first|omega|(simp only[Ao,AY,Av,BJ,J35];omega)) ?_;intro X;refine MV ?_;refine MZ fun W hS=> ?_;go_wp2;go_roundw
     case rel=>exact⟨k+1,X,by omega,rfl,by first|go_num|(go_simp;omega),(by rw[Y87];exact(hS.pick [1,2]))⟩
     case measure=>simp[intOf];omega
    obtain rfl:k=8:=by omega
    rw[Y88] at hS;go_upto_region 13 with fail;refine RL hS ?_;clear hS;refine MV ?_;refine MW ?_ (v:=.bool false) (hv:=by intro W;first|(go_simp;done)|(go_simp;omega));refine MZ fun W hS=> ?_;go_upto_region 16 with fail;refine RL hS ?_;clear hS;refine MF (v:=.agg (J0 .u64 8 hf)) (fun W hS=>J0a rfl rfl ((Q6h HG.out hS.ext).2) (by kernel_rfl) (by rw[J1];kernel_rfl)) ?_;refine MN (z:=J0 .u64 8 (fun _=>0)) (t:=128) ?_;intro V;refine MR 0 ?_;refine MZ fun W hS=> ?_;have hS:=hS.read (i:=1) rfl (Z5n (hS.own (i:=1) rfl)) J2o
    go_wp2_with fail
    go_loopw [3] (fun sv wr=> ∃(j:Nat)(u:AB),(j≤nb F.length)∧(u=sv)∧SH [] w wr [.b V (J0 .u64 8 (Hs (Z4 F) j)) 128,.s u (List.drop (128*j) (Z4 F)),.b K9 (J0 .u8 64 (fun _=>0)) 24])
     (fun sv _=>J70 sv)
    case atStart=>exact⟨0,_,An _,rfl,hS⟩
    clear hS
    case round=>
     obtain⟨j,u,hj,rfl,hS⟩:=hrel;have lb:=J4n (hS.sl (i:=1) rfl)
     by_cases S:j<nb F.length
     ·
      have J:128≤(List.drop (128*j) (Z4 F)).length:=by rw[AZ,G];omega
      go_upto_region 17 with fail;refine RL hS ?_;clear hS;refine MV ?_;refine MF (v:=.int .i64 ((List.drop (128*j) (Z4 F)).length:Int)) (fun W hS=>J03 (hS.sl (i:=1) rfl) rfl rfl) ?_;refine MW ?_ (v:=.bool true) (hv:=by intro W;go_simp;(try simp only[AZ,G]);omega);refine MZ fun W hS=> ?_;go_upto_region 19 with fail;refine RL hS ?_;clear hS;refine ML 0 ?_;refine MV ?_;refine MC (v:=.agg (J0 .u64 8 (prs (Hs (Z4 F) j) (bt (List.drop (128*j) (Z4 F)))))) (fun W hS=>Y4a (Hs (Z4 F) j) (List.drop (128*j) (Z4 F)) u J W (hS.sl (i:=1) rfl) (Q6h HG.out hS.ext)) ?_;refine MR 0 ?_;refine MZ fun W hS=> ?_;go_upto_region 18 with fail;refine RL hS ?_;clear hS;refine MV ?_;refine Mt 1 128 (m:=(List.drop (128*j) (Z4 F))) (m' :=(List.drop (128*(j+1)) (Z4 F))) (by exact J) ?_ (hm:=Z5m _ _);intro U;refine MV ?_;refine MZ fun W hS=> ?_;have la:=J4n (hS.sl (i:=0) rfl);simp only[AZ,G] at la lb;go_wp2;go_roundw
      case rel=>exact⟨j+1,U,by omega,rfl,(hS.pick [1,0,3])⟩
      case measure=>simp only[la,lb];omega
     obtain rfl:j=nb F.length:=by omega
     go_upto_region 17 with fail;refine RL hS ?_;clear hS;refine MV ?_;refine MF (v:=.int .i64 ((List.drop (128*nb F.length) (Z4 F)).length:Int)) (fun W hS=>J03 (hS.sl (i:=1) rfl) rfl rfl) ?_;refine MW ?_ (v:=.bool false) (hv:=by intro W;first|(go_simp;done)|(go_simp;(try simp only[AZ,G]);omega));refine MZ fun W hS=> ?_;go_upto_region 20 with fail;refine RL hS ?_;clear hS;refine MN (z:=J0 .u8 64 (fun _=>0)) (t:=24) ?_;intro N;refine MZ fun W hS=> ?_;go_upto_region 21 with fail;refine RL hS ?_;clear hS;refine ML 1 ?_;refine W0 ?_;refine MZ fun W hS=> ?_
     go_wp2_with fail
     go_loopw [61] (fun ii wr=> ∃(i:Nat),(i≤8)∧(ii=.int .i64 (i:Int))∧SH [] w wr [.b N (J0 .u8 64 (Q4n (Hs (Z4 F) (nb F.length)) (8*i))) 24,.b K9 (J0 .u8 64 (fun _=>0)) 24])
      (fun ii _=>8-(intOf ii).toNat)
     case atStart=>exact⟨0,An _,rfl,(by rw[Nat.mul_zero,Z5k];exact(hS.pick [0,3]))⟩
     clear hS
     case round=>
      obtain⟨i,hi,rfl,hS⟩:=hrel
      by_cases h8:i<8
      ·
       go_upto_region 22 with fail;refine RL hS ?_;clear hS;refine Wt ?_;refine MZ fun W hS=> ?_;go_upto_region 23 with fail;refine RL hS ?_;clear hS;refine MV ?_;refine MW ?_ (v:=.int .u64 (Hs (Z4 F) (nb F.length) i)) (hv:=fun _=>Q7h (m:=8) h8 Tryz.underlying128 (by kernel_rfl) Y4b rfl rfl rfl);refine MV ?_;refine MV ?_;refine MZ fun W hS=> ?_
       go_wp2_with fail
       go_loopw [65] (fun jj wr=> ∃(k:Nat),(k≤8)∧(jj=.int .i64 (k:Int))∧SH [] w wr [.b N (J0 .u8 64 (Q4n (Hs (Z4 F) (nb F.length)) (8*i+k))) 24,.b K9 (J0 .u8 64 (fun _=>0)) 24])
        (fun jj _=>8-(intOf jj).toNat)
       case atStart=>exact⟨0,An _,rfl,hS⟩
       clear hS
       case round=>
        obtain⟨k,hk,rfl,hS⟩:=hrel
        by_cases D:k<8
        ·
         go_upto_region 25 with fail;refine RL hS ?_;clear hS;refine Wt ?_;refine MZ fun W hS=> ?_;go_upto_region 27 with fail;refine RL hS ?_;clear hS;refine MV ?_;refine MW ?_ (v:=.int .i64 (((8*i:Nat):Int))) (hv:=by intro W;go_simp;(try simp only[AI.wrap_u64,AI.wrap_i64]);(try omega));refine MV ?_;refine MW ?_ (v:=.int .i64 (((8*i+k:Nat):Int))) (hv:=by intro W;go_simp;(try simp only[AI.wrap_u64,AI.wrap_i64]);(try omega));refine MV ?_;refine MV ?_;refine MW ?_ (v:=.int .i64 (((7-k:Nat):Int))) (hv:=by intro W;go_simp;(try simp only[AI.wrap_u64,AI.wrap_i64]);(try omega));refine MW ?_ (v:=.int .i64 (((8*(7-k):Nat):Int))) (hv:=by intro W;go_simp;(try simp only[AI.wrap_u64,AI.wrap_i64]);(try omega));refine MW ?_ (v:=.int .u64 (sr (Hs (Z4 F) (nb F.length) i) (8*(7-k)))) (hv:=fun _=>J38 (n:=8*(7-k)) (by omega) rfl rfl rfl);refine MW ?_ (v:=.int .u8 (w8 (sr (Hs (Z4 F) (nb F.length) i) (8*(7-k))))) (hv:=by intro W;exact Q6n rfl rfl);refine MW ?_ (v:=.pointer (some ⟨N,0+(8*i+k),none⟩)) (hv:=fun _=>X3 Tryz.underlying24 (by omega));refine MP 0 (v:=.int .u8 (w8 (sr (Hs (Z4 F) (nb F.length) i) (8*(7-k))))) (cs' :=J0 .u8 64 (upd (Q4n (Hs (Z4 F) (nb F.length)) (8*i+k)) (8*i+k) (w8 (sr (Hs (Z4 F) (nb F.length) i) (8*(7-k)))))) ?_ (hs:=by rw[J1,AP];omega) (hc:=by rw[AP];exact Y9 _ _ _ _ _);refine MZ fun W hS=> ?_;go_wp2;go_roundw
         case rel=>exact⟨k+1,by omega,by go_num,(by rw[←Z5l _ _ _ D];exact hS)⟩
         case measure=>simp[intOf];omega
        obtain rfl:k=8:=by omega
        go_upto_region 25 with fail;refine RL hS ?_;clear hS;refine Wf ?_;refine MZ fun W hS=> ?_;go_wp2;go_roundw
        case rel=>exact⟨i+1,by omega,by go_num,(by rw[show 8*(i+1)=8*i+8 by omega];exact hS)⟩
        case measure=>simp[intOf];omega
      obtain rfl:i=8:=by omega
      rw[show 8*8=64 by rfl,Z9h] at hS;go_upto_region 22 with fail;refine RL hS ?_;clear hS;refine Wf ?_;refine MZ fun W hS=> ?_;go_upto_region 30 with fail;refine RL hS ?_;clear hS;refine ML 0 ?_;refine MR 1 ?_;refine MZ fun W hS=> ?_;go_wp2;refine bodyPost_ret (Z5 rfl rfl (hS.blk (i:=1) rfl) (by kernel_rfl) (by rw[J1];kernel_rfl)) rfl ⟨rfl,hS.ext⟩
end

section
end

section
def GR (w:AA):Prop:=Rd w 1 (J0 .u64 80 kf)∧Rd w 0 (J0 .u64 8 hf)
theorem GR_ext {w W:AA}(h:GR w)(e:Ext w W):GR W:=⟨h.1.ext e,h.2.ext e⟩
def rst (b:Nat→Int)(i:Nat):Nat→Int:=if i<16 then fst b (8*i) else Q8 b i
theorem Z0l {b:Nat→Int}{i:Nat}(h:i<16):rst b i=fst b (8*i):=if_pos h
theorem Q6m {b:Nat→Int}{i:Nat}(h:16≤i):rst b i=Q8 b i:=if_neg (by omega)
theorem Z85 {b:Nat→Int}{i:Nat}(h:i<16):fst b (8*i+8)=rst b (i+1):=by
  by_cases h2:i+1<16
  · rw[Z0l h2];rfl
  obtain rfl:i=15:=by omega
  rw[Q6m (by omega)];exact Z2j b
theorem Z84 (P:List UInt8)(n i k:Nat)(hi:i<16)(hk:k<8):upd (fst (bt (P.drop n)) (8*i+k)) i (oo (sl (fst (bt (P.drop n)) (8*i+k) i) 8) (bt P (n+8*i+k)))=fst (bt (P.drop n)) (8*i+(k+1)):=by
  have h:=Q8e (bt (P.drop n)) (8*i+k);rw[show(8*i+k) / 8=i by omega,Y3u,←Nat.add_assoc] at h;exact h
def bo (H:Nat→Int)(j:Nat):UInt8:=u8 (ob H j).toNat
theorem Y77 (H:Nat→Int)(j:Nat):((bo H j).toNat:Int)=ob H j:=by
  have:=Y6a (sr (H (j / 8)) (8*(7-j % 8)));unfold bo;rw[J86];unfold ob;omega
theorem Y2w (H:Nat→Int)(i k:Nat)(hk:k<8):w8 (sr (H i) (8*(7-k)))=((bo H (8*i+k)).toNat:Int):=by
  rw[Y77];unfold ob;rw[show(8*i+k) / 8=i by omega,show(8*i+k) % 8=k by omega]
def wb (H:Nat→Int)(n:Nat):List UInt8:=(List.range n).map (bo H)
theorem J3s (H:Nat→Int)(n:Nat):(wb H n).length=n:=by simp[wb]
def smb (l:List UInt8):List UInt8:=wb (Hs (Z4 l) (nb l.length)) 64
theorem Q3n (l:List UInt8):(smb l).length=64:=J3s _ _
theorem Z5o (l:List UInt8):(J0 .u8 64 (sm l)).toList=bs8 (smb l):=by
  unfold J0 bs8 smb wb;rw[List.map_map];simp only[List.map_inj_left,Function.comp];intro j _;rw[Y77];rfl
end
end Go.Proofs.YtdjacgmmidbieaaGreatDoor.S8

namespace Go.Proofs.YtdjacgmmidbieaaGreatDoor
theorem Q8m {P:AD}{ops:Array AF}{w:AA}{E E' :Act→Prop}(h:∀a,E a→E' a):∀(l:List AF) (a:Act),wpX P ops w E l a→wpX P ops w E' l a
  |[],a,x=>h a x
  |_::l,_,⟨v,hy,hk⟩=>⟨v,hy,Q8m h l _ hk⟩
def nws (xs:List NewOp)(β:Nat→Nat):List As:=xs.map fun x=> .b (β x.i) x.z x.t
theorem SH.news {F:List Nat}{w W W' :AA}{H:List As}{β:Nat→Nat}(h:SH F w W H)(q:Ext W W'):∀(xs:List NewOp),(∀x∈xs,W.heap.size≤β x.i∧Blk W' (β x.i) x.z x.t)→xs.Pairwise (fun x y=>β x.i≠β y.i)→(∀x∈xs,H.all (SH.tyOk (.b 0 x.z x.t))=true)→SH F w W' (nws xs β++H)
  |[],_,_,_=>h.grow q
  |x::xs,hb,hd,ht=>by
    have h1:=SH.news h q xs (fun y hy=>hb y (by simp[hy])) (List.pairwise_cons.1 hd).2 (fun y hy=>ht y (by simp[hy]));have hx:=hb x (by simp);have h2:SH F w W' (.b (β x.i) x.z x.t::H):=h.new (x:=.b (β x.i) x.z x.t) (J1v q) hx.2 (fun k hk=>by rw[Ai.1 hk];exact hx.1) rfl (ht x (by simp));have hn:=(List.pairwise_cons.1 hd).1;show SH F w W' (.b (β x.i) x.z x.t::(nws xs β++H));refine⟨h1.off,fun y hy=> ?_,List.pairwise_cons.2 ⟨fun y hy=> ?_,h1.ap⟩,fun y hy hm k hk hlt=> ?_⟩
    · rcases Ad.1 hy with rfl|hy
      · exact hx.2
      · exact h1.all y hy
    · rcases List.mem_append.1 hy with hy|hy
      · obtain⟨z,hz,rfl⟩:=List.mem_map.1 hy
        have hne:=hn z hz;exact⟨fun _ k hk hk' =>hne ((Ai.1 hk).symm.trans (Ai.1 hk')),fun _ k hk hk' =>hne ((Ai.1 hk').symm.trans (Ai.1 hk))⟩
      · exact(List.pairwise_cons.1 h2.ap).1 y hy
    · rcases Ad.1 hy with rfl|hy
      · have:=hx.1;have:=h.size;rw[Ai.1 hk] at hlt;omega
      · exact h1.old y hy hm k hk hlt
section
variable {P : AD} {Q : Exit → Act → AA → Prop} {F : List Nat} {w : AA} {H : List As} {l : List AF} {a a' : Act}
theorem RXn {id:Nat}{W:World}{l1 l2:List Oper}(m:Nat)(xs:List NewOp)(hS:SH F w W H)
    (h:wpM P l.toArray (.X (fun a1 W1=> ∀(β:Nat→Nat)(W' :World),Ext W1 W' →(∀x∈xs,W1.heap.size≤β x.i∧Blk W' (β x.i) x.z x.t)→(∀x∈xs,∀y∈xs,x.i≠y.i→β x.i≠β y.i)→wpList P l.toArray (NoPanic Q) l2 (J0j xs β a1) W')) F w H l1 a')
    (hok:∀x∈xs,Q50 P l.toArray x) (hm:P.follows .mixedOrders=true:=by as_aux_lemma=>kernel_rfl)
    (hB:(Region.noSelect l.toArray && Q2q .any l.toArray (m+xs.length) m 0 (Array.replicate l.length false) && decide (m+xs.length≤l.length) && decide (xs.map (·.i)).Nodup && decide (xs.map (·.d)).Nodup && xs.all (fun x=>decide (x.i<m+xs.length)) &&
      Q51 .any l.toArray (J07 (m+xs.length) 0 (Array.replicate l.length false)) xs.length (xs.map (·.i)) (J07 m 0 (Array.replicate l.length false)) &&
      (Region.ready .any l.toArray (J07 (m+xs.length) 0 (Array.replicate l.length false))).all (fun j=>decide (m+xs.length≤j)) &&
      Region.seqB .any l.toArray (l.length-(m+xs.length)) (m+xs.length) (J07 (m+xs.length) 0 (Array.replicate l.length false)))=true:=by as_aux_lemma=>kernel_rfl)
    (h1:l.take m=l1:=by(try simp only[List.append,List.take_succ_cons,List.take_zero,List.take_nil]);exact rfl) (h2:l.drop (m+xs.length)=l2:=by(try simp only[List.append,List.length_cons,List.length_nil,List.drop_succ_cons,List.drop_zero,List.drop_nil]);exact rfl)
    (hp:a=a' :=by(try simp only[Act.put,mA,mB,mC]);exact rfl):(Code.region id l.toArray true).wp P Q a W:=by
  subst hp h1 h2;exact J9k m xs hm hok hB (Q8m (fun a1 h3 β W' h4 h5 h6=>h3 W (Below.refl _ _) β W' h4 h5 h6) _ _ (h W hS))
theorem MZB {ops ops2:Array Oper}{l2:List Oper}{xs:List NewOp}{H' :(Nat→Nat)→List As}{a2:(Nat→Nat)→Act}(h:∀β,wpM P ops2 (.L Q) F w (H' β) l2 (a2 β))(hnd:(xs.map (·.i)).Nodup:=by decide)(ht:∀x∈xs,H.all (SH.tyOk (.b 0 x.z x.t))=true:=by(intro x hx;simp only[List.mem_cons,List.not_mem_nil,or_false] at hx;rcases hx with rfl|rfl|rfl|rfl<;>rfl))
    (hH:∀β,nws xs β++H=H' β:=by exact fun _=>rfl) (hp:∀β,J0j xs β a=a2 β:=by(intro β;dsimp only[J0j,Act.put,mA,mB,mC];first|done|exact rfl)):
    wpM P ops (.X (fun a1 W1=> ∀(β:Nat→Nat)(W' :World),Ext W1 W' →(∀x∈xs,W1.heap.size≤β x.i∧Blk W' (β x.i) x.z x.t)→(∀x∈xs,∀y∈xs,x.i≠y.i→β x.i≠β y.i)→wpList P ops2 Q l2 (J0j xs β a1) W')) F w H [] a:=fun W hS=>J0o fun W1 h1 β W' h2 h3 h4=>by
  rw[hp β];refine h β W' ?_;rw[←hH β];refine(hS.grow h1).news h2 xs h3 ?_ ht
  have:xs.Pairwise fun x y=>x.i≠y.i:=by
    have:=List.pairwise_map.1 hnd;exact this
  exact List.Pairwise.imp_of_mem (fun hx hy D=>h4 _ hx _ hy D) this
end
end Go.Proofs.YtdjacgmmidbieaaGreatDoor

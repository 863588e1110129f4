/- Contracts and plain laws for superSeals_holds. Conditions: the tables hold their numbers. -/
import Derived.Test.YtdjacgmmidbieaaGreatDoorJ24
open Go renaming World->AA,Value->AB,bodyPost_ret->BH,Calls->BI,TypeId->AE
open _root_.List renaming length_append->Ao,length_cons->AY,length_nil->Av,getElem?_eq_getElem->Aj,getElem?_map->Bd,take_length->Be,length_map->Bc,map_cons->Ac,mem_of_getElem?->Az,length_take->BC,map_nil->Ak,map_append->Bf
open _root_.Nat renaming zero_le->An,le_trans->Ae,zero_add->AP
open _root_.Array renaming getElem?_toList->Bg
open Go.RowKit
set_option maxRecDepth 100000
set_option linter.unusedSimpArgs false
set_option linter.unusedVariables false
namespace Go.Proofs.YtdjacgmmidbieaaGreatDoor
section
set_option maxHeartbeats 3000000
attribute [local irreducible] wpList K1 wpX
theorem Y7w (k i:Nat)(hi:i<256)(w:AA):BI Tryz.prog 122 #[.agg (J0 .u8 32 (J6 k)),.int .i64 (i:Int)] w fun e w' =>V4 (.int .i64 (kb k i:Int)) w w' e:=by
 rw[J8i hi];exact Q0x (J6 k) (Z41 k) i hi w
theorem Y14 (a b:Nat)(r:Bool)(h:kl a b=r)(w:AA):BI Tryz.prog 123 #[.agg (J0 .u8 32 (J6 a)),.agg (J0 .u8 32 (J6 b))] w fun e w' =>V4 (.bool r) w w' e:=by
 subst h;exact Q21 (J6 a) (J6 b) (Z41 a) (Z41 b) w
theorem Y15 {ls:List Lf}{u:AB}(d b:Nat)(hd:d<256)(hn:ls.length≤274877906944)(w:AA)(hl:RR 64 w u (ls.map lfl)):
  BI Tryz.prog 80 #[u,.int .i64 (d:Int),.int .i64 (b:Int)] w fun e w' =>Y13 139 (J0f ls d b) w w' e:=by
 obtain⟨Al,cl,rfl,S,N⟩:=hl.op;have hS:=SH.nil [] w
 go_enter Tryz.func80,Tryz.ntmps80
 go_upto_region 1 with fail;refine RL hS ?_;clear hS;refine MB0 (t:=139) (n:=64) ?_;intro U;refine MV ?_;refine MZ fun W hS=> ?_
 go_wp2_with fail
 go_loopw [7,8] (fun uv ii wr=> ∃(i:Nat)(u:AB),(i≤ls.length)∧(u=uv)∧(ii=.int .i64 (i:Int))∧SH [] w wr [.r 139 64 u (List.map lfl (J0f (List.take i ls) d b))])
  (fun uv ii _=>ls.length-(intOf ii).toNat)
 case atStart=>exact⟨0,_,An _,rfl,rfl,hS⟩
 clear hS
 case round=>
  obtain⟨i,u,hi,rfl,rfl,hS⟩:=hrel;have T:=Y12 (ls:=ls) (i:=i) d b
  by_cases D:i<ls.length
  ·
   obtain⟨x,xh⟩:∃x,ls[i]?=some x:=⟨_,Aj D⟩
   obtain⟨gl,ol,M,G⟩:=N.out i x xh;have J:=Lib.hid M;clear M;go_upto_region 3 with fail;refine RL hS ?_;clear hS;(iterate 3 refine MV ?_);refine Wt ?_;refine MZ fun W hS=> ?_
   by_cases hb:kb x.1 d=b
   ·
    go_upto_region 5 with fail;refine RL hS ?_;clear hS;refine MV ?_;refine MV ?_;refine MW ?_ (v:=.pointer (some ⟨gl,ol+i*64,none⟩)) (hv:=fun _=>Y7 J.out D rfl rfl rfl Tryz.underlying95 (by kernel_rfl));refine MW ?_ (v:=.pointer (some ⟨gl,ol+i*64,none⟩));refine MF (v:=.agg (J0 .u8 32 (J6 x.1))) (fun W hS=>V8 rfl rfl (fun i_ v hv=>U0 (G i_ v (by rw[Bg];have h_:=J4o (k:=x.1) (v:=x.2) i_ v hv;rw[AP] at h_;exact h_)) hS.ext) (by kernel_rfl) (by rw[J1];kernel_rfl)) ?_;refine MV ?_;refine MC (v:=.int .i64 (kb x.1 d:Int)) (fun W hS=>Y7w x.1 d hd W) ?_;refine MV ?_;refine Wt ?_;refine MZ fun W hS=> ?_;go_upto_region 6 with fail;refine RL hS ?_;clear hS;(iterate 3 refine MV ?_);refine MW ?_ (v:=.pointer (some ⟨gl,ol+i*64,none⟩)) (hv:=fun _=>Y7 J.out D rfl rfl rfl Tryz.underlying95 (by kernel_rfl));refine MF (v:=.agg (lf x.1 x.2)) (fun W hS=>V8 rfl rfl (fun i_ v hv=>U0 (G i_ v (by simpa using hv)) hS.ext) (by kernel_rfl) (by rw[V0];kernel_rfl)) ?_;refine MB (z:=(lf x.1 x.2)) (t:=139) (n:=1) (c:=1) ?_ (hr:=fun W _=>J0d rfl rfl rfl Tryz.underlying95 (by rw[V0];kernel_rfl) (by rw[V0];kernel_rfl) (by rw[V0];decide) (by rw[V0];decide));intro V;refine MAr 1 0 (tS:=95) (bytes:=64) (es:=(List.map lfl (J0f (List.take i ls) d b))) (by first|omega|(simp only[Ao,Bc,BC,AY,Av];omega)) (e:=lfl x) (hk:=V0) (h1:=J96) ?_;intro R;refine MV ?_;refine MZ fun W hS=> ?_;go_wp2;go_roundw
    case rel=>exact⟨i+1,R,by omega,rfl,by go_num,(by rw[show J0f (ls.take (i+1)) d b=J0f (ls.take i) d b++[x] from by rw[Q47 xh,if_pos hb]];rw[Bf];exact(hS.pick [1]))⟩
    case measure=>simp[intOf];omega
   go_upto_region 5 with fail;refine RL hS ?_;clear hS;refine MV ?_;refine MV ?_;refine MW ?_ (v:=.pointer (some ⟨gl,ol+i*64,none⟩)) (hv:=fun _=>Y7 J.out D rfl rfl rfl Tryz.underlying95 (by kernel_rfl));refine MW ?_ (v:=.pointer (some ⟨gl,ol+i*64,none⟩));refine MF (v:=.agg (J0 .u8 32 (J6 x.1))) (fun W hS=>V8 rfl rfl (fun i_ v hv=>U0 (G i_ v (by rw[Bg];have h_:=J4o (k:=x.1) (v:=x.2) i_ v hv;rw[AP] at h_;exact h_)) hS.ext) (by kernel_rfl) (by rw[J1];kernel_rfl)) ?_;refine MV ?_;refine MC (v:=.int .i64 (kb x.1 d:Int)) (fun W hS=>Y7w x.1 d hd W) ?_;refine MV ?_;refine Wf ?_;refine MZ fun W hS=> ?_;go_wp2;go_roundw
   case rel=>exact⟨i+1,u,by omega,rfl,by go_num,(by rw[show J0f (ls.take (i+1)) d b=J0f (ls.take i) d b from by rw[Q47 xh,if_neg hb,List.append_nil]];exact hS)⟩
   case measure=>simp[intOf];omega
  obtain rfl:i=ls.length:=by omega
  go_upto_region 3 with fail;refine RL hS ?_;clear hS;(iterate 3 refine MV ?_);refine Wf ?_;refine MZ fun W hS=> ?_;go_wp2;exact BH (v:=u) (by simp only[results,Tryz.results80];go_simp) rfl ⟨_,rfl,by have h_:=hS.pick [0];rw[Be] at h_;exact h_⟩
theorem V1c {ls:List Lf}{u:AB}{k v:Nat}(hk:k<2^256)(hls:J2q ls)(hn:ls.length≤274877906944)(w:AA)(hl:RR 64 w u (ls.map lfl)):
  BI Tryz.prog 83 #[u,.agg (lf k v)] w fun e w' =>Y13 139 (J30 ls (k,v)) w w' e:=by
 obtain⟨Al,cl,rfl,Z,T⟩:=hl.op;have hS:=SH.nil [] w
 go_enter Tryz.func83,Tryz.ntmps83
 go_upto_region 0 with fail;refine RL hS ?_;clear hS;refine MN (z:=lf k v) (t:=139) ?_;intro S;refine MV ?_;refine MZ fun W hS=> ?_;go_upto_region 1 with fail;refine RL hS ?_;clear hS;refine MB0 (t:=139) (n:=64) ?_;intro α;refine MV ?_;refine MZ fun W hS=> ?_
 go_wp2_with fail
 go_loopw [5,6,7] (fun uv bv ii wr=> ∃(i:Nat)(dn:Bool)(D:List Lf)(u:AB),(i≤ls.length)∧(D.length≤2*i)∧(D++J3n (k,v) dn (ls.drop i)=J30 ls (k,v))∧(u=uv)∧(bv=.bool dn)∧(ii=.int .i64 (i:Int))∧SH [] w wr [.r 139 64 u (List.map lfl D),.b S (lf k v) 139])
  (fun uv bv ii _=>ls.length-(intOf ii).toNat)
 case atStart=>exact⟨0,false,[],_,An _,An _,rfl,rfl,rfl,rfl,hS⟩
 clear hS
 case round=>
  obtain⟨i,dn,D,u,hi,δ,hE,rfl,rfl,rfl,hS⟩:=hrel
  by_cases G:i<ls.length
  ·
   obtain⟨y,yh⟩:∃x,ls[i]?=some x:=⟨_,Aj G⟩
   obtain⟨gl,ol,N,J⟩:=T.out i y yh;have M:=Lib.hid N;clear N;go_upto_region 4 with fail;refine RL hS ?_;clear hS;(iterate 3 refine MV ?_);refine Wt ?_;refine MZ fun W hS=> ?_;rcases dn with _|_
   ·
    rcases hkl:kl y.1 k with _|_
    ·
     go_upto_region 6 with fail;refine RTh (.q 0 (.q 1 (.q 2 (.q 3 (.q 4 (.q 5 (.q 6 (.q 7 (.q 8 (.q 9 (.e 10 (.q 11 (.q 12 .z))))))))))))) hS ?_;clear hS;refine Tf ?_;refine Tt ?_;refine Tt ?_;refine TV ?_;refine TV ?_;refine TW ?_ (v:=.pointer (some ⟨gl,ol+i*64,none⟩)) (hv:=fun _=>Y7 M.out G rfl rfl rfl Tryz.underlying95 (by kernel_rfl));refine TW ?_ (v:=.pointer (some ⟨gl,ol+i*64,none⟩));refine TF (v:=.agg (J0 .u8 32 (J6 y.1))) rfl (fun W hS=>V8 rfl rfl (fun i_ v hv=>U0 (J i_ v (by rw[Bg];have h_:=J4o (k:=y.1) (v:=y.2) i_ v hv;rw[AP] at h_;exact h_)) hS.ext) (by kernel_rfl) (by rw[J1];kernel_rfl)) ?_;refine TV ?_;refine Tl 1 J4o ?_;refine TE (fun _ h=>h) ?_;refine MC (v:=.bool false) (fun W hS=>Y14 y.1 k _ hkl W) ?_;refine TNh (fun W hS=>hS) ?_;refine Tt ?_;refine Tt ?_;refine TZ (fun _ h=>h) fun W hS=> ?_;go_upto_region 7 with fail;refine RL hS ?_;clear hS;refine MV ?_;refine ML 1 ?_ (hs:=by rw[V0];kernel_rfl);refine MB (z:=(lf k v)) (t:=139) (n:=1) (c:=1) ?_ (hr:=fun W _=>J0d rfl rfl rfl Tryz.underlying95 (by rw[V0];kernel_rfl) (by rw[V0];kernel_rfl) (by rw[V0];decide) (by rw[V0];decide));intro γ;refine MAr 1 0 (tS:=95) (bytes:=64) (es:=(List.map lfl D)) (by first|omega|(simp only[Ao,Bc,BC,AY,Av];omega)) (e:=lfl (k,v)) (hk:=V0) (h1:=J96) ?_;intro V;refine MV ?_;refine MZ fun W hS=> ?_
     by_cases he:y.1=k
     ·
      go_upto_region 9 with fail;refine RTh (.q 0 (.q 1 (.q 2 (.q 3 (.q 4 (.q 5 (.q 6 (.q 7 .z)))))))) hS ?_;clear hS;refine TV ?_;refine TV ?_;refine TW ?_ (v:=.pointer (some ⟨gl,ol+i*64,none⟩)) (hv:=fun _=>Y7 M.out G rfl rfl rfl Tryz.underlying95 (by kernel_rfl));refine TW ?_ (v:=.pointer (some ⟨gl,ol+i*64,none⟩));refine TF (v:=.agg (J0 .u8 32 (J6 y.1))) rfl (fun W hS=>V8 rfl rfl (fun i_ v hv=>U0 (J i_ v (by rw[Bg];have h_:=J4o (k:=y.1) (v:=y.2) i_ v hv;rw[AP] at h_;exact h_)) hS.ext) (by kernel_rfl) (by rw[J1];kernel_rfl)) ?_;refine TV ?_;refine Tl 2 J4o ?_;refine TW ?_ (v:=.bool false) (hv:=fun _=>J0s ((fun w=>(Q5a y.1 k (hls _ (Az yh)).1 hk w).trans (by rw[decide_eq_true he])) _) (by kernel_rfl) rfl rfl rfl);refine TZ (fun _ h=>h) fun W hS=> ?_;go_wp2;go_roundw
      case rel=>exact⟨i+1,true,D++[(k,v)],V,by omega,by first|omega|(simp only[Ao,AY,Av];omega),by rw[←hE,J50 yh];simp only[hkl];simp[he],rfl,rfl,by go_num,(by rw[show List.map lfl (D++[(k,v)])=(List.map lfl D)++[lfl (k,v)] from by first|rfl|simp only[Bf,Ac,Ak]];exact(hS.pick [1,2]))⟩
      case measure=>simp[intOf];omega
     go_upto_region 9 with fail;refine RTh (.q 0 (.q 1 (.q 2 (.q 3 (.q 4 (.q 5 (.q 6 (.q 7 .z)))))))) hS ?_;clear hS;refine TV ?_;refine TV ?_;refine TW ?_ (v:=.pointer (some ⟨gl,ol+i*64,none⟩)) (hv:=fun _=>Y7 M.out G rfl rfl rfl Tryz.underlying95 (by kernel_rfl));refine TW ?_ (v:=.pointer (some ⟨gl,ol+i*64,none⟩));refine TF (v:=.agg (J0 .u8 32 (J6 y.1))) rfl (fun W hS=>V8 rfl rfl (fun i_ v hv=>U0 (J i_ v (by rw[Bg];have h_:=J4o (k:=y.1) (v:=y.2) i_ v hv;rw[AP] at h_;exact h_)) hS.ext) (by kernel_rfl) (by rw[J1];kernel_rfl)) ?_;refine TV ?_;refine Tl 2 J4o ?_;refine TW ?_ (v:=.bool true) (hv:=fun _=>J0s ((fun w=>(Q5a y.1 k (hls _ (Az yh)).1 hk w).trans (by rw[decide_eq_false he])) _) (by kernel_rfl) rfl rfl rfl);refine TZ (fun _ h=>h) fun W hS=> ?_;go_upto_region 10 with fail;refine RL hS ?_;clear hS;(iterate 3 refine MV ?_);refine MW ?_ (v:=.pointer (some ⟨gl,ol+i*64,none⟩)) (hv:=fun _=>Y7 M.out G rfl rfl rfl Tryz.underlying95 (by kernel_rfl));refine MF (v:=.agg (lf y.1 y.2)) (fun W hS=>V8 rfl rfl (fun i_ v hv=>U0 (J i_ v (by simpa using hv)) hS.ext) (by kernel_rfl) (by rw[V0];kernel_rfl)) ?_;refine MB (z:=(lf y.1 y.2)) (t:=139) (n:=1) (c:=1) ?_ (hr:=fun W _=>J0d rfl rfl rfl Tryz.underlying95 (by rw[V0];kernel_rfl) (by rw[V0];kernel_rfl) (by rw[V0];decide) (by rw[V0];decide));intro ζ;refine MAr 2 0 (tS:=95) (bytes:=64) (es:=((List.map lfl D)++[lfl (k,v)])) (by first|omega|(simp only[Ao,Bc,BC,AY,Av];omega)) (e:=lfl y) (hk:=V0) (h1:=J96) ?_;intro U;refine MV ?_;refine MZ fun W hS=> ?_;go_wp2;go_roundw
     case rel=>exact⟨i+1,true,D++[(k,v)]++[y],U,by omega,by first|omega|(simp only[Ao,AY,Av];omega),by rw[←hE,J50 yh];simp only[hkl];simp[he],rfl,rfl,by go_num,(by rw[show List.map lfl (D++[(k,v)]++[y])=((List.map lfl D)++[lfl (k,v)])++[lfl y] from by first|rfl|simp only[Bf,Ac,Ak]];exact(hS.pick [2,3]))⟩
     case measure=>simp[intOf];omega
    go_upto_region 6 with fail;refine RTh (.q 0 (.q 1 (.q 2 (.q 3 (.q 4 (.q 5 (.q 6 (.q 7 (.q 8 (.q 9 (.e 10 (.q 11 (.q 12 .z))))))))))))) hS ?_;clear hS;refine Tf ?_;refine Tt ?_;refine Tt ?_;refine TV ?_;refine TV ?_;refine TW ?_ (v:=.pointer (some ⟨gl,ol+i*64,none⟩)) (hv:=fun _=>Y7 M.out G rfl rfl rfl Tryz.underlying95 (by kernel_rfl));refine TW ?_ (v:=.pointer (some ⟨gl,ol+i*64,none⟩));refine TF (v:=.agg (J0 .u8 32 (J6 y.1))) rfl (fun W hS=>V8 rfl rfl (fun i_ v hv=>U0 (J i_ v (by rw[Bg];have h_:=J4o (k:=y.1) (v:=y.2) i_ v hv;rw[AP] at h_;exact h_)) hS.ext) (by kernel_rfl) (by rw[J1];kernel_rfl)) ?_;refine TV ?_;refine Tl 1 J4o ?_;refine TE (fun _ h=>h) ?_;refine MC (v:=.bool true) (fun W hS=>Y14 y.1 k _ hkl W) ?_;refine TNh (fun W hS=>hS) ?_;refine Tf ?_;refine Tf ?_;refine TZ (fun _ h=>h) fun W hS=> ?_
    by_cases he:y.1=k
    ·
     go_upto_region 9 with fail;refine RTh (.q 0 (.q 1 (.q 2 (.q 3 (.q 4 (.q 5 (.q 6 (.q 7 .z)))))))) hS ?_;clear hS;refine TV ?_;refine TV ?_;refine TW ?_ (v:=.pointer (some ⟨gl,ol+i*64,none⟩)) (hv:=fun _=>Y7 M.out G rfl rfl rfl Tryz.underlying95 (by kernel_rfl));refine TW ?_ (v:=.pointer (some ⟨gl,ol+i*64,none⟩));refine TF (v:=.agg (J0 .u8 32 (J6 y.1))) rfl (fun W hS=>V8 rfl rfl (fun i_ v hv=>U0 (J i_ v (by rw[Bg];have h_:=J4o (k:=y.1) (v:=y.2) i_ v hv;rw[AP] at h_;exact h_)) hS.ext) (by kernel_rfl) (by rw[J1];kernel_rfl)) ?_;refine TV ?_;refine Tl 1 J4o ?_;refine TW ?_ (v:=.bool false) (hv:=fun _=>J0s ((fun w=>(Q5a y.1 k (hls _ (Az yh)).1 hk w).trans (by rw[decide_eq_true he])) _) (by kernel_rfl) rfl rfl rfl);refine TZ (fun _ h=>h) fun W hS=> ?_;go_wp2;go_roundw
     case rel=>exact⟨i+1,false,D,u,by omega,by first|omega|(simp only[Ao,AY,Av];omega),by rw[←hE,J50 yh];simp only[hkl];simp[he],rfl,rfl,by go_num,(by rw[show List.map lfl (D)=List.map lfl D from by first|rfl|simp only[Bf,Ac,Ak]];exact hS)⟩
     case measure=>simp[intOf];omega
    go_upto_region 9 with fail;refine RTh (.q 0 (.q 1 (.q 2 (.q 3 (.q 4 (.q 5 (.q 6 (.q 7 .z)))))))) hS ?_;clear hS;refine TV ?_;refine TV ?_;refine TW ?_ (v:=.pointer (some ⟨gl,ol+i*64,none⟩)) (hv:=fun _=>Y7 M.out G rfl rfl rfl Tryz.underlying95 (by kernel_rfl));refine TW ?_ (v:=.pointer (some ⟨gl,ol+i*64,none⟩));refine TF (v:=.agg (J0 .u8 32 (J6 y.1))) rfl (fun W hS=>V8 rfl rfl (fun i_ v hv=>U0 (J i_ v (by rw[Bg];have h_:=J4o (k:=y.1) (v:=y.2) i_ v hv;rw[AP] at h_;exact h_)) hS.ext) (by kernel_rfl) (by rw[J1];kernel_rfl)) ?_;refine TV ?_;refine Tl 1 J4o ?_;refine TW ?_ (v:=.bool true) (hv:=fun _=>J0s ((fun w=>(Q5a y.1 k (hls _ (Az yh)).1 hk w).trans (by rw[decide_eq_false he])) _) (by kernel_rfl) rfl rfl rfl);refine TZ (fun _ h=>h) fun W hS=> ?_;go_upto_region 10 with fail;refine RL hS ?_;clear hS;(iterate 3 refine MV ?_);refine MW ?_ (v:=.pointer (some ⟨gl,ol+i*64,none⟩)) (hv:=fun _=>Y7 M.out G rfl rfl rfl Tryz.underlying95 (by kernel_rfl));refine MF (v:=.agg (lf y.1 y.2)) (fun W hS=>V8 rfl rfl (fun i_ v hv=>U0 (J i_ v (by simpa using hv)) hS.ext) (by kernel_rfl) (by rw[V0];kernel_rfl)) ?_;refine MB (z:=(lf y.1 y.2)) (t:=139) (n:=1) (c:=1) ?_ (hr:=fun W _=>J0d rfl rfl rfl Tryz.underlying95 (by rw[V0];kernel_rfl) (by rw[V0];kernel_rfl) (by rw[V0];decide) (by rw[V0];decide));intro β;refine MAr 1 0 (tS:=95) (bytes:=64) (es:=(List.map lfl D)) (by first|omega|(simp only[Ao,Bc,BC,AY,Av];omega)) (e:=lfl y) (hk:=V0) (h1:=J96) ?_;intro R;refine MV ?_;refine MZ fun W hS=> ?_;go_wp2;go_roundw
    case rel=>exact⟨i+1,false,D++[y],R,by omega,by first|omega|(simp only[Ao,AY,Av];omega),by rw[←hE,J50 yh];simp only[hkl];simp[he],rfl,rfl,by go_num,(by rw[show List.map lfl (D++[y])=(List.map lfl D)++[lfl y] from by first|rfl|simp only[Bf,Ac,Ak]];exact(hS.pick [1,2]))⟩
    case measure=>simp[intOf];omega
   go_upto_region 6 with fail;refine RTh (.q 0 (.q 1 (.q 2 (.q 3 (.q 4 (.q 5 (.q 6 (.q 7 (.q 8 (.q 9 (.e 10 (.q 11 (.q 12 .z))))))))))))) hS ?_;clear hS;refine Tt ?_;refine Tf ?_;refine Tf ?_;(iterate 7 refine TS ?_);refine TE (fun _ h=>h) ?_;refine MS ?_;refine TNh (fun W hS=>hS) ?_;refine TS ?_;refine Tf ?_;refine TZ (fun _ h=>h) fun W hS=> ?_
   by_cases he:y.1=k
   ·
    go_upto_region 9 with fail;refine RTh (.q 0 (.q 1 (.q 2 (.q 3 (.q 4 (.q 5 (.q 6 (.q 7 .z)))))))) hS ?_;clear hS;refine TV ?_;refine TV ?_;refine TW ?_ (v:=.pointer (some ⟨gl,ol+i*64,none⟩)) (hv:=fun _=>Y7 M.out G rfl rfl rfl Tryz.underlying95 (by kernel_rfl));refine TW ?_ (v:=.pointer (some ⟨gl,ol+i*64,none⟩));refine TF (v:=.agg (J0 .u8 32 (J6 y.1))) rfl (fun W hS=>V8 rfl rfl (fun i_ v hv=>U0 (J i_ v (by rw[Bg];have h_:=J4o (k:=y.1) (v:=y.2) i_ v hv;rw[AP] at h_;exact h_)) hS.ext) (by kernel_rfl) (by rw[J1];kernel_rfl)) ?_;refine TV ?_;refine Tl 1 J4o ?_;refine TW ?_ (v:=.bool false) (hv:=fun _=>J0s ((fun w=>(Q5a y.1 k (hls _ (Az yh)).1 hk w).trans (by rw[decide_eq_true he])) _) (by kernel_rfl) rfl rfl rfl);refine TZ (fun _ h=>h) fun W hS=> ?_;go_wp2;go_roundw
    case rel=>exact⟨i+1,true,D,u,by omega,by first|omega|(simp only[Ao,AY,Av];omega),by rw[←hE,J50 yh];simp[he],rfl,rfl,by go_num,(by rw[show List.map lfl (D)=List.map lfl D from by first|rfl|simp only[Bf,Ac,Ak]];exact hS)⟩
    case measure=>simp[intOf];omega
   go_upto_region 9 with fail;refine RTh (.q 0 (.q 1 (.q 2 (.q 3 (.q 4 (.q 5 (.q 6 (.q 7 .z)))))))) hS ?_;clear hS;refine TV ?_;refine TV ?_;refine TW ?_ (v:=.pointer (some ⟨gl,ol+i*64,none⟩)) (hv:=fun _=>Y7 M.out G rfl rfl rfl Tryz.underlying95 (by kernel_rfl));refine TW ?_ (v:=.pointer (some ⟨gl,ol+i*64,none⟩));refine TF (v:=.agg (J0 .u8 32 (J6 y.1))) rfl (fun W hS=>V8 rfl rfl (fun i_ v hv=>U0 (J i_ v (by rw[Bg];have h_:=J4o (k:=y.1) (v:=y.2) i_ v hv;rw[AP] at h_;exact h_)) hS.ext) (by kernel_rfl) (by rw[J1];kernel_rfl)) ?_;refine TV ?_;refine Tl 1 J4o ?_;refine TW ?_ (v:=.bool true) (hv:=fun _=>J0s ((fun w=>(Q5a y.1 k (hls _ (Az yh)).1 hk w).trans (by rw[decide_eq_false he])) _) (by kernel_rfl) rfl rfl rfl);refine TZ (fun _ h=>h) fun W hS=> ?_;go_upto_region 10 with fail;refine RL hS ?_;clear hS;(iterate 3 refine MV ?_);refine MW ?_ (v:=.pointer (some ⟨gl,ol+i*64,none⟩)) (hv:=fun _=>Y7 M.out G rfl rfl rfl Tryz.underlying95 (by kernel_rfl));refine MF (v:=.agg (lf y.1 y.2)) (fun W hS=>V8 rfl rfl (fun i_ v hv=>U0 (J i_ v (by simpa using hv)) hS.ext) (by kernel_rfl) (by rw[V0];kernel_rfl)) ?_;refine MB (z:=(lf y.1 y.2)) (t:=139) (n:=1) (c:=1) ?_ (hr:=fun W _=>J0d rfl rfl rfl Tryz.underlying95 (by rw[V0];kernel_rfl) (by rw[V0];kernel_rfl) (by rw[V0];decide) (by rw[V0];decide));intro ε;refine MAr 1 0 (tS:=95) (bytes:=64) (es:=(List.map lfl D)) (by first|omega|(simp only[Ao,Bc,BC,AY,Av];omega)) (e:=lfl y) (hk:=V0) (h1:=J96) ?_;intro Y;refine MV ?_;refine MZ fun W hS=> ?_;go_wp2;go_roundw
   case rel=>exact⟨i+1,true,D++[y],Y,by omega,by first|omega|(simp only[Ao,AY,Av];omega),by rw[←hE,J50 yh];simp[he],rfl,rfl,by go_num,(by rw[show List.map lfl (D++[y])=(List.map lfl D)++[lfl y] from by first|rfl|simp only[Bf,Ac,Ak]];exact(hS.pick [1,2]))⟩
   case measure=>simp[intOf];omega
  obtain rfl:i=ls.length:=by omega
  go_upto_region 4 with fail;refine RL hS ?_;clear hS;(iterate 3 refine MV ?_);refine Wf ?_;refine MZ fun W hS=> ?_;rcases dn with _|_
  ·
   rw[List.drop_length] at hE;go_upto_region 12 with fail;refine RL hS ?_;clear hS;refine MV ?_;refine ML 1 ?_ (hs:=by rw[V0];kernel_rfl);refine MB (z:=(lf k v)) (t:=139) (n:=1) (c:=1) ?_ (hr:=fun W _=>J0d rfl rfl rfl Tryz.underlying95 (by rw[V0];kernel_rfl) (by rw[V0];kernel_rfl) (by rw[V0];decide) (by rw[V0];decide));intro η;refine MAr 1 0 (tS:=95) (bytes:=64) (es:=(List.map lfl D)) (by first|omega|(simp only[Ao,Bc,BC,AY,Av];omega)) (e:=lfl (k,v)) (hk:=V0) (h1:=J96) ?_;intro X;refine MV ?_;refine MZ fun W hS=> ?_;go_wp2;have e_:(List.map lfl D)++[lfl (k,v)]=List.map lfl (J30 ls (k,v)):=by rw[←hE];simp[J3n]
   exact BH (v:=X) (by simp only[results,Tryz.results83];go_simp) rfl ⟨_,rfl,by have h_:=hS.pick [1];rw[e_] at h_;exact h_⟩
  rw[List.drop_length] at hE;go_wp2;have e_:List.map lfl D=List.map lfl (J30 ls (k,v)):=by rw[←hE];simp[J3n]
  exact BH (v:=u) (by simp only[results,Tryz.results83];go_simp) rfl ⟨_,rfl,by have h_:=hS.pick [0];rw[e_] at h_;exact h_⟩
end

section
attribute [local irreducible] wpList K1 wpX

end

section
set_option maxHeartbeats 3000000
attribute [local irreducible] wpList K1 wpX
attribute [local irreducible] hs4 sE sL sN

theorem V5q {d:Int}{q:Prop}(hr:q){u:AB}(w:AA)(hG:GT q w)(hl:RR 64 w u (([]:List Lf).map lfl)):
  BI Tryz.prog 42 #[u,.int .i64 d] w fun e w' =>V4 (Z9 (lb 32 sE)) w w' e:=by
 obtain⟨Al,cl,rfl,G,J⟩:=hl.op;have hS:=SH.nil [] w
 go_enter Tryz.func42,Tryz.ntmps42
 go_upto_region 1 with fail;refine RL hS ?_;clear hS;refine MV ?_;refine MV ?_;refine Wt ?_;refine MZ fun W hS=> ?_;go_upto_region 2 with fail;refine RL hS ?_;clear hS;obtain⟨U1,D⟩:=exh (sE);refine MC (v:=Z9 (lb 32 U1)) (fun W hS=>(by rw[D.out];exact Y0q hr W (Y5 hG hS.ext))) ?_;refine MV ?_;refine MZ fun W hS=> ?_;have e_:=D.out;subst e_;go_wp2;exact BH (v:=Z9 (lb 32 sE)) (by simp only[results,Tryz.results42];go_simp) rfl ⟨rfl,hS.ext⟩
theorem V5r {q:Prop}(hr:q){d:Int}{x:Lf}{u:AB}(w:AA)(hG:GT q w)(hl:RR 64 w u ([x].map lfl)):
  BI Tryz.prog 42 #[u,.int .i64 d] w fun e w' =>V4 (Z9 (lb 32 (sL x.1 x.2))) w w' e:=by
 obtain⟨Al,cl,rfl,R,J⟩:=hl.op;obtain⟨gl,ol,G,M⟩:=J.out 0 x rfl;have N:=Lib.hid G;clear G;have hS:=SH.nil [] w
 go_enter Tryz.func42,Tryz.ntmps42
 go_upto_region 1 with fail;refine RL hS ?_;clear hS;refine MV ?_;refine MV ?_;refine Wf ?_;refine MZ fun W hS=> ?_;go_upto_region 3 with fail;refine RL hS ?_;clear hS;refine MV ?_;refine MV ?_;refine Wt ?_;refine MZ fun W hS=> ?_;go_upto_region 4 with fail;refine RL hS ?_;clear hS;refine MV ?_;refine MW ?_ (v:=.pointer (some ⟨gl,ol+0*64,none⟩)) (hv:=fun _=>Y7 N.out (Nat.lt_succ_self 0) rfl rfl rfl Tryz.underlying95 (by kernel_rfl));refine MF (v:=.agg (lf x.1 x.2)) (fun W hS=>V8 rfl rfl (fun i_ v hv=>U0 (M i_ v (by simpa using hv)) hS.ext) (by kernel_rfl) (by rw[V0];kernel_rfl)) ?_;obtain⟨U1,D⟩:=exh (sL x.1 x.2);refine MC (v:=Z9 (lb 32 U1)) (fun W hS=>(by rw[D.out];exact Z1g hr x.1 x.2 W (Y5 hG hS.ext))) ?_;refine MV ?_;refine MZ fun W hS=> ?_;have e_:=D.out;subst e_;go_wp2;exact BH (v:=Z9 (lb 32 (sL x.1 x.2))) (by simp only[results,Tryz.results42];go_simp) rfl ⟨rfl,hS.ext⟩
theorem V5s {q:Prop}(hr:q){ls:List Lf}{A0 A1:Nat}(d:Nat)(hd:d<256)(hn:ls.length≤274877906944)(h2:2≤ls.length)(ih0:∀{u:AB} (W:AA),GT q W→RR 64 W u ((J0f ls d 0).map lfl)→BI Tryz.prog 42 #[u,.int .i64 ((d+1:Nat):Int)] W fun e w' =>V4 (Z9 (lb 32 A0)) W w' e)(ih1:∀{u:AB} (W:AA),GT q W→RR 64 W u ((J0f ls d 1).map lfl)→BI Tryz.prog 42 #[u,.int .i64 ((d+1:Nat):Int)] W fun e w' =>V4 (Z9 (lb 32 A1)) W w' e){u:AB}(w:AA)(hG:GT q w)(hl:RR 64 w u (ls.map lfl)):
  BI Tryz.prog 42 #[u,.int .i64 (d:Int)] w fun e w' =>V4 (Z9 (lb 32 (sN d A0 A1))) w w' e:=by
 obtain⟨Al,cl,rfl,N,R⟩:=hl.op;have G:¬ls=[]:=fun e=>by subst e;exact absurd h2 (by decide)
 have hS:=SH.nil [] w
 go_enter Tryz.func42,Tryz.ntmps42
 go_upto_region 1 with fail;refine RL hS ?_;clear hS;refine MV ?_;refine MV ?_;refine MW ?_ (v:=.bool false) (hv:=by intro W;first|(go_simp;done)|(go_simp;exact G));refine MZ fun W hS=> ?_;go_upto_region 3 with fail;refine RL hS ?_;clear hS;refine MV ?_;refine MV ?_;refine Wf ?_;refine MZ fun W hS=> ?_;go_upto_region 5 with fail;refine RL hS ?_;clear hS;(iterate 3 refine MV ?_);refine ME (fun W hS=>Z47 hS (Y15 d 0 hd hn W (hl.ext hS.ext)) rfl) ?_;intro J;refine MV ?_;refine MW ?_ (v:=.int .i64 ((d+1:Nat):Int)) (hv:=by intro W;go_simp;(try simp only[IntKind.wrap_i64]);omega);refine MC (v:=Z9 (lb 32 A0)) (fun W hS=>ih0 W (Y5 hG hS.ext) (hS.row (i:=0) rfl).rr) ?_;refine MV ?_;refine MV ?_;refine ME (fun W hS=>Z47 hS (Y15 d 1 hd hn W (hl.ext hS.ext)) rfl) ?_;intro M;refine MV ?_;refine MW ?_ (v:=.int .i64 ((d+1:Nat):Int)) (hv:=by intro W;go_simp;(try simp only[IntKind.wrap_i64]);omega);refine MC (v:=Z9 (lb 32 A1)) (fun W hS=>ih1 W (Y5 hG hS.ext) (hS.row (i:=0) rfl).rr) ?_;obtain⟨U1,D⟩:=exh (sN (d:Int) A0 A1);refine MC (v:=Z9 (lb 32 U1)) (fun W hS=>(by rw[D.out];exact Z1h hr (d:Int) A0 A1 W (Y5 hG hS.ext))) ?_;refine MV ?_;refine MZ fun W hS=> ?_;have e_:=D.out;subst e_;go_wp2;exact BH (v:=Z9 (lb 32 (sN d A0 A1))) (by simp only[results,Tryz.results42];go_simp) rfl ⟨rfl,hS.ext⟩
theorem Z1n {q:Prop}(hr:q):∀(f d:Nat) {ls:List Lf},f+d=256→Srt ls→Pre ls d→ls.length≤274877906944→∀{u:AB} (w:AA),GT q w→RR 64 w u (ls.map lfl)→BI Tryz.prog 42 #[u,.int .i64 (d:Int)] w fun e w' =>V4 (Z9 (lb 32 (rs (can f ls d)))) w w' e
 |f,d,[],hd,hs,hp,hn,u,w,hG,h=>by rw[J8k];exact V5q hr w hG h
 |f,d,[x],hd,hs,hp,hn,u,w,hG,h=>by rw[J6v];exact V5r hr w hG h
 |0,d,x::y::r,hd,hs,hp,hn,u,w,hG,h=>by
  obtain rfl:d=256:=by omega
  exact(Y0z hs hp).elim
 |f+1,d,x::y::r,hd,hs,hp,hn,u,w,hG,h=>by
  rw[Q27 (by simp)];exact V5s hr d (by omega) hn (by simp) (fun W D h' =>Z1n hr f (d+1) (by omega) (Q0e hs) (Q45 hp) (Ae (Q10 _ _ _) hn) W D h') (fun W D h' =>Z1n hr f (d+1) (by omega) (Q0e hs) (Q45 hp) (Ae (Q10 _ _ _) hn) W D h') w hG h
end

section
attribute [local irreducible] wpList K1 wpX
attribute [local irreducible] hs4 sE sL sN

end

section
attribute [local irreducible] wpList K1 wpX
theorem V5t {ls:List Lf}(h:ls.length≤1000):(J3o ls).length≤274877906944:=by have:=Q5r ls;omega
theorem V1f {ls:List Lf}(h:ls.length≤1000):tsz (ofT ls)<4611686018427387904:=by have:=(Z1l ls.length ls).1;rw[Be] at this;omega
theorem V1g {ls:List Lf}(h:ls.length≤1000):cnt (ofT ls)<2305843009213693952:=by have:=(Z1l ls.length ls).2;rw[Be] at this;omega
theorem Y50 {ls:List Lf}(n:Nat)(h:J2q ls):J2q (ls.take n):=fun y hy=>h y (List.mem_of_mem_take hy)
attribute [local irreducible] hs4 sE sL sN

end

section
set_option maxHeartbeats 3000000
attribute [local irreducible] wpList K1 wpX
open S8 (Kn GA kP sig vfy)
theorem Y5r (W:AA)(ls:List (Nat×Nat)):TA W (ofT (List.take 0 ls)) nlp:=rfl
def mbC (m:Mb):List AB:=fcs [.c m.u,.c (.bool m.gone),.c (.int .i64 m.ep),.a 32 m.link]
theorem Z2v {ms:List Mb}:∀e∈ms.map mbC,e.length=35:=fun e he=>by
 obtain⟨y,_,rfl⟩:=List.mem_map.1 he;unfold mbC;rw[J43];rfl
def mbK (ms:List Mb)(W:AA):Prop:=∀y∈ms,Sl W y.u y.id∧y.id.length≤100000000
theorem Q5w {W:AA}{A:Option Addr}{n c i g o:Nat}{ms:List Mb}{y:Mb}(h:RR 35 W (.slice A n c) (ms.map mbC))(yh:ms[i]?=some y)(hA:A=some ⟨g,o,none⟩):∀(j:Nat) (v:AB),(mbF y)[j]?=some v→W.cell? ⟨g,o+i*35+j,none⟩=some v:=fun j v hv=>
 RR.cellat h (by rw[Bd,yh];rfl) hA j v (by unfold mbC;rw[←J64,Bg];exact hv)
def mkL (m:Mb):Nat×Nat:=(hs4 (kTx m.id),hs4 (vTx m))
abbrev ovT (ms:List Mb):TR:=ofT (ms.map mkL)
theorem Y83 {ms:List Mb}{i:Nat}{y:Mb}(h:ms[i]?=some y):(ms.map mkL)[i]?=some (mkL y):=by rw[Bd,h];rfl
theorem Y1g (ms:List Mb):J2q (ms.map mkL):=fun x hx=>by
 obtain⟨y,_,rfl⟩:=List.mem_map.1 hx;exact⟨Q2d _,Q2d _⟩
theorem V1w {q:Prop}{ms:List Mb}{i:Nat}{y:Mb}{u:AB}(h:ms[i]?=some y)(hn:ms.length≤1000)(w:AA)(hG:GT q w)(ht:TA w (ofT (List.take i (ms.map mkL))) u):
  BI Tryz.prog 60 #[u,.agg (lf (hs4 (kTx y.id)) (hs4 (vTx y)))] w fun e w' =>J82 (ofT (List.take (i+1) (ms.map mkL))) w w' e:=by
 have hl:(List.take i (ms.map mkL)).length≤1000:=by rw[BC,Bc];omega
 rw[Q9p (Y83 h)];exact V5l (Q2d _) (Q2d _) (V1f hl) (V1g hl) w hG ht
attribute [local irreducible] eI be8 hs4 lb kTx vTx sTx rs ofT

theorem V1x {q:Prop}{ms:List Mb}{v:AB}(hn:ms.length≤1000)(w:AA)(hG:GT q w)(hp:RR 35 w v (ms.map mbC))(hk:mbK ms w):
  BI Tryz.prog 30 #[v] w fun e w' =>J82 (ovT ms) w w' e:=by
 obtain⟨Ap,cp,rfl,S,R⟩:=RR.opf hp;have hS:=SH.nil [] w
 go_enter Tryz.func30,Tryz.ntmps30
 go_upto_region 2 with fail;refine RL hS ?_;clear hS;refine MV ?_;refine MV ?_;refine W0 ?_;refine MZ fun W hS=> ?_;have hS:=hS.fact (TA.holds (Y5r _ (ms.map mkL))) rfl
 go_wp2_with fail
 go_loopw [3,8] (fun uv ii wr=> ∃(i:Nat)(u:AB),(i≤ms.length)∧(u=uv)∧(ii=.int .i64 (i:Int))∧SH [] w wr [.t 116 (fun W=>TA W (ofT (List.take i (ms.map mkL))) u)])
  (fun uv ii _=>ms.length-(intOf ii).toNat)
 case atStart=>exact⟨0,nlp,An _,rfl,rfl,hS⟩
 clear hS
 case round=>
  obtain⟨i,u,hi,rfl,rfl,hS⟩:=hrel
  by_cases D:i<ms.length
  ·
   obtain⟨y,yh⟩:∃x,ms[i]?=some x:=⟨_,Aj D⟩
   obtain⟨gp,op,M,_⟩:=R.out i y yh;have J:=Lib.hid M;clear M;have hid:=(hk y (Az yh)).1;have U:=(hk y (Az yh)).2;have N:=V9 hid;go_upto_region 3 with fail;refine RL hS ?_;clear hS;refine Wt ?_;refine MZ fun W hS=> ?_;go_upto_region 4 with fail;refine RL hS ?_;clear hS;refine MW ?_ (v:=.pointer (some ⟨gp,op+i*35,none⟩)) (hv:=fun _=>Y7 J.out D rfl rfl rfl Tryz.underlying51 (by kernel_rfl));refine MF (v:=.agg (K4 [.c y.u,.c (.bool y.gone),.c (.int .i64 y.ep),.a 32 y.link])) (fun W hS=>V8 rfl rfl (fun i_ v hv=>(Q5w (hp.ext hS.ext) yh J.out) i_ v (by simpa using hv)) (by kernel_rfl) (by rw[J7];kernel_rfl)) ?_;refine MN (z:=K4 [.c (.slice none 0 0),.c (.bool false),.c (.int .i64 0),.a 32 0]) (t:=56) ?_;intro V;refine MR 0 ?_ (hz:=by rw[J7];kernel_rfl) (hs:=by first|(rw[J7,J7];rfl)|rfl) (h1:=by exact(K2 ⟨N.2,rfl,rfl,trivial⟩));refine MZ fun W hS=> ?_;go_upto_region 5 with fail;refine RTh (.q 0 (.q 1 (.q 2 (.q 4 (.e 3 (.e 5 (.q 6 (.e 7 (.q 8 .z))))))))) hS ?_;clear hS;refine TV ?_;refine TV ?_;refine TG 0 ?_ (v:=y.u) (hj:=(V1 (off:=0) 0));refine TL 0 ?_ (hs:=by rw[J7];kernel_rfl);refine TE (fun _ h=>h) ?_;refine MC (v:=.agg (J0 .u8 32 (J6 (hs4 (kTx y.id))))) (fun W hS=>V1t W (Y5 hG hS.ext) (J3j hid hS.ext) (by first|omega|(simp only[Ao,Bc,BC,List.length_drop,AY,Av,J2,Y0,Z3,Q7];omega))) ?_;refine TNh (fun W hS=>hS) ?_;refine TE (fun _ h=>h) ?_;refine MC (v:=.agg (J0 .u8 32 (J6 (hs4 (vTx y))))) (fun W hS=>Y1f (m:=y) W (Y5 hG hS.ext) (J3j hid hS.ext)) ?_;refine TNh (fun W hS=>hS) ?_;refine TW ?_ (v:=.agg (lf (hs4 (kTx y.id)) (hs4 (vTx y)))) (hv:=by intro W;first|rfl|kernel_rfl);refine TE (fun _ h=>h) ?_;refine ME (fun W hS=>J4h (T:=(ofT (List.take (i+1) (ms.map mkL)))) hS (V1w yh hn W (Y5 hG hS.ext) (hS.tt (i:=1) rfl)) rfl) ?_;intro G;refine TNh (fun W hS=>hS.pick [1,2]) ?_;refine TV ?_;refine TZ (fun _ h=>h) fun W hS=> ?_;go_wp2;go_roundw
   case rel=>exact⟨i+1,G,by omega,rfl,by go_num,(hS.pick [0])⟩
   case measure=>simp[intOf];omega
  obtain rfl:i=ms.length:=by omega
  rw[List.take_of_length_le (Nat.le_of_eq (Bc _))] at hS;go_upto_region 3 with fail;refine RL hS ?_;clear hS;refine Wf ?_;refine MZ fun W hS=> ?_;go_wp2;exact BH (v:=u) (by simp only[results,Tryz.results30];go_simp) rfl ⟨_,rfl,hS.ext,hS.tt (i:=0) rfl⟩
end

section
open Go.ChangeShapes Go.WideShapes Go.ChangeAt Go.RowKit Go.Deep
section
variable {H : Type} {enc : AE × AB → H} {W : AA} {base : Nat} {sp : Nat → Bool} {held : Bool}
theorem Y31 {n:Nat}{t:AE}(hn:Tryz.prog.underlying t=some (.array n 5))(hc:Tryz.prog.cellsOf t=n){r:Reach}{b0:Nat}{v:AB}{d:DataW H}{ps:List MemPlace}(hval:AB.okWide Tryz.prog W r b0 t v)(hd:DataW.Trod enc Tryz.prog W base sp held t v d ps):
    ∃N:Nat,N<2^(8*n)∧v=.agg (J0 .u8 n (J6 N)):=by
  simp only[AB.okWide,hn] at hval;obtain⟨cs,rfl,_⟩:=hval;obtain⟨D,hf⟩:=hd;obtain⟨N,hN,e⟩:=Q5b hn hc hf;exact⟨N,hN,by rw[show cs=J0 .u8 n (J6 N) from Array.toList_inj.1 e]⟩
theorem Z87 {r:Reach}{b0:Nat}{v:AB}{d:DataW H}{ps:List MemPlace}(hval:AB.okWide Tryz.prog W r b0 22 v)(hd:DataW.Trod enc Tryz.prog W base sp held 22 v d ps):
    ∃N:Nat,N<2^(8*32)∧v=.agg (J0 .u8 32 (J6 N)):=Y31 Tryz.underlying22 (by kernel_rfl) hval hd
theorem Z57 {W:AA}{a:Addr}{v:AB}(h:W.cell? a=some v):a.spot=none:=by
  unfold AA.cell? at h
  split at h
  · split at h
    · cases h
    rename_i hs;cases hsp:a.spot with
    |none=>rfl
    |some _=>rw[hsp] at hs;exact absurd rfl hs
  cases h
theorem Q8o {t e:AE}{k:Nat}{α:Type}[Inhabited α]{f:α→List AB}{Q:α→Prop}(hu:Tryz.prog.underlying t=some (.slice e))(hk:Tryz.prog.cellsOf e=k)(hk0:0<k)(hf:∀x,(f x).length=k)
    (htr:∀{fuel:Nat} {cs:List AB} {x:DataW H×List MemPlace},DataW.trod enc Tryz.prog W base sp held fuel e cs=some x→∃y,Q y∧cs=f y)
    {fuel:Nat} {cs:List AB} {x:DataW H×List MemPlace} (hf0:DataW.trod enc Tryz.prog W base sp held fuel t cs=some x):
    ∃v,cs=[v]∧∃ls:List α,(∀y∈ls,Q y)∧RR k W v (ls.map f):=by
  rcases open_slice hu hf0 with⟨rfl,_⟩|⟨a,J,U,m,n,D,Pl,rfl,Y,hl,hm,S,Z,hi⟩
  · exact⟨_,rfl,[],fun y hy=>(by cases hy),Z7w k W⟩
  refine⟨_,rfl,?_⟩;have δ:J≤m:=by rw[S];split<;>omega
  have T:0<J→a.spot=none:=fun h=>by
    obtain⟨V,h1,h2⟩:=hi 0 (by omega);rw[hk] at h1;obtain⟨_,N,G⟩:=AA.cells?_some h1;have h0:=G 0 hk0;rw[Aj (by rw[N];exact hk0)] at h0;have h4:=Z57 h0
    simpa[Addr.add] using h4
  have R:∀i,i<J→∃x:α,Q x∧a.spot=none∧∀(j:Nat)(u:AB),(f x)[j]?=some u→W.cell? ⟨a.block,a.off+i*k+j,none⟩=some u:=by
    intro i γ;obtain⟨V,h1,h2⟩:=hi i (by omega);rw[hk] at h1;obtain⟨_,N,G⟩:=AA.cells?_some h1;obtain⟨x,hx,e⟩:=htr h2;rw[e] at N G;have hs:=T (by omega);refine⟨x,hx,hs,fun j u hj=> ?_⟩
    have hj' :j<k:=by
      have:=(List.getElem?_eq_some_iff.1 hj).1;rw[hf] at this;exact this
    have h3:=G j hj';rw[hj] at h3
    have e2:(a.add (i*k)).add j=⟨a.block,a.off+i*k+j,none⟩:=by
      clear N G h1 h3 hi S hf0;obtain⟨ab,β,X⟩:=a;have hs' :X=none:=hs;subst hs';rw[Addr.add_mid,Addr.add_mid]
    rw[e2] at h3;exact h3
  refine⟨(List.range J).map fun i=>if h:i<J then Classical.choose (R i h) else default,fun y hy=> ?_,some a,U,by simp,by simpa using hl,fun e=>(by cases e),fun j e hj=> ?_⟩
  · obtain⟨i,hi,rfl⟩:=List.mem_map.1 hy
    have M:=List.mem_range.1 hi;rw[dif_pos M];exact(Classical.choose_spec (R i M)).1
  rw[List.map_map] at hj;have M:j<J:=by have:=(List.getElem?_eq_some_iff.1 hj).1;simpa using this
  rw[Bd,List.getElem?_range M] at hj;have hj:=Option.some.inj hj;simp only[Function.comp_apply,dif_pos M] at hj;subst hj;obtain⟨_,h2,h3⟩:=Classical.choose_spec (R j M);refine⟨a.block,a.off,?_,h3⟩;rw[←h2]
theorem Z88 {t e:AE}{k:Nat}{α:Type}[Inhabited α]{f:α→List AB}{Q:α→Prop}(hu:Tryz.prog.underlying t=some (.slice e))(hk:Tryz.prog.cellsOf e=k)(hk0:0<k)(hf:∀x,(f x).length=k)
    (htr:∀{fuel:Nat} {cs:List AB} {x:DataW H×List MemPlace},DataW.trod enc Tryz.prog W base sp held fuel e cs=some x→∃y,Q y∧cs=f y)
    {r:Reach} {b0:Nat} {v:AB} {d:DataW H} {ps:List MemPlace} (hval:AB.okWide Tryz.prog W r b0 t v) (hd:DataW.Trod enc Tryz.prog W base sp held t v d ps):
    ∃ls:List α,(∀y∈ls,Q y)∧RR k W v (ls.map f):=by
  obtain⟨ao,J,G,rfl⟩:=okWide_slice hu hval;obtain⟨fuel,D⟩:=hd;obtain⟨v,hv,h⟩:=Q8o hu hk hk0 hf htr D;simp[AB.cells] at hv;subst hv;exact h
instance:Inhabited Mb:=⟨⟨.slice none 0 0,[],false,0,0⟩⟩
theorem Z58 {fuel:Nat}{cs:List AB}{x:DataW H×List MemPlace}(h:DataW.trod enc Tryz.prog W base sp held fuel 51 cs=some x):
    ∃y:AB×List Mb,((RR 35 W y.1 (y.2.map mbC))∧∀z∈y.2,Sl W z.u z.id)∧cs=[y.1]:=by
  obtain⟨v,hv,ls,h1,h2⟩:=Q8o (Q:=fun y:Mb=>Sl W y.u y.id) (f:=mbC) Tryz.underlying51 (by kernel_rfl) (by decide) (fun x=>Z2v (ms:=[x]) (mbC x) (by simp)) (fun h=>by
    obtain⟨v1,l2,b3,n4,X5,h0,_,_,_,e⟩:=J9z h
    exact⟨⟨v1,l2,b3,n4,X5⟩,h0.1,e⟩) h
  exact⟨(v,ls),⟨h2,h1⟩,hv⟩
theorem Z59 {r:Reach}{b0:Nat}{v:AB}{d:DataW H}{ps:List MemPlace}(hval:AB.okWide Tryz.prog W r b0 23 v)(hd:DataW.Trod enc Tryz.prog W base sp held 23 v d ps):
    ∃rws:List (AB×List Mb),(∀y∈rws,RR 35 W y.1 (y.2.map mbC)∧∀z∈y.2,Sl W z.u z.id)∧RR 1 W v (rws.map fun r=>[r.1]):=
  Z88 (Q:=fun y:AB×List Mb=>RR 35 W y.1 (y.2.map mbC)∧∀z∈y.2,Sl W z.u z.id) (f:=fun r:AB×List Mb=>[r.1]) Tryz.underlying23 (by kernel_rfl) (by decide) (fun _=>rfl) (fun h=>Z58 h) hval hd
end
end

section
set_option maxHeartbeats 3000000
attribute [local irreducible] wpList K1 wpX
attribute [local irreducible] hs4 sE sL sN

end

section
end

section
attribute [local irreducible] wpList K1 wpX
attribute [local irreducible] hs4 sE sL sN

end

section
set_option maxHeartbeats 3000000
attribute [local irreducible] wpList K1 wpX
attribute [local irreducible] hs4 sE sL sN

end
end Go.Proofs.YtdjacgmmidbieaaGreatDoor

/- Contracts and plain laws for superSeals_holds. Conditions: the tables hold their numbers. -/
import Derived.Test.YtdjacgmmidbieaaGreatDoorJ27
open Go renaming World->AA,Value->AB,bodyPost_ret->BH,Calls->BI
open Go.Lib renaming hid->BK
open _root_.List renaming length_append->Ao,length_cons->AY,append_nil->Ar,append_assoc->At,length_nil->Av,length_drop->AZ,length_map->Bc,length_take->BC
open Go.RowKit
set_option maxRecDepth 100000
set_option linter.unusedSimpArgs false
set_option linter.unusedVariables false
namespace Go.Proofs.YtdjacgmmidbieaaGreatDoor
section
set_option maxHeartbeats 3000000
attribute [local irreducible] wpList K1 wpX
attribute [local irreducible] eI be8 hs4 lb kTx vTx sTx eS rs ofT sE sL sN nN pkf

theorem Q4c {p S:Nat}{vt vl:AB}{A:Option Addr}{n c:Nat}(w:AA)(hb:Blk w p (suF S vt vl (.slice A n c)) 74):
  BI Tryz.prog 92 #[.pointer (some ⟨p,34,none⟩)] w fun e w' =>V4 (.int .i64 (n:Int)) w w' e:=by
 have hS:=SH.nil [] w
 go_enter Tryz.func92,Tryz.ntmps92
 go_upto_region 3 with fail;refine RL hS ?_;clear hS;(iterate 3 refine MV ?_);refine MF (v:=(.slice A n c)) (fun W hS=>V6 rfl rfl (by rw[J5 (J3 hb hS.ext)];exact(V1 (off:=34) 3)) (by kernel_rfl)) ?_;refine MW ?_ (v:=.int .i64 (n:Int)) (hv:=by intro W;exact Q38 rfl rfl Tryz.underlying37);refine MV ?_;refine MZ fun W hS=> ?_;go_wp2;exact BH (v:=.int .i64 (n:Int)) (by simp only[results,Tryz.results92];go_simp) rfl ⟨rfl,hS.ext⟩
theorem Z6l {q:Prop}{p S n:Nat}{vt vl vs:AB}{us:List Nat}(hn:us.length≤1000000)(h1:1≤n)(h2:n≤us.length)(w:AA)(hG:GT q w)(hb:Blk w p (suF S vt vl vs) 74)(hu:RR 32 w vs (us.map X4)):
  BI Tryz.prog 47 #[.pointer (some ⟨p,34,none⟩),.int .i64 (n:Int)] w fun e w' =>V4 (.tuple #[.agg (J0 .u8 32 (J6 (mth (us.take n)))),.int .i64 0]) w w' e:=by
 obtain⟨Au,cu,rfl,M,R⟩:=RR.opf hu;obtain⟨u9,J,G⟩:=J42 (m:=n) hu (by rw[Bc];omega) Tryz.underlying37 (by kernel_rfl);have hS:=SH.nil [] w
 go_enter Tryz.func47,Tryz.ntmps47
 go_upto_region 0 with fail;refine RL hS ?_;clear hS;refine MN (z:=J0 .u8 32 (J6 0)) (t:=22) ?_;intro N;refine W0 ?_;refine MZ fun W hS=> ?_;go_upto_region 1 with fail;refine RL hS ?_;clear hS;refine MV ?_;refine Wfo ?_;refine Wf ?_;refine MV ?_;refine MV ?_;refine MC (v:=.int .i64 (us.length:Int)) (fun W hS=>Q4c W (J3 hb hS.ext)) ?_;refine Wfo ?_;refine Wf ?_;refine MZ fun W hS=> ?_;go_upto_region 3 with fail;refine RL hS ?_;clear hS;refine MV ?_;refine Wfo ?_;refine MZ fun W hS=> ?_;go_upto_region 5 with fail;refine RL hS ?_;clear hS;(iterate 3 refine MV ?_);refine MF (v:=(.slice Au us.length cu)) (fun W hS=>V6 rfl rfl (by rw[J5 (J3 hb hS.ext)];exact(V1 (off:=34) 3)) (by kernel_rfl)) ?_;refine MV ?_;refine MW ?_ (v:=u9) (hv:=fun _=>J1i J rfl rfl rfl);obtain⟨U1,D⟩:=exh (mth (us.take n));refine MC (v:=.agg (J0 .u8 32 (J6 U1))) (fun W hS=>(by rw[D.out];exact J8o (ls:=us.take n) (by first|omega|(rw[BC];omega)) W (Y5 hG hS.ext) (by rw[List.map_take];exact G W (hu.ext hS.ext)))) ?_;refine MR 0 ?_;refine W0 ?_;refine MZ fun W hS=> ?_;go_wp2;exact BH (J6n rfl rfl rfl (hS.blk (i:=0) rfl) (by kernel_rfl) (by rw[J1];kernel_rfl)) rfl ⟨by rw[←D.out];rfl,hS.ext⟩
end

section
set_option maxHeartbeats 3000000
attribute [local irreducible] wpList K1 wpX
attribute [local irreducible] eI be8 hs4 lb kTx vTx sTx eS rs ofT sE sL sN nN pkf

theorem Y1t {q:Prop}{p S n i:Nat}{vt vl vs:AB}{us:List Nat}(hn:us.length≤1000000)(h1:i<n)(h2:n≤us.length)(w:AA)(hG:GT q w)(hb:Blk w p (suF S vt vl vs) 74)(hu:RR 32 w vs (us.map X4)):
  BI Tryz.prog 51 #[.pointer (some ⟨p,34,none⟩),.int .i64 (i:Int),.int .i64 (n:Int)] w fun e w' => ∃u,e=.returned (.tuple #[u,.int .i64 0])∧SH [] w w' [.r 22 32 u ((pth (us.take n) i).map X4)]:=by
 obtain⟨Au,cu,rfl,ψ,ω⟩:=RR.opf hu;obtain⟨u9,κ,Y⟩:=J42 (m:=n) hu (by rw[Bc];omega) Tryz.underlying37 (by kernel_rfl);obtain⟨l0,N⟩:=exn (us.take n);have U:=BK (show l0.length=n by rw[N,BC];omega);have V:RR 32 w u9 (l0.map X4):=by rw[N,List.map_take];exact Y w hu
 obtain⟨A9,c9,rfl,χ,φ⟩:=RR.opf V;have ρ:=BK N;clear N φ Y;have hS:=SH.nil [] w
 go_enter Tryz.func51,Tryz.ntmps51
 go_upto_region 1 with fail;refine RL hS ?_;clear hS;refine MV ?_;refine Wfo ?_;refine Wf ?_;refine MV ?_;refine MV ?_;refine MC (v:=.int .i64 (us.length:Int)) (fun W hS=>Q4c W (J3 hb hS.ext)) ?_;refine Wfo ?_;refine Wf ?_;refine Wf ?_;refine MV ?_;refine Wfo ?_;refine Wf ?_;refine Wf ?_;refine MV ?_;refine MV ?_;refine Wfo ?_;refine Wf ?_;refine MZ fun W hS=> ?_;go_upto_region 4 with fail;refine RL hS ?_;clear hS;(iterate 3 refine MV ?_);refine MF (v:=(.slice Au us.length cu)) (fun W hS=>V6 rfl rfl (by rw[J5 (J3 hb hS.ext)];exact(V1 (off:=34) 3)) (by kernel_rfl)) ?_;refine MV ?_;refine MW ?_ (v:=(.slice A9 l0.length c9)) (hv:=fun _=>J1i κ rfl rfl rfl);refine MV ?_;refine MZ fun W hS=> ?_;have hS:=hS.rnil 22 32 rfl
 go_wp2_with fail
 go_loopw [1,8,9] (fun ii uv sv wr=> ∃(j:Nat)(s:List Nat)(A1:Option Addr)(c1:Nat)(os:List Nat)(ov:AB),(RR 32 w (.slice A1 s.length c1) (s.map X4))∧(j<s.length)∧(os.length+s.length≤n)∧(RowKit.Hid (pth l0 i=pth s j++os.reverse))∧(ii=.int .i64 (j:Int))∧(ov=uv)∧(sv=.slice A1 s.length c1)∧SH [] w wr [.r 22 32 ov (List.map X4 os)])
  (fun ii uv sv _=>J70 sv)
 case atStart=>exact⟨i,l0,A9,c9,[],_,V,by rw[U.out];omega,by rw[U.out,Av];omega,BK (by rw[List.reverse_nil,Ar]),rfl,rfl,rfl,hS⟩
 clear hS
 case round=>
  obtain⟨j,s,A1,c1,os,ov,hr,hj,Γ,hp,rfl,rfl,rfl,hS⟩:=hrel
  by_cases J:2≤s.length
  ·
   have hf:=J4t J;obtain⟨uT,X,γ⟩:=J6m (m:=hfn s.length) hr (by rw[Bc];omega) Tryz.underlying37 (by kernel_rfl);obtain⟨uH,α,δ⟩:=J42 (m:=hfn s.length) hr (by rw[Bc];omega) Tryz.underlying37 (by kernel_rfl);have R:RR 32 w uT ((List.drop (hfn s.length) s).map X4):=by rw[List.map_drop];exact γ w hr
   have T:RR 32 w uH ((List.take (hfn s.length) s).map X4):=by rw[List.map_take];exact δ w hr
   clear γ δ;have G:=BK (show(List.drop (hfn s.length) s).length=s.length-hfn s.length from AZ ..);have D:=BK (show(List.take (hfn s.length) s).length=hfn s.length by rw[BC];omega);obtain⟨AT,cT,eT,ζ,ξ⟩:=RR.opf R;obtain⟨AH,cH,eH,ε,τ⟩:=RR.opf T;clear ξ τ ζ ε;rw[G.out] at eT;rw[D.out] at eH;subst eT eH;go_upto_region 5 with fail;refine RL hS ?_;clear hS;refine MV ?_;refine MV ?_;refine Wto ?_;refine MZ fun W hS=> ?_;go_upto_region 6 with fail;refine RL hS ?_;clear hS;refine MV ?_;refine MV ?_;refine MC (v:=.int .i64 (hfn s.length:Int)) (fun W hS=>Y1s (n:=s.length) (by omega) (by omega) W) ?_;refine MV ?_;refine MZ fun W hS=> ?_
   by_cases M:j<hfn s.length
   ·
    go_upto_region 7 with fail;refine RL hS ?_;clear hS;refine MV ?_;refine MV ?_;refine Wto ?_;refine MZ fun W hS=> ?_;go_upto_region 8 with fail;refine RL hS ?_;clear hS;(iterate 3 refine MV ?_);refine MW ?_ (v:=(.slice AT (s.length-hfn s.length) cT)) (hv:=fun _=>J2j X rfl rfl rfl);obtain⟨U1,Z⟩:=exh (mth (List.drop (hfn s.length) s));refine MC (v:=.agg (J0 .u8 32 (J6 U1))) (fun W hS=>(by rw[Z.out];exact J8o (ls:=(List.drop (hfn s.length) s)) (by have σ:=G.out;have μ:=D.out;omega) W (Y5 hG hS.ext) (R.ext hS.ext))) ?_;refine MB (z:=(J0 .u8 32 (J6 U1))) (t:=22) (n:=1) (c:=1) ?_ (hr:=fun W _=>J0d rfl rfl rfl Tryz.underlying37 (by rw[J1];kernel_rfl) (by rw[J1];kernel_rfl) (by rw[J1];decide) (by rw[J1];decide));intro Δ;refine MAr 1 0 (tS:=37) (bytes:=32) (es:=(List.map X4 os)) (by first|omega|(simp only[lA,lM,lT,lD,lC,lN,J2,Y0,Z3,Q7];omega)) (e:=X4 U1) (hk:=J1 _ _ _) (h1:=by exact Z8 _ _ _) ?_;intro ν;refine MV ?_;refine MZ fun W hS=> ?_;go_upto_region 9 with fail;refine RL hS ?_;clear hS;refine MV ?_;refine MV ?_;refine MW ?_ (v:=(.slice AH (hfn s.length) cH)) (hv:=fun _=>J1i α rfl rfl rfl);refine MV ?_;refine MZ fun W hS=> ?_;go_wp2;go_roundw
    case rel=>exact⟨j,(List.take (hfn s.length) s),AH,cH,os++[U1],ν,(by rw[D.out];exact T),by rw[D.out];exact M,by rw[D.out,Ao];simp only[AY,Av];omega,BK (by rw[hp.out,Q7x J M,Z.out,List.reverse_append,At];rfl),rfl,rfl,by rw[D.out],(by have h_:=(hS.pick [1]);rw[J1s] at h_;exact h_)⟩
    case measure=>first|(show hfn s.length<s.length;exact hf.2)|(show s.length-hfn s.length<s.length;omega)
   go_upto_region 7 with fail;refine RL hS ?_;clear hS;refine MV ?_;refine MV ?_;refine Wfo ?_;refine MZ fun W hS=> ?_;go_upto_region 10 with fail;refine RL hS ?_;clear hS;(iterate 3 refine MV ?_);refine MW ?_ (v:=(.slice AH (hfn s.length) cH)) (hv:=fun _=>J1i α rfl rfl rfl);obtain⟨U2,β⟩:=exh (mth (List.take (hfn s.length) s));refine MC (v:=.agg (J0 .u8 32 (J6 U2))) (fun W hS=>(by rw[β.out];exact J8o (ls:=(List.take (hfn s.length) s)) (by have σ:=G.out;have μ:=D.out;omega) W (Y5 hG hS.ext) (T.ext hS.ext))) ?_;refine MB (z:=(J0 .u8 32 (J6 U2))) (t:=22) (n:=1) (c:=1) ?_ (hr:=fun W _=>J0d rfl rfl rfl Tryz.underlying37 (by rw[J1];kernel_rfl) (by rw[J1];kernel_rfl) (by rw[J1];decide) (by rw[J1];decide));intro Θ;refine MAr 1 0 (tS:=37) (bytes:=32) (es:=(List.map X4 os)) (by first|omega|(simp only[lA,lM,lT,lD,lC,lN,J2,Y0,Z3,Q7];omega)) (e:=X4 U2) (hk:=J1 _ _ _) (h1:=by exact Z8 _ _ _) ?_;intro θ;refine MV ?_;refine MZ fun W hS=> ?_;go_upto_region 11 with fail;refine RL hS ?_;clear hS;refine MV ?_;refine MV ?_;refine MW ?_ (v:=(.slice AT (s.length-hfn s.length) cT)) (hv:=fun _=>J2j X rfl rfl rfl);refine MV ?_;refine MZ fun W hS=> ?_;go_upto_region 12 with fail;refine RL hS ?_;clear hS;refine MV ?_;refine MV ?_;refine MW ?_ (v:=.int .i64 ((j-hfn s.length:Nat):Int)) (hv:=by intro W;go_simp;(try simp only[IntKind.wrap_i64]);omega);refine MV ?_;refine MZ fun W hS=> ?_;go_wp2;go_roundw
   case rel=>exact⟨(j-hfn s.length),(List.drop (hfn s.length) s),AT,cT,os++[U2],θ,(by rw[G.out];exact R),by rw[G.out];omega,by rw[G.out,Ao];simp only[AY,Av];omega,BK (by rw[hp.out,Q7y J M,β.out,List.reverse_append,At];rfl),rfl,rfl,by rw[G.out],(by have h_:=(hS.pick [1]);rw[J1s] at h_;exact h_)⟩
   case measure=>first|(show hfn s.length<s.length;exact hf.2)|(show s.length-hfn s.length<s.length;omega)
  have η:=BK (show pth l0 i=os.reverse by rw[hp.out,Q12 J,List.nil_append]);go_upto_region 5 with fail;refine RL hS ?_;clear hS;refine MV ?_;refine MV ?_;refine Wfo ?_;refine MZ fun W hS=> ?_;go_upto_region 13 with fail;refine RL hS ?_;clear hS;refine MV ?_;refine Me (v:=.tuple #[]) (H' :=[.r 22 32 ov (List.map X4 (List.reverse os))]) (fun W hS=>Z7v [0] [] hS (fun hT=>Q13 (ls:=os) (by omega) W hT) ⟨.inr ⟨rfl,rfl⟩,trivial⟩) ?_;refine MZ fun W hS=> ?_;go_wp2;exact BH (v:=.tuple #[ov,.int .i64 0]) (by simp only[results,Tryz.results51];go_simp) rfl ⟨_,rfl,by rw[←ρ.out,η.out];exact hS.pick [0]⟩
end

section
set_option maxHeartbeats 3000000
attribute [local irreducible] wpList K1 wpX
attribute [local irreducible] eI be8 hs4 lb kTx vTx sTx eS rs ofT sE sL sN nN pkf

theorem Y1u {q:Prop}{p S n m:Nat}{vt vl vs:AB}{us:List Nat}(hn:us.length≤1000000)(h0:1≤m)(h1:m≤n)(h2:n≤us.length)(w:AA)(hG:GT q w)(hb:Blk w p (suF S vt vl vs) 74)(hu:RR 32 w vs (us.map X4)):
  BI Tryz.prog 52 #[.pointer (some ⟨p,34,none⟩),.int .i64 (m:Int),.int .i64 (n:Int)] w fun e w' => ∃u,e=.returned (.tuple #[u,.int .i64 0])∧SH [] w w' [.r 22 32 u ((sbp (us.take n) m true).map X4)]:=by
 obtain⟨Au,cu,rfl,Ψ,D3⟩:=RR.opf hu;obtain⟨u9,ω,σ⟩:=J42 (m:=n) hu (by rw[Bc];omega) Tryz.underlying37 (by kernel_rfl);obtain⟨l0,N⟩:=exn (us.take n);have X:=BK (show l0.length=n by rw[N,BC];omega);have γ:RR 32 w u9 (l0.map X4):=by rw[N,List.map_take];exact σ w hu
 obtain⟨A9,c9,rfl,Ξ,ψ⟩:=RR.opf γ;have κ:=BK N;clear N ψ σ;have hS:=SH.nil [] w
 go_enter Tryz.func52,Tryz.ntmps52
 go_upto_region 1 with fail;refine RL hS ?_;clear hS;refine MV ?_;refine Wfo ?_;refine Wf ?_;refine MV ?_;refine MV ?_;refine MC (v:=.int .i64 (us.length:Int)) (fun W hS=>Q4c W (J3 hb hS.ext)) ?_;refine Wfo ?_;refine Wf ?_;refine Wf ?_;refine MV ?_;refine Wfo ?_;refine Wf ?_;refine Wf ?_;refine MV ?_;refine MV ?_;refine Wfo ?_;refine Wf ?_;refine MZ fun W hS=> ?_
 by_cases η:m<n
 ·
  go_upto_region 3 with fail;refine RL hS ?_;clear hS;refine MV ?_;refine Wfo ?_;refine Wf ?_;refine MV ?_;refine MV ?_;refine Wfo ?_;refine Wf ?_;refine MZ fun W hS=> ?_;go_upto_region 6 with fail;refine RL hS ?_;clear hS;(iterate 3 refine MV ?_);refine MF (v:=(.slice Au us.length cu)) (fun W hS=>V6 rfl rfl (by rw[J5 (J3 hb hS.ext)];exact(V1 (off:=34) 3)) (by kernel_rfl)) ?_;refine MV ?_;refine MW ?_ (v:=(.slice A9 l0.length c9)) (hv:=fun _=>J1i ω rfl rfl rfl);refine MV ?_;refine Wt ?_;refine MZ fun W hS=> ?_;have hS:=hS.rnil 22 32 rfl
  go_wp2_with fail
  go_loopw [1,8,9,10] (fun ii uv sv bv wr=> ∃(j:Nat)(s:List Nat)(A1:Option Addr)(c1:Nat)(os:List Nat)(ov:AB)(b:Bool),(RR 32 w (.slice A1 s.length c1) (s.map X4))∧(1≤j)∧(j≤s.length)∧(os.length+s.length≤n)∧(RowKit.Hid (sbp l0 m true=sbp s j b++os.reverse))∧(ii=.int .i64 (j:Int))∧(ov=uv)∧(sv=.slice A1 s.length c1)∧(bv=.bool b)∧SH [] w wr [.r 22 32 ov (List.map X4 os)])
   (fun ii uv sv bv _=>J70 sv)
  case atStart=>exact⟨m,l0,A9,c9,[],_,true,γ,h0,by rw[X.out];omega,by rw[X.out,Av];omega,BK (by rw[List.reverse_nil,Ar]),rfl,rfl,rfl,rfl,hS⟩
  clear hS
  case round=>
   obtain⟨j,s,A1,c1,os,ov,b,hr,T,hj,D1,hp,rfl,rfl,rfl,rfl,hS⟩:=hrel
   by_cases J:j<s.length
   ·
    have hf:=J4t (n:=s.length) (by omega);obtain⟨uT,ρ,μ⟩:=J6m (m:=hfn s.length) hr (by rw[Bc];omega) Tryz.underlying37 (by kernel_rfl);obtain⟨uH,α,ξ⟩:=J42 (m:=hfn s.length) hr (by rw[Bc];omega) Tryz.underlying37 (by kernel_rfl);have Y:RR 32 w uT ((List.drop (hfn s.length) s).map X4):=by rw[List.map_drop];exact μ w hr
    have V:RR 32 w uH ((List.take (hfn s.length) s).map X4):=by rw[List.map_take];exact ξ w hr
    clear μ ξ;have G:=BK (show(List.drop (hfn s.length) s).length=s.length-hfn s.length from AZ ..);have D:=BK (show(List.take (hfn s.length) s).length=hfn s.length by rw[BC];omega);obtain⟨AT,cT,eT,τ,Δ⟩:=RR.opf Y;obtain⟨AH,cH,eH,φ,Γ⟩:=RR.opf V;clear Δ Γ τ φ;rw[G.out] at eT;rw[D.out] at eH;subst eT eH;go_upto_region 7 with fail;refine RL hS ?_;clear hS;(iterate 3 refine MV ?_);refine Wto ?_;refine MZ fun W hS=> ?_;go_upto_region 8 with fail;refine RL hS ?_;clear hS;refine MV ?_;refine MV ?_;refine MC (v:=.int .i64 (hfn s.length:Int)) (fun W hS=>Y1s (n:=s.length) (by omega) (by omega) W) ?_;refine MV ?_;refine MZ fun W hS=> ?_
    by_cases M:j≤hfn s.length
    ·
     go_upto_region 9 with fail;refine RL hS ?_;clear hS;refine MV ?_;refine MV ?_;refine Wto ?_;refine MZ fun W hS=> ?_;go_upto_region 10 with fail;refine RL hS ?_;clear hS;(iterate 3 refine MV ?_);refine MW ?_ (v:=(.slice AT (s.length-hfn s.length) cT)) (hv:=fun _=>J2j ρ rfl rfl rfl);obtain⟨U1,δ⟩:=exh (mth (List.drop (hfn s.length) s));refine MC (v:=.agg (J0 .u8 32 (J6 U1))) (fun W hS=>(by rw[δ.out];exact J8o (ls:=(List.drop (hfn s.length) s)) (by first|omega|(have ν:=G.out;have ζ:=D.out;omega)) W (Y5 hG hS.ext) (Y.ext hS.ext))) ?_;refine MB (z:=(J0 .u8 32 (J6 U1))) (t:=22) (n:=1) (c:=1) ?_ (hr:=fun W _=>J0d rfl rfl rfl Tryz.underlying37 (by rw[J1];kernel_rfl) (by rw[J1];kernel_rfl) (by rw[J1];decide) (by rw[J1];decide));intro D0;refine MAr 1 0 (tS:=37) (bytes:=32) (es:=(List.map X4 os)) (by first|omega|(simp only[lA,lM,lT,lD,lC,lN,J2,Y0,Z3,Q7];omega)) (e:=X4 U1) (hk:=J1 _ _ _) (h1:=by exact Z8 _ _ _) ?_;intro χ;refine MV ?_;refine MZ fun W hS=> ?_;go_upto_region 11 with fail;refine RL hS ?_;clear hS;refine MV ?_;refine MV ?_;refine MW ?_ (v:=(.slice AH (hfn s.length) cH)) (hv:=fun _=>J1i α rfl rfl rfl);refine MV ?_;refine MZ fun W hS=> ?_;go_wp2;go_roundw
     case rel=>exact⟨j,(List.take (hfn s.length) s),AH,cH,os++[U1],χ,b,(by rw[D.out];exact V),T,by rw[D.out];exact M,by rw[D.out,Ao];simp only[AY,Av];omega,BK (by rw[hp.out,Z1x J T M,δ.out,List.reverse_append,At];rfl),rfl,rfl,by rw[D.out],rfl,(by have h_:=(hS.pick [1]);rw[J1s] at h_;exact h_)⟩
     case measure=>first|(show hfn s.length<s.length;exact hf.2)|(show s.length-hfn s.length<s.length;omega)
    go_upto_region 9 with fail;refine RL hS ?_;clear hS;refine MV ?_;refine MV ?_;refine Wfo ?_;refine MZ fun W hS=> ?_;go_upto_region 12 with fail;refine RL hS ?_;clear hS;(iterate 3 refine MV ?_);refine MW ?_ (v:=(.slice AH (hfn s.length) cH)) (hv:=fun _=>J1i α rfl rfl rfl);obtain⟨U2,θ⟩:=exh (mth (List.take (hfn s.length) s));refine MC (v:=.agg (J0 .u8 32 (J6 U2))) (fun W hS=>(by rw[θ.out];exact J8o (ls:=(List.take (hfn s.length) s)) (by first|omega|(have ν:=G.out;have ζ:=D.out;omega)) W (Y5 hG hS.ext) (V.ext hS.ext))) ?_;refine MB (z:=(J0 .u8 32 (J6 U2))) (t:=22) (n:=1) (c:=1) ?_ (hr:=fun W _=>J0d rfl rfl rfl Tryz.underlying37 (by rw[J1];kernel_rfl) (by rw[J1];kernel_rfl) (by rw[J1];decide) (by rw[J1];decide));intro Ω;refine MAr 1 0 (tS:=37) (bytes:=32) (es:=(List.map X4 os)) (by first|omega|(simp only[lA,lM,lT,lD,lC,lN,J2,Y0,Z3,Q7];omega)) (e:=X4 U2) (hk:=J1 _ _ _) (h1:=by exact Z8 _ _ _) ?_;intro Θ;refine MV ?_;refine MZ fun W hS=> ?_;go_upto_region 13 with fail;refine RL hS ?_;clear hS;refine MV ?_;refine MV ?_;refine MW ?_ (v:=(.slice AT (s.length-hfn s.length) cT)) (hv:=fun _=>J2j ρ rfl rfl rfl);refine MV ?_;refine MZ fun W hS=> ?_;go_upto_region 14 with fail;refine RL hS ?_;clear hS;refine MV ?_;refine MV ?_;refine MW ?_ (v:=.int .i64 ((j-hfn s.length:Nat):Int)) (hv:=by intro W;go_simp;(try simp only[IntKind.wrap_i64]);omega);refine MV ?_;refine MZ fun W hS=> ?_;go_wp2;go_roundw
    case rel=>exact⟨(j-hfn s.length),(List.drop (hfn s.length) s),AT,cT,os++[U2],Θ,false,(by rw[G.out];exact Y),by omega,by rw[G.out];omega,by rw[G.out,Ao];simp only[AY,Av];omega,BK (by rw[hp.out,Z1y J T M,θ.out,List.reverse_append,At];rfl),rfl,rfl,by rw[G.out],rfl,(by have h_:=(hS.pick [1]);rw[J1s] at h_;exact h_)⟩
    case measure=>first|(show hfn s.length<s.length;exact hf.2)|(show s.length-hfn s.length<s.length;omega)
   go_upto_region 7 with fail;refine RL hS ?_;clear hS;(iterate 3 refine MV ?_);refine Wfo ?_;refine MZ fun W hS=> ?_;rcases Bool.eq_false_or_eq_true b with R|R
   ·
    subst R;have Z:=BK (show sbp l0 m true=os.reverse by rw[hp.out,J8n J];rfl);go_upto_region 16 with fail;refine RL hS ?_;clear hS;refine Wt ?_;refine Wfo ?_;refine MZ fun W hS=> ?_;go_upto_region 18 with fail;refine RL hS ?_;clear hS;refine MV ?_;refine Me (v:=.tuple #[]) (H' :=[.r 22 32 ov (List.map X4 (List.reverse os))]) (fun W hS=>Z7v [0] [] hS (fun hT=>Q13 (ls:=os) (by first|omega|(rw[Ao];simp only[AY,Av];omega)) W hT) ⟨.inr ⟨rfl,rfl⟩,trivial⟩) ?_;refine MZ fun W hS=> ?_;go_wp2;exact BH (v:=.tuple #[ov,.int .i64 0]) (by simp only[results,Tryz.results52];go_simp) rfl ⟨_,rfl,by rw[←κ.out,Z.out];exact hS.pick [0]⟩
   subst R;go_upto_region 16 with fail;refine RL hS ?_;clear hS;refine Wf ?_;refine Wto ?_;refine MZ fun W hS=> ?_;go_upto_region 17 with fail;refine RL hS ?_;clear hS;refine MV ?_;refine MV ?_;obtain⟨U3,ε⟩:=exh (mth s);refine MC (v:=.agg (J0 .u8 32 (J6 U3))) (fun W hS=>(by rw[ε.out];exact J8o (ls:=s) (by first|omega|(have ν:=G.out;have ζ:=D.out;omega)) W (Y5 hG hS.ext) (hr.ext hS.ext))) ?_;refine MB (z:=(J0 .u8 32 (J6 U3))) (t:=22) (n:=1) (c:=1) ?_ (hr:=fun W _=>J0d rfl rfl rfl Tryz.underlying37 (by rw[J1];kernel_rfl) (by rw[J1];kernel_rfl) (by rw[J1];decide) (by rw[J1];decide));intro β;refine MAr 1 0 (tS:=37) (bytes:=32) (es:=(List.map X4 os)) (by first|omega|(simp only[lA,lM,lT,lD,lC,lN,J2,Y0,Z3,Q7];omega)) (e:=X4 U3) (hk:=J1 _ _ _) (h1:=by exact Z8 _ _ _) ?_;intro U;refine MV ?_;refine MZ fun W hS=> ?_;go_upto_region 18 with fail;refine RL hS ?_;clear hS;refine MV ?_;refine MT (H' :=[.b β (J0 .u8 32 (J6 U3)) 22,.r 22 32 U (List.map X4 (os++[U3]))]) (fun W hS=>(by have h_:=hS;rw[J1s] at h_;exact h_)) ?_;have Z:=BK (show sbp l0 m true=(os++[U3]).reverse by rw[hp.out,J8n J,ε.out,List.reverse_append];rfl);refine Me (v:=.tuple #[]) (H' :=[.r 22 32 U (List.map X4 (List.reverse (os++[U3]))),.b β (J0 .u8 32 (J6 U3)) 22]) (fun W hS=>Z7v [1] [0] hS (fun hT=>Q13 (ls:=os++[U3]) (by first|omega|(rw[Ao];simp only[AY,Av];omega)) W hT) ⟨.inr ⟨rfl,rfl⟩,trivial⟩) ?_;refine MZ fun W hS=> ?_;go_wp2;exact BH (v:=.tuple #[U,.int .i64 0]) (by simp only[results,Tryz.results52];go_simp) rfl ⟨_,rfl,by rw[←κ.out,Z.out];exact hS.pick [0]⟩
 go_upto_region 3 with fail;refine RL hS ?_;clear hS;refine MV ?_;refine Wfo ?_;refine Wf ?_;refine MV ?_;refine MV ?_;refine Wto ?_;refine Wt ?_;refine MZ fun W hS=> ?_;go_wp2;exact BH (v:=.tuple #[nSl,.int .i64 0]) (by simp only[results,Tryz.results52];go_simp) rfl ⟨_,rfl,by rw[J8n (by rw[BC];omega)];exact(hS.rnil 22 32 rfl).pick [0]⟩
end

section
set_option maxHeartbeats 3000000
attribute [local irreducible] wpList K1 wpX
attribute [local irreducible] eI be8 hs4 lb kTx vTx sTx eS rs ofT sE sL sN nN pkf

theorem Z1r {q:Prop}{p S n:Nat}{vt vl vs:AB}{us:List Nat}(hn:us.length≤1000000)(h1:1≤n)(h2:n≤us.length)(w:AA)(hG:GT q w)(hb:Blk w p (suF S vt vl vs) 74)(hu:RR 32 w vs (us.map X4)):
  BI Tryz.prog 20 #[.pointer (some ⟨p,0,none⟩),.int .i64 (n:Int)] w fun e w' =>V4 (.tuple #[.agg (J0 .u8 32 (J6 (mth (us.take n)))),.int .i64 0]) w w' e:=by
 have hS:=SH.nil [] w
 go_enter Tryz.func20,Tryz.ntmps20
 go_upto_region 0 with fail;refine RL hS ?_;clear hS;refine MN (z:=J0 .u8 32 (J6 0)) (t:=22) ?_;intro G;refine W0 ?_;refine MZ fun W hS=> ?_;go_upto_region 3 with fail;refine RL hS ?_;clear hS;(iterate 4 refine MV ?_);obtain⟨U1,D⟩:=exh (mth (us.take n));refine MC (v:=.tuple #[.agg (J0 .u8 32 (J6 U1)),.int .i64 0]) (fun W hS=>(by rw[D.out];exact Z6l hn h1 h2 W (Y5 hG hS.ext) (J3 hb hS.ext) (hu.ext hS.ext))) ?_;refine MV ?_;refine W0 ?_;refine MR 0 ?_;refine W0 ?_;refine MZ fun W hS=> ?_;go_wp2;exact BH (J6n rfl rfl rfl (hS.blk (i:=0) rfl) (by kernel_rfl) (by rw[J1];kernel_rfl)) rfl ⟨by rw[←D.out];rfl,hS.ext⟩
theorem V1r {q:Prop}{p S n i:Nat}{vt vl vs:AB}{us:List Nat}(hn:us.length≤1000000)(h1:i<n)(h2:n≤us.length)(w:AA)(hG:GT q w)(hb:Blk w p (suF S vt vl vs) 74)(hu:RR 32 w vs (us.map X4)):
  BI Tryz.prog 22 #[.pointer (some ⟨p,0,none⟩),.int .i64 (i:Int),.int .i64 (n:Int)] w fun e w' => ∃u,e=.returned (.tuple #[u,.int .i64 0])∧SH [] w w' [.r 22 32 u ((pth (us.take n) i).map X4)]:=by
 have hS:=SH.nil [] w
 go_enter Tryz.func22,Tryz.ntmps22
 go_upto_region 3 with fail;refine RL hS ?_;clear hS;(iterate 5 refine MV ?_);refine ME (V:=fun v=> .tuple #[v,.int .i64 0]) (fun W hS=>J24 hS (Y1t hn h1 h2 W (Y5 hG hS.ext) (J3 hb hS.ext) (hu.ext hS.ext)) (fun _=>⟨rfl,rfl⟩)) ?_;intro D;refine MV ?_;refine W0 ?_;refine MV ?_;refine W0 ?_;refine MZ fun W hS=> ?_;go_wp2;exact BH (v:=.tuple #[D,.int .i64 0]) (by simp only[results,Tryz.results22];go_simp) rfl ⟨_,rfl,hS.pick [0]⟩
theorem V1s {q:Prop}{p S n m:Nat}{vt vl vs:AB}{us:List Nat}(hn:us.length≤1000000)(h0:1≤m)(h1:m≤n)(h2:n≤us.length)(w:AA)(hG:GT q w)(hb:Blk w p (suF S vt vl vs) 74)(hu:RR 32 w vs (us.map X4)):
  BI Tryz.prog 23 #[.pointer (some ⟨p,0,none⟩),.int .i64 (m:Int),.int .i64 (n:Int)] w fun e w' => ∃u,e=.returned (.tuple #[u,.int .i64 0])∧SH [] w w' [.r 22 32 u ((sbp (us.take n) m true).map X4)]:=by
 have hS:=SH.nil [] w
 go_enter Tryz.func23,Tryz.ntmps23
 go_upto_region 3 with fail;refine RL hS ?_;clear hS;(iterate 5 refine MV ?_);refine ME (V:=fun v=> .tuple #[v,.int .i64 0]) (fun W hS=>J24 hS (Y1u hn h0 h1 h2 W (Y5 hG hS.ext) (J3 hb hS.ext) (hu.ext hS.ext)) (fun _=>⟨rfl,rfl⟩)) ?_;intro D;refine MV ?_;refine W0 ?_;refine MV ?_;refine W0 ?_;refine MZ fun W hS=> ?_;go_wp2;exact BH (v:=.tuple #[D,.int .i64 0]) (by simp only[results,Tryz.results23];go_simp) rfl ⟨_,rfl,hS.pick [0]⟩
end

section
attribute [local irreducible] wpList K1 wpX
abbrev J3g (x:Nat):List AB:=[Z9 (lb 32 x)]
attribute [local irreducible] hs4 sE sL sN

end

section
attribute [local irreducible] wpList K1 wpX
attribute [local irreducible] hs4 sE sL sN

end

section
attribute [local irreducible] hs4 sN sE sL lb
end

section
attribute [local irreducible] wpList K1 wpX
attribute [local irreducible] hs4 sE sL sN

end

section
attribute [local irreducible] wpList K1 wpX
attribute [local irreducible] hs4 sE sL sN

end

section
set_option maxHeartbeats 3000000
attribute [local irreducible] wpList K1 wpX
abbrev J1f (t:List UInt8):List AB:=[Z9 t]
attribute [local irreducible] hs4 sE sL sN lb
end

section
attribute [local irreducible] wpList K1 wpX
attribute [local irreducible] hs4 sE sL sN lb
end

section
end

section
set_option maxHeartbeats 3000000
attribute [local irreducible] wpList K1 wpX
attribute [local irreducible] hs4 sE sL sN lb
end

section
attribute [local irreducible] wpList K1 wpX
attribute [local irreducible] lb
end

section
attribute [local irreducible] wpList K1 wpX
attribute [local irreducible] hs4 sE sL sN lb
end

section
attribute [local irreducible] wpList K1 wpX
attribute [local irreducible] hs4 sE sL sN lb

end
end Go.Proofs.YtdjacgmmidbieaaGreatDoor

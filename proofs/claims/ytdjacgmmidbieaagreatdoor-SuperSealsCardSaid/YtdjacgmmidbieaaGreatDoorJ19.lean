/- Contracts and plain laws for superSeals_holds. Conditions: the tables hold their numbers. -/
import Derived.Test.YtdjacgmmidbieaaGreatDoorJ18
open Go renaming World->AA,Value->AB,bodyPost_ret->BH,execOp->AV,Calls->BI,IntKind->AI
open _root_.List renaming length_append->Ao,append_nil->Ar,append_assoc->At,length_nil->Av,length_drop->AZ
open _root_.Nat renaming mod_eq_of_lt->AL,le_refl->AM,zero_le->An,lt_of_lt_of_le->BA,lt_of_le_of_lt->AN,zero_add->AP,mul_one->AS
open Go.RowKit
set_option maxRecDepth 100000
set_option linter.unusedSimpArgs false
set_option linter.unusedVariables false
namespace Go.Proofs.YtdjacgmmidbieaaGreatDoor
section
set_option maxHeartbeats 1500000
attribute [local irreducible] wpList K1 wpX

def kk4:List Int:=[1116352408,1899447441,3049323471,3921009573,961987163,1508970993,2453635748,2870763221,3624381080,310598401,607225278,1426881987,1925078388,2162078206,2614888103,3248222580,3835390401,4022224774,264347078,604807628,770255983,1249150122,1555081692,1996064986,2554220882,2821834349,2952996808,3210313671,3336571891,3584528711,113926993,338241895,666307205,773529912,1294757372,1396182291,1695183700,1986661051,2177026350,2456956037,2730485921,2820302411,3259730800,3345764771,3516065817,3600352804,4094571909,275423344,430227734,506948616,659060556,883997877,958139571,1322822218,1537002063,1747873779,1955562222,2024104815,2227730452,2361852424,2428436474,2756734187,3204031479,3329325298]
def hh4:List Int:=[1779033703,3144134277,1013904242,2773480762,1359893119,2600822924,528734635,1541459225]
def kf4 (i:Nat):Int:=kk4.getD i 0
def hf4 (i:Nat):Int:=hh4.getD i 0
def GS4 (w:AA):Prop:=Rd w 14 (J0 .u32 64 kf4)∧Rd w 10 (J0 .u32 8 hf4)
theorem J29 {w W:AA}(h:GS4 w)(e:Ext w W):GS4 W:=⟨h.1.ext e,h.2.ext e⟩
def rT4 (k w:Nat→Int)(i:Nat)(v:Nat→Int):Int:=ad4 (ad4 (ad4 (ad4 (v 7) (J9f (v 4) 6 11 25)) (xo4 (an4 (v 4) (v 5)) (an4 (nt4 (v 4)) (v 6)))) (k i)) (w i)
def rU4 (v:Nat→Int):Int:=ad4 (J9f (v 0) 2 13 22) (xo4 (xo4 (an4 (v 0) (v 1)) (an4 (v 0) (v 2))) (an4 (v 1) (v 2)))
def Z08 (k w:Nat→Int)(i:Nat)(v:Nat→Int):Nat→Int
 |0=>ad4 (rT4 k w i v) (rU4 v)
 |1=>v 0
 |2=>v 1
 |3=>v 2
 |4=>ad4 (v 3) (rT4 k w i v)
 |5=>v 4
 |6=>v 5
 |7=>v 6
 |_=>0
def Q2 (k w v:Nat→Int):Nat→Nat→Int
 |0=>v
 |i+1=>Z08 k w i (Q2 k w v i)
def J6q (h b:Nat→Int)(j:Nat):Int:=ad4 (h j) (Q2 kf4 (Q0 b 64) h 64 j)
def mx4 (h v:Nat→Int)(i j:Nat):Int:=if j<i then ad4 (h j) (v j) else h j
theorem Q9a (h v:Nat→Int)(i:Nat):upd (mx4 h v i) i (ad4 (mx4 h v i i) (v i))=mx4 h v (i+1):=by
 funext j
 unfold upd mx4
 by_cases hj:j=i
 ·
  subst hj;rw[if_pos rfl,if_neg (by omega),if_pos (by omega)]
 rw[if_neg hj]
 by_cases hl:j<i
 ·
  rw[if_pos hl,if_pos (by omega)]
 rw[if_neg hl,if_neg (by omega)]
theorem Q9b (h v:Nat→Int):mx4 h v 0=h:=by funext j;unfold mx4;rw[if_neg (by omega)]
theorem Y4h (h b:Nat→Int):J0 .u32 8 (mx4 h (Q2 kf4 (Q0 b 64) h 64) 8)=J0 .u32 8 (J6q h b):=K6 _ _ _ _ fun j hj=>by unfold mx4 J6q;rw[if_pos hj]

theorem Y0h (h:Nat→Int)(l:List UInt8)(adr:Addr)(c:Nat)(hl:64≤l.length)(hlc:l.length≤c)(w:AA)(hs:Sl w (.slice (some adr) l.length c) l)(hG:GS4 w):
  BI Tryz.prog 134 #[.agg (J0 .u32 8 h),.slice (some adr) l.length c] w fun e w' =>V4 (.agg (J0 .u32 8 (J6q h (bt l)))) w w' e:=by
 have HG:=Lib.hid hG;clear hG;have hS:=SH.nil [] w
 go_enter Tryz.func134,Tryz.ntmps134
 go_upto_region 0 with fail;refine RL hS ?_;clear hS;refine MN (z:=J0 .u32 8 h) (t:=198) ?_;intro K9;refine MN (z:=J0 .u32 8 (fun _=>0)) (t:=198) ?_;intro M;refine MZ fun W hS=> ?_;go_upto_region 1 with fail;refine RL hS ?_;clear hS;refine MV ?_;refine MC (v:=.agg (J0 .u32 64 (Q0 (bt l) 64))) (fun W hS=>Z62 l adr c hl hlc W (J3j hs hS.ext)) ?_;refine MN (z:=J0 .u32 64 (fun _=>0)) (t:=213) ?_;intro G;refine MR 0 ?_;refine MZ fun W hS=> ?_;go_upto_region 2 with fail;refine RL hS ?_;clear hS;refine ML 2 ?_;refine MN (z:=J0 .u32 8 (fun _=>0)) (t:=198) ?_;intro D;refine MR 0 ?_;refine MZ fun W hS=> ?_
 go_wp2_with fail
 go_loopw [14] (fun ii wr=> ∃(i:Nat),(i≤64)∧(ii=.int .i64 (i:Int))∧SH [] w wr [.b D (J0 .u32 8 (Q2 kf4 (Q0 (bt l) 64) h i)) 198,.b G (J0 .u32 64 (Q0 (bt l) 64)) 213,.b M (J0 .u32 8 (fun _=>0)) 198,.b K9 (J0 .u32 8 h) 198])
  (fun ii _=>64-(intOf ii).toNat)
 case atStart=>exact⟨0,An _,rfl,hS⟩
 clear hS
 case round=>
  obtain⟨i,hi,rfl,hS⟩:=hrel
  by_cases J:i<64
  ·
   go_upto_region 4 with fail;refine RL hS ?_;clear hS;refine Wt ?_;refine MZ fun W hS=> ?_;go_upto_region 6 with fail;refine RS hS ?_;clear hS;refine MW ?_ (v:=.pointer (some ⟨D,0+7,none⟩)) (hv:=fun _=>X3 Tryz.underlying198 (by omega));refine MG 0 ?_ (j:=0+7) (v:=.int .u32 ((Q2 kf4 (Q0 (bt l) 64) h i) 7)) (hj:=ag0 (by omega));refine MW ?_ (v:=.pointer (some ⟨D,0+4,none⟩)) (hv:=fun _=>X3 Tryz.underlying198 (by omega));refine MG 0 ?_ (j:=0+4) (v:=.int .u32 ((Q2 kf4 (Q0 (bt l) 64) h i) 4)) (hj:=ag0 (by omega));refine MC (v:=.int .u32 (J9f ((Q2 kf4 (Q0 (bt l) 64) h i) 4) 6 11 25)) (fun W hS=>Y0f ((Q2 kf4 (Q0 (bt l) 64) h i) 4) 6 11 25 (by decide) (by decide) (by decide) W) ?_;refine MW ?_ (v:=.int .u32 (ad4 ((Q2 kf4 (Q0 (bt l) 64) h i) 7) (J9f ((Q2 kf4 (Q0 (bt l) 64) h i) 4) 6 11 25))) (hv:=fun _=>J3d rfl rfl rfl);refine MW ?_ (v:=.pointer (some ⟨D,0+4,none⟩)) (hv:=fun _=>X3 Tryz.underlying198 (by omega));refine MG 0 ?_ (j:=0+4) (v:=.int .u32 ((Q2 kf4 (Q0 (bt l) 64) h i) 4)) (hj:=ag0 (by omega));refine MW ?_ (v:=.pointer (some ⟨D,0+5,none⟩)) (hv:=fun _=>X3 Tryz.underlying198 (by omega));refine MG 0 ?_ (j:=0+5) (v:=.int .u32 ((Q2 kf4 (Q0 (bt l) 64) h i) 5)) (hj:=ag0 (by omega));refine MW ?_ (v:=.int .u32 (an4 ((Q2 kf4 (Q0 (bt l) 64) h i) 4) ((Q2 kf4 (Q0 (bt l) 64) h i) 5))) (hv:=fun _=>J7w rfl rfl rfl);refine MW ?_ (v:=.pointer (some ⟨D,0+4,none⟩)) (hv:=fun _=>X3 Tryz.underlying198 (by omega));refine MG 0 ?_ (j:=0+4) (v:=.int .u32 ((Q2 kf4 (Q0 (bt l) 64) h i) 4)) (hj:=ag0 (by omega));refine MW ?_ (v:=.int .u32 (nt4 ((Q2 kf4 (Q0 (bt l) 64) h i) 4))) (hv:=fun _=>Y0i rfl rfl);refine MW ?_ (v:=.pointer (some ⟨D,0+6,none⟩)) (hv:=fun _=>X3 Tryz.underlying198 (by omega));refine MG 0 ?_ (j:=0+6) (v:=.int .u32 ((Q2 kf4 (Q0 (bt l) 64) h i) 6)) (hj:=ag0 (by omega));refine MW ?_ (v:=.int .u32 (an4 (nt4 ((Q2 kf4 (Q0 (bt l) 64) h i) 4)) ((Q2 kf4 (Q0 (bt l) 64) h i) 6))) (hv:=fun _=>J7w rfl rfl rfl);refine MW ?_ (v:=.int .u32 (xo4 (an4 ((Q2 kf4 (Q0 (bt l) 64) h i) 4) ((Q2 kf4 (Q0 (bt l) 64) h i) 5)) (an4 (nt4 ((Q2 kf4 (Q0 (bt l) 64) h i) 4)) ((Q2 kf4 (Q0 (bt l) 64) h i) 6)))) (hv:=fun _=>J59 rfl rfl rfl);refine MW ?_ (v:=.int .u32 (ad4 (ad4 ((Q2 kf4 (Q0 (bt l) 64) h i) 7) (J9f ((Q2 kf4 (Q0 (bt l) 64) h i) 4) 6 11 25)) (xo4 (an4 ((Q2 kf4 (Q0 (bt l) 64) h i) 4) ((Q2 kf4 (Q0 (bt l) 64) h i) 5)) (an4 (nt4 ((Q2 kf4 (Q0 (bt l) 64) h i) 4)) ((Q2 kf4 (Q0 (bt l) 64) h i) 6))))) (hv:=fun _=>J3d rfl rfl rfl);refine MV ?_;refine MW ?_ (v:=.pointer (some ⟨14,0+i,none⟩)) (hv:=fun _=>X3 Tryz.underlying213 (by omega));refine MF (v:=.int .u32 (kf4 i)) (fun W hS=>V6 rfl rfl (((J29 HG.out hS.ext).1).1 _ _ (ag0 (by omega))) (by kernel_rfl)) ?_;refine MW ?_ (v:=.int .u32 (ad4 (ad4 (ad4 ((Q2 kf4 (Q0 (bt l) 64) h i) 7) (J9f ((Q2 kf4 (Q0 (bt l) 64) h i) 4) 6 11 25)) (xo4 (an4 ((Q2 kf4 (Q0 (bt l) 64) h i) 4) ((Q2 kf4 (Q0 (bt l) 64) h i) 5)) (an4 (nt4 ((Q2 kf4 (Q0 (bt l) 64) h i) 4)) ((Q2 kf4 (Q0 (bt l) 64) h i) 6)))) (kf4 i))) (hv:=fun _=>J3d rfl rfl rfl);refine MV ?_;refine MW ?_ (v:=.pointer (some ⟨G,0+i,none⟩)) (hv:=fun _=>X3 Tryz.underlying213 (by omega));refine MG 1 ?_ (j:=0+i) (v:=.int .u32 ((Q0 (bt l) 64) i)) (hj:=ag0 (by omega));refine MW ?_ (v:=.int .u32 (rT4 kf4 (Q0 (bt l) 64) i (Q2 kf4 (Q0 (bt l) 64) h i)));refine MV ?_;refine MZx fun W hS=> ?_;go_upto_region 7 with fail;refine RS hS ?_;clear hS;refine MW ?_ (v:=.pointer (some ⟨D,0+0,none⟩)) (hv:=fun _=>X3 Tryz.underlying198 (by omega));refine MG 0 ?_ (j:=0+0) (v:=.int .u32 ((Q2 kf4 (Q0 (bt l) 64) h i) 0)) (hj:=ag0 (by omega));refine MC (v:=.int .u32 (J9f ((Q2 kf4 (Q0 (bt l) 64) h i) 0) 2 13 22)) (fun W hS=>Y0f ((Q2 kf4 (Q0 (bt l) 64) h i) 0) 2 13 22 (by decide) (by decide) (by decide) W) ?_;refine MW ?_ (v:=.pointer (some ⟨D,0+0,none⟩)) (hv:=fun _=>X3 Tryz.underlying198 (by omega));refine MG 0 ?_ (j:=0+0) (v:=.int .u32 ((Q2 kf4 (Q0 (bt l) 64) h i) 0)) (hj:=ag0 (by omega));refine MW ?_ (v:=.pointer (some ⟨D,0+1,none⟩)) (hv:=fun _=>X3 Tryz.underlying198 (by omega));refine MG 0 ?_ (j:=0+1) (v:=.int .u32 ((Q2 kf4 (Q0 (bt l) 64) h i) 1)) (hj:=ag0 (by omega));refine MW ?_ (v:=.int .u32 (an4 ((Q2 kf4 (Q0 (bt l) 64) h i) 0) ((Q2 kf4 (Q0 (bt l) 64) h i) 1))) (hv:=fun _=>J7w rfl rfl rfl);refine MW ?_ (v:=.pointer (some ⟨D,0+0,none⟩)) (hv:=fun _=>X3 Tryz.underlying198 (by omega));refine MG 0 ?_ (j:=0+0) (v:=.int .u32 ((Q2 kf4 (Q0 (bt l) 64) h i) 0)) (hj:=ag0 (by omega));refine MW ?_ (v:=.pointer (some ⟨D,0+2,none⟩)) (hv:=fun _=>X3 Tryz.underlying198 (by omega));refine MG 0 ?_ (j:=0+2) (v:=.int .u32 ((Q2 kf4 (Q0 (bt l) 64) h i) 2)) (hj:=ag0 (by omega));refine MW ?_ (v:=.int .u32 (an4 ((Q2 kf4 (Q0 (bt l) 64) h i) 0) ((Q2 kf4 (Q0 (bt l) 64) h i) 2))) (hv:=fun _=>J7w rfl rfl rfl);refine MW ?_ (v:=.int .u32 (xo4 (an4 ((Q2 kf4 (Q0 (bt l) 64) h i) 0) ((Q2 kf4 (Q0 (bt l) 64) h i) 1)) (an4 ((Q2 kf4 (Q0 (bt l) 64) h i) 0) ((Q2 kf4 (Q0 (bt l) 64) h i) 2)))) (hv:=fun _=>J59 rfl rfl rfl);refine MW ?_ (v:=.pointer (some ⟨D,0+1,none⟩)) (hv:=fun _=>X3 Tryz.underlying198 (by omega));refine MG 0 ?_ (j:=0+1) (v:=.int .u32 ((Q2 kf4 (Q0 (bt l) 64) h i) 1)) (hj:=ag0 (by omega));refine MW ?_ (v:=.pointer (some ⟨D,0+2,none⟩)) (hv:=fun _=>X3 Tryz.underlying198 (by omega));refine MG 0 ?_ (j:=0+2) (v:=.int .u32 ((Q2 kf4 (Q0 (bt l) 64) h i) 2)) (hj:=ag0 (by omega));refine MW ?_ (v:=.int .u32 (an4 ((Q2 kf4 (Q0 (bt l) 64) h i) 1) ((Q2 kf4 (Q0 (bt l) 64) h i) 2))) (hv:=fun _=>J7w rfl rfl rfl);refine MW ?_ (v:=.int .u32 (xo4 (xo4 (an4 ((Q2 kf4 (Q0 (bt l) 64) h i) 0) ((Q2 kf4 (Q0 (bt l) 64) h i) 1)) (an4 ((Q2 kf4 (Q0 (bt l) 64) h i) 0) ((Q2 kf4 (Q0 (bt l) 64) h i) 2))) (an4 ((Q2 kf4 (Q0 (bt l) 64) h i) 1) ((Q2 kf4 (Q0 (bt l) 64) h i) 2)))) (hv:=fun _=>J59 rfl rfl rfl);refine MW ?_ (v:=.int .u32 (rU4 (Q2 kf4 (Q0 (bt l) 64) h i)));refine MV ?_;refine MZx fun W hS=> ?_;go_upto_region 8 with fail;refine RL hS ?_;clear hS;refine MV ?_;refine MV ?_;refine MW ?_ (v:=.int .u32 (ad4 (rT4 kf4 (Q0 (bt l) 64) i (Q2 kf4 (Q0 (bt l) 64) h i)) (rU4 (Q2 kf4 (Q0 (bt l) 64) h i)))) (hv:=fun _=>J3d rfl rfl rfl);refine MW ?_ (v:=.pointer (some ⟨D,0+0,none⟩)) (hv:=fun _=>X3 Tryz.underlying198 (by omega));refine MG 0 ?_ (j:=0+0) (v:=.int .u32 ((Q2 kf4 (Q0 (bt l) 64) h i) 0)) (hj:=ag0 (by omega));refine MW ?_ (v:=.pointer (some ⟨D,0+1,none⟩)) (hv:=fun _=>X3 Tryz.underlying198 (by omega));refine MG 0 ?_ (j:=0+1) (v:=.int .u32 ((Q2 kf4 (Q0 (bt l) 64) h i) 1)) (hj:=ag0 (by omega));refine MW ?_ (v:=.pointer (some ⟨D,0+2,none⟩)) (hv:=fun _=>X3 Tryz.underlying198 (by omega));refine MG 0 ?_ (j:=0+2) (v:=.int .u32 ((Q2 kf4 (Q0 (bt l) 64) h i) 2)) (hj:=ag0 (by omega));refine MW ?_ (v:=.pointer (some ⟨D,0+3,none⟩)) (hv:=fun _=>X3 Tryz.underlying198 (by omega));refine MG 0 ?_ (j:=0+3) (v:=.int .u32 ((Q2 kf4 (Q0 (bt l) 64) h i) 3)) (hj:=ag0 (by omega));refine MV ?_;refine MW ?_ (v:=.int .u32 (ad4 ((Q2 kf4 (Q0 (bt l) 64) h i) 3) (rT4 kf4 (Q0 (bt l) 64) i (Q2 kf4 (Q0 (bt l) 64) h i)))) (hv:=fun _=>J3d rfl rfl rfl);refine MW ?_ (v:=.pointer (some ⟨D,0+4,none⟩)) (hv:=fun _=>X3 Tryz.underlying198 (by omega));refine MG 0 ?_ (j:=0+4) (v:=.int .u32 ((Q2 kf4 (Q0 (bt l) 64) h i) 4)) (hj:=ag0 (by omega));refine MW ?_ (v:=.pointer (some ⟨D,0+5,none⟩)) (hv:=fun _=>X3 Tryz.underlying198 (by omega));refine MG 0 ?_ (j:=0+5) (v:=.int .u32 ((Q2 kf4 (Q0 (bt l) 64) h i) 5)) (hj:=ag0 (by omega));refine MW ?_ (v:=.pointer (some ⟨D,0+6,none⟩)) (hv:=fun _=>X3 Tryz.underlying198 (by omega));refine MG 0 ?_ (j:=0+6) (v:=.int .u32 ((Q2 kf4 (Q0 (bt l) 64) h i) 6)) (hj:=ag0 (by omega));refine MW ?_ (v:=.agg (J0 .u32 8 (Q2 kf4 (Q0 (bt l) 64) h (i+1)))) (hv:=by intro W;first|rfl|(go_simp;rfl));refine MR 0 ?_;refine MZ fun W hS=> ?_;go_wp2;go_roundw
   case rel=>exact⟨i+1,by omega,by go_num,hS⟩
   case measure=>simp[intOf];omega
  obtain rfl:i=64:=by omega
  go_upto_region 4 with fail;refine RL hS ?_;clear hS;refine Wf ?_;refine MZ fun W hS=> ?_
  go_wp2_with fail
  go_loopw [86] (fun ii wr=> ∃(i:Nat),(i≤8)∧(ii=.int .i64 (i:Int))∧SH [] w wr [.b D (J0 .u32 8 (Q2 kf4 (Q0 (bt l) 64) h 64)) 198,.b G (J0 .u32 64 (Q0 (bt l) 64)) 213,.b M (J0 .u32 8 (fun _=>0)) 198,.b K9 (J0 .u32 8 (mx4 h (Q2 kf4 (Q0 (bt l) 64) h 64) i)) 198])
   (fun ii _=>8-(intOf ii).toNat)
  case atStart=>exact⟨0,An _,rfl,(by rw[Q9b];exact hS)⟩
  clear hS
  case round=>
   obtain⟨i,hi,rfl,hS⟩:=hrel
   by_cases h8:i<8
   ·
    go_upto_region 11 with fail;refine RL hS ?_;clear hS;refine Wt ?_;refine MZ fun W hS=> ?_;go_upto_region 13 with fail;refine RX 8 hS ?_;clear hS;refine MV ?_;refine MW ?_ (v:=.pointer (some ⟨K9,0+i,none⟩)) (hv:=fun _=>X3 Tryz.underlying198 (by omega));refine MG 3 ?_ (j:=0+i) (v:=.int .u32 ((mx4 h (Q2 kf4 (Q0 (bt l) 64) h 64) i) i)) (hj:=ag0 (by omega));refine MV ?_;refine MW ?_ (v:=.pointer (some ⟨D,0+i,none⟩)) (hv:=fun _=>X3 Tryz.underlying198 (by omega));refine MG 0 ?_ (j:=0+i) (v:=.int .u32 ((Q2 kf4 (Q0 (bt l) 64) h 64) i)) (hj:=ag0 (by omega));refine MW ?_ (v:=.int .u32 (ad4 ((mx4 h (Q2 kf4 (Q0 (bt l) 64) h 64) i) i) ((Q2 kf4 (Q0 (bt l) 64) h 64) i))) (hv:=fun _=>J3d rfl rfl rfl);refine MW ?_ (v:=.pointer (some ⟨K9,0+i,none⟩)) (hv:=fun _=>X3 Tryz.underlying198 (by omega));refine MZt ?_;refine MP 3 (v:=.int .u32 (ad4 ((mx4 h (Q2 kf4 (Q0 (bt l) 64) h 64) i) i) ((Q2 kf4 (Q0 (bt l) 64) h 64) i))) (cs' :=J0 .u32 8 (upd (mx4 h (Q2 kf4 (Q0 (bt l) 64) h 64) i) i (ad4 ((mx4 h (Q2 kf4 (Q0 (bt l) 64) h 64) i) i) ((Q2 kf4 (Q0 (bt l) 64) h 64) i)))) ?_ (hs:=by rw[J1,AP];omega) (hc:=by rw[AP];exact Y9 _ _ _ _ _);refine MZn fun W hS=> ?_;go_wp2;go_roundw
    case rel=>exact⟨i+1,by omega,by go_num,(by rw[←Q9a];exact hS)⟩
    case measure=>simp[intOf];omega
   obtain rfl:i=8:=by omega
   rw[Y4h] at hS;go_upto_region 11 with fail;refine RL hS ?_;clear hS;refine Wf ?_;refine MZ fun W hS=> ?_;go_upto_region 15 with fail;refine RL hS ?_;clear hS;refine ML 3 ?_;refine MR 2 ?_;refine MZ fun W hS=> ?_;go_wp2;refine BH (Z5 rfl rfl (hS.blk (i:=2) rfl) (by kernel_rfl) (by rw[J1];kernel_rfl)) rfl ⟨rfl,hS.ext⟩
end

section

def zc4 (n:Nat):Nat:=(119-n % 64) % 64
def J0e (l:List UInt8):List UInt8:=l++[128]++List.replicate (zc4 l.length) 0++be8 (8*l.length)
def nb4 (n:Nat):Nat:=(n+1+zc4 n+8) / 64
theorem J7y (n:Nat):(n+1+zc4 n) % 64=56∧zc4 n<64:=by unfold zc4;omega
theorem Y0m {n k:Nat}(h:k<zc4 n):(n+1+k) % 64≠56:=by unfold zc4 at h;omega
theorem Y0l (n:Nat):zc4 (n-64*(n / 64))=zc4 n:=by unfold zc4;omega
theorem Y0n (n:Nat):nb4 (n-64*(n / 64))+n / 64=nb4 n:=by unfold nb4 zc4;omega
theorem Q1c (l:List UInt8):(J0e l).length=64*nb4 l.length:=by
  have h:=J7y l.length;unfold J0e nb4;simp only[Ao,List.length_cons,Av,List.length_replicate,be8];omega
def Hs4 (P:List UInt8):Nat→Nat→Int
  |0=>hf4
  |j+1=>J6q (Hs4 P j) (bt (P.drop (64*j)))
def ob4 (H:Nat→Int)(j:Nat):Int:=w8 (sr4 (H (j / 4)) (8*(3-j % 4)))
def J72 (H:Nat→Int)(n j:Nat):Int:=if j<n then ob4 H j else 0
theorem Z1e (H:Nat→Int):J72 H 0=fun _=>0:=by funext j;unfold J72;rw[if_neg (by omega)]
theorem J6s (H:Nat→Int)(i k:Nat)(hk:k<4):upd (J72 H (4*i+k)) (4*i+k) (w8 (sr4 (H i) (8*(3-k))))=J72 H (4*i+(k+1)):=by
  funext j
  unfold upd J72
  by_cases h:j=4*i+k
  · subst h
    rw[if_pos rfl,if_pos (by omega),ob4,show(4*i+k) / 4=i by omega,show(4*i+k) % 4=k by omega]
  rw[if_neg h]
  by_cases hl:j<4*i+k
  · rw[if_pos hl,if_pos (by omega)]
  rw[if_neg hl,if_neg (by omega)]
theorem Z68 (H:Nat→Int):J0 .u8 32 (J72 H 32)=J0 .u8 32 (ob4 H):=K6 _ _ _ _ fun j hj=>by unfold J72;rw[if_pos hj]
def sm4 (l:List UInt8):Nat→Int:=ob4 (Hs4 (J0e l) (nb4 l.length))
theorem Q3t (P:List UInt8)(j:Nat):List.drop 64 (List.drop (64*j) P)=List.drop (64*(j+1)) P:=by
  rw[List.drop_drop];congr 1
/-! ### a block's words are of its bytes alone -/
theorem Q3v {a b:Nat→Int}{i:Nat}:∀k,(∀j,j<4*i+k→a j=b j)→J36 a i k=J36 b i k
  |0,_=>rfl
  |k+1,h=>by
    show oo4 (sl4 (J36 a i k) 8) (a (4*i+k))=oo4 (sl4 (J36 b i k) 8) (b (4*i+k));rw[Q3v k (fun j hj=>h j (by omega)),h (4*i+k) (by omega)]
theorem Q3w {a b:Nat→Int}(h:∀j,j<64→a j=b j):∀i,Q0 a i=Q0 b i
  |0=>rfl
  |i+1=>by
    show upd (Q0 a i) i (if i<16 then J36 a i 4 else sg4 (Q0 a i) i)=upd (Q0 b i) i (if i<16 then J36 b i 4 else sg4 (Q0 b i) i);rw[Q3w h i]
    by_cases hi:i<16
    · rw[if_pos hi,if_pos hi,Q3v 4 (fun j hj=>h j (by omega))]
    · rw[if_neg hi,if_neg hi]
theorem Q3s {H a b:Nat→Int}(h:∀j,j<64→a j=b j):J6q H a=J6q H b:=by
  funext j
  unfold J6q;rw[Q3w h 64]
theorem J6a (P:List UInt8)(n m:Nat):bt (P.drop n) m=bt P (n+m):=by
  unfold bt;simp[List.getD_eq_getElem?_getD,List.getElem?_drop]
theorem Q5i {P Q:List UInt8}:∀k,(∀j,j<64*k→bt P j=bt Q j)→Hs4 P k=Hs4 Q k
  |0,_=>rfl
  |k+1,h=>by
    show J6q (Hs4 P k) (bt (P.drop (64*k)))=J6q (Hs4 Q k) (bt (Q.drop (64*k)));rw[Q5i k (fun j hj=>h j (by omega))];exact Q3s fun j hj=>by rw[J6a,J6a];exact h _ (by omega)
theorem Y4r {P Q:List UInt8}{j:Nat}(h:j<P.length):bt (P++Q) j=bt P j:=by
  unfold bt;simp[List.getD_eq_getElem?_getD,List.getElem?_append,h]
/-! ### a sum that goes on -/
def hw4 (F:List UInt8):Nat→Int:=Hs4 F (F.length / 64)
def hr4 (F:List UInt8):List UInt8:=F.drop (64*(F.length / 64))
theorem J6r (F:List UInt8):(hr4 F).length=F.length-64*(F.length / 64):=by unfold hr4;rw[AZ]
theorem Z1d (F:List UInt8):(hr4 F).length<64:=by rw[J6r];omega
theorem Q0w {F b:List UInt8}:(F++b).drop (64*(F.length / 64))=hr4 F++b:=by
  unfold hr4;rw[List.drop_append_of_le_length (by omega)]
theorem Z3w (F b:List UInt8):hw4 F=Hs4 (F++b) (F.length / 64):=Q5i _ fun j hj=>(Y4r (by omega)).symm
theorem Y0k (F b:List UInt8)(k:Nat):J6q (Hs4 (F++b) (F.length / 64+k)) (bt ((hr4 F++b).drop (64*k)))=Hs4 (F++b) (F.length / 64+(k+1)):=by
  rw[←Q0w,List.drop_drop,←Nat.mul_add];rfl
theorem Y4i {F b:List UInt8}{k:Nat}(h:k=(hr4 F++b).length / 64):Hs4 (F++b) (F.length / 64+k)=hw4 (F++b)∧(hr4 F++b).drop (64*k)=hr4 (F++b):=by
  have e:F.length / 64+k=(F++b).length / 64:=by rw[h,Ao,Ao,J6r];omega
  refine⟨by rw[hw4,e],?_⟩;rw[←Q0w,List.drop_drop,←Nat.mul_add,e];rfl
theorem Z66 (F:List UInt8):(J0e F).drop (64*(F.length / 64))=hr4 F++[128]++List.replicate (zc4 F.length) 0++be8 (8*F.length):=by
  unfold J0e;rw[At,At,Q0w];simp only[At]
theorem Y4l (F:List UInt8):hw4 F=Hs4 (J0e F) (F.length / 64):=by
  unfold J0e;rw[At,At];exact Z3w _ _
theorem Z67 (F:List UInt8)(k:Nat):J6q (Hs4 (J0e F) (F.length / 64+k)) (bt (((J0e F).drop (64*(F.length / 64))).drop (64*k)))=Hs4 (J0e F) (F.length / 64+(k+1)):=by
  rw[List.drop_drop,←Nat.mul_add];rfl
theorem Q9i (F:List UInt8):F.length / 64+nb4 (hr4 F).length=nb4 F.length:=by
  rw[J6r,Nat.add_comm];exact Y0n _
end

section

theorem J2i (k:AI)(j:Nat)(hj:j≤k.bits)(hk:∀n:Int,0≤n→n<2^j→k.wrap n=n)(a b:Nat)(ha:a<2^j)(hb:b<2^j):bits .xor k a b=((a^^^b:Nat):Int):=by
  have hp:2^j≤2^k.bits:=Nat.pow_le_pow_right (by decide) hj;have ha' :a % 2^k.bits=a:=AL (BA ha hp);have hb' :b % 2^k.bits=b:=AL (BA hb hp);simp only[bits,BitVec.ofInt_natCast,BitVec.toNat_xor,BitVec.toNat_ofNat,ha',hb'];exact hk _ (Int.natCast_nonneg _) (by exact_mod_cast Nat.xor_lt_two_pow ha hb)
theorem Y89 (n:Int)(h0:0≤n)(h1:n<2^32):AI.u32.wrap n=n:=by rw[AI.wrap_u32];omega
theorem Z07 (n:Int)(h0:0≤n)(h1:n<2^63):AI.i64.wrap n=n:=by rw[AI.wrap_i64];omega
section
variable {a b : Nat}
theorem Y63 (ha:a<2^32)(hb:b<2^32):an4 a b=((a &&& b:Nat):Int):=(bits_nat .u32 32 (by decide) Y89 a b ha hb).1
theorem Y8a (ha:a<2^32)(hb:b<2^32):oo4 a b=((a |||b:Nat):Int):=(bits_nat .u32 32 (by decide) Y89 a b ha hb).2
theorem Y64 (ha:a<2^32)(hb:b<2^32):xo4 a b=((a^^^b:Nat):Int):=J2i .u32 32 (by decide) Y89 a b ha hb
theorem V2d (ha:a<2^63)(hb:b<2^63):bits .and .i64 a b=((a &&& b:Nat):Int):=(bits_nat .i64 63 (by decide) Z07 a b ha hb).1
theorem V2e (ha:a<2^63)(hb:b<2^63):bits .or .i64 a b=((a |||b:Nat):Int):=(bits_nat .i64 63 (by decide) Z07 a b ha hb).2
theorem V2f (ha:a<2^63)(hb:b<2^63):bits .xor .i64 a b=((a^^^b:Nat):Int):=J2i .i64 63 (by decide) Z07 a b ha hb
end
theorem Q2a {x:Int}(h0:0≤x)(h1:x<2^63):bits .and .i64 x 4294967295=x % 4294967296:=bits_mask .i64 63 (by decide) Z07 32 (by decide) x h0 h1
def W4 (x:Int):Prop:=0≤x∧x<4294967296
theorem W4.nat {x:Int}(h:W4 x):∃a:Nat,x=(a:Int)∧a<2^32:=⟨x.toNat,by have:=h.1;omega,by have:=h.1;have:=h.2;omega⟩
theorem W4.mk' {a:Nat}(h:a<2^32):W4 (a:Int):=⟨by omega,by omega⟩
theorem Z4q {a:Nat}(h:a<2^32):a<2^63:=by omega
variable {x y : Int}
theorem J4r (hx:W4 x)(hy:W4 y):W4 (xo4 x y):=by
  obtain⟨a,rfl,ha⟩:=hx.nat;obtain⟨b,rfl,hb⟩:=hy.nat;rw[Y64 ha hb];exact W4.mk' (Nat.xor_lt_two_pow ha hb)
theorem J48 (hx:W4 x)(hy:W4 y):W4 (an4 x y):=by
  obtain⟨a,rfl,ha⟩:=hx.nat;obtain⟨b,rfl,hb⟩:=hy.nat;rw[Y63 ha hb];exact W4.mk' (Nat.and_lt_two_pow _ hb)
theorem Y65 (hx:W4 x)(hy:W4 y):W4 (oo4 x y):=by
  obtain⟨a,rfl,ha⟩:=hx.nat;obtain⟨b,rfl,hb⟩:=hy.nat;rw[Y8a ha hb];exact W4.mk' (Nat.or_lt_two_pow ha hb)
theorem Z20 (hx:W4 x):W4 (nt4 x):=J4r (x:=4294967295) ⟨by decide,by decide⟩ hx
theorem Z21:W4 (ad4 x y):=by unfold ad4 W4;rw[AI.wrap_u32];omega
theorem Y66 {n:Nat}:W4 (sl4 x n):=by unfold sl4 W4;rw[AI.wrap_u32];omega
theorem Z22 {n:Nat}(hx:W4 x):W4 (sr4 x n):=by
  obtain⟨a,rfl,ha⟩:=hx.nat;unfold sr4;rw[show((a:Int) / 2^n)=((a / 2^n:Nat):Int) by rw[Int.natCast_ediv,Int.natCast_pow];rfl];exact W4.mk' (AN (Nat.div_le_self _ _) ha)
theorem J2c {n:Nat}(hx:W4 x):W4 (rt4 x n):=Y65 (Z22 hx) Y66
theorem Z6w (hx:W4 x)(hy:W4 y):bits .xor .i64 x y=xo4 x y:=by
  obtain⟨a,rfl,ha⟩:=hx.nat;obtain⟨b,rfl,hb⟩:=hy.nat;rw[Y64 ha hb,V2f (Z4q ha) (Z4q hb)]
theorem Y8b (hx:W4 x)(hy:W4 y):bits .and .i64 x y=an4 x y:=by
  obtain⟨a,rfl,ha⟩:=hx.nat;obtain⟨b,rfl,hb⟩:=hy.nat;rw[Y63 ha hb,V2d (Z4q ha) (Z4q hb)]
theorem V2g (hx:W4 x):bits .xor .i64 4294967295 x=nt4 x:=Z6w (x:=4294967295) ⟨by decide,by decide⟩ hx
theorem Q0j:ad4 x y=(x+y) % 4294967296:=by unfold ad4;rw[AI.wrap_u32]
theorem Y8c {n:Nat}(hx:W4 x)(h1:1≤n)(h2:n≤31):AI.wrap .i64 (x*2^(32-n))=x*2^(32-n):=by
  obtain⟨a,rfl,ha⟩:=hx.nat;have e2:((a:Int)*2^(32-n))=((a*2^(32-n):Nat):Int):=by rw[Int.natCast_mul,Int.natCast_pow];rfl
  have h3:2^(32-n)≤2^31:=Nat.pow_le_pow_right (by decide) (by omega);have l2:a*2^(32-n)<2^63:=AN (Nat.mul_le_mul_left _ h3) (by omega);rw[e2];exact Z07 _ (Int.natCast_nonneg _) (by exact_mod_cast l2)
theorem Y26 {n:Nat}(hx:W4 x)(h1:1≤n)(h2:n≤31):bits .and .i64 (bits .or .i64 (x / 2^n) (x*2^(32-n))) 4294967295=rt4 x n:=by
  obtain⟨a,rfl,ha⟩:=hx.nat;have e1:((a:Int) / 2^n)=((a / 2^n:Nat):Int):=by rw[Int.natCast_ediv,Int.natCast_pow];rfl
  have e2:((a:Int)*2^(32-n))=((a*2^(32-n):Nat):Int):=by rw[Int.natCast_mul,Int.natCast_pow];rfl
  have l1:a / 2^n<2^32:=AN (Nat.div_le_self _ _) ha
  have l2:a*2^(32-n)<2^63:=by
    have h3:2^(32-n)≤2^31:=Nat.pow_le_pow_right (by decide) (by omega)
    calc a*2^(32-n)≤a*2^31:=Nat.mul_le_mul_left _ h3
      _<2^63:=by omega
  have e3:sl4 (a:Int) (32-n)=((a*2^(32-n) % 2^32:Nat):Int):=by
    unfold sl4;rw[AI.wrap_u32,e2];omega
  have l3:a*2^(32-n) % 2^32<2^32:=Nat.mod_lt _ (by decide);unfold rt4;rw[e3,show sr4 (a:Int) n=((a / 2^n:Nat):Int) from e1,Y8a l1 l3,e1,e2,V2e (Z4q l1) l2,Q2a (by omega) (by exact_mod_cast Nat.or_lt_two_pow (Z4q l1) l2)];have h4:(a / 2^n |||a*2^(32-n)) % 2^32=a / 2^n |||a*2^(32-n) % 2^32:=by rw[Nat.or_mod_two_pow,AL l1]
  rw[←h4];omega
end

section
set_option maxHeartbeats 1500000
attribute [local irreducible] wpList

abbrev hc8 (H:Nat→Int)(v n:AB):Array AB:=J0 .u32 8 H++ #[v,n]
section
variable {H K : Nat → Int} {v n x : AB}
theorem Q7i:(hc8 H v n).size=10:=by simp[J1]
theorem Q9c:∀i u,(J0 .u32 8 H)[i]?=some u→(hc8 H v n)[0+i]?=some u:=fun i u h=>by
  have hi:i<(J0 .u32 8 H).size:=by
    rcases Nat.lt_or_ge i (J0 .u32 8 H).size with h1|h1
    · exact h1
    · rw[Array.getElem?_eq_none h1] at h;cases h
  rw[AP,Array.getElem?_append_left hi];exact h
theorem Q22:(hc8 H v n)[8]?=some v:=by rw[Array.getElem?_append_right (by rw[J1];decide),J1];rfl
theorem Q9d:(hc8 H v n)[9]?=some n:=by rw[Array.getElem?_append_right (by rw[J1];decide),J1];rfl
theorem Z1c:(hc8 H v n).setIfInBounds 8 x=hc8 H x n:=by
  apply Array.toList_inj.1;simp[J0]
theorem Q9e:(hc8 H v n).setIfInBounds 9 x=hc8 H v x:=by
  apply Array.toList_inj.1;simp[J0]
theorem Q9f:spl (hc8 H v n) 0 (J0 .u32 8 K).toList=hc8 K v n:=by
  first|kernel_rfl|rfl|(apply Array.toList_inj.1;simp[spl,J0,List.range,List.range.loop])
end
abbrev hcs (v:AB)(F:List UInt8):Array AB:=hc8 (hw4 F) v (.int .i64 (F.length:Int))
def Hsh (w:AA)(p:Nat)(v:AB)(F:List UInt8):Prop:=Blk w p (hcs v F) 200∧Own w v (hr4 F)∧v.ownBlock≠some p

theorem V0x (w:AA)(hG:GS4 w):
  BI Tryz.prog 97 #[] w fun e w' => ∃p,e=.returned (.pointer (some ⟨p,0,none⟩))∧w.heap.size≤p∧Off [] w w' ∧Hsh w' p (.slice none 0 0) []:=by
 have HG:=Lib.hid hG;clear hG;have D:Off [] w w:=Off.refl _ _
 go_enter Tryz.func97,Tryz.ntmps97
 go_upto_region 1 with fail;refine wp_region_lit ?_;refine Y2f (by rfl) rfl rfl ((J29 HG.out D.ext).2) (by kernel_rfl) (by rw[J1];kernel_rfl) ?_
 (try simp only[Act.put,mA,mB,mC])
 refine Lw ?_ (v:=.agg (hcs (.slice none 0 0) [])) (hv:=by first|rfl|(go_simp;rfl)|kernel_rfl);refine Ln ?_ (z:=hcs (.slice none 0 0) []) (t:=200);intro M W1 G hO h_;have N:=fbn D G;replace D:=D.o hO;have J:=h_;clear hO h_ G;refine Lv ?_;refine V5 ?_;go_wp2;exact BH (v:=.pointer (some ⟨M,0,none⟩)) (by simp only[results,Tryz.results97];go_simp) rfl ⟨_,rfl,Nat.le_of_not_lt (fun h_=>by simpa using N h_),D,J,Q69 _,fun e_=>by cases e_⟩
end

section

theorem J7x {w:AA}{ad:Addr}{n c:Nat}{l:List UInt8}(h:Sl w (.slice (some ad) n c) l):∀j u,(bs8 l)[j]?=some u→w.cell? (ad.add j)=some u:=fun j u hu=>by
  simp only[bs8,List.getElem?_map,Option.map_eq_some_iff] at hu;obtain⟨x,hx,rfl⟩:=hu;exact J9o h hx
theorem Q9g (w:AA){l:List UInt8}{cap n:Nat}{z:Array AB}(hn:n=l.length)(hc:l.length≤cap)(hm:cap≤maxLen):Sl (w.drew.alloc (.cells ((bs8 l).toArray++z) 5)) (.slice (some ⟨w.heap.size,0,none⟩) n cap) l:=
  Z7f (cs:=(bs8 l).toArray++z) (t:=5) (by exact heap_alloc_new w.drew _) hn (by omega) hm fun j x hj=>by
    have h1:=Q68 hj;have h2:j<(bs8 l).length:=(List.getElem?_eq_some_iff.1 h1).1;rw[AP,Array.getElem?_append_left (by simpa using h2)]
    simpa using h1
theorem Q0v (w:AA)(ty:TypeId){A:Option Addr}{u:AB}{l m:List UInt8}(hv:Sl w (.slice A l.length l.length) l)(hu:Sl w u m)(hlen:l.length+m.length≤140737488355328):
    ∃v' W,(Builtin.append_ #[45,45] ty #[.slice A l.length l.length,u]).run Tryz.prog w=.ok v' W∧Sl W v' (l++m)∧Off [] w W∧((m=[]∧v' =.slice A l.length l.length)∨v'.ownBlock=some w.heap.size):=by
  obtain⟨i,hi,hz,G,M⟩:=info_parts J6i;have ht:=Tryz.underlying45;obtain⟨B,c,rfl,hc,hm,h0,J⟩:=id hu
  by_cases U:m=[]
  · subst U
    refine⟨_,w,?_,by rw[Ar];exact hv,Off.refl _ _,.inl ⟨rfl,rfl⟩⟩;cases A<;>cases B<;>simp[Builtin.append_,run_underlying ht,sizeOf,typeInfo,hi,Builtin.lenOf,Builtin.firstCells,storeCells,loadCells,loadCellsFrom]
  have R:0<m.length:=List.length_pos_iff.2 U;rcases B with _|ad
  · obtain⟨ad,h,_⟩:=J 0 m[0] (List.getElem?_eq_getElem R);cases h
  have N:=fun o=>grownCap_ge w (l.length+m.length) o 5;have S:=fun o=>grownCap_le_maxLen w (l.length+m.length) o 5 (by unfold maxLen;omega);rcases A with _|b
  · have hl:l=[]:=by
      cases l with
      |nil=>rfl
      |cons x r=>obtain⟨_,_,h,_,_,_,D⟩:=hv;obtain⟨ad,h2,_⟩:=D 0 x rfl;cases h;cases h2
    subst hl;have hr:=run_append_nil (P:=Tryz.prog) (w:=w) 45 ty 5 i (.int .u8 0) ht hi hz ad m.length c (bs8 m) (by rw[X8,G,AS]) (J7x hu) R (by omega) (by rw[M];omega);refine⟨_,_,hr,?_,J1v ((Below.refl _ _).drew.alloc (AM _) _),.inr rfl⟩;have hg:=N 0;have T:=S 0;simp only[Av,AP] at hg T;exact Q9g w rfl hg T
  have hr:=run_append_grow (P:=Tryz.prog) (w:=w) 45 ty 5 i (.int .u8 0) ht hi hz b l.length l.length (bs8 l) (by rw[X8,G,AS]) (J7x hv) ad m.length c (bs8 m) (by rw[X8,G,AS]) (J7x hu) (by omega) (by omega) (by rw[M];exact growslice_fits (by omega) (by omega));refine⟨_,_,hr,?_,J1v ((Below.refl _ _).drew.alloc (AM _) _),.inr rfl⟩;rw[show(bs8 l).toArray++(bs8 m).toArray=(bs8 (l++m)).toArray by rw[J56];simp];exact Q9g w (by rw[Ao]) (by rw[Ao];exact N _) (S _)
theorem Z64 {w:AA}{v:AB}{l:List UInt8}(hs:Sl w v l):∃A,(∀W,(Instr.sliceAt 45 v none (some (.int .i64 (l.length:Int))) (some (.int .i64 (l.length:Int)))).run Tryz.prog W=.ok (.slice A l.length l.length) W)∧Sl w (.slice A l.length l.length) l∧(∀x,(AB.slice A l.length l.length).ownBlock=some x→v.ownBlock=some x):=by
  obtain⟨A,c,rfl,h1,h2,h0,h3⟩:=hs
  have hA:A.map (fun a:Addr=>a.add 0)=A:=by
    have:∀a:Addr,a.add 0=a:=fun a=>by unfold Addr.add;simp
    cases A<;>simp[this]
  refine⟨A,fun W=> ?_,⟨A,l.length,rfl,AM _,Nat.le_trans h1 h2,fun h=> ?_,h3⟩,fun x hx=>by cases A<;>exact hx⟩
  · have D:l.length≤c:=h1
    have h1:=J6j;cases hq:Tryz.prog.info? 5 with
    |none=>simp[hq] at h1
    |some i=>simp[Instr.sliceAt,Instr.slice,Instr.sliceBounds,Instr.sliceBound,asIntOf,run_underlying Tryz.underlying45,Sem.run_bind,sizeOf,typeInfo,hq,D,hA]
  have:=h0 h;omega
end

section
section
variable {ops : Array Oper} {k : Wk} {Q : Exit → Act → AA → Prop} {F : List Nat} {w : AA} {H : List As} {l : List Oper} {o : Oper} {a : Act}
theorem MQ (i:Nat){x y z:Operand}{v:Value}{m:List UInt8}{a' :Value→Act}(h:∀A,wpM Tryz.prog ops k F w (.s (.slice A m.length m.length) m::H) l (a' (.slice A m.length m.length)))(hi:H[i]?=some (.s v m):=by exact rfl)(hw:Region.wanted o (yielded ops a.tmps)=true:=by exact rfl)
    (ho:o.op=.slice 45 x none (some y) (some z):=by exact rfl) (hx:a.eval x=v:=by exact rfl) (hy:a.eval y=.int .i64 (m.length:Int):=by exact rfl) (hz:a.eval z=.int .i64 (m.length:Int):=by exact rfl) (hp:∀v,a.put o.dst v=a' v:=by intro b;first|exact pl (by dsimp only[mB,mC];first|done|exact rfl)|exact pn|exact rfl):wpM Tryz.prog ops k F w H (o::l) a:=by
  intro W hS;obtain⟨A,hr,h1,h2⟩:=Z64 (hS.sl hi)
  have hS' :=hS.sub hi h1 fun x hx=>by
    have hm:m≠[]:=fun e=>by subst e;unfold sb at hx;rw[if_pos rfl] at hx;cases hx
    unfold sb;rw[if_neg hm];exact h2 x (Q2w hx)
  have D:∀W,(AV a.eval o).run Tryz.prog W=.ok (.value (.slice A m.length m.length)) W:=fun W=>by simp[AV,ho,hx,hy,hz,hr W,Sem.run_bind]
  cases k with
  |L Q=>exact J2r hw (D W) (by rw[hp];exact h A W hS')
  |X E=>exact J3x hw (fun W' _=>D W') (by rw[hp];exact h A W hS')
theorem MAt (i:Nat){s x:Operand}{A:Option Addr}{u:Value}{xs ys:List UInt8}{a' :Value→Act}(hsl:∀W,SH F w W H→Sl W u ys)(hlen:xs.length+ys.length≤140737488355328)(h:∀v',wpM Tryz.prog ops (.L Q) F w (.s v' (xs++ys)::H) l (a' v'))(hi:H[i]?=some (.s (.slice A xs.length xs.length) xs):=by exact rfl)(hw:Region.wanted o (yielded ops a.tmps)=true:=by exact rfl)
    (ho:o.op=.call {callee:=.builtin .append,args:= #[s,x],argTypes:= #[45,45]}:=by exact rfl) (hs:a.eval s=.slice A xs.length xs.length:=by exact rfl) (hx:a.eval x=u:=by exact rfl)
    (hp:∀v,a.put o.dst v=a' v:=by intro b;first|exact pl (by dsimp only[mB,mC];first|done|exact rfl)|exact pn|exact rfl):wpM Tryz.prog ops (.L Q) F w H (o::l) a:=by
  intro W hS;obtain⟨v',W',D,h1,h2,h3⟩:=Q0v W o.type (hS.sl hi) (hsl W hS) hlen
  have hS' :SH F w W' (.s v' (xs++ys)::H):=by
    rcases h3 with⟨e1,e2⟩|h3
    · subst e1 e2
      refine(hS.next h2).sub hi h1 ?_;rw[Ar];exact J2o
    refine hS.newS h2 h1 fun k hk=> ?_;have:=Q2w hk;rw[h3] at this;exact Nat.le_of_eq (Option.some.inj this)
  refine J6h hw (v:=v') (W:=W') ?_ (by rw[hp];exact h v' W' hS');unfold AV;simp only[ho,resolve,invoke,builtin,Sem.run_bind,Sem.run_pure,Result.andThen_ok,List.map_toArray,List.map_cons,List.map_nil,hs,hx,D]
end
theorem Q9h (h:Nat→Int)(L m:List UInt8)(u:AB)(hl:64≤L.length)(hm:m=L.take 64)(w:AA)(hs:Sl w u m)(hG:GS4 w):BI Tryz.prog 134 #[.agg (J0 .u32 8 h),u] w fun e w' =>V4 (.agg (J0 .u32 8 (J6q h (bt L)))) w w' e:=by
  have G:m.length=64:=by rw[hm,List.length_take];omega
  obtain⟨ad,c,rfl,_⟩:=Q6b hs (by omega);have D:m.length≤c:=by obtain⟨A,c',e,h1,_⟩:=hs;injection e with _ _ e;omega
  have hc:=Y0h h m ad c (by omega) D w hs hG
  rw[show J6q h (bt L)=J6q h (bt m) from Q3s fun j hj=>by
    unfold bt;rw[hm,List.getD_eq_getElem?_getD,List.getD_eq_getElem?_getD,List.getElem?_take_of_lt hj]]
  exact hc
abbrev gs4:As:=.p [14,10] GS4
theorem Z65 {w:AA}(h:GS4 w):gs4.holds w:=
  ⟨h,fun k hk=>by
    rcases List.mem_cons.1 hk with rfl|hk
    · exact h.1.2
    · rw[List.mem_singleton.1 hk];exact h.2.2,fun W hs he=>⟨J2s h.1 hs (he _ (by simp)),J2s h.2 hs (he _ (by simp))⟩⟩
end

section
set_option maxHeartbeats 1500000
attribute [local irreducible] wpList K1 wpX
theorem Y0j (p:Nat)(v u:AB)(F b:List UInt8)(hlen:F.length+b.length≤140737488355200)(w:AA)(h_:SH (SH.feet [.b p (hcs v F) 200,.o v (hr4 F),.s u b,gs4]) w w [.b p (hcs v F) 200,.o v (hr4 F),.s u b,gs4]):
  BI Tryz.prog 98 #[.pointer (some ⟨p,0,none⟩),u] w fun e w' => ∃v',e=.returned (.tuple #[])∧SH (SH.feet [.b p (hcs v F) 200,.o v (hr4 F),.s u b,gs4]) w w' [.b p (hcs v' (F++b)) 200,.o v' (hr4 (F++b)),.s u b,gs4]:=by
 have T:=Z1d F;have hS:=h_;clear h_
 go_enter Tryz.func98,Tryz.ntmps98
 go_upto_region 1 with fail;refine RL hS ?_;clear hS;(iterate 3 refine MV ?_);refine MG 0 ?_ (v:=.int .i64 (F.length:Int)) (hj:=Q9d);refine MV ?_;refine MF (v:=.int .i64 (b.length:Int)) (fun W hS=>J03 (hS.sl (i:=2) rfl) rfl rfl) ?_;refine MW ?_ (v:=.int .i64 ((F++b).length:Int)) (hv:=by intro W;go_simp;(try simp only[Ao,AI.wrap_i64]);(try omega));refine MV ?_;refine MV ?_;refine MP 0 (v:=.int .i64 ((F++b).length:Int)) (cs' :=hc8 (hw4 F) v (.int .i64 ((F++b).length:Int))) ?_ (hs:=by rw[Q7i];decide) (hc:=Q9e);refine MZ fun W hS=> ?_;go_upto_region 2 with fail;refine RX 16 hS ?_;clear hS;(iterate 3 refine MV ?_);refine MG 0 ?_ (v:=v) (hj:=Q22);(iterate 3 refine MV ?_);refine MG 0 ?_ (v:=v) (hj:=Q22);refine MF (v:=.int .i64 ((hr4 F).length:Int)) (fun W hS=>J03 (hS.osl (i:=1) rfl) rfl rfl) ?_;(iterate 3 refine MV ?_);refine MG 0 ?_ (v:=v) (hj:=Q22);refine MF (v:=.int .i64 ((hr4 F).length:Int)) (fun W hS=>J03 (hS.osl (i:=1) rfl) rfl rfl) ?_;refine MT (fun W hS=>hS.read (i:=1) rfl (hS.osl (i:=1) rfl) J2o) ?_;refine MQ 1 ?_;intro U;refine MV ?_;refine MZt ?_;refine MAt 0 (xs:=hr4 F) (ys:=b) (fun W hS=>(hS.sl (i:=3) rfl)) (by omega) ?_;intro X;refine MV ?_;refine MZn fun W hS=> ?_;rw[Z3w F b] at hS
 go_wp2_with fail
 go_loopw [4] (fun sv wr=> ∃(k:Nat)(a:AB),(64*k≤(hr4 F++b).length)∧(a=sv)∧SH (SH.feet [.b p (hcs v F) 200,.o v (hr4 F),.s u b,gs4]) w wr [.b p (hc8 (Hs4 (F++b) (F.length / 64+k)) v (.int .i64 ((F++b).length:Int))) 200,.s a (List.drop (64*k) (hr4 F++b)),.s u b,gs4])
  (fun sv _=>J70 sv)
 case atStart=>exact⟨0,_,An _,rfl,(hS.pick [2,0,4,5])⟩
 clear hS
 case round=>
  obtain⟨k,a,hk,rfl,hS⟩:=hrel;have lb:=J4n (hS.sl (i:=1) rfl)
  by_cases hz:64≤(List.drop (64*k) (hr4 F++b)).length
  ·
   go_upto_region 3 with fail;refine RL hS ?_;clear hS;refine MV ?_;refine MF (v:=.int .i64 ((List.drop (64*k) (hr4 F++b)).length:Int)) (fun W hS=>J03 (hS.sl (i:=1) rfl) rfl rfl) ?_;refine MW ?_ (v:=.bool true) (hv:=by intro W;have D:=hz;simp only[AZ,Ao] at D;go_simp;omega);refine MZ fun W hS=> ?_;go_upto_region 4 with fail;refine RX 10 hS ?_;clear hS;(iterate 4 refine MV ?_);refine Ml 0 Q9c ?_;refine MV ?_;refine MH 1 64 (m' :=(List.take 64 (List.drop (64*k) (hr4 F++b)))) (by exact hz) ?_;intro N;refine MC (v:=.agg (J0 .u32 8 (J6q (Hs4 (F++b) (F.length / 64+k)) (bt (List.drop (64*k) (hr4 F++b)))))) (fun W hS=>Q9h (Hs4 (F++b) (F.length / 64+k)) (List.drop (64*k) (hr4 F++b)) (List.take 64 (List.drop (64*k) (hr4 F++b))) N hz rfl W (hS.sl (i:=0) rfl) (hS.pp (i:=4) rfl)) ?_;refine MV ?_;refine MV ?_;refine MZt ?_;refine Mr 1 (new:=hc8 (J6q (Hs4 (F++b) (F.length / 64+k)) (bt (List.drop (64*k) (hr4 F++b)))) v (.int .i64 ((F++b).length:Int))) Q9f ?_ (hs:=by rw[Q7i,J1];decide);refine MZn fun W hS=> ?_;go_upto_region 5 with fail;refine RL hS ?_;clear hS;refine MV ?_;refine Mt 2 64 (m' :=(List.drop (64*(k+1)) (hr4 F++b))) (by exact hz) ?_ (hm:=Q3t _ _);intro V;refine MV ?_;refine MZ fun W hS=> ?_;have la:=J4n (hS.sl (i:=0) rfl);simp only[AZ] at la lb hz;rw[Y0k] at hS;go_wp2;go_roundw
   case rel=>exact⟨k+1,_,by omega,rfl,(hS.pick [2,0,4,5])⟩
   case measure=>simp only[la,lb];omega
  go_upto_region 3 with fail;refine RL hS ?_;clear hS;refine MV ?_;refine MF (v:=.int .i64 ((List.drop (64*k) (hr4 F++b)).length:Int)) (fun W hS=>J03 (hS.sl (i:=1) rfl) rfl rfl) ?_;refine MW ?_ (v:=.bool false) (hv:=by intro W;have D:=hz;simp only[AZ,Ao] at D;go_simp;omega);refine MZ fun W hS=> ?_;obtain⟨M,G⟩:=Y4i (F:=F) (b:=b) (k:=k) (by simp only[AZ] at hz;omega);rw[M,G] at hS;clear M G;have S:=Z1d (F++b);go_upto_region 6 with fail;refine RL hS ?_;clear hS;refine MV ?_;refine MO (m:=[]) (n:=0) (z:= #[]) ?_;intro R;refine MV ?_;refine MA 0 (xs:=[]) (ys:=(hr4 (F++b))) (fun W hS=>(hS.sl (i:=2) rfl)) (by first|omega|(simp only[Ao,AZ,Av];omega)) ?_;intro J;refine MT (fun W hS=>by rw[List.nil_append] at hS;exact hS) ?_;refine MV ?_;refine MV ?_;refine MP 1 (v:=J) (cs' :=hc8 (hw4 (F++b)) J (.int .i64 ((F++b).length:Int))) ?_ (hv:=fun W hS=>V9 (hS.osl (i:=0) rfl)) (hs:=by rw[Q7i];decide) (hc:=Z1c);refine MZ fun W hS=> ?_;go_wp2;exact bodyPost_end (v:=.tuple #[]) (by simp only[results,Tryz.results98];go_simp) rfl ⟨_,rfl,hS.pick [1,0,3,4]⟩
end
end Go.Proofs.YtdjacgmmidbieaaGreatDoor

/- Contracts and plain laws for superSeals_holds. Conditions: the tables hold their numbers. -/
import Derived.Test.YtdjacgmmidbieaaGreatDoorCards
import Derived.Test.YtdjacgmmidbieaaGreatDoorTie
import Derived.Test.YtdjacgmmidbieaaGreatDoorJ21
open Go renaming World->AA,Value->AB,bodyPost_ret->BH,execOp->AV,Calls->BI,Program->AD,Operand->AW,TypeId->AE,IntKind->AI
open Go.IntKind renaming wrap_i64->AJ,wrap_u64->AK
open Go.Sem renaming run_bind->Ah
open _root_.Nat renaming le_refl->AM,zero_le->An,mod_lt->AO
open Go.RowKit
set_option maxRecDepth 100000
set_option linter.unusedSimpArgs false
set_option linter.unusedVariables false
namespace Go.Proofs.YtdjacgmmidbieaaGreatDoor
section
open Go.ChangeShapes Go.WideShapes Go.ChangeAt Go.RowKit Go.Deep
theorem Z0o {P:AD}{x:String×DataW Unit}{r:List (String×DataW Unit)}{W:AA}(h:laidMet P (x::r) W):laidMet P r W:=by
  obtain⟨ps,⟨g,t,cs,G,p,q,_,_,_,_,hv,rfl⟩,hn,hc⟩:=h;exact⟨q,hv,(List.nodup_append.1 hn).2.1,fun b D hb=>hc b D (List.mem_append_right _ hb)⟩
theorem J0c {P:AD}(n:Nat){l:List (String×DataW Unit)}{W:AA}(h:laidMet P l W):laidMet P (l.drop n) W:=by
  induction n generalizing l with
  |zero=>exact h
  |succ n ih=>cases l with
    |nil=>exact h
    |cons x r=>exact ih (Z0o h)
theorem J12 {W:AA}{name:String}{k:AI}{zs:List Int}{g:Nat}(h:Lib.TabIs Tryz.prog W name k zs)(hg:Tryz.prog.globalNamed name=some g)(h0:0<zs.length):Rd W g (zs.map fun z=>AB.int k z).toArray:=by
  refine⟨fun j v hj=> ?_,AA.block_lt_of_cell? W ⟨g,0,none⟩ (h.cell hg 0 h0)⟩;rw[List.getElem?_toArray,List.getElem?_map] at hj;cases hz:zs[j]? with
  |none=>rw[hz] at hj;cases hj
  |some z=>
    rw[hz] at hj;obtain rfl:=Option.some.inj hj
    have hl:j<zs.length:=by
      rcases Nat.lt_or_ge j zs.length with h|h
      · exact h
      · rw[List.getElem?_eq_none h] at hz;cases hz
    have:=h.cell hg j hl
    rwa [List.getD_eq_getElem?_getD,hz] at this
theorem V3b : Tryz.prog.globalNamed "custumal/custumalref01.K" = some 3 := by kernel_rfl
theorem V3c {W : World} {r : List (String × DataW Unit)} (h : laidMet Tryz.prog (("custumal/custumalref01.K", Rows.laid_custumal_custumalref01_K) :: r) W) : Rd W 3 (J0 .i64 64 kf4) :=
  have e:(kk4.map fun z=>AB.int .i64 z).toArray=J0 .i64 64 kf4:=by kernel_rfl
  have t : Lib.TabIs Tryz.prog W "custumal/custumalref01.K" .i64 kk4 := Lib.tabIs_of_head (rest := r) V3b (by kernel_rfl) Tryz.underlying155 Tryz.underlying3 (by kernel_rfl) (by kernel_rfl) h
  e▸J12 t V3b (by decide)
theorem V3d : Tryz.prog.globalNamed "custumal/custumalref01.H" = some 2 := by kernel_rfl
theorem V3e {W : World} {r : List (String × DataW Unit)} (h : laidMet Tryz.prog (("custumal/custumalref01.H", Rows.laid_custumal_custumalref01_H) :: r) W) : Rd W 2 (J0 .i64 8 hf4) :=
  have e:(hh4.map fun z=>AB.int .i64 z).toArray=J0 .i64 8 hf4:=by kernel_rfl
  have t : Lib.TabIs Tryz.prog W "custumal/custumalref01.H" .i64 hh4 := Lib.tabIs_of_head (rest := r) V3d (by kernel_rfl) Tryz.underlying154 Tryz.underlying3 (by kernel_rfl) (by kernel_rfl) h
  e▸J12 t V3d (by decide)
theorem V3f : Tryz.prog.globalNamed "custumal/custumalref02.K" = some 1 := by kernel_rfl
theorem V3g {W : World} {r : List (String × DataW Unit)} (h : laidMet Tryz.prog (("custumal/custumalref02.K", Rows.laid_custumal_custumalref02_K) :: r) W) : Rd W 1 (J0 .u64 80 kf) :=
  have e:(kk.map fun z=>AB.int .u64 z).toArray=J0 .u64 80 kf:=by kernel_rfl
  have t : Lib.TabIs Tryz.prog W "custumal/custumalref02.K" .u64 kk := Lib.tabIs_of_head (rest := r) V3f (by kernel_rfl) Tryz.underlying129 Tryz.underlying105 (by kernel_rfl) (by kernel_rfl) h
  e▸J12 t V3f (by decide)
theorem V3h : Tryz.prog.globalNamed "custumal/custumalref02.H" = some 0 := by kernel_rfl
theorem V3i {W : World} {r : List (String × DataW Unit)} (h : laidMet Tryz.prog (("custumal/custumalref02.H", Rows.laid_custumal_custumalref02_H) :: r) W) : Rd W 0 (J0 .u64 8 hf) :=
  have e:(hh.map fun z=>AB.int .u64 z).toArray=J0 .u64 8 hf:=by kernel_rfl
  have t : Lib.TabIs Tryz.prog W "custumal/custumalref02.H" .u64 hh := Lib.tabIs_of_head (rest := r) V3h (by kernel_rfl) Tryz.underlying128 Tryz.underlying105 (by kernel_rfl) (by kernel_rfl) h
  e▸J12 t V3h (by decide)
theorem V3j : Tryz.prog.globalNamed "custumal/sha2.start" = some 10 := by kernel_rfl
theorem Y6k {W : World} {r : List (String × DataW Unit)} (h : laidMet Tryz.prog (("custumal/sha2.start", Rows.laid_custumal_sha2_start) :: r) W) : Rd W 10 (J0 .u32 8 hf4) :=
  have e:(hh4.map fun z=>AB.int .u32 z).toArray=J0 .u32 8 hf4:=by kernel_rfl
  have t : Lib.TabIs Tryz.prog W "custumal/sha2.start" .u32 hh4 := Lib.tabIs_of_head (rest := r) V3j (by kernel_rfl) Tryz.underlying198 Tryz.underlying197 (by kernel_rfl) (by kernel_rfl) h
  e▸J12 t V3j (by decide)
theorem V3k : Tryz.prog.globalNamed "custumal/sha2.rounds" = some 14 := by kernel_rfl
theorem Y6l {W : World} {r : List (String × DataW Unit)} (h : laidMet Tryz.prog (("custumal/sha2.rounds", Rows.laid_custumal_sha2_rounds) :: r) W) : Rd W 14 (J0 .u32 64 kf4) :=
  have e:(kk4.map fun z=>AB.int .u32 z).toArray=J0 .u32 64 kf4:=by kernel_rfl
  have t : Lib.TabIs Tryz.prog W "custumal/sha2.rounds" .u32 kk4 := Lib.tabIs_of_head (rest := r) V3k (by kernel_rfl) Tryz.underlying213 Tryz.underlying197 (by kernel_rfl) (by kernel_rfl) h
  e▸J12 t V3k (by decide)
theorem V3l : Tryz.prog.globalNamed "custumal/sha5.start" = some 4 := by kernel_rfl
theorem V3m {W : World} {r : List (String × DataW Unit)} (h : laidMet Tryz.prog (("custumal/sha5.start", Rows.laid_custumal_sha5_start) :: r) W) : Rd W 4 (J0 .u64 8 hf) :=
  have e:(hh.map fun z=>AB.int .u64 z).toArray=J0 .u64 8 hf:=by kernel_rfl
  have t : Lib.TabIs Tryz.prog W "custumal/sha5.start" .u64 hh := Lib.tabIs_of_head (rest := r) V3l (by kernel_rfl) Tryz.underlying128 Tryz.underlying105 (by kernel_rfl) (by kernel_rfl) h
  e▸J12 t V3l (by decide)
theorem V3n : Tryz.prog.globalNamed "custumal/sha5.rounds" = some 11 := by kernel_rfl
theorem V3o {W : World} {r : List (String × DataW Unit)} (h : laidMet Tryz.prog (("custumal/sha5.rounds", Rows.laid_custumal_sha5_rounds) :: r) W) : Rd W 11 (J0 .u64 80 kf) :=
  have e:(kk.map fun z=>AB.int .u64 z).toArray=J0 .u64 80 kf:=by kernel_rfl
  have t : Lib.TabIs Tryz.prog W "custumal/sha5.rounds" .u64 kk := Lib.tabIs_of_head (rest := r) V3n (by kernel_rfl) Tryz.underlying129 Tryz.underlying105 (by kernel_rfl) (by kernel_rfl) h
  e▸J12 t V3n (by decide)
theorem Y6m : Tryz.prog.globalNamed "custumal/field.modulus" = some 13 := by kernel_rfl
theorem Y96 {W : World} {r : List (String × DataW Unit)} (h : laidMet Tryz.prog (("custumal/field.modulus", Rows.laid_custumal_field_modulus) :: r) W) : Rd W 13 (S8.modC) :=
  have t : Lib.TabIs Tryz.prog W "custumal/field.modulus" .u64 [18446744073709551597, 18446744073709551615, 18446744073709551615, 9223372036854775807] := Lib.tabIs_of_head (rest := r) Y6m (by kernel_rfl) Tryz.underlying107 Tryz.underlying105 (by kernel_rfl) (by kernel_rfl) h
  J12 t Y6m (by decide)
theorem Y6n : Tryz.prog.globalNamed "custumal/field.imaginary" = some 12 := by kernel_rfl
theorem Y97 {W : World} {r : List (String × DataW Unit)} (h : laidMet Tryz.prog (("custumal/field.imaginary", Rows.laid_custumal_field_imaginary) :: r) W) : Rd W 12 (S8.imaC) :=
  have t : Lib.TabIs Tryz.prog W "custumal/field.imaginary" .u64 [14190309331451158704, 3405592160176694392, 3120150775007532967, 3135389899092516619] := Lib.tabIs_of_head (rest := r) Y6n (by kernel_rfl) Tryz.underlying107 Tryz.underlying105 (by kernel_rfl) (by kernel_rfl) h
  J12 t Y6n (by decide)
theorem Y6o : Tryz.prog.globalNamed "custumal/edwards.curve" = some 8 := by kernel_rfl
theorem Y98 {W : World} {r : List (String × DataW Unit)} (h : laidMet Tryz.prog (("custumal/edwards.curve", Rows.laid_custumal_edwards_curve) :: r) W) : Rd W 8 (c4 S8.DD) :=
  have t : Lib.TabIs Tryz.prog W "custumal/edwards.curve" .u64 [8496970652267935907,31536524315187371,10144147576115030168,5909686906226998899] := Lib.tabIs_of_head (rest := r) Y6o (by kernel_rfl) Tryz.underlying107 Tryz.underlying105 (by kernel_rfl) (by kernel_rfl) h
  J12 t Y6o (by decide)
theorem Y6p : Tryz.prog.globalNamed "custumal/edwards.double" = some 9 := by kernel_rfl
theorem Y99 {W : World} {r : List (String × DataW Unit)} (h : laidMet Tryz.prog (("custumal/edwards.double", Rows.laid_custumal_edwards_double) :: r) W) : Rd W 9 (c4 S8.D2) :=
  have t : Lib.TabIs Tryz.prog W "custumal/edwards.double" .u64 [16993941304535871833,63073048630374742,1841551078520508720,2596001775599221991] := Lib.tabIs_of_head (rest := r) Y6p (by kernel_rfl) Tryz.underlying107 Tryz.underlying105 (by kernel_rfl) (by kernel_rfl) h
  J12 t Y6p (by decide)
theorem Y6q : Tryz.prog.globalNamed "custumal/edwards.baseX" = some 5 := by kernel_rfl
theorem Y9a {W : World} {r : List (String × DataW Unit)} (h : laidMet Tryz.prog (("custumal/edwards.baseX", Rows.laid_custumal_edwards_baseX) :: r) W) : Rd W 5 (c4 S8.BX) :=
  have t : Lib.TabIs Tryz.prog W "custumal/edwards.baseX" .u64 [14507833142362363162,7578651490590762930,13881468655802702940,2407515759118799870] := Lib.tabIs_of_head (rest := r) Y6q (by kernel_rfl) Tryz.underlying107 Tryz.underlying105 (by kernel_rfl) (by kernel_rfl) h
  J12 t Y6q (by decide)
theorem Y6r : Tryz.prog.globalNamed "custumal/edwards.baseY" = some 6 := by kernel_rfl
theorem Y9b {W : World} {r : List (String × DataW Unit)} (h : laidMet Tryz.prog (("custumal/edwards.baseY", Rows.laid_custumal_edwards_baseY) :: r) W) : Rd W 6 (c4 S8.BY) :=
  have t : Lib.TabIs Tryz.prog W "custumal/edwards.baseY" .u64 [7378697629483820632,7378697629483820646,7378697629483820646,7378697629483820646] := Lib.tabIs_of_head (rest := r) Y6r (by kernel_rfl) Tryz.underlying107 Tryz.underlying105 (by kernel_rfl) (by kernel_rfl) h
  J12 t Y6r (by decide)
theorem Z89 : Tryz.prog.globalNamed "custumal/scalar.order" = some 7 := by kernel_rfl
theorem V3p {W : World} {r : List (String × DataW Unit)} (h : laidMet Tryz.prog (("custumal/scalar.order", Rows.laid_custumal_scalar_order) :: r) W) : S8.Sc.GL W :=
  have t : Lib.TabIs Tryz.prog W "custumal/scalar.order" .u64 [6346243789798364141, 1503914060200516822, 0, 1152921504606846976] := Lib.tabIs_of_head (rest := r) Z89 (by kernel_rfl) Tryz.underlying118 Tryz.underlying105 (by kernel_rfl) (by kernel_rfl) h
  have h0:=t.cell Z89 0 (by decide)
  ⟨h0,t.cell Z89 1 (by decide),t.cell Z89 2 (by decide),t.cell Z89 3 (by decide),AA.block_lt_of_cell? W _ h0⟩
theorem Q4j {W:AA}(h:laidMet Tryz.prog Rows.superSealsRow.laid W):GT True W:=⟨⟨(Y6l (J0c 12 h)),(Y6k (J0c 11 h))⟩,fun _=>⟨(V3c h),(V3e (J0c 1 h))⟩⟩
theorem J46 {W:AA}(h:laidMet Tryz.prog Rows.superSealsRow.laid W):S8.GA ⟨True,True,True,True⟩ W:=⟨⟨⟨(Y96 (J0c 4 h)),trivial⟩,fun _=>(Y97 (J0c 5 h)),fun _=>(Y98 (J0c 6 h)),fun _=>(Y99 (J0c 7 h)),fun _=>(Y9a (J0c 8 h)),fun _=>(Y9b (J0c 9 h))⟩,⟨(V3o (J0c 14 h)),(V3m (J0c 13 h))⟩,(V3p (J0c 10 h)),fun _=>⟨(V3g (J0c 2 h)),(V3i (J0c 3 h))⟩⟩
theorem Q4k {W:AA}(h:laidMet Tryz.prog Rows.superSealsRow.laid W):GX W:=⟨⟨(Y6l (J0c 12 h)),(Y6k (J0c 11 h))⟩,⟨(J46 h).1,(J46 h).2.1,(J46 h).2.2.1,fun h=>h.elim⟩⟩
def J1b (cs:Array AB):Obj→Obj
  | .cells _ t frozen=> .cells cs t frozen
  |o=>o
noncomputable def laidWorld (os:Os):AA:={AA.holding Tryz.prog os ⟨#[],#[],[]⟩ with heap:=((((((((((((((((AA.holding Tryz.prog os ⟨#[],#[],[]⟩).heap.modify 3 (J1b (J0 .i64 64 kf4))).modify 2 (J1b (J0 .i64 8 hf4))).modify 1 (J1b (J0 .u64 80 kf))).modify 0 (J1b (J0 .u64 8 hf))).modify 10 (J1b (J0 .u32 8 hf4))).modify 14 (J1b (J0 .u32 64 kf4))).modify 4 (J1b (J0 .u64 8 hf))).modify 11 (J1b (J0 .u64 80 kf))).modify 13 (J1b (S8.modC))).modify 12 (J1b (S8.imaC))).modify 8 (J1b (c4 S8.DD))).modify 9 (J1b (c4 S8.D2))).modify 5 (J1b (c4 S8.BX))).modify 6 (J1b (c4 S8.BY))).modify 7 (J1b (#[.int .u64 6346243789798364141,.int .u64 1503914060200516822,.int .u64 0,.int .u64 1152921504606846976])))}
end

section
set_option maxHeartbeats 1500000
attribute [local irreducible] wpList K1 wpX
inductive TR where
 |nil:TR
 |leaf:Nat→Nat→TR
 |node:Nat→TR→TR→TR
def rs:TR→Nat
 | .nil=>sE
 | .leaf k v=>sL k v
 | .node d l r=>sN (d:Int) (rs l) (rs r)
def cnt:TR→Nat
 | .nil=>0
 | .leaf _ _=>1
 | .node _ l r=>cnt l+cnt r
def ndc (k v:Nat)(s0 s1:AB)(sp:Bool)(S n:Nat):Array AB:=lf k v++(#[s0,s1,.bool sp]++(J0 .u8 32 (J6 S)++ #[.int .i64 (n:Int)]))
section
variable {k v S n : Nat} {s0 s1 : AB} {sp : Bool}
theorem J9c:∀i u,(J0 .u8 32 (J6 k))[i]?=some u→(ndc k v s0 s1 sp S n)[0+i]?=some u:=fun i u h=>by have:=J4o (k:=k) (v:=v) i u h;rw[Nat.zero_add] at this⊢;exact J3l this
theorem Y0r {i:Nat}{u:AB}(h:(#[s0,s1,.bool sp]++(J0 .u8 32 (J6 S)++ #[.int .i64 (n:Int)]))[i]?=some u):(ndc k v s0 s1 sp S n)[64+i]?=some u:=J6x V0 h
theorem nd_s0:(ndc k v s0 s1 sp S n)[64]?=some s0:=Y0r (i:=0) (J3l rfl)
theorem nd_s1:(ndc k v s0 s1 sp S n)[65]?=some s1:=Y0r (i:=1) (J3l rfl)
theorem J81:(ndc k v s0 s1 sp S n)[66]?=some (.bool sp):=Y0r (i:=2) (J3l rfl)
theorem V11:∀i u,(J0 .u8 32 (J6 S))[i]?=some u→(ndc k v s0 s1 sp S n)[67+i]?=some u:=fun i u h=>by
 have h1:(#[s0,s1,AB.bool sp]++(J0 .u8 32 (J6 S)++ #[.int .i64 (n:Int)]))[3+i]?=some u:=J6x rfl (J3l h);have:=Y0r (k:=k) (v:=v) h1;rw[←Nat.add_assoc] at this;exact this
theorem V7s:(ndc k v s0 s1 sp S n)[99]?=some (.int .i64 (n:Int)):=by
 have h1:(#[s0,s1,AB.bool sp]++(J0 .u8 32 (J6 S)++ #[.int .i64 (n:Int)]))[3+(32+0)]?=some (.int .i64 (n:Int)):=J6x rfl (J6x (J1 _ _ _) rfl);rw[show(99:Nat)=64+(3+(32+0)) from rfl];exact Y0r h1
theorem Q9n:∀i u,(#[s0,s1]:Array AB)[i]?=some u→(ndc k v s0 s1 sp S n)[64+i]?=some u:=fun i u h=>by
 match i,h with
 |0,h=>exact nd_s0.trans h
 |1,h=>exact nd_s1.trans h
 |i+2,h=>simp at h
end
abbrev ptr (b:Nat):AB:=.pointer (some ⟨b,0,none⟩)
abbrev nlp:AB:=.pointer none
def TA (w:AA):TR→AB→Prop
 | .nil,u=>u=nlp
 | .leaf k v,u=> ∃b,u=ptr b∧Blk w b (ndc k v nlp nlp false (sL k v) 1) 116∧k<2^256∧v<2^256
 | .node d l r,u=> ∃b s0 s1,u=ptr b∧Blk w b (ndc 0 0 s0 s1 true (rs (.node d l r)) (cnt l+cnt r)) 116∧TA w l s0∧TA w r s1
theorem Y0s {w:AA}{b:Nat}{cs:Array AB}{t:AE}(h:Blk w b cs t):J93 w b=some t:=by unfold J93;rw[show w.heap[b]?=_ from h]
theorem TA.keep {w W:AA}(e:∀k,k<w.heap.size→J93 w k=some 116→W.heap[k]?=w.heap[k]?):∀{T:TR} {u:AB},TA w T u→TA W T u
 | .nil,_,h=>h
 | .leaf k v,_,⟨b,h1,h2,h3⟩=>⟨b,h1,(e b (Q3 h2) (Y0s h2)).trans h2,h3⟩
 | .node d l r,_,⟨b,s0,s1,h1,h2,h3,h4⟩=>⟨b,s0,s1,h1,(e b (Q3 h2) (Y0s h2)).trans h2,TA.keep e h3,TA.keep e h4⟩
theorem TA.ext {w W:AA}{T:TR}{u:AB}(h:TA w T u)(k:Ext w W):TA W T u:=h.keep fun b hb _=>k.block b hb
theorem TA.holds {w:AA}{T:TR}{u:AB}(h:TA w T u):(As.t 116 fun W=>TA W T u).holds w:=⟨h,fun _ _ e=>h.keep e⟩
theorem TA.one {w:AA}{T:TR}{u:AB}(h:TA w T u):u.cells= #[u]∧u.oneCell' =true:=by
 cases T with
 |nil=>rw[show u=nlp from h];exact⟨rfl,rfl⟩
 |leaf k v=>obtain⟨b,rfl,_⟩:=h;exact⟨rfl,rfl⟩
 |node d l r=>obtain⟨b,s0,s1,rfl,_⟩:=h;exact⟨rfl,rfl⟩
theorem TA.pt {w:AA}{T:TR}{u:AB}(h:TA w T u):∃p,u=.pointer p:=by
 cases T with
 |nil=>exact⟨_,h⟩
 |leaf k v=>obtain⟨b,h,_⟩:=h;exact⟨_,h⟩
 |node d l r=>obtain⟨b,s0,s1,h,_⟩:=h;exact⟨_,h⟩
theorem TA.blk {w:AA}{T:TR}{u:AB}(h:TA w T u):(T=.nil∧u=nlp)∨∃b k v s0 s1 sp,u=ptr b∧Blk w b (ndc k v s0 s1 sp (rs T) (cnt T)) 116:=by
 cases T with
 |nil=>exact .inl ⟨rfl,h⟩
 |leaf k v=>obtain⟨b,h1,h2,_⟩:=h;exact .inr ⟨b,k,v,_,_,_,h1,h2⟩
 |node d l r=>obtain⟨b,s0,s1,h1,h2,_⟩:=h;exact .inr ⟨b,0,0,s0,s1,_,h1,h2⟩
def J82 (T:TR)(w w' :AA)(e:Ending):Prop:=∃u,e=.returned u∧Ext w w' ∧TA w' T u
theorem J4h {f:FuncId}{args:Array AB}{F:List Nat}{w W:AA}{H:List As}{T:TR}(hS:SH F w W H)(hc:BI Tryz.prog f args W fun e W' =>J82 T W W' e)(ht:H.all (fun y=>SH.tyOk y (.t 116 fun _=>True))=true):
  BI Tryz.prog f args W fun e W' => ∃u,e=.returned u∧SH F w W' (.t 116 (fun W=>TA W T u)::H):=
 hc.mono fun e W' ⟨u,h1,h2,h3⟩=>⟨u,h1,(hS.grow h2).fact h3.holds ht⟩
attribute [local irreducible] hs4 sE sL sN

theorem Y0t {q:Prop}(w:AA)(hG:GT q w):
  BI Tryz.prog 31 #[nlp] w fun e w' =>V4 (.agg (J0 .u8 32 (J6 sE))) w w' e:=by
 have hS:=SH.nil [] w
 go_enter Tryz.func31,Tryz.ntmps31
 go_upto_region 0 with fail;refine RL hS ?_;clear hS;refine MN (z:=J0 .u8 32 (J6 0)) (t:=22) ?_;intro K9;refine MZ fun W hS=> ?_;go_upto_region 2 with fail;refine RL hS ?_;clear hS;obtain⟨U1,D⟩:=exh (sE);refine MC (v:=.agg (J0 .u8 32 (J6 U1))) (fun W hS=>(by rw[D.out];exact Z3z W (Y5 hG hS.ext))) ?_;refine MR 0 ?_;refine MZ fun W hS=> ?_;have e_:=D.out;subst e_;go_wp2;exact BH (Z5 rfl rfl (hS.blk (i:=0) rfl) (by kernel_rfl) (by rw[J1];kernel_rfl)) rfl ⟨rfl,hS.ext⟩
theorem V12 (w:AA){b k v S n:Nat}{s0 s1:AB}{sp:Bool}(hB:Blk w b (ndc k v s0 s1 sp S n) 116):
  BI Tryz.prog 31 #[ptr b] w fun e w' =>V4 (.agg (J0 .u8 32 (J6 S))) w w' e:=by
 have hS:=SH.nil [] w
 go_enter Tryz.func31,Tryz.ntmps31
 go_upto_region 0 with fail;refine RL hS ?_;clear hS;refine MN (z:=J0 .u8 32 (J6 0)) (t:=22) ?_;intro K9;refine MZ fun W hS=> ?_;go_upto_region 3 with fail;refine RL hS ?_;clear hS;(iterate 3 refine MV ?_);refine MF (v:=.agg (J0 .u8 32 (J6 S))) (fun W hS=>J0n (vs:=(J0 .u8 32 (J6 S)).toList) rfl rfl (fun i v hv=>by rw[J5 (J3 hB hS.ext)];exact V11 i v (by simpa using hv)) (by kernel_rfl) (by first|kernel_rfl|(simp only[Array.length_toList];rw[J1];kernel_rfl))) ?_;refine MR 0 ?_;refine MZ fun W hS=> ?_;go_wp2;exact BH (Z5 rfl rfl (hS.blk (i:=0) rfl) (by kernel_rfl) (by rw[J1];kernel_rfl)) rfl ⟨rfl,hS.ext⟩
theorem Q7j {q:Prop}{T:TR}{u:AB}(w:AA)(hG:GT q w)(h:TA w T u):BI Tryz.prog 31 #[u] w fun e w' =>V4 (.agg (J0 .u8 32 (J6 (rs T)))) w w' e:=by
 rcases h.blk with⟨rfl,rfl⟩|⟨b,k,v,s0,s1,sp,rfl,hB⟩
 ·
  exact Y0t w hG
 exact V12 w hB
theorem Y4s (w:AA):
  BI Tryz.prog 160 #[nlp] w fun e w' =>V4 (.int .i64 ((0:Nat):Int)) w w' e:=by
 have hS:=SH.nil [] w
 go_enter Tryz.func160,Tryz.ntmps160
 go_wp2;exact BH (v:=.int .i64 0) (by simp only[results,Tryz.results160];go_simp) rfl ⟨rfl,hS.ext⟩
theorem V5f (w:AA){b k v S n:Nat}{s0 s1:AB}{sp:Bool}(hB:Blk w b (ndc k v s0 s1 sp S n) 116):
  BI Tryz.prog 160 #[ptr b] w fun e w' =>V4 (.int .i64 (n:Int)) w w' e:=by
 have hS:=SH.nil [] w
 go_enter Tryz.func160,Tryz.ntmps160
 go_upto_region 3 with fail;refine RL hS ?_;clear hS;(iterate 3 refine MV ?_);refine MF (v:=.int .i64 (n:Int)) (fun W hS=>V6 rfl rfl (by rw[J5 (J3 hB hS.ext)];exact V7s) (by kernel_rfl)) ?_;refine MV ?_;refine MZ fun W hS=> ?_;go_wp2;exact BH (v:=.int .i64 (n:Int)) (by simp only[results,Tryz.results160];go_simp) rfl ⟨rfl,hS.ext⟩
theorem Y7s {T:TR}{u:AB}(w:AA)(h:TA w T u):BI Tryz.prog 160 #[u] w fun e w' =>V4 (.int .i64 (cnt T:Int)) w w' e:=by
 rcases h.blk with⟨rfl,rfl⟩|⟨b,k,v,s0,s1,sp,rfl,hB⟩
 ·
  exact Y4s w
 exact V5f w hB
theorem Y0u {q:Prop}{k v:Nat}(hk:k<2^256)(hv:v<2^256)(w:AA)(hG:GT q w):
  BI Tryz.prog 141 #[.agg (lf k v)] w fun e w' =>J82 (.leaf k v) w w' e:=by
 have hS:=SH.nil [] w
 go_enter Tryz.func141,Tryz.ntmps141
 go_upto_region 0 with fail;refine RL hS ?_;clear hS;refine MN (z:=lf k v) (t:=40) ?_;intro J;refine MV ?_;refine MZ fun W hS=> ?_;go_upto_region 1 with fail;refine RTh (.q 0 (.q 1 (.e 2 (.q 3 (.e 4 (.q 5 .z)))))) hS ?_;clear hS;refine TL 0 ?_ (hs:=by rw[V0];kernel_rfl);refine TL 0 ?_ (hs:=by rw[V0];kernel_rfl);refine TE (fun _ h=>h) ?_;obtain⟨U1,D⟩:=exh (sL k v);refine MC (v:=.agg (J0 .u8 32 (J6 U1))) (fun W hS=>(by rw[D.out];exact Z6a k v W (Y5 hG hS.ext))) ?_;refine TNh (fun W hS=>hS) ?_;refine TW ?_ (v:=.agg (ndc k v nlp nlp false U1 1)) (hv:=by intro W;first|rfl|kernel_rfl);refine TE (fun _ h=>h) ?_;refine MN (z:=ndc k v nlp nlp false U1 1) (t:=116) ?_ (hr:=by intro w;kernel_rfl);intro G;refine TNh (fun W hS=>hS.pick [1]) ?_;refine TV ?_;refine TZ (fun _ h=>h) fun W hS=> ?_;have e_:=D.out;subst e_;go_wp2;exact BH (v:=ptr G) (by simp only[results,Tryz.results141];go_simp) rfl ⟨_,rfl,hS.ext,⟨_,rfl,(hS.blk (i:=0) rfl),hk,hv⟩⟩
theorem V13 {q:Prop}{L R:TR}{pa pb:Option Addr}(d:Nat)(hn:cnt L+cnt R<4611686018427387904)(w:AA)(hG:GT q w)(hl:TA w L (.pointer pa))(hr_:TA w R (.pointer pb)):
  BI Tryz.prog 143 #[.int .i64 (d:Int),.pointer pa,.pointer pb] w fun e w' =>J82 (.node d L R) w w' e:=by
 have hS:=SH.nil [] w
 go_enter Tryz.func143,Tryz.ntmps143
 go_upto_region 1 with fail;refine RL hS ?_;clear hS;refine MV ?_;refine MV ?_;refine MW ?_ (v:=.agg #[.pointer pa,.pointer pb]) (hv:=by intro W;first|rfl|kernel_rfl);refine MV ?_;refine MV ?_;refine MC (v:=.agg (J0 .u8 32 (J6 (rs L)))) (fun W hS=>Q7j W (Y5 hG hS.ext) (TA.ext hl hS.ext)) ?_;refine MV ?_;refine MC (v:=.agg (J0 .u8 32 (J6 (rs R)))) (fun W hS=>Q7j W (Y5 hG hS.ext) (TA.ext hr_ hS.ext)) ?_;obtain⟨U1,D⟩:=exh (sN (d:Int) (rs L) (rs R));refine MC (v:=.agg (J0 .u8 32 (J6 U1))) (fun W hS=>(by rw[D.out];exact Z6b (d:Int) (rs L) (rs R) W (Y5 hG hS.ext))) ?_;refine MV ?_;refine MC (v:=.int .i64 (cnt L:Int)) (fun W hS=>Y7s W (TA.ext hl hS.ext)) ?_;refine MV ?_;refine MC (v:=.int .i64 (cnt R:Int)) (fun W hS=>Y7s W (TA.ext hr_ hS.ext)) ?_;refine MW ?_ (v:=.int .i64 ((cnt L+cnt R:Nat):Int)) (hv:=by intro W;go_simp;(try simp only[AI.wrap_i64]);omega);refine MW ?_ (v:=.agg (ndc 0 0 (.pointer pa) (.pointer pb) true U1 (cnt L+cnt R))) (hv:=by intro W;first|rfl|kernel_rfl);refine MN (z:=ndc 0 0 (.pointer pa) (.pointer pb) true U1 (cnt L+cnt R)) (t:=116) ?_ (hr:=by intro w;kernel_rfl);intro G;refine MV ?_;refine MZ fun W hS=> ?_;have e_:=D.out;subst e_;go_wp2;exact BH (v:=ptr G) (by simp only[results,Tryz.results143];go_simp) rfl ⟨_,rfl,hS.ext,⟨_,_,_,rfl,(hS.blk (i:=0) rfl),hl.ext hS.ext,hr_.ext hS.ext⟩⟩
theorem J83 {q:Prop}{L R:TR}{a b:AB}(d:Nat)(hn:cnt L+cnt R<4611686018427387904)(w:AA)(hG:GT q w)(hl:TA w L a)(hr_:TA w R b):
  BI Tryz.prog 143 #[.int .i64 (d:Int),a,b] w fun e w' =>J82 (.node d L R) w w' e:=by
 obtain⟨pa,rfl⟩:=hl.pt;obtain⟨pb,rfl⟩:=hr_.pt;exact V13 d hn w hG hl hr_
end

section
set_option maxHeartbeats 1500000
attribute [local irreducible] wpList
def J20 (f:Nat→Int)(i:Nat):Int:=f (i / 8) / 2^(7-i % 8) % 2
theorem Q9k {x:Int}{n:Nat}(h:0≤x∧x<256):0≤x / 2^n∧x / 2^n<256:=by
  obtain⟨a,rfl⟩:=Int.eq_ofNat_of_zero_le h.1;rw[show((a:Int) / 2^n)=((a / 2^n:Nat):Int) by rw[Int.natCast_ediv,Int.natCast_pow];rfl];have h2:=Nat.div_le_self a (2^n);have h3:=h.2;clear h;generalize a / 2^n=q at*;omega
section
variable {w : AA} {o : Oper} {a : Act} {x y : AW} {t t' : AE} {p : Int}
theorem Q5j {P:AD}{k:AI}{n:Nat}(hn:n≤8)(ho:o.op=.binOp .shr t x y t')(hx:a.eval x=.int .u8 p)(hy:a.eval y=.int k (n:Int)):(AV a.eval o).run P w=.ok (.value (.int .u8 (p / 2^n))) w:=by
  have h:min ((n:Int)).toNat AI.u8.bits=n:=by rw[Int.toNat_natCast];exact Nat.min_eq_left hn
  simp only[AV,ho,hx,hy,eqGuard,binOp,Ah];simp[Op.shift,h,go_sem,Ah]
theorem Z3x (hp:0≤p∧p<256)(ho:o.op=.convert 5 3 x)(hx:a.eval x=.int .u8 p):(AV a.eval o).run Tryz.prog w=.ok (.value (.int .i64 p)) w:=by
  have hw:AI.wrap .i64 p=p:=by rw[AI.wrap_i64];omega
  simp[AV,ho,hx,convert,run_underlying Tryz.underlying5,run_underlying Tryz.underlying3,Ah,Conv.intToInt,hw]
theorem Z3y (h:0≤p∧p<256):bits .and .i64 p 1=p % 2:=bits_mask .i64 63 (by decide) Z07 1 (by decide) p h.1 (by omega)
end

theorem Y0o (i:Nat)(hi:i<256)(w:AA):
  BI Tryz.prog 146 #[.int .i64 (i:Int)] w fun e w' =>V4 (.bool true) w w' e:=by
 have J:(i:Int)<256:=by omega
 have G:(0:Int)≤(i:Int):=by omega
 have D:Off [] w w:=Off.refl _ _
 go_enter Tryz.func146,Tryz.ntmps146
 go_upto_region 1 with fail;refine wp_region_lit ?_;refine Lv ?_;refine Lw ?_ (v:=.bool true) (hv:=by first|(go_simp;done)|(go_simp;omega));refine Lw ?_ (v:=.bool true);refine Lv ?_;refine Lw ?_ (v:=.bool true) (hv:=by first|(go_simp;done)|(go_simp;omega));refine Lw ?_ (v:=.bool true);refine Lw ?_ (v:=.bool true);refine V5 ?_;go_wp2;exact BH (v:=.bool true) (by simp only[results,Tryz.results146];go_simp) rfl ⟨rfl,D.ext⟩
theorem V10 (f:Nat→Int)(hf:∀j,0≤f j∧f j<256)(i:Nat)(hi:i<256)(w:AA):
  BI Tryz.prog 116 #[.agg (J0 .u8 32 f),.int .i64 (i:Int)] w fun e w' =>V4 (.int .i64 (J20 f i)) w w' e:=by
 have N:(i:Int)<256:=by omega
 have M:(0:Int)≤(i:Int):=by omega
 have hD:=Q9k (n:=7-i % 8) (hf (i / 8));have hA:=Z3y hD;clear hf;have D:Off [] w w:=Off.refl _ _
 go_enter Tryz.func116,Tryz.ntmps116
 go_upto_region 0 with fail;refine wp_region_lit ?_;refine Ln ?_ (z:=J0 .u8 32 f) (t:=38);intro K9 W1 J hO h_;replace D:=D.o hO;have G:=h_;clear hO h_ J;refine Lw ?_ (v:=.int .i64 0);refine V5 ?_;go_upto_region 1 with fail;refine wp_region_lit ?_;refine Lv ?_;refine Lr ?_ (Y0o i hi W1);intro W2 hO;replace G:=G.o hO;replace D:=D.o hO;clear hO;refine Lw ?_ (v:=.bool false);refine V5 ?_;go_upto_region 3 with fail;refine wp_region_lit ?_;refine Lv ?_;refine Lw ?_ (v:=.int .i64 (((i / 8:Nat):Int))) (hv:=by go_simp;(try simp only[AI.wrap_u64,AI.wrap_i64]);(try omega));refine Lw ?_ (v:=.pointer (some ⟨K9,0+(i / 8),none⟩)) (hv:=X3 Tryz.underlying38 (by omega));refine Lg ?_ G (v:=.int .u8 (f (i / 8))) (hj:=ag0 (by omega));refine Lv ?_;refine Lw ?_ (v:=.int .i64 (((i % 8:Nat):Int))) (hv:=by go_simp;(try rw[Int.tmod_eq_emod_of_nonneg (by omega)]);(try omega));refine Lw ?_ (v:=.int .i64 (((7-i % 8:Nat):Int))) (hv:=by go_simp;(try simp only[AI.wrap_u64,AI.wrap_i64]);(try omega));refine Lw ?_ (v:=.int .u8 (f (i / 8) / 2^(7-i % 8))) (hv:=by exact Q5j (n:=7-i % 8) (by omega) rfl rfl rfl);refine Lw ?_ (v:=.int .i64 (f (i / 8) / 2^(7-i % 8))) (hv:=by exact Z3x hD rfl rfl);refine Lw ?_ (v:=.int .i64 (J20 f i)) (hv:=by unfold J20;rw[←hA];exact J3u rfl rfl rfl);refine Lv ?_;refine V5 ?_;go_wp2;exact BH (v:=.int .i64 (J20 f i)) (by simp only[results,Tryz.results116];go_simp) rfl ⟨rfl,D.ext⟩
theorem Q0x (f:Nat→Int)(hf:∀j,0≤f j∧f j<256)(i:Nat)(hi:i<256)(w:AA):
  BI Tryz.prog 122 #[.agg (J0 .u8 32 f),.int .i64 (i:Int)] w fun e w' =>V4 (.int .i64 (J20 f i)) w w' e:=by
 have N:(i:Int)<256:=by omega
 have M:(0:Int)≤(i:Int):=by omega
 have hD:=Q9k (n:=7-i % 8) (hf (i / 8));have hA:=Z3y hD;clear hf;have D:Off [] w w:=Off.refl _ _
 go_enter Tryz.func122,Tryz.ntmps122
 go_upto_region 0 with fail;refine wp_region_lit ?_;refine Ln ?_ (z:=J0 .u8 32 f) (t:=22);intro K9 W1 J hO h_;replace D:=D.o hO;have G:=h_;clear hO h_ J;refine Lw ?_ (v:=.int .i64 0);refine V5 ?_;go_upto_region 1 with fail;refine wp_region_lit ?_;refine Lv ?_;refine Lw ?_ (v:=.bool false) (hv:=by first|(go_simp;done)|(go_simp;omega));refine Lw ?_ (v:=.bool false);refine Lv ?_;refine Lw ?_ (v:=.bool false) (hv:=by first|(go_simp;done)|(go_simp;omega));refine Lw ?_ (v:=.bool false);refine V5 ?_;go_upto_region 3 with fail;refine wp_region_lit ?_;refine Lv ?_;refine Lw ?_ (v:=.int .i64 (((i / 8:Nat):Int))) (hv:=by go_simp;(try simp only[AI.wrap_u64,AI.wrap_i64]);(try omega));refine Lw ?_ (v:=.pointer (some ⟨K9,0+(i / 8),none⟩)) (hv:=X3 Tryz.underlying22 (by omega));refine Lg ?_ G (v:=.int .u8 (f (i / 8))) (hj:=ag0 (by omega));refine Lv ?_;refine Lw ?_ (v:=.int .i64 (((i % 8:Nat):Int))) (hv:=by go_simp;(try rw[Int.tmod_eq_emod_of_nonneg (by omega)]);(try omega));refine Lw ?_ (v:=.int .i64 (((7-i % 8:Nat):Int))) (hv:=by go_simp;(try simp only[AI.wrap_u64,AI.wrap_i64]);(try omega));refine Lw ?_ (v:=.int .u8 (f (i / 8) / 2^(7-i % 8))) (hv:=by exact Q5j (n:=7-i % 8) (by omega) rfl rfl rfl);refine Lw ?_ (v:=.int .i64 (f (i / 8) / 2^(7-i % 8))) (hv:=by exact Z3x hD rfl rfl);refine Lw ?_ (v:=.int .i64 (J20 f i)) (hv:=by unfold J20;first|(go_simp;done)|(go_simp;(try rw[Int.tmod_eq_emod_of_nonneg hD.1])));refine Lv ?_;refine V5 ?_;go_wp2;exact BH (v:=.int .i64 (J20 f i)) (by simp only[results,Tryz.results122];go_simp) rfl ⟨rfl,D.ext⟩
end

section
set_option maxHeartbeats 1500000
attribute [local irreducible] wpList
def J7z (f g:Nat→Int):Nat→Nat→Nat
  |0,i=>i
  |n+1,i=>if J20 f i=J20 g i then J7z f g n (i+1) else i
def J0b (f g:Nat→Int):Nat:=J7z f g 256 0
theorem J4z {f g:Nat→Int}{i:Nat}(h:i<256):J7z f g (256-i) i=if J20 f i=J20 g i then J7z f g (256-(i+1)) (i+1) else i:=by
  rw[show 256-i=(256-(i+1))+1 by omega];rfl

theorem Z69 (f g:Nat→Int)(hf:∀j,0≤f j∧f j<256)(hg:∀j,0≤g j∧g j<256)(w:AA):
  BI Tryz.prog 149 #[.agg (J0 .u8 32 f),.agg (J0 .u8 32 g)] w fun e w' =>V4 (.int .i64 (J0b f g:Int)) w w' e:=by
 have D:Off [] w w:=Off.refl _ _
 go_enter Tryz.func149,Tryz.ntmps149
 go_upto_region 0 with fail;refine wp_region_lit ?_;refine Ln ?_ (z:=J0 .u8 32 f) (t:=22);intro K9 W1 U hO h_;replace D:=D.o hO;have G:=h_;clear hO h_ U;refine Ln ?_ (z:=J0 .u8 32 g) (t:=22);intro T W2 V hO h_;replace G:=G.o hO;replace D:=D.o hO;have M:=h_;clear hO h_ V;refine Lw ?_ (v:=.int .i64 0);refine V5 ?_
 go_wp2_with fail
 go_loopw [5] (fun ii wr=> ∃(i:Nat),(i≤256)∧(ii=.int .i64 (i:Int))∧(J0b f g=J7z f g (256-i) i)∧Off [] w wr∧Blk wr K9 (J0 .u8 32 f) 22∧Blk wr T (J0 .u8 32 g) 22)
  (fun ii _=>256-(intOf ii).toNat)
 case atStart=>exact⟨0,An _,rfl,rfl,D,G,M⟩
 case round=>
  obtain⟨i,hi,rfl,N,D,G,M⟩:=hrel;obtain⟨W3,X⟩:=V2s D;subst X
  by_cases J:i<256
  ·
   go_upto_region 2 with fail;refine wp_region_lit ?_;refine Lv ?_;refine Lw ?_ (v:=.bool true);refine V5 ?_
   by_cases hz:J20 f i=J20 g i
   ·
    have _f:=hz;have R:=Lib.hid hz;clear hz;go_upto_region 4 with fail;refine Rx 7 ?_;refine XlA ?_ G;refine Xv ?_;refine Xf ?_ (fun W hW=>Q0x f hf i J W);refine XlA ?_ M;refine Xv ?_;refine Xf ?_ (fun W hW=>Q0x g hg i J W);refine Xw ?_ (v:=.bool false) (hv:=fun _ _=>by have hz:=R.out;first|(go_simp;done)|(go_simp;simp[hz]));refine J0o fun W4 hE=> ?_;have hO:=J1v hE;replace G:=G.o hO;replace M:=M.o hO;replace D:=D.o hO;clear hO hE;refine LN ?_;go_wp2;go_roundw
    case rel=>exact⟨i+1,by omega,by go_num,by rw[N,J4z J,if_pos R.out],D,G,M⟩
    case measure=>simp[intOf];omega
   have _f:=hz;have S:((J0b f g:Nat):Int)=(i:Int):=by rw[N,J4z J,if_neg hz]
   have R:=Lib.hid hz;clear hz N;go_upto_region 4 with fail;refine Rx 7 ?_;refine XlA ?_ G;refine Xv ?_;refine Xf ?_ (fun W hW=>Q0x f hf i J W);refine XlA ?_ M;refine Xv ?_;refine Xf ?_ (fun W hW=>Q0x g hg i J W);refine Xw ?_ (v:=.bool true) (hv:=fun _ _=>by have hz:=R.out;first|(go_simp;done)|(go_simp;simp[hz]));refine J0o fun W4 hE=> ?_;have hO:=J1v hE;replace D:=D.o hO;clear hO hE;refine LN ?_;go_wp2;exact BH (v:=.int .i64 (i:Int)) (by simp only[results,Tryz.results149];go_simp) rfl ⟨congrArg (fun z:Int=>Ending.returned (.int .i64 z)) S.symm,D.ext⟩
  obtain rfl:i=256:=by omega
  have S:((J0b f g:Nat):Int)=256:=by rw[N];rfl
  clear N;go_upto_region 2 with fail;refine wp_region_lit ?_;refine Lv ?_;refine Lw ?_ (v:=.bool false);refine V5 ?_;go_wp2;exact BH (v:=.int .i64 256) (by simp only[results,Tryz.results149];go_simp) rfl ⟨congrArg (fun z:Int=>Ending.returned (.int .i64 z)) S.symm,D.ext⟩
def Q9l (f g:Nat→Int):Bool:=decide (J0b f g<256) && decide (J20 f (J0b f g)=0)
theorem Q21 (f g:Nat→Int)(hf:∀j,0≤f j∧f j<256)(hg:∀j,0≤g j∧g j<256)(w:AA):
  BI Tryz.prog 123 #[.agg (J0 .u8 32 f),.agg (J0 .u8 32 g)] w fun e w' =>V4 (.bool (Q9l f g)) w w' e:=by
 have J:=Z69 f g hf hg;obtain⟨c,hc⟩:∃c,J0b f g=c:=⟨_,rfl⟩
 rw[hc] at J;have HK:=Lib.hid hc;clear hc;have D:Off [] w w:=Off.refl _ _
 go_enter Tryz.func123,Tryz.ntmps123
 go_upto_region 0 with fail;refine wp_region_lit ?_;refine Ln ?_ (z:=J0 .u8 32 f) (t:=22);intro K9 W1 N hO h_;replace D:=D.o hO;have G:=h_;clear hO h_ N;refine Ln ?_ (z:=J0 .u8 32 g) (t:=22);intro S W2 R hO h_;replace G:=G.o hO;replace D:=D.o hO;have M:=h_;clear hO h_ R;refine Lw ?_ (v:=.bool false);refine V5 ?_;go_upto_region 1 with fail;refine wp_region_lit ?_;refine L0A ?_ G;refine L0A ?_ M;refine Lr ?_ (J W2);intro W3 hO;replace G:=G.o hO;replace D:=D.o hO;clear hO;refine Lv ?_;refine V5 ?_
 by_cases ha:c<256
 ·
  go_upto_region 2 with fail;refine wp_region_lit ?_;refine Lv ?_;refine Lw ?_ (v:=.bool true);refine Lw ?_ (v:=.bool true);refine L0A ?_ G;refine Lv ?_;refine Lr ?_ (Q0x f hf c ha W3);intro W4 hO;replace D:=D.o hO;clear hO;refine Lw ?_ (v:=.bool (decide (J20 f c=0))) (hv:=by go_simp;first|done|rfl|(cases h_:(J20 f c==0)<;>simp_all));refine Lw ?_ (v:=.bool (decide (J20 f c=0)));refine Lw ?_ (v:=.bool (decide (J20 f c=0)));refine V5 ?_;go_wp2;exact BH (v:=.bool (decide (J20 f c=0))) (by simp only[results,Tryz.results123];go_simp) rfl ⟨congrArg (fun z=>Ending.returned (.bool z)) (by unfold Q9l;rw[HK.out];simp[ha]),D.ext⟩
 go_upto_region 2 with fail;refine wp_region_lit ?_;refine Lv ?_;refine Lw ?_ (v:=.bool false);refine Lw ?_ (v:=.bool false);(iterate 4 refine Ls ?_);refine Lw ?_ (v:=.bool false);refine Lw ?_ (v:=.bool false);refine V5 ?_;go_wp2;exact BH (v:=.bool false) (by simp only[results,Tryz.results123];go_simp) rfl ⟨congrArg (fun z=>Ending.returned (.bool z)) (by unfold Q9l;rw[HK.out];simp[ha]),D.ext⟩
end

section
set_option maxHeartbeats 1500000
attribute [local irreducible] wpList K1 wpX
theorem Z40 (f:Nat→Int)(i:Nat):0≤J20 f i∧J20 f i<2:=by unfold J20;omega
def kb (k i:Nat):Nat:=if i<256 then(J20 (J6 k) i).toNat else 0
theorem J8i {k i:Nat}(h:i<256):((kb k i:Nat):Int)=J20 (J6 k) i:=by unfold kb;rw[if_pos h];have:=(Z40 (J6 k) i).1;omega
theorem V5h {k i:Nat}(h:256≤i):kb k i=0:=by unfold kb;rw[if_neg (by omega)]
theorem Q5k (k i:Nat):kb k i<2:=by unfold kb;split;have:=Z40 (J6 k) i;omega;decide
theorem Z41 (k:Nat):∀j,0≤J6 k j∧J6 k j<256:=fun j=>J2v k j
theorem Q04 {w:AA}{o:Oper}{a:Act}{x y:AW}{l:List UInt8}{i:Nat}{c:UInt8}(h:l[i]?=some c)(ho:o.op=.index 9 x y)(hx:a.eval x=Z9 l){k:AI}(hy:a.eval y=.int k (i:Int)):(AV a.eval o).run Tryz.prog w=.ok (.value (.int .u8 (c.toNat:Int))) w:=by
 have hs:=J4w l;have hi:=(List.getElem?_eq_some_iff.1 h).1;have hg:=(List.getElem?_eq_some_iff.1 h).2
 have D : (⟨l.toArray⟩ : ByteArray)[i]'(by rw [hs]; exact hi) = c := by
  show l.toArray[i]'(by simpa using hi) = c
  simpa using hg
 simp only[AV,ho,hx,hy,Z9,Ah];simp[Instr.index,asIntOf,run_underlying Tryz.underlying9,hs,hi,D,Ah]
def tb8:List UInt8:=[0,1,2,2,3,3,3,3,4,4,4,4,4,4,4,4,5,5,5,5,5,5,5,5,5,5,5,5,5,5,5,5,6,6,6,6,6,6,6,6,6,6,6,6,6,6,6,6,6,6,6,6,6,6,6,6,6,6,6,6,6,6,6,6,7,7,7,7,7,7,7,7,7,7,7,7,7,7,7,7,7,7,7,7,7,7,7,7,7,7,7,7,7,7,7,7,7,7,7,7,7,7,7,7,7,7,7,7,7,7,7,7,7,7,7,7,7,7,7,7,7,7,7,7,7,7,7,7,8,8,8,8,8,8,8,8,8,8,8,8,8,8,8,8,8,8,8,8,8,8,8,8,8,8,8,8,8,8,8,8,8,8,8,8,8,8,8,8,8,8,8,8,8,8,8,8,8,8,8,8,8,8,8,8,8,8,8,8,8,8,8,8,8,8,8,8,8,8,8,8,8,8,8,8,8,8,8,8,8,8,8,8,8,8,8,8,8,8,8,8,8,8,8,8,8,8,8,8,8,8,8,8,8,8,8,8,8,8,8,8,8,8,8,8,8,8,8,8,8,8,8,8,8,8,8,8]
def l8 (z:Nat):Nat:=(tb8.getD z 0).toNat
theorem Y4t {z:Nat}(h:z<256):tb8[z]?=some (tb8.getD z 0):=by rw[List.getD_eq_getElem?_getD,List.getElem?_eq_getElem (by rw[show tb8.length=256 by decide+kernel];exact h)];rfl
theorem Z1i:∀z:Fin 256,l8 z.val≤8∧(z.val≠0→0<l8 z.val∧z.val / 2^(l8 z.val-1) % 2=1)∧∀i:Fin 8,i.val<8-l8 z.val→z.val / 2^(7-i.val) % 2=0:=by decide+kernel
theorem Y4u (x y n:Nat):(x^^^y) / 2^n % 2=0↔x / 2^n % 2=y / 2^n % 2:=by
 have h:=Nat.testBit_xor x y n;have e:∀z:Nat,z.testBit n=decide (z / 2^n % 2=1):=fun z=>by rw[Nat.testBit_eq_decide_div_mod_eq]
 rw[e,e,e] at h;have h1:(x^^^y) / 2^n % 2<2:=AO _ (by decide);have h2:x / 2^n % 2<2:=AO _ (by decide);have h3:y / 2^n % 2<2:=AO _ (by decide);generalize (x^^^y) / 2^n % 2=a at*;generalize x / 2^n % 2=b at*;generalize y / 2^n % 2=c at*
 match a,b,c,h1,h2,h3 with
 |0,0,0,_,_,_=>simp
 |0,0,1,_,_,_=>simp at h
 |0,1,0,_,_,_=>simp at h
 |0,1,1,_,_,_=>simp
 |1,0,0,_,_,_=>simp at h
 |1,0,1,_,_,_=>simp
 |1,1,0,_,_,_=>simp
 |1,1,1,_,_,_=>simp at h
def kby (k j:Nat):Nat:=k / 2^(8*j) % 256
theorem Q7k (k j:Nat):J6 k j=((kby k j:Nat):Int):=rfl
theorem J84 (k j:Nat):kby k j<256:=AO _ (by decide)
theorem Q0c (k i:Nat):J20 (J6 k) i=((kby k (i / 8) / 2^(7-i % 8) % 2:Nat):Int):=by
 unfold J20;rw[Q7k];rw[Int.natCast_emod,Int.natCast_ediv,Int.natCast_pow];rfl
theorem Z42 {a b i:Nat}:J20 (J6 a) i=J20 (J6 b) i↔(kby a (i / 8)^^^kby b (i / 8)) / 2^(7-i % 8) % 2=0:=by
 rw[Q0c,Q0c,Y4u];omega
theorem Q9o {f g:Nat→Int}{m:Nat}(hm:m≤256)(hlt:∀i,i<m→J20 f i=J20 g i)(he:m<256→J20 f m≠J20 g m):∀n i,n+i=m→J7z f g (256-i) i=m
 |0,i,h=>by
  obtain rfl:i=m:=by omega
  by_cases h2:i<256
  ·
   rw[J4z h2,if_neg (he h2)]
  ·
   obtain rfl:i=256:=by omega
   rfl
 |n+1,i,h=>by
  rw[J4z (by omega),if_pos (hlt i (by omega))];exact Q9o hm hlt he n (i+1) (by omega)
theorem Q7l {f g:Nat→Int}{m:Nat}(hm:m≤256)(hlt:∀i,i<m→J20 f i=J20 g i)(he:m<256→J20 f m≠J20 g m):J0b f g=m:=Q9o hm hlt he m 0 (by omega)
theorem Q5l {a b j:Nat}(hj:j<32)(hlt:∀i,i<j→kby a i=kby b i)(hne:kby a j≠kby b j):J0b (J6 a) (J6 b)=8*j+(8-l8 (kby a j^^^kby b j)):=by
 have hz:kby a j^^^kby b j<256:=Nat.xor_lt_two_pow (n:=8) (J84 a j) (J84 b j);have D:kby a j^^^kby b j≠0:=fun h=>hne (by have e:=congrArg (· ^^^kby b j) h;simpa[Nat.xor_assoc] using e);obtain⟨h1,h2,h3⟩:=Z1i ⟨_,hz⟩;obtain⟨h2,h4⟩:=h2 D;simp only at h1 h2 h3 h4;generalize hl:l8 (kby a j^^^kby b j)=L at*;refine Q7l (by omega) (fun i hi=> ?_) fun _=> ?_
 ·
  rw[Z42]
  by_cases hq:i / 8<j
  ·
   rw[hlt _ hq,Nat.xor_self,Nat.zero_div]
  have e:i / 8=j:=by omega
  have h5:=h3 ⟨i % 8,AO _ (by decide)⟩ (by simp only;omega);rw[e];exact h5
 rw[Ne,Z42];have e1:(8*j+(8-L)) / 8=j:=by omega
 have e2:7-(8*j+(8-L)) % 8=L-1:=by omega
 rw[e1,e2,h4];decide
theorem Y0v {a b:Nat}(h:∀i,i<32→kby a i=kby b i):J0b (J6 a) (J6 b)=256:=
 Q7l (AM _) (fun i hi=>by rw[Q0c,Q0c,h _ (by omega)]) (fun h=>absurd h (by decide))
theorem Q24 (f g:Nat→Int):J0b f g≤256:=by
 have:∀n i,n+i=256→J7z f g (256-i) i≤256:=by
  intro n
  induction n with
  |zero=>
   intro i h;obtain rfl:i=256:=by omega
   exact AM 256
  |succ n ih=>intro i h;rw[J4z (by omega)];split;exact ih (i+1) (by omega);omega
 exact this 256 0 rfl

theorem Z6c (i:Nat)(hi:256≤i)(hi2:i<4611686018427387904)(w:AA):
  BI Tryz.prog 146 #[.int .i64 (i:Int)] w fun e w' =>V4 (.bool false) w w' e:=by
 have hS:=SH.nil [] w
 go_enter Tryz.func146,Tryz.ntmps146
 go_upto_region 1 with fail;refine RL hS ?_;clear hS;refine MV ?_;refine MW ?_ (v:=.bool true) (hv:=by intro W;first|(go_simp;done)|(go_simp;omega));refine Wt ?_;refine MV ?_;refine MW ?_ (v:=.bool false) (hv:=by intro W;first|(go_simp;done)|(go_simp;omega));refine Wf ?_;refine Wf ?_;refine MZ fun W hS=> ?_;go_wp2;exact BH (v:=.bool false) (by simp only[results,Tryz.results146];go_simp) rfl ⟨rfl,hS.ext⟩
theorem Y4v (k i:Nat)(hi:256≤i)(hi2:i<4611686018427387904)(w:AA):
  BI Tryz.prog 116 #[.agg (J0 .u8 32 (J6 k)),.int .i64 (i:Int)] w fun e w' =>V4 (.int .i64 0) w w' e:=by
 have hS:=SH.nil [] w
 go_enter Tryz.func116,Tryz.ntmps116
 go_upto_region 0 with fail;refine RL hS ?_;clear hS;refine MN (z:=J0 .u8 32 (J6 k)) (t:=38) ?_;intro K9;refine W0 ?_;refine MZ fun W hS=> ?_;go_upto_region 1 with fail;refine RL hS ?_;clear hS;refine MV ?_;refine MC (v:=.bool false) (fun W hS=>Z6c i hi hi2 W) ?_;refine Wt ?_;refine MZ fun W hS=> ?_;go_wp2;exact BH (v:=.int .i64 0) (by simp only[results,Tryz.results116];go_simp) rfl ⟨rfl,hS.ext⟩
theorem Q1e (k i:Nat)(hi:i<4611686018427387904)(w:AA):BI Tryz.prog 116 #[.agg (J0 .u8 32 (J6 k)),.int .i64 (i:Int)] w fun e w' =>V4 (.int .i64 (kb k i:Int)) w w' e:=by
 by_cases h:i<256
 ·
  rw[J8i h];exact V10 _ (Z41 k) i h w
 rw[V5h (by omega)];exact Y4v k i (by omega) hi w
theorem V14 (z:Nat)(hz:z<256)(w:AA):
  BI Tryz.prog 165 #[.int .u8 (z:Int)] w fun e w' =>V4 (.int .i64 (l8 z:Int)) w w' e:=by
 have hS:=SH.nil [] w
 go_enter Tryz.func165,Tryz.ntmps165
 go_upto_region 1 with fail;refine RL hS ?_;clear hS;refine MV ?_;refine MW ?_ (v:=.int .u8 ((tb8.getD z 0).toNat:Int)) (hv:=by intro W;exact Q04 (l:=tb8) (i:=z) (Y4t hz) rfl rfl rfl);refine MW ?_ (v:=.int .i64 (l8 z:Int)) (hv:=by intro W;exact Q0b rfl rfl);refine MV ?_;refine MZ fun W hS=> ?_;go_wp2;exact BH (v:=.int .i64 (l8 z:Int)) (by simp only[results,Tryz.results165];go_simp) rfl ⟨rfl,hS.ext⟩
theorem V5i (z:Nat)(hz:z<256)(w:AA):
  BI Tryz.prog 163 #[.int .u8 (z:Int)] w fun e w' =>V4 (.int .i64 ((8-l8 z:Nat):Int)) w w' e:=by
 have hl:=(Z1i ⟨z,hz⟩).1;simp only at hl;have hS:=SH.nil [] w
 go_enter Tryz.func163,Tryz.ntmps163
 go_upto_region 1 with fail;refine RL hS ?_;clear hS;refine MV ?_;refine MC (v:=.int .i64 (l8 z:Int)) (fun W hS=>V14 z hz W) ?_;refine MW ?_ (v:=.int .i64 ((8-l8 z:Nat):Int)) (hv:=by intro W;go_simp;(try simp only[AI.wrap_i64]);omega);refine MV ?_;refine MZ fun W hS=> ?_;go_wp2;exact BH (v:=.int .i64 ((8-l8 z:Nat):Int)) (by simp only[results,Tryz.results163];go_simp) rfl ⟨rfl,hS.ext⟩
theorem V15 {w:AA}:(isAgg 5).run Tryz.prog w=.ok false w:=by
 simp[isAgg,run_underlying Tryz.underlying5,Ah]
theorem V16 {a b:Nat}(ha:a<256)(hb:b<256):bits .xor .u8 (a:Int) (b:Int)=((a^^^b:Nat):Int):=J2i .u8 8 (by decide) (fun n h0 h1=>by rw[AI.wrap_u8];omega) a b ha hb
theorem Y0w {w:AA}{o:Oper}{a:Act}{x y:AW}{t t' :AE}{p q:Int}(ho:o.op=.binOp .xor t x y t')(hx:a.eval x=.int .u8 p)(hy:a.eval y=.int .u8 q):(AV a.eval o).run Tryz.prog w=.ok (.value (.int .u8 (bits .xor .u8 p q))) w:=by
 simp only[AV,ho,hx,hy];rfl
theorem Z6d (a b:Nat)(w:AA):
  BI Tryz.prog 157 #[.agg (J0 .u8 32 (J6 a)),.agg (J0 .u8 32 (J6 b))] w fun e w' =>V4 (.int .i64 (J0b (J6 a) (J6 b):Int)) w w' e:=by
 have hS:=SH.nil [] w
 go_enter Tryz.func157,Tryz.ntmps157
 go_upto_region 0 with fail;refine RL hS ?_;clear hS;refine MN (z:=J0 .u8 32 (J6 a)) (t:=38) ?_;intro K9;refine MN (z:=J0 .u8 32 (J6 b)) (t:=38) ?_;intro G;refine W0 ?_;refine MZ fun W hS=> ?_;go_upto_region 1 with fail;refine RL hS ?_;clear hS;refine ML 1 ?_;refine W0 ?_;refine MZ fun W hS=> ?_
 go_wp2_with fail
 go_loopw [8] (fun ii wr=> ∃(j:Nat),(j≤32)∧(∀i,i<j→kby a i=kby b i)∧(ii=.int .i64 (j:Int))∧SH [] w wr [.b G (J0 .u8 32 (J6 b)) 38,.b K9 (J0 .u8 32 (J6 a)) 38])
  (fun ii _=>32-(intOf ii).toNat)
 case atStart=>exact⟨0,An _,fun i h=>absurd h (Nat.not_lt_zero _),rfl,hS⟩
 clear hS
 case round=>
  obtain⟨j,hj,M,rfl,hS⟩:=hrel
  by_cases J:j<32
  ·
   go_upto_region 2 with fail;refine RL hS ?_;clear hS;refine Wt ?_;refine MZ fun W hS=> ?_;go_upto_region 3 with fail;refine RL hS ?_;clear hS;refine MV ?_;refine MW ?_ (v:=.int .u8 ((kby a j:Nat):Int)) (hv:=fun _=>Q7h (m:=32) (f:=J6 a) J Tryz.underlying38 (by kernel_rfl) V15 rfl rfl rfl);refine MV ?_;refine MV ?_;refine MZ fun W hS=> ?_
   by_cases D:kby a j=kby b j
   ·
    go_upto_region 4 with fail;refine RL hS ?_;clear hS;refine MV ?_;refine MV ?_;refine MW ?_ (v:=.pointer (some ⟨G,0+j,none⟩)) (hv:=fun _=>X3 Tryz.underlying38 (by omega));refine MG 0 ?_ (j:=0+j) (v:=.int .u8 ((J6 b) j)) (hj:=ag0 (by omega));refine MW ?_ (v:=.bool false) (hv:=by intro W;go_simp;(try simp only[Q7k]);(try simp[D]));refine MZ fun W hS=> ?_;go_wp2;go_roundw
    case rel=>exact⟨j+1,by omega,fun i h=>by rcases Nat.lt_succ_iff_lt_or_eq.1 h with h|rfl;exact M i h;exact D,by go_num,hS⟩
    case measure=>simp[intOf];omega
   have N:=D;go_upto_region 4 with fail;refine RL hS ?_;clear hS;refine MV ?_;refine MV ?_;refine MW ?_ (v:=.pointer (some ⟨G,0+j,none⟩)) (hv:=fun _=>X3 Tryz.underlying38 (by omega));refine MG 0 ?_ (j:=0+j) (v:=.int .u8 ((J6 b) j)) (hj:=ag0 (by omega));refine MW ?_ (v:=.bool true) (hv:=by intro W;go_simp;(try simp only[Q7k]);omega);refine MZ fun W hS=> ?_;go_upto_region 5 with fail;refine RL hS ?_;clear hS;refine MV ?_;refine MW ?_ (v:=.int .i64 ((8*j:Nat):Int)) (hv:=by intro W;go_simp;(try simp only[AI.wrap_i64]);omega);refine MV ?_;refine MV ?_;refine MW ?_ (v:=.pointer (some ⟨G,0+j,none⟩)) (hv:=fun _=>X3 Tryz.underlying38 (by omega));refine MG 0 ?_ (j:=0+j) (v:=.int .u8 ((J6 b) j)) (hj:=ag0 (by omega));refine MW ?_ (v:=.int .u8 ((kby a j^^^kby b j:Nat):Int)) (hv:=by intro W;rw[←V16 (J84 a j) (J84 b j)];exact Y0w rfl rfl rfl);refine MC (v:=.int .i64 ((8-l8 (kby a j^^^kby b j):Nat):Int)) (fun W hS=>V5i (kby a j^^^kby b j) (Nat.xor_lt_two_pow (n:=8) (J84 a j) (J84 b j)) W) ?_;refine MW ?_ (v:=.int .i64 ((8*j+(8-l8 (kby a j^^^kby b j)):Nat):Int)) (hv:=by intro W;go_simp;(try simp only[AI.wrap_i64]);omega);refine MV ?_;refine MZ fun W hS=> ?_;go_wp2;exact BH (v:=.int .i64 ((8*j+(8-l8 (kby a j^^^kby b j)):Nat):Int)) (by simp only[results,Tryz.results157];go_simp) rfl ⟨by rw[Q5l J M N],hS.ext⟩
  obtain rfl:j=32:=by omega
  go_upto_region 2 with fail;refine RL hS ?_;clear hS;refine Wf ?_;refine MZ fun W hS=> ?_;go_wp2;exact BH (v:=.int .i64 256) (by simp only[results,Tryz.results157];go_simp) rfl ⟨by rw[Y0v M];rfl,hS.ext⟩
end
end Go.Proofs.YtdjacgmmidbieaaGreatDoor

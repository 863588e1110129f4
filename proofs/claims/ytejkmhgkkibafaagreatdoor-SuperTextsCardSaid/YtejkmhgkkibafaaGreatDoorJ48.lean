/- The document's sums beside a key's way. Conditions: keys and values have 256 bits; the tables hold their numbers. TreeStays. Conditions: keys and values have 256 bits; the tables hold their numbers. Proofs, the plain law: what is summed up on a way; what is proved is taken; two proofs that say unlike things bear two texts of one sum. No conditions. TreeGets. Conditions: keys and values have 256 bits; the tables hold their numbers. Proofs, the program's: the texts that are summed up. Conditions: the tables hold their numbers. Proofs: the document's texts; what Check tells, the program's and the document's. Conditions: the tables hold their numbers; keys and values have 256 bits. Proofs: what Check tells, the program's and the document's. Conditions: the tables hold their numbers; keys and values have 256 bits. The sum of the byte 2 (sha2), reckoned step by step from numbers that are written down. No conditions. Proofs: Prove; the laws' to, from, tame, leaves, proofs; the document's Same, Clash. Conditions: the tables hold their numbers; keys and values have 256 bits. The document's Same. Conditions: the sums are not too many. Proofs: the document's Same, Clash; the law's proofs. Conditions: the tables hold their numbers; keys and values have 256 bits. ProofBack. Conditions: the tables hold their numbers; keys and values have 256 bits. Calls that leave new facts about a type's blocks. No conditions. The laws of layer 23: supers, from; SuperTexts. Conditions: the tables hold their numbers. -/
import Derived.Test.YtejkmhgkkibafaaGreatDoorJ46
import Derived.Test.YtejkmhgkkibafaaGreatDoorJ8
import Derived.Test.YtejkmhgkkibafaaGreatDoorJ9
import Derived.Test.YtejkmhgkkibafaaGreatDoorJ35
import Derived.Test.YtejkmhgkkibafaaGreatDoorSqJ
import Derived.Test.YtejkmhgkkibafaaGreatDoorJ7
import Derived.Test.YtejkmhgkkibafaaGreatDoorUc
set_option linter.unusedSimpArgs false
set_option linter.unusedVariables false
namespace Go.Proofs.YtejkmhgkkibafaaGreatDoor
set_option maxHeartbeats 3000000
set_option maxRecDepth 100000
open Go.RowKit
attribute [local irreducible] wpList wpTr wpX
set_option linter.unusedSimpArgs false
attribute [local irreducible] hs4 sE sL sN

end Go.Proofs.YtejkmhgkkibafaaGreatDoor

set_option linter.unusedSimpArgs false
set_option linter.unusedVariables false
namespace Go.Proofs.YtejkmhgkkibafaaGreatDoor
open Go.RowKit
attribute [local irreducible] wpList wpTr wpX
set_option linter.unusedSimpArgs false
attribute [local irreducible] hs4 sE sL sN

end Go.Proofs.YtejkmhgkkibafaaGreatDoor

set_option linter.unusedSimpArgs false
set_option linter.unusedVariables false
namespace Go.Proofs.YtejkmhgkkibafaaGreatDoor
attribute [local irreducible] hs4 sN sE sL lb
end Go.Proofs.YtejkmhgkkibafaaGreatDoor

set_option linter.unusedSimpArgs false
set_option linter.unusedVariables false
namespace Go.Proofs.YtejkmhgkkibafaaGreatDoor
open Go.RowKit
attribute [local irreducible] wpList wpTr wpX
set_option linter.unusedSimpArgs false
attribute [local irreducible] hs4 sE sL sN

end Go.Proofs.YtejkmhgkkibafaaGreatDoor

set_option linter.unusedSimpArgs false
set_option linter.unusedVariables false
namespace Go.Proofs.YtejkmhgkkibafaaGreatDoor
set_option maxHeartbeats 3000000
set_option maxRecDepth 100000
open Go.RowKit
attribute [local irreducible] wpList wpTr wpX
set_option linter.unusedSimpArgs false
attribute [local irreducible] hs4 sE sL sN

end Go.Proofs.YtejkmhgkkibafaaGreatDoor

set_option linter.unusedSimpArgs false
set_option linter.unusedVariables false
namespace Go.Proofs.YtejkmhgkkibafaaGreatDoor
set_option maxHeartbeats 3000000
set_option maxRecDepth 100000
open Go.RowKit
attribute [local irreducible] wpList wpTr wpX
set_option linter.unusedSimpArgs false
attribute [local irreducible] hs4 sE sL sN lb
end Go.Proofs.YtejkmhgkkibafaaGreatDoor

set_option linter.unusedSimpArgs false
set_option linter.unusedVariables false
namespace Go.Proofs.YtejkmhgkkibafaaGreatDoor
set_option maxHeartbeats 3000000
set_option maxRecDepth 100000
open Go.RowKit
attribute [local irreducible] wpList wpTr wpX
set_option linter.unusedSimpArgs false
attribute [local irreducible] hs4 sE sL sN lb
end Go.Proofs.YtejkmhgkkibafaaGreatDoor

set_option linter.unusedSimpArgs false
set_option linter.unusedVariables false
namespace Go.Proofs.YtejkmhgkkibafaaGreatDoor
open Go.RowKit
end Go.Proofs.YtejkmhgkkibafaaGreatDoor

set_option linter.unusedSimpArgs false
set_option linter.unusedVariables false
namespace Go.Proofs.YtejkmhgkkibafaaGreatDoor
set_option maxHeartbeats 3000000
set_option maxRecDepth 100000
open Go.RowKit
attribute [local irreducible] wpList wpTr wpX
set_option linter.unusedSimpArgs false
attribute [local irreducible] hs4 sE sL sN lb
end Go.Proofs.YtejkmhgkkibafaaGreatDoor

set_option linter.unusedSimpArgs false
set_option linter.unusedVariables false
namespace Go.Proofs.YtejkmhgkkibafaaGreatDoor
set_option maxHeartbeats 3000000
set_option maxRecDepth 100000
open Go.RowKit
attribute [local irreducible] wpList wpTr wpX
set_option linter.unusedSimpArgs false
attribute [local irreducible] lb
end Go.Proofs.YtejkmhgkkibafaaGreatDoor

set_option linter.unusedSimpArgs false
set_option linter.unusedVariables false
namespace Go.Proofs.YtejkmhgkkibafaaGreatDoor
open Go.RowKit
attribute [local irreducible] wpList wpTr wpX
set_option linter.unusedSimpArgs false
attribute [local irreducible] hs4 sE sL sN lb
end Go.Proofs.YtejkmhgkkibafaaGreatDoor

set_option linter.unusedSimpArgs false
set_option linter.unusedVariables false
namespace Go.Proofs.YtejkmhgkkibafaaGreatDoor
open Go.RowKit
attribute [local irreducible] wpList wpTr wpX
set_option linter.unusedSimpArgs false
attribute [local irreducible] hs4 sE sL sN lb

end Go.Proofs.YtejkmhgkkibafaaGreatDoor

set_option linter.unusedSimpArgs false
set_option linter.unusedVariables false
namespace Go.Proofs.YtejkmhgkkibafaaGreatDoor
open Go.RowKit
namespace SH
variable {F : List Nat} {w W W' : World} {H H' L L' R : List As} {x y : As} {i j : Nat}
/-- what a call leaves: a thing that was there, or one that may turn (and isn't of a type that a fact looks at) -/
def okT (L R : List As) : List As → Prop
  | [] => True
  | y :: l => (y ∈ L ∨ (y.mv = true ∧ R.all (tyOk y) = true) ∨ ∃ T K, y = .t T K ∧ R.all (fun z => tyOk z y) = true) ∧ okT L R l
theorem okT_mem : ∀ {l : List As}, okT L R l → ∀ y ∈ l, y ∈ L ∨ (y.mv = true ∧ R.all (tyOk y) = true) ∨ ∃ T K, y = .t T K ∧ R.all (fun z => tyOk z y) = true
  | _ :: _, h, y, hy => by
    rcases List.mem_cons.1 hy with rfl | hy
    · exact h.1
    · exact okT_mem h.2 y hy
theorem frameT (h : SH F w W (L ++ R)) (h' : SH (feet L) W W' L') (ok : okT L R L') : SH F w W' (L' ++ R) := by
  have hp := List.pairwise_append.1 h.ap
  have hR : ∀ z ∈ R, z.holds W := fun z hz => h.all z (by simp [hz])
  have hL : ∀ x ∈ L, x.holds W := fun x hx => h.all x (by simp [hx])
  -- a block of what may turn is no block of R
  have hf : ∀ k, k ∈ feet L → ∀ z ∈ R, (∀ T K, z ≠ .t T K) → k ∉ z.foot := fun k hk z hz hT => by
    obtain ⟨x, hx, hm, hk⟩ := mem_feet.1 hk
    have := (hp.2.2 x hx z hz).1 hm
    cases z with
    | t T K => exact absurd rfl (hT T K)
    | _ => exact this k hk
  have hl : ∀ y ∈ L', y.mv = true → ∀ z ∈ R, (∀ T K, z ≠ .t T K) → ∀ k ∈ y.foot, k ∉ z.foot := fun y hy hm z hz hT k hk hk' =>
    hf k (h'.old y hy hm k hk (As.lt (hR z hz) k hk')) z hz hT hk'
  refine ⟨h.off.step h'.off fun k hk hlt => ?_, fun z hz => ?_, List.pairwise_append.2 ⟨h'.ap, hp.2.1, fun y hy z hz => ⟨fun hm => ?_, fun hm => ?_⟩⟩, fun z hz hm k hk hlt => ?_⟩
  · obtain ⟨x, hx, hm, hk⟩ := mem_feet.1 hk
    exact h.old x (by simp [hx]) hm k hk hlt
  · rcases List.mem_append.1 hz with hz | hz
    · exact h'.all z hz
    · refine As.keep h'.off (hR z hz) (fun k hk hkF => ?_) fun T K e k hkF hlt ht => ?_
      · cases z with
        | t T K => cases hk
        | _ => exact hf k hkF _ hz (fun _ _ e => by cases e) hk
      · obtain ⟨x, hx, hm, hk⟩ := mem_feet.1 hkF
        have h1 := (hp.2.2 x hx z hz).1 hm
        subst e
        exact h1 ((As.tyOf (hL x hx) hm k hk).symm.trans ht)
  · rcases okT_mem ok y hy with hy' | ⟨_, hty⟩ | ⟨T, K, e, _⟩
    · exact (hp.2.2 y hy' z hz).1 hm
    · cases z with
      | t T K => have := List.all_eq_true.1 hty _ hz; simpa [tyOk, hm] using this
      | _ => exact hl y hy hm _ hz (fun _ _ e => by cases e)
    · subst e; cases hm
  · rcases okT_mem ok y hy with hy' | ⟨hym, _⟩ | ⟨T, K, e, hty⟩
    · exact (hp.2.2 y hy' z hz).2 hm
    · cases y with
      | t T K => cases hym
      | _ => exact fun k hk hk' => hl _ hy hym z hz (fun T K e => by subst e; cases hm) k hk' hk
    · subst e; have := List.all_eq_true.1 hty _ hz; simpa [tyOk, hm] using this
  · rcases List.mem_append.1 hz with hz | hz
    · by_cases hlt' : k < W.heap.size
      · obtain ⟨x, hx, hm', hk'⟩ := mem_feet.1 (h'.old z hz hm k hk hlt')
        exact h.old x (by simp [hx]) hm' k hk' hlt
      · have := h.size; omega
    · exact h.old z (by simp [hz]) hm k hk hlt
end SH
section
variable {P : Program} {f : FuncId} {args : Array Value} {F : List Nat} {w W : World} {H L R : List As}
theorem callT {α : Type} (I J : List Nat) {V : α → Value} {L' H' : α → List As} (hS : SH F w W H) (hc : SH (SH.feet L) W W L → Calls P f args W fun e W' => ∃ x, e = .returned (V x) ∧ SH (SH.feet L) W W' (L' x)) (ok : ∀ x, SH.okT L R (L' x)) (hI : pk H I = L := by exact rfl) (hJ : pk H J = R := by exact rfl) (hn : (I ++ J).Nodup := by decide) (hH : ∀ x, L' x ++ R = H' x := by exact fun _ => rfl) : Calls P f args W fun e W' => ∃ x, e = .returned (V x) ∧ SH F w W' (H' x) := by
  subst hI hJ
  have h : SH F w W (pk H I ++ pk H J) := hS.pick (I ++ J) (by
    exact pk_app H I J) hn
  exact (hc h.here).mono fun e W' ⟨x, h1, h2⟩ => ⟨x, h1, by rw [← hH x]; exact h.frameT h2 (ok x)⟩
end
end Go.Proofs.YtejkmhgkkibafaaGreatDoor

set_option linter.unusedSimpArgs false
set_option linter.unusedVariables false
namespace Go.Proofs.YtejkmhgkkibafaaGreatDoor
set_option maxHeartbeats 3000000
set_option maxRecDepth 100000
open Go.RowKit
attribute [local irreducible] wpList wpTr wpX
open S8 (Kn GA kP sig vfy)
set_option linter.unusedSimpArgs false
/-- the document's members in a row -/
def rmC (m : Mb) : List Value := fcs [.c (str m.id), .c (.bool m.gone), .c (.int .i64 m.ep), .c (str (lb 32 m.link))]
theorem kP_lt (S : Nat) : kP S < 2 ^ 256 := S8.kP_lt S
theorem sig_lt (S : Nat) (L : List UInt8) : sig S L < 2 ^ (256 + 256) := S8.sig_lt S L
theorem own_back {V S X : Nat} {L : List UInt8} (hV : V = kP S) (hX : X = sig S L) : vfy V L X = 0 := by rw [hV, hX]; exact S8.sign_back S L
theorem MbR.nil (W : World) : MbR nSl [] W := ⟨rr_nil 35 W, fun y hy => by cases hy⟩
/-- Seal of nobody, without an epoch ahead -/
theorem sSeal0_c {p S : Nat} {vt vl vs : Value} (w : World) (h_ : SH (SH.feet (suL p S .nil [] [] vt vl vs ++ [gx, mbT nSl []])) w w (suL p S .nil [] [] vt vl vs ++ [gx, mbT nSl []])) :
  Calls Tryz.prog 20 #[.pointer (some ⟨p, 0, none⟩), nSl] w fun e w' => ∃ y : Value × Value × Value, e = .returned (.agg (sgF ⟨0, sE, sig S (sTx 0 sE)⟩)) ∧ SH (SH.feet (suL p S .nil [] [] vt vl vs ++ [gx, mbT nSl []])) w w' (suL p S .nil [⟨0, sE, sig S (sTx 0 sE)⟩] [eS (sTx 0 sE)] y.1 y.2.1 y.2.2 ++ [gx, mbT nSl []]) :=
 sSeal_c (ms := []) (by simp) (by simp) (by simp) w h_
attribute [local irreducible] eI be8 hs4 lb kTx vTx sTx eS rs ofT sE sL sN S8.sig S8.vfy S8.kP S8.kN S8.kD

theorem zer_custumalref23_Member : zer Tryz.prog 27 = some (some (agF [.c (str []), .c (.bool false), .c (.int .i64 0), .c (str [])])) := by kernel_rfl
theorem plc_custumalref23_Member : plc Tryz.prog 27 = some [(0, 1), (1, 1), (2, 1), (3, 1)] := by kernel_rfl
theorem supers_c (w : World) (hX : GX w) :
  Calls Tryz.prog 10 #[] w fun e w' => Ret (.bool true) w w' e := by
 have hS := SH.nil [] w
 have hS := hS.entp (gx_holds hX)
 go_enter Tryz.func10, Tryz.ntmps10
 go_upto_region 1 with fail
 refine RL hS ?_
 clear hS
 refine MW ?_ (v := .agg (arrK .u8 32 (byt 1))) (hv := by intro W; kernel_rfl)
 refine ME (V := fun p => .pointer (some ⟨p, 0, none⟩)) (fun W hS => ncall hS (sNew0_c 1 W) (fun _ => ⟨rfl, rfl⟩)) ?_
 intro p1
 refine MT (fun W hS => ((hS.rnil 23 32 rfl).rnil 47 97 rfl).fact (TA.holds (show TA _ .nil nlp from rfl)) rfl) ?_
 refine MV ?_
 refine MZ fun W hS => ?_
 go_upto_region 2 with fail
 refine RL hS ?_
 clear hS
 refine MV ?_
 refine MT (fun W hS => hS.addp (mbT_holds (MbR.nil W)) (fun k hk => by cases hk)) ?_
 refine ME (V := fun _ => .agg (sgF ⟨0, sE, sig 1 (sTx 0 sE)⟩)) (fun W hS => callT [4, 2, 3, 1, 5, 0] [] hS (fun hT => sSeal0_c W hT) (fun _ => ⟨.inr (.inl ⟨rfl, rfl⟩), .inr (.inl ⟨rfl, rfl⟩), .inr (.inl ⟨rfl, rfl⟩), .inr (.inr ⟨_, _, rfl, rfl⟩), .inl (by simp), .inl (by simp), trivial⟩)) ?_
 rintro ⟨vt2, vl2, vs2⟩
 dsimp only
 refine MFact (fun W hS => Row.form (ls := [⟨0, sE, sig 1 (sTx 0 sE)⟩]) (f := sgC) (hS.row (i := 1) rfl)) ?_
 rintro ⟨A_3, c_3, rfl⟩
 refine MN (z := agF [.c (.int .i64 0), .a 32 0, .a 64 0]) (t := 47) ?_
 intro p2_4
 refine MR 0 ?_ (hz := by rw [agF_size]; kernel_rfl) (hs := by first | (rw [agF_size, agF_size]; rfl) | rfl) (h1 := by exact (agF_one ⟨rfl, trivial⟩))
 refine MZ fun W hS => ?_
 go_upto_region 3 with fail
 refine RTh (.q 0 (.q 1 (.q 2 (.q 3 (.q 4 (.q 5 (.e 6 (.q 7 (.q 8 (.q 9 (.q 10 (.q 12 (.e 11 (.e 13 (.q 14 (.q 15 (.q 16 (.q 17 (.e 18 (.q 19 (.q 20 (.q 21 .z)))))))))))))))))))))) hS ?_
 clear hS
 refine TV ?_
 refine TG 0 ?_ (v := .int .i64 0) (hj := (agF_cel (off := 0) 0))
 refine TW ?_ (v := .bool true)
 refine TW ?_ (v := .bool true)
 refine TV ?_
 refine Tk 0 ?_ (sub := arrK .u8 32 (byt sE)) (hs := (agF_arr (off := 1) 1))
 refine TE (fun _ h => h) ?_
 refine MC (v := .agg (arrK .u8 32 (byt sE))) (fun W hS => empty_c W (hS.pp (i := 5) rfl : GX W).gt) ?_
 refine TNh (fun W hS => hS) ?_
 refine TW ?_ (v := .bool true) (hv := fun _ => run_eqlA ((fun w => eqS32 rfl w) _) (by kernel_rfl) rfl rfl rfl)
 refine TW ?_ (v := .bool true)
 refine TW ?_ (v := .bool true)
 refine TV ?_
 refine TL 0 ?_ (hs := by rw [agF_size]; kernel_rfl)
 refine TE (fun _ h => h) ?_
 refine MC (v := .agg (arrK .u8 32 (byt (kP 1)))) (fun W hS => sPublic_c W (hS.blk (i := 1) rfl) (hS.pp (i := 5) rfl : GX W)) ?_
 refine TNh (fun W hS => hS) ?_
 refine TE (fun _ h => h) ?_
 refine MC (v := .int .i64 ((0 : Nat) : Int)) (fun W hS => (by have h_ := sCheck_c (V := kP 1) (x := ⟨0, sE, sig 1 (sTx 0 sE)⟩) (kP_lt _) (sig_lt _ _) W (hS.pp (i := 5) rfl : GX W); rw [own_back rfl rfl] at h_; exact h_)) ?_
 refine TNh (fun W hS => hS) ?_
 refine TW ?_ (v := .bool true)
 refine TW ?_ (v := .bool true)
 refine TW ?_ (v := .bool true)
 refine TV ?_
 refine TE (fun _ h => h) ?_
 refine MC (v := .int .i64 ([⟨0, sE, sig 1 (sTx 0 sE)⟩].length : Int)) (fun W hS => sEpochs_c W (hS.blk (i := 1) rfl)) ?_
 refine TNh (fun W hS => hS) ?_
 refine TV ?_
 refine TV ?_
 refine TV ?_
 refine TZ (fun _ h => h) fun W hS => ?_
 go_wp2
 exact bodyPost_ret (v := .bool true) (by simp only [results, Tryz.results10]; go_simp) rfl ⟨rfl, hS.ext⟩
theorem take_snoc {α β : Type} {l : List α} {i : Nat} {x : α} (h : l[i]? = some x) (f : α → β) : List.map f (l.take (i + 1)) = List.map f (l.take i) ++ [f x] := by rw [List.take_add_one, h, List.map_append]; rfl
theorem from_c {ms : List Mb} {v : Value} (hn : ms.length ≤ 1000) (w : World) (hp : RR 35 w v (ms.map mbC)) (hk : mbK ms w) :
  Calls Tryz.prog 7 #[v] w fun e w' => ∃ u, e = .returned u ∧ SH [] w w' [.r 27 4 u (ms.map rmC)] := by
 obtain ⟨Ap, cp, rfl, hlc_p, HRp⟩ := RR.opf hp
 have hS := SH.nil [] w
 go_enter Tryz.func7, Tryz.ntmps7
 have hS := hS.rnil 27 4 rfl
 go_wp2_with fail
 go_loopw [3, 4] (fun uv ii wr => ∃ (i : Nat) (sv : Value), (i ≤ ms.length) ∧ (sv = uv) ∧ (ii = .int .i64 (i : Int)) ∧ SH [] w wr [.r 27 4 sv (List.map rmC (List.take i ms))])
  (fun uv ii _ => ms.length - (intOf ii).toNat)
 case atStart => exact ⟨0, _, Nat.zero_le _, rfl, rfl, hS⟩
 clear hS
 case round =>
  obtain ⟨i, sv, hi, rfl, rfl, hS⟩ := hrel
  by_cases hlt : i < ms.length
  ·
   have _f := hlt
   obtain ⟨y, yh⟩ : ∃ x, ms[i]? = some x := ⟨_, List.getElem?_eq_getElem hlt⟩
   obtain ⟨gp, op, A0p, _⟩ := HRp.out i y yh
   have HAp := Lib.hid A0p
   clear A0p
   have hid := (hk y (List.mem_of_getElem? yh)).1
   have hidl := (hk y (List.mem_of_getElem? yh)).2
   have huc := sl_cells hid
   go_upto_region 3 with fail
   refine RL hS ?_
   clear hS
   refine MV ?_
   refine MV ?_
   refine MV ?_
   refine MW ?_ (v := .bool true)
   refine MZ fun W hS => ?_
   go_upto_region 5 with fail
   refine RTp [] (.q 0 (.q 1 (.q 2 (.q 3 (.q 4 (.q 5 (.q 6 (.q 7 (.q 8 (.q 9 (.q 10 (.q 11 (.q 12 (.q 13 (.q 14 (.q 15 (.q 16 (.q 17 (.q 18 (.q 19 (.q 20 (.q 21 (.q 22 (.q 23 (.e 24 (.e 25 (.q 26 .z))))))))))))))))))))))))))) hS ?_
   clear hS
   refine TV ?_
   refine TV ?_
   refine TV ?_
   refine TW ?_ (v := .pointer (some ⟨gp, op + i * 35, none⟩)) (hv := fun _ => run_ixRA HAp.out hlt rfl rfl rfl Tryz.underlying30 (by kernel_rfl))
   refine TW ?_ (v := .pointer (some ⟨gp, op + i * 35, none⟩))
   refine TF (v := y.u) rfl (fun W hS => run_at rfl rfl ((mb_at (hp.ext hS.ext) yh HAp.out) 0 y.u (show (agF [.c y.u, .c (.bool y.gone), .c (.int .i64 y.ep), .a 32 y.link])[0]? = some y.u from (agF_cel (off := 0) 0))) (by kernel_rfl)) ?_
   refine TF (v := str y.id) rfl (fun W hS => run_cvs (sl_e hid hS.ext) rfl rfl) ?_
   refine TV ?_
   refine TV ?_
   refine TW ?_ (v := .pointer (some ⟨gp, op + i * 35, none⟩)) (hv := fun _ => run_ixRA HAp.out hlt rfl rfl rfl Tryz.underlying30 (by kernel_rfl))
   refine TW ?_ (v := .pointer (some ⟨gp, op + i * 35 + 1, none⟩))
   refine TF (v := .bool y.gone) rfl (fun W hS => run_at rfl rfl ((mb_at (hp.ext hS.ext) yh HAp.out) 1 (.bool y.gone) (show (agF [.c y.u, .c (.bool y.gone), .c (.int .i64 y.ep), .a 32 y.link])[1]? = some (.bool y.gone) from (agF_cel (off := 1) 1))) (by kernel_rfl)) ?_
   refine TV ?_
   refine TV ?_
   refine TW ?_ (v := .pointer (some ⟨gp, op + i * 35, none⟩)) (hv := fun _ => run_ixRA HAp.out hlt rfl rfl rfl Tryz.underlying30 (by kernel_rfl))
   refine TW ?_ (v := .pointer (some ⟨gp, op + i * 35 + 2, none⟩))
   refine TF (v := .int .i64 y.ep) rfl (fun W hS => run_at rfl rfl ((mb_at (hp.ext hS.ext) yh HAp.out) 2 (.int .i64 y.ep) (show (agF [.c y.u, .c (.bool y.gone), .c (.int .i64 y.ep), .a 32 y.link])[2]? = some (.int .i64 y.ep) from (agF_cel (off := 2) 2))) (by kernel_rfl)) ?_
   refine TV ?_
   refine TV ?_
   refine TW ?_ (v := .pointer (some ⟨gp, op + i * 35, none⟩)) (hv := fun _ => run_ixRA HAp.out hlt rfl rfl rfl Tryz.underlying30 (by kernel_rfl))
   refine TW ?_ (v := .pointer (some ⟨gp, op + i * 35 + 3, none⟩))
   refine TW ?_ (v := .slice (some ⟨gp, op + i * 35 + 3, none⟩) 32 32)
   refine TF (v := str (lb 32 y.link)) rfl (fun W hS => run_cvs (sl_c32 (fun i_ v_ h_ => by rw [Nat.add_assoc]; exact (mb_at (hp.ext hS.ext) yh HAp.out) (3 + i_) v_ ((show ∀ j v, (arrK .u8 32 (byt y.link))[j]? = some v → (agF [.c y.u, .c (.bool y.gone), .c (.int .i64 y.ep), .a 32 y.link])[3 + j]? = some v from (agF_arr (off := 3) 3)) i_ v_ (by rw [← Array.getElem?_toList]; exact h_)))) rfl rfl) ?_
   refine TF (v := .agg (agF [.c (str y.id), .c (.bool y.gone), .c (.int .i64 y.ep), .c (str (lb 32 y.link))])) rfl (fun W hS => run_bld rfl rfl zer_custumalref23_Member plc_custumalref23_Member (fill_c (fill_c (fill_c (fill_c fill_n (l' := [.c (str y.id), .c (.bool y.gone), .c (.int .i64 y.ep), .c (str (lb 32 y.link))]) (m := [.c (str (lb 32 y.link))]) (hv := rfl) (hs := agF_setp (off := 3) 3 1) (hp := rfl) (hn := rfl) (hb := by show 3 + 1 ≤ 4; decide)) (l' := [.c (str y.id), .c (.bool y.gone), .c (.int .i64 y.ep), .c (str [])]) (m := [.c (.int .i64 y.ep)]) (hv := rfl) (hs := agF_setp (off := 2) 2 1) (hp := rfl) (hn := rfl) (hb := by show 2 + 1 ≤ 4; decide)) (l' := [.c (str y.id), .c (.bool y.gone), .c (.int .i64 0), .c (str [])]) (m := [.c (.bool y.gone)]) (hv := rfl) (hs := agF_setp (off := 1) 1 1) (hp := rfl) (hn := rfl) (hb := by show 1 + 1 ≤ 4; decide)) (l' := [.c (str y.id), .c (.bool false), .c (.int .i64 0), .c (str [])]) (m := [.c (str y.id)]) (hv := rfl) (hs := agF_setp (off := 0) 0 1) (hp := rfl) (hn := rfl) (hb := by show 0 + 1 ≤ 4; decide))) ?_
   refine TE (fun _ h => h.pick []) ?_
   refine MB (z := (agF [.c (str y.id), .c (.bool y.gone), .c (.int .i64 y.ep), .c (str (lb 32 y.link))])) (t := 27) (n := 1) (c := 1) ?_ (hr := fun W _ => run_bsA rfl rfl rfl Tryz.underlying28 (by rw [agF_size]; kernel_rfl) (by rw [agF_size]; kernel_rfl) (by rw [agF_size]; exact Nat.le_of_ble_eq_true (by kernel_rfl)) (by rw [agF_size]; exact Nat.le_of_ble_eq_true (by kernel_rfl)))
   intro p35_1
   refine TNp [0] [] ?_
   refine TE (fun _ h => h.pick [0]) ?_
   refine MAr 1 0 (tS := 28) (bytes := 48) (es := (List.map rmC (List.take i ms))) (by first | omega | (simp only [List.length_append, List.length_map, List.length_take, List.length_drop, List.length_cons, List.length_nil, lb_length, eI_len, kTx_len, sTx_len]; omega)) (e := rmC y) (hk := by rw [agF_size]; kernel_rfl) (h1 := by exact (agF_one ⟨rfl, rfl, rfl, rfl, trivial⟩)) (cs := (agF [.c (str y.id), .c (.bool y.gone), .c (.int .i64 y.ep), .c (str (lb 32 y.link))])) ?_
   intro v36_2
   refine TNp [0, 1] [0] ?_
   refine TV ?_
   refine TZ (fun _ h => h) fun W hS => ?_
   go_wp2
   go_roundw
   case rel => exact ⟨i + 1, v36_2, by omega, rfl, by go_num, (by rw [take_snoc yh rmC]; exact (hS.pick [1]))⟩
   case measure => simp [intOf]; omega
  ·
   have _f := hlt
   obtain rfl : i = ms.length := by omega
   rw [List.take_length] at hS
   go_upto_region 3 with fail
   refine RL hS ?_
   clear hS
   refine MV ?_
   refine MV ?_
   refine MV ?_
   refine MW ?_ (v := .bool false)
   refine MZ fun W hS => ?_
   go_wp2
   exact bodyPost_ret (v := sv) (by simp only [results, Tryz.results7]; go_simp) rfl ⟨_, rfl, hS.pick [0]⟩
end Go.Proofs.YtejkmhgkkibafaaGreatDoor

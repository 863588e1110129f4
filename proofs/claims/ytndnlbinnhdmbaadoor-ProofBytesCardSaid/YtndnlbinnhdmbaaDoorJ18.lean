/- The sums beside a key's way. Conditions: the tables hold their numbers; the tree is not too large. The document's sums beside a key's way. Conditions: keys and values have 256 bits; the tables hold their numbers. Proofs, the plain law: what is summed up on a way; what is proved is taken; two proofs that say unlike things bear two texts of one sum. No conditions. TreeGets. Conditions: keys and values have 256 bits; the tables hold their numbers. -/
import Derived.Test.YtndnlbinnhdmbaaDoorJ17
import Derived.Test.YtndnlbinnhdmbaaDoorJ8
set_option linter.unusedSimpArgs false
set_option linter.unusedVariables false
namespace Go.Proofs.YtndnlbinnhdmbaaDoor
set_option maxHeartbeats 3000000
set_option maxRecDepth 100000
open Go.RowKit
attribute [local irreducible] wpList wpTr wpX
set_option linter.unusedSimpArgs false
/-- the sums beside the way -/
def bsd : TR → Nat → Nat → List Nat
 | .node _ l r, k, d => if kb k d = 0 then rs r :: bsd l k (d + 1) else rs l :: bsd r k (d + 1)
 | _, _, _ => []
theorem bsd_len : ∀ (T : TR) (k d : Nat), (bsd T k d).length = (wayN T k d).length
 | .nil, _, _ => rfl
 | .leaf _ _, _, _ => rfl
 | .node e l r, k, d => by
  show (if kb k d = 0 then rs r :: bsd l k (d + 1) else rs l :: bsd r k (d + 1)).length = (_ :: (if kb k d = 0 then wayN l k (d + 1) else wayN r k (d + 1))).length
  split
  ·
   simp [bsd_len l k (d + 1)]
  ·
   simp [bsd_len r k (d + 1)]
theorem bsd_at : ∀ {T : TR} {k d j : Nat} {T' : TR}, (wayN T k d)[j]? = some T' → ∃ e l r, T' = .node e l r ∧ (bsd T k d)[j]? = some (if kb k (d + j) = 0 then rs r else rs l)
 | .nil, _, _, _, _, h => by simp [wayN] at h
 | .leaf _ _, _, _, _, _, h => by simp [wayN] at h
 | .node e l r, k, d, 0, T', h => by
  have h : some (TR.node e l r) = some T' := h
  refine ⟨e, l, r, (Option.some.inj h).symm, ?_⟩
  show (if kb k d = 0 then rs r :: bsd l k (d + 1) else rs l :: bsd r k (d + 1))[0]? = some (if kb k d = 0 then rs r else rs l)
  split <;> rfl
 | .node e l r, k, d, j + 1, T', h => by
  have h : (if kb k d = 0 then wayN l k (d + 1) else wayN r k (d + 1))[j]? = some T' := h
  show ∃ e' l' r', T' = TR.node e' l' r' ∧ (if kb k d = 0 then rs r :: bsd l k (d + 1) else rs l :: bsd r k (d + 1))[j + 1]? = _
  split at h
  ·
   rename_i hb
   rw [if_pos hb]
   obtain ⟨e', l', r', h1, h2⟩ := bsd_at h
   exact ⟨e', l', r', h1, by rw [show d + (j + 1) = d + 1 + j by omega]; exact h2⟩
  ·
   rename_i hb
   rw [if_neg hb]
   obtain ⟨e', l', r', h1, h2⟩ := bsd_at h
   exact ⟨e', l', r', h1, by rw [show d + (j + 1) = d + 1 + j by omega]; exact h2⟩
abbrev b32l (x : Nat) : List Value := (arrK .u8 32 (byt x)).toList
theorem bt_take {bs : List Nat} {i : Nat} {x : Nat} (h : bs[i]? = some x) : List.map b32l (bs.take i) ++ [b32l x] = List.map b32l (bs.take (i + 1)) := by rw [List.take_add_one, h, List.map_append]; rfl
attribute [local irreducible] hs4 sE sL sN

/-- what Beside tells of the end -/
def endR (E : TR) : Nat × Nat × Bool := match E with
 | .leaf a x => (a, x, true)
 | _ => (0, 0, false)
theorem beside_c {q : Prop} {T : TR} {u : Value} {k : Nat} (hzT : tsz T ≤ 1099511627775) (w : World) (hG : GT q w) (h : TA w T u) :
  Calls Tryd.prog 35 #[u, .agg (arrK .u8 32 (byt k))] w fun e w' => ∃ v, e = .returned (.tuple #[v, .agg (lf (endR (wayE T k 0)).1 (endR (wayE T k 0)).2.1), .bool (endR (wayE T k 0)).2.2]) ∧ SH [] w w' [.r 22 32 v ((bsd T k 0).map b32l)] := by
 have hS := SH.nil [] w
 go_enter Tryd.func35, Tryd.ntmps35
 go_upto_region 0 with fail
 refine RL hS ?_
 clear hS
 refine MN (z := arrK .u8 32 (byt k)) (t := 28) ?_
 intro p3_1
 refine MV ?_
 refine MN (z := lf 0 0) (t := 30) ?_
 intro p5_2
 refine MW ?_ (v := .bool false)
 refine MZ fun W hS => ?_
 go_upto_region 1 with fail
 refine RL hS ?_
 clear hS
 refine MV ?_
 refine ML 1 ?_
 refine ME (V := fun p : WP w T k => .tuple #[p.v, p.u]) (fun W hS => wcall hS (way_c w W hS.ext hzT h) rfl) ?_
 rintro ⟨nv, nu, us, hTe, hul, hus⟩
 dsimp only
 refine MV ?_
 refine MV ?_
 refine MV ?_
 refine MV ?_
 refine MV ?_
 refine MZ fun W hS => ?_
 go_upto_region 2 with fail
 refine RL hS ?_
 clear hS
 refine MV ?_
 refine MF (v := .int .i64 ((List.map one1 us).length : Int)) (fun W hS => run_lenR (hS.row (i := 0) rfl) rfl rfl Tryd.underlying107) ?_
 refine MW ?_ (v := .int .i64 0)
 refine MZ fun W hS => ?_
 have hle_ := us_le hul hzT
 have hS := hS.rnil 22 32 rfl
 go_wp2_with fail
 go_loopw [4, 9, 10, 19] (fun uu x1 x2 ii wr => ∃ (i : Nat) (sv : Value), (i ≤ us.length) ∧ (sv = uu) ∧ (ii = .int .i64 (i : Int)) ∧ SH [] w wr [.r 22 32 sv (List.map b32l (List.take i (bsd T k 0))), .r 42 1 nv (List.map one1 us), .b p5_2 (lf 0 0) 30, .b p3_1 (arrK .u8 32 (byt k)) 28])
  (fun uu x1 x2 ii _ => us.length - (intOf ii).toNat)
 case atStart => exact ⟨0, _, Nat.zero_le _, rfl, rfl, hS⟩
 clear hS
 case round =>
  obtain ⟨i, sv, hi, rfl, rfl, hS⟩ := hrel
  by_cases hlt : i < us.length
  ·
   have _f := hlt
   obtain ⟨y, yh⟩ : ∃ y, us[i]? = some y := ⟨_, List.getElem?_eq_getElem hlt⟩
   obtain ⟨T1, hT1, hTA⟩ := hus i y yh
   obtain ⟨e0, l, r, rfl, hb1⟩ := bsd_at hT1
   obtain ⟨b, s0, s1, rfl, hB, hl, hr⟩ := hTA
   obtain ⟨p0, rfl⟩ := hl.pt
   obtain ⟨p1, rfl⟩ := hr.pt
   rw [Nat.zero_add] at hb1
   go_upto_region 3 with fail
   refine RL hS ?_
   clear hS
   refine MW ?_ (v := .bool true)
   refine MZ fun W hS => ?_
   go_upto_region 4 with fail
   refine RL hS ?_
   clear hS
   refine MV ?_
   refine MI 1 i (e := (one1 (ptr b))) (by rw [List.getElem?_map, yh]; rfl) ?_
   intro gb22_3 _ hv22_3
   refine MF (v := .pointer (some ⟨b, 0, none⟩)) (fun W hS => run_at rfl rfl (row_cell (hS.row (i := 1) rfl) hv22_3.out (by rw [List.getElem?_map, yh]; rfl) 0 _ (rfl)) (by kernel_rfl)) ?_
   refine MV ?_
   refine MV ?_
   refine MZ fun W hS => ?_
   rcases kb_01 k i with hb | hb
   ·
    have _f := True.intro
    have hb2 : (bsd T k 0)[i]? = some (rs r) := by rw [hb1, if_pos hb]
    go_upto_region 5 with fail
    refine RTp [1, 2, 3] (.q 0 (.q 1 (.q 2 (.q 3 (.q 6 (.q 7 (.e 4 (.q 5 (.q 8 (.q 9 (.e 10 (.e 11 (.e 12 (.q 13 .z)))))))))))))) hS ?_
    clear hS
    refine TV ?_
    refine TV ?_
    refine TL 2 ?_
    refine TV ?_
    refine TV ?_
    refine TV ?_
    refine TE (fun _ h => h.pick [1, 2, 3]) ?_
    refine MC (v := .int .i64 0) (fun W hS => (by have h_ := bit_c k i (by omega) W; rw [hb] at h_; exact h_)) ?_
    refine TNp [1, 2, 3] [0, 1, 2] ?_
    refine TW ?_ (v := .int .i64 1)
    refine TW ?_ (v := .pointer (some ⟨b, 65, none⟩)) (hv := fun _ => run_ixarrn (m := 2) (k := 1) (j := 1) (off := 64) (by decide) Tryd.underlying103 (by kernel_rfl) rfl rfl rfl)
    refine TF (v := .pointer p1) rfl (fun W hS => run_at rfl rfl (by rw [blk_cell (blk_step hB hS.ext)]; exact nd_s1) (by kernel_rfl)) ?_
    refine TE (fun _ h => h.pick [1, 2, 3]) ?_
    obtain ⟨U1, hU1⟩ := exn (rs r)
    have HU1 := Lib.hid hU1
    clear hU1
    refine MC (v := .agg (arrK .u8 32 (byt U1))) (fun W hS => (by rw [HU1.out]; exact root_c W (GT_ext hG hS.ext) (TA.ext hr hS.ext))) ?_
    refine TNp [1, 2, 3] [0, 1, 2] ?_
    refine TE (fun _ h => h.pick [1, 2, 3]) ?_
    refine MB (z := (arrK .u8 32 (byt U1))) (t := 22) (n := 1) (c := 1) ?_ (hr := fun W _ => run_bsA rfl rfl rfl Tryd.underlying58 (by rw [arrK_size]; kernel_rfl) (by rw [arrK_size]; kernel_rfl) (by rw [arrK_size]; decide) (by rw [arrK_size]; decide))
    intro p35_4
    refine TNp [0, 2, 3, 4] [1, 2, 3] ?_
    refine TE (fun _ h => h.pick [0, 2, 3, 4]) ?_
    refine MAr 1 0 (tS := 58) (bytes := 32) (es := (List.map b32l (List.take i (bsd T k 0)))) (by first | omega | (simp only [List.length_append, List.length_map, List.length_take, List.length_drop, List.length_reverse, List.length_cons, List.length_nil]; omega)) (e := b32l U1) (hk := arrK_size _ _ _) (h1 := arrK_one _ _ _) ?_
    intro v36_5
    refine TNp [0, 1, 2, 3, 4] [0, 2, 3, 4] ?_
    refine TV ?_
    refine TZ (fun _ h => h) fun W hS => ?_
    go_wp2
    go_roundw
    case rel => exact ⟨i + 1, v36_5, by omega, rfl, by go_num, (by have e_ := HU1.out; subst e_; rw [← bt_take hb2]; exact (hS.pick [1, 2, 3, 4]))⟩
    case measure => simp [intOf]; omega
   ·
    have _f := True.intro
    have hb2 : (bsd T k 0)[i]? = some (rs l) := by rw [hb1, if_neg (by rw [hb]; decide)]
    go_upto_region 5 with fail
    refine RTp [1, 2, 3] (.q 0 (.q 1 (.q 2 (.q 3 (.q 6 (.q 7 (.e 4 (.q 5 (.q 8 (.q 9 (.e 10 (.e 11 (.e 12 (.q 13 .z)))))))))))))) hS ?_
    clear hS
    refine TV ?_
    refine TV ?_
    refine TL 2 ?_
    refine TV ?_
    refine TV ?_
    refine TV ?_
    refine TE (fun _ h => h.pick [1, 2, 3]) ?_
    refine MC (v := .int .i64 1) (fun W hS => (by have h_ := bit_c k i (by omega) W; rw [hb] at h_; exact h_)) ?_
    refine TNp [1, 2, 3] [0, 1, 2] ?_
    refine TW ?_ (v := .int .i64 0)
    refine TW ?_ (v := .pointer (some ⟨b, 64, none⟩)) (hv := fun _ => run_ixarrn (m := 2) (k := 1) (j := 0) (off := 64) (by decide) Tryd.underlying103 (by kernel_rfl) rfl rfl rfl)
    refine TF (v := .pointer p0) rfl (fun W hS => run_at rfl rfl (by rw [blk_cell (blk_step hB hS.ext)]; exact nd_s0) (by kernel_rfl)) ?_
    refine TE (fun _ h => h.pick [1, 2, 3]) ?_
    obtain ⟨U1, hU1⟩ := exn (rs l)
    have HU1 := Lib.hid hU1
    clear hU1
    refine MC (v := .agg (arrK .u8 32 (byt U1))) (fun W hS => (by rw [HU1.out]; exact root_c W (GT_ext hG hS.ext) (TA.ext hl hS.ext))) ?_
    refine TNp [1, 2, 3] [0, 1, 2] ?_
    refine TE (fun _ h => h.pick [1, 2, 3]) ?_
    refine MB (z := (arrK .u8 32 (byt U1))) (t := 22) (n := 1) (c := 1) ?_ (hr := fun W _ => run_bsA rfl rfl rfl Tryd.underlying58 (by rw [arrK_size]; kernel_rfl) (by rw [arrK_size]; kernel_rfl) (by rw [arrK_size]; decide) (by rw [arrK_size]; decide))
    intro p35_6
    refine TNp [0, 2, 3, 4] [1, 2, 3] ?_
    refine TE (fun _ h => h.pick [0, 2, 3, 4]) ?_
    refine MAr 1 0 (tS := 58) (bytes := 32) (es := (List.map b32l (List.take i (bsd T k 0)))) (by first | omega | (simp only [List.length_append, List.length_map, List.length_take, List.length_drop, List.length_reverse, List.length_cons, List.length_nil]; omega)) (e := b32l U1) (hk := arrK_size _ _ _) (h1 := arrK_one _ _ _) ?_
    intro v36_7
    refine TNp [0, 1, 2, 3, 4] [0, 2, 3, 4] ?_
    refine TV ?_
    refine TZ (fun _ h => h) fun W hS => ?_
    go_wp2
    go_roundw
    case rel => exact ⟨i + 1, v36_7, by omega, rfl, by go_num, (by have e_ := HU1.out; subst e_; rw [← bt_take hb2]; exact (hS.pick [1, 2, 3, 4]))⟩
    case measure => simp [intOf]; omega
  ·
   have _f := hlt
   obtain rfl : i = us.length := by omega
   rw [hul, ← bsd_len T k 0, List.take_length] at hS
   go_upto_region 3 with fail
   refine RL hS ?_
   clear hS
   refine MW ?_ (v := .bool false)
   refine MZ fun W hS => ?_
   rcases wayE_or T k 0 with he | ⟨a, x, he⟩
   ·
    have _f := True.intro
    rw [he] at hTe
    obtain rfl : _ = nlp := hTe
    go_upto_region 8 with fail
    refine RL hS ?_
    clear hS
    refine MV ?_
    refine MW ?_ (v := .agg (lf 0 0)) (hv := by intro W; first | rfl | kernel_rfl)
    refine MV ?_
    refine MR 2 ?_ (hz := by rw [lf_size]; kernel_rfl) (hs := by first | rw [lf_size, lf_size] | rw [lf_size] | kernel_rfl) (h1 := lf_one)
    refine MW ?_ (v := .bool false)
    refine MZ fun W hS => ?_
    go_wp2
    exact bodyPost_ret (res_m3 rfl rfl rfl rfl (hS.blk (i := 2) rfl) (by kernel_rfl) (by rw [lf_size]; kernel_rfl)) rfl ⟨_, by rw [he]; rfl, hS.pick [0]⟩
   ·
    have _f := True.intro
    rw [he] at hTe
    obtain ⟨b1, rfl, hB1, ha, hx⟩ := hTe
    go_upto_region 9 with fail
    refine RTp [0, 1, 3] (.q 0 (.q 1 (.q 2 (.q 3 (.q 4 (.q 5 (.e 6 (.q 7 .z)))))))) hS ?_
    clear hS
    refine TV ?_
    refine TV ?_
    refine TV ?_
    refine TV ?_
    refine TF (v := .agg (lf a x)) rfl (fun W hS => run_atsub rfl rfl (fun i v hv => by rw [blk_cell (blk_step hB1 hS.ext)]; exact nd_leaf i v hv) (by kernel_rfl) (by first | kernel_rfl | (rw [lf_size]; kernel_rfl))) ?_
    refine TV ?_
    refine TE (fun _ h => h.pick [0, 1, 3]) ?_
    refine MR 2 ?_ (hz := by rw [lf_size]; kernel_rfl) (hs := by first | rw [lf_size, lf_size] | rw [lf_size] | kernel_rfl) (h1 := lf_one)
    refine TNp [0, 1, 3] [0, 1, 2] ?_
    refine TW ?_ (v := .bool true)
    refine TZ (fun _ h => h.pick [0, 1, 3]) fun W hS => ?_
    go_wp2
    exact bodyPost_ret (res_m3 rfl rfl rfl rfl (hS.blk (i := 2) rfl) (by kernel_rfl) (by rw [lf_size]; kernel_rfl)) rfl ⟨_, by rw [he]; rfl, hS.pick [0]⟩
end Go.Proofs.YtndnlbinnhdmbaaDoor

set_option linter.unusedSimpArgs false
set_option linter.unusedVariables false
namespace Go.Proofs.YtndnlbinnhdmbaaDoor
set_option maxHeartbeats 3000000
set_option maxRecDepth 100000
open Go.RowKit
attribute [local irreducible] wpList wpTr wpX
set_option linter.unusedSimpArgs false
attribute [local irreducible] hs4 sE sL sN

end Go.Proofs.YtndnlbinnhdmbaaDoor

set_option linter.unusedSimpArgs false
set_option linter.unusedVariables false
namespace Go.Proofs.YtndnlbinnhdmbaaDoor
/-- the text of what a way ends at -/
def tE (th : Bool) (a x : Nat) : List UInt8 := if th then [0] ++ lb 32 a ++ lb 32 x else [2]
/-- the text of a node: of the sum on a side, and the one beside -/
def tN (d : Int) (b s o : Nat) : List UInt8 := if b = 0 then [1] ++ db d ++ lb 32 s ++ lb 32 o else [1] ++ db d ++ lb 32 o ++ lb 32 s
/-- the topmost text of a way from a depth on, with these sums beside it -/
def tT (k : Nat) : List Nat → Nat → List UInt8 → List UInt8
  | [], _, e => e
  | o :: ss, d, e => tN (d : Int) (kb k d) (hs4 (tT k ss (d + 1) e)) o
/-- all texts, from the end to the top -/
def tA (k : Nat) : List Nat → Nat → List UInt8 → List (List UInt8)
  | [], _, e => [e]
  | o :: ss, d, e => tA k ss (d + 1) e ++ [tT k (o :: ss) d e]
theorem tA_len (k : Nat) (e : List UInt8) : ∀ (ss : List Nat) (d : Nat), (tA k ss d e).length = ss.length + 1
  | [], _ => rfl
  | o :: ss, d => by show (tA k ss (d + 1) e ++ [_]).length = _; rw [List.length_append, tA_len k e ss (d + 1)]; rfl
theorem tA_last (k : Nat) (e : List UInt8) : ∀ (ss : List Nat) (d : Nat), (tA k ss d e)[ss.length]? = some (tT k ss d e)
  | [], _ => rfl
  | o :: ss, d => by
    show (tA k ss (d + 1) e ++ [tT k (o :: ss) d e])[ss.length + 1]? = _
    rw [List.getElem?_append_right (by rw [tA_len]; exact Nat.le_refl _), tA_len, Nat.sub_self]; rfl
theorem tE_len (th : Bool) (a x : Nat) : (tE th a x).length ≤ 65 := by unfold tE; split <;> simp [lb_length]
theorem tN_len (d : Int) (b s o : Nat) : (tN d b s o).length = 67 := by unfold tN; split <;> simp [lb_length, dbl]
theorem tT_len (k : Nat) {e : List UInt8} (he : e.length ≤ 65) : ∀ (ss : List Nat) (d : Nat), (tT k ss d e).length ≤ 67
  | [], _ => by show e.length ≤ 67; omega
  | _ :: _, _ => Nat.le_of_eq (tN_len ..)
/-- what Check tells: the value, is there one, the error -/
def chk (R k : Nat) (ss : List Nat) (th : Bool) (a x : Nat) : Nat × Bool × Nat :=
  if 256 < ss.length ∨ th = true ∧ kcom (byt a) (byt k) < ss.length then (0, false, 17)
  else if hs4 (tT k ss 0 (tE th a x)) = R then (if th = true ∧ a = k then (x, true, 0) else (0, false, 0))
  else (0, false, 17)
attribute [local irreducible] hs4 sN sE sL lb
end Go.Proofs.YtndnlbinnhdmbaaDoor

set_option linter.unusedSimpArgs false
set_option linter.unusedVariables false
namespace Go.Proofs.YtndnlbinnhdmbaaDoor
set_option maxHeartbeats 3000000
set_option maxRecDepth 100000
open Go.RowKit
attribute [local irreducible] wpList wpTr wpX
set_option linter.unusedSimpArgs false
/-- a call that leaves one new thing -/
theorem ncall {P : Program} {α : Type} {f : FuncId} {args : Array Value} {F : List Nat} {w W : World} {H : List As} {V : α → Value} {X : α → As} (hS : SH F w W H) (hc : Calls P f args W fun e W' => ∃ x, e = .returned (V x) ∧ SH [] W W' [X x]) (ht : ∀ x, (X x).mv = true ∧ H.all (SH.tyOk (X x)) = true) :
  Calls P f args W fun e W' => ∃ x, e = .returned (V x) ∧ SH F w W' (X x :: H) :=
 hc.mono fun e W' ⟨x, h1, h2⟩ => ⟨x, h1, SH.frame (L := []) (L' := [X x]) (R := H) hS h2 ⟨.inr (ht x), trivial⟩⟩
/-- 32 bytes that lie as an element of a row -/
theorem sl_c32 {W : World} {g o s : Nat} (h : ∀ i v, (b32l s)[i]? = some v → W.cell? ⟨g, o + i, none⟩ = some v) : Sl W (.slice (some ⟨g, o, none⟩) 32 32) (lb 32 s) := by
 refine ⟨some ⟨g, o, none⟩, 32, by rw [lb_length], by rw [lb_length]; decide, by decide, fun h => (by cases h), fun j x hj => ⟨_, rfl, ?_⟩⟩
 have hj2 : j < 32 := by have := (List.getElem?_eq_some_iff.1 hj).1; rwa [lb_length] at this
 rw [lb_get hj2] at hj
 have := Option.some.inj hj
 subst this
 rw [lb_byt, Addr.add_mid]
 exact h j _ (by unfold b32l; rw [Array.getElem?_toList]; exact arrK_get _ _ _ _ hj2)
attribute [local irreducible] hs4 sE sL sN

end Go.Proofs.YtndnlbinnhdmbaaDoor

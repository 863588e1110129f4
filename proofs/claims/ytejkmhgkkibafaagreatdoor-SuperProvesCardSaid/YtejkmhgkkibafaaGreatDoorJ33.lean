/- TreeRoots. Conditions: keys and values have 256 bits; the tables hold their numbers. super: the tree over members; a log's entries; New, Seal, Public, Epochs, Check. Conditions: the tables hold their numbers. Sums and rows of members out of the arguments. No conditions. The way of a key in a tree; a key's value. Conditions: the tree is not too large. Lists of leaves, the plain law: the order in which leaves of unlike keys are put is no matter; a leaf that is there is found. No conditions. A key's value; TreeStays. Conditions: keys and values have 256 bits; the tables hold their numbers. The sums beside a key's way. Conditions: the tables hold their numbers; the tree is not too large. -/
import Derived.Test.YtejkmhgkkibafaaGreatDoorJ32
import Derived.Test.YtejkmhgkkibafaaGreatDoorJ31
import Derived.Test.YtejkmhgkkibafaaGreatDoorJ22
import Derived.Test.YtejkmhgkkibafaaGreatDoorJ28
import Derived.Test.YtejkmhgkkibafaaGreatDoorJ6
set_option linter.unusedSimpArgs false
set_option linter.unusedVariables false
namespace Go.Proofs.YtejkmhgkkibafaaGreatDoor
section
open Go.RowKit
attribute [local irreducible] wpList J0k wpX
theorem V4l {ls : List Lf} (h : ls.length ≤ 1000) : (J2j ls).length ≤ 274877906944 := by have := Q6l ls; omega
theorem V0m {ls : List Lf} (h : ls.length ≤ 1000) : tsz (ofT ls) < 4611686018427387904 := by have := (Q8h ls.length ls).1; rw [List.take_length] at this; omega
theorem V0n {ls : List Lf} (h : ls.length ≤ 1000) : cnt (ofT ls) < 2305843009213693952 := by have := (Q8h ls.length ls).2; rw [List.take_length] at this; omega
theorem Y4i {ls : List Lf} (n : Nat) (h : J2x ls) : J2x (ls.take n) := fun y hy => h y (List.mem_of_mem_take hy)
attribute [local irreducible] hs4 sE sL sN

end

section
set_option maxHeartbeats 3000000
set_option maxRecDepth 100000
open Go.RowKit
attribute [local irreducible] wpList J0k wpX
open S8 (Kn GA kP sig vfy)
theorem Y4m (W : World) (ls : List (Nat × Nat)) : TA W (ofT (List.take 0 ls)) nlp := rfl
def mbC (m : Mb) : List Value := fcs [.c m.u, .c (.bool m.gone), .c (.int .i64 m.ep), .a 32 m.link]
theorem Z31 {ms : List Mb} : ∀ e ∈ ms.map mbC, e.length = 35 := fun e he => by
 obtain ⟨y, _, rfl⟩ := List.mem_map.1 he
 unfold mbC; rw [J54]; rfl
def mbK (ms : List Mb) (W : World) : Prop := ∀ y ∈ ms, Sl W y.u y.id ∧ y.id.length ≤ 100000000
theorem Q5a {W : World} {A : Option Addr} {n c i g o : Nat} {ms : List Mb} {y : Mb} (h : RR 35 W (.slice A n c) (ms.map mbC)) (yh : ms[i]? = some y) (hA : A = some ⟨g, o, none⟩) : ∀ (j : Nat) (v : Value), (mbF y)[j]? = some v → W.cell? ⟨g, o + i * 35 + j, none⟩ = some v := fun j v hv =>
 RR.cellat h (by rw [List.getElem?_map, yh]; rfl) hA j v (by unfold mbC; rw [← Q42, Array.getElem?_toList]; exact hv)
def mkL (m : Mb) : Nat × Nat := (hs4 (kTx m.id), hs4 (vTx m))
abbrev ovT (ms : List Mb) : TR := ofT (ms.map mkL)
theorem Y6q {ms : List Mb} {i : Nat} {y : Mb} (h : ms[i]? = some y) : (ms.map mkL)[i]? = some (mkL y) := by rw [List.getElem?_map, h]; rfl
theorem Q6n (ms : List Mb) : J2x (ms.map mkL) := fun x hx => by
 obtain ⟨y, _, rfl⟩ := List.mem_map.1 hx
 exact ⟨J3n _, J3n _⟩
theorem V0s {q : Prop} {ms : List Mb} {i : Nat} {y : Mb} {u : Value} (h : ms[i]? = some y) (hn : ms.length ≤ 1000) (w : World) (hG : GT q w) (ht : TA w (ofT (List.take i (ms.map mkL))) u) :
  Calls Tryz.prog 87 #[u, .agg (lf (hs4 (kTx y.id)) (hs4 (vTx y)))] w fun e w' => J9k (ofT (List.take (i + 1) (ms.map mkL))) w w' e := by
 have hl : (List.take i (ms.map mkL)).length ≤ 1000 := by rw [List.length_take, List.length_map]; omega
 rw [Z0h (Y6q h)]
 exact V4b (J3n _) (J3n _) (V0m hl) (V0n hl) w hG ht
attribute [local irreducible] eI be8 hs4 lb kTx vTx sTx rs ofT

theorem V0t {q : Prop} {ms : List Mb} {v : Value} (hn : ms.length ≤ 1000) (w : World) (hG : GT q w) (hp : RR 35 w v (ms.map mbC)) (hk : mbK ms w) :
  Calls Tryz.prog 50 #[v] w fun e w' => J9k (ovT ms) w w' e := by
 obtain ⟨Ap, cp, rfl, hlc_p, HRp⟩ := RR.opf hp
 have hS := SH.nil [] w
 go_enter Tryz.func50, Tryz.ntmps50
 go_upto_region 2 with fail
 refine RL hS ?_
 clear hS
 refine MV ?_
 refine MV ?_
 refine MW ?_ (v := .int .i64 0)
 refine MZ fun W hS => ?_
 have hS := hS.fact (TA.holds (Y4m _ (ms.map mkL))) rfl
 go_wp2_with fail
 go_loopw [3, 8] (fun uv ii wr => ∃ (i : Nat) (u : Value), (i ≤ ms.length) ∧ (u = uv) ∧ (ii = .int .i64 (i : Int)) ∧ SH [] w wr [.t 151 (fun W => TA W (ofT (List.take i (ms.map mkL))) u)])
  (fun uv ii _ => ms.length - (intOf ii).toNat)
 case atStart => exact ⟨0, nlp, Nat.zero_le _, rfl, rfl, hS⟩
 clear hS
 case round =>
  obtain ⟨i, u, hi, rfl, rfl, hS⟩ := hrel
  by_cases hlt : i < ms.length
  ·
   have _f := hlt
   obtain ⟨y, yh⟩ : ∃ x, ms[i]? = some x := ⟨_, List.getElem?_eq_getElem hlt⟩
   obtain ⟨gp, op, A0p, _⟩ := HRp.out i y yh
   have HAp := Lib.hid A0p
   clear A0p
   have hid := (hk y (List.mem_of_getElem? yh)).1
   have hidl := (hk y (List.mem_of_getElem? yh)).2
   have huc := V3 hid
   go_upto_region 3 with fail
   refine RL hS ?_
   clear hS
   refine MW ?_ (v := .bool true)
   refine MZ fun W hS => ?_
   go_upto_region 4 with fail
   refine RL hS ?_
   clear hS
   refine MW ?_ (v := .pointer (some ⟨gp, op + i * 35, none⟩)) (hv := fun _ => V0 HAp.out hlt rfl rfl rfl Tryz.underlying30 (by kernel_rfl))
   refine MF (v := .agg (agF [.c y.u, .c (.bool y.gone), .c (.int .i64 y.ep), .a 32 y.link])) (fun W hS => K4 rfl rfl (fun i_ v hv => (Q5a (hp.ext hS.ext) yh HAp.out) i_ v (by simpa using hv)) (by kernel_rfl) (by rw [Q3]; kernel_rfl)) ?_
   refine MN (z := agF [.c (.slice none 0 0), .c (.bool false), .c (.int .i64 0), .a 32 0]) (t := 25) ?_
   intro J5m
   refine MR 0 ?_ (hz := by rw [Q3]; kernel_rfl) (hs := by first | (rw [Q3, Q3]; rfl) | rfl) (h1 := by exact (J27 ⟨huc.2, rfl, rfl, trivial⟩))
   refine MZ fun W hS => ?_
   go_upto_region 5 with fail
   refine RTh (.q 0 (.q 1 (.q 2 (.q 4 (.e 3 (.e 5 (.q 6 (.e 7 (.q 8 .z))))))))) hS ?_
   clear hS
   refine TV ?_
   refine TV ?_
   refine TG 0 ?_ (v := y.u) (hj := (J00 (off := 0) 0))
   refine TL 0 ?_ (hs := by rw [Q3]; kernel_rfl)
   refine TE (fun _ h => h) ?_
   refine MC (v := .agg (J0 .u8 32 (Q5 (hs4 (kTx y.id))))) (fun W hS => Q8m W (V6 hG hS.ext) (Q22 hid hS.ext) (by first | omega | (simp only [List.length_append, List.length_map, List.length_take, List.length_drop, List.length_cons, List.length_nil, Q2, V4, Y4, Y5]; omega))) ?_
   refine TNh (fun W hS => hS) ?_
   refine TE (fun _ h => h) ?_
   refine MC (v := .agg (J0 .u8 32 (Q5 (hs4 (vTx y))))) (fun W hS => Y0z (m := y) W (V6 hG hS.ext) (Q22 hid hS.ext)) ?_
   refine TNh (fun W hS => hS) ?_
   refine TW ?_ (v := .agg (lf (hs4 (kTx y.id)) (hs4 (vTx y)))) (hv := by intro W; first | rfl | kernel_rfl)
   refine TE (fun _ h => h) ?_
   refine ME (fun W hS => J5i (T := (ofT (List.take (i + 1) (ms.map mkL)))) hS (V0s yh hn W (V6 hG hS.ext) (hS.tt (i := 1) rfl)) rfl) ?_
   intro u_tq2
   refine TNh (fun W hS => hS.pick [1, 2]) ?_
   refine TV ?_
   refine TZ (fun _ h => h) fun W hS => ?_
   go_wp2
   go_roundw
   case rel => exact ⟨i + 1, u_tq2, by omega, rfl, by go_num, (hS.pick [0])⟩
   case measure => simp [intOf]; omega
  have _f := hlt
  obtain rfl : i = ms.length := by omega
  rw [List.take_of_length_le (Nat.le_of_eq (List.length_map _))] at hS
  go_upto_region 3 with fail
  refine RL hS ?_
  clear hS
  refine MW ?_ (v := .bool false)
  refine MZ fun W hS => ?_
  go_wp2
  exact bodyPost_ret (v := u) (by simp only [results, Tryz.results50]; go_simp) rfl ⟨_, rfl, hS.ext, hS.tt (i := 0) rfl⟩
end

section
set_option maxRecDepth 100000
open Go.ChangeShapes Go.WideShapes Go.ChangeAt Go.RowKit Go.Deep
section
variable {H : Type} {enc : TypeId × Value → H} {W : World} {base : Nat} {sp : Nat → Bool} {held : Bool}
theorem Y2l {n : Nat} {t : TypeId} (hn : Tryz.prog.underlying t = some (.array n 5)) (hc : Tryz.prog.cellsOf t = n) {r : Reach} {b0 : Nat} {v : Value} {d : DataW H} {ps : List MemPlace} (hval : Value.okWide Tryz.prog W r b0 t v) (hd : DataW.Trod enc Tryz.prog W base sp held t v d ps) :
    ∃ N : Nat, N < 2 ^ (8 * n) ∧ v = .agg (J0 .u8 n (Q5 N)) := by
  simp only [Value.okWide, hn] at hval
  obtain ⟨cs, rfl, _⟩ := hval
  obtain ⟨fuel, hf⟩ := hd
  obtain ⟨N, hN, e⟩ := Q64 hn hc hf
  exact ⟨N, hN, by rw [show cs = J0 .u8 n (Q5 N) from Array.toList_inj.1 e]⟩
theorem Z7v {r : Reach} {b0 : Nat} {v : Value} {d : DataW H} {ps : List MemPlace} (hval : Value.okWide Tryz.prog W r b0 23 v) (hd : DataW.Trod enc Tryz.prog W base sp held 23 v d ps) :
    ∃ N : Nat, N < 2 ^ (8 * 32) ∧ v = .agg (J0 .u8 32 (Q5 N)) := Y2l Tryz.underlying23 (by kernel_rfl) hval hd
theorem Z50 {W : World} {a : Addr} {v : Value} (h : W.cell? a = some v) : a.spot = none := by
  unfold World.cell? at h
  split at h
  · split at h
    · cases h
    rename_i hs; cases hsp : a.spot with
    | none => rfl
    | some _ => rw [hsp] at hs; exact absurd rfl hs
  cases h
theorem Z7w {t e : TypeId} {k : Nat} {α : Type} [Inhabited α] {f : α → List Value} {Q : α → Prop} (hu : Tryz.prog.underlying t = some (.slice e)) (hk : Tryz.prog.cellsOf e = k) (hk0 : 0 < k) (hf : ∀ x, (f x).length = k)
    (htr : ∀ {fuel : Nat} {cs : List Value} {x : DataW H × List MemPlace}, DataW.trod enc Tryz.prog W base sp held fuel e cs = some x → ∃ y, Q y ∧ cs = f y)
    {r : Reach} {b0 : Nat} {v : Value} {d : DataW H} {ps : List MemPlace} (hval : Value.okWide Tryz.prog W r b0 t v) (hd : DataW.Trod enc Tryz.prog W base sp held t v d ps) :
    ∃ ls : List α, (∀ y ∈ ls, Q y) ∧ RR k W v (ls.map f) := by
  obtain ⟨ao, len, cap, rfl⟩ := okWide_slice hu hval
  obtain ⟨fuel, hf0⟩ := hd
  rcases open_slice hu hf0 with ⟨hcs, _⟩ | ⟨a, len', cap', m, n, D, Pl, hcs, hcl0, hl, hm, hmm, hnn, hi⟩
  · simp [Value.cells] at hcs
    obtain ⟨rfl, rfl, rfl⟩ := hcs
    exact ⟨[], fun y hy => (by cases hy), Z7m k W⟩
  simp [Value.cells] at hcs
  obtain ⟨rfl, rfl, rfl⟩ := hcs
  have hlm : len ≤ m := by rw [hmm]; split <;> omega
  have hs0 : 0 < len → a.spot = none := fun h => by
    obtain ⟨cs', h1, h2⟩ := hi 0 (by omega)
    rw [hk] at h1
    obtain ⟨_, hcl, hcell⟩ := World.cells?_some h1
    have h0 := hcell 0 hk0
    rw [List.getElem?_eq_getElem (by rw [hcl]; exact hk0)] at h0
    have h4 := Z50 h0
    simpa [Addr.add] using h4
  have key : ∀ i, i < len → ∃ x : α, Q x ∧ a.spot = none ∧ ∀ (j : Nat) (u : Value), (f x)[j]? = some u → W.cell? ⟨a.block, a.off + i * k + j, none⟩ = some u := by
    intro i hi'
    obtain ⟨cs', h1, h2⟩ := hi i (by omega)
    rw [hk] at h1
    obtain ⟨_, hcl, hcell⟩ := World.cells?_some h1
    obtain ⟨x, hx, e⟩ := htr h2
    rw [e] at hcl hcell
    have hs := hs0 (by omega)
    refine ⟨x, hx, hs, fun j u hj => ?_⟩
    have hj' : j < k := by
      have := (List.getElem?_eq_some_iff.1 hj).1
      rw [hf] at this; exact this
    have h3 := hcell j hj'
    rw [hj] at h3
    have e2 : (a.add (i * k)).add j = ⟨a.block, a.off + i * k + j, none⟩ := by
      clear hcl hcell h1 h3 hi hmm hf0 hval
      obtain ⟨ab, ao', asp⟩ := a
      have hs' : asp = none := hs
      subst hs'; rw [Addr.add_mid, Addr.add_mid]
    rw [e2] at h3
    exact h3
  refine ⟨(List.range len).map fun i => if h : i < len then Classical.choose (key i h) else default, fun y hy => ?_, some a, cap, by simp, by simpa using hl, fun e => (by cases e), fun j e hj => ?_⟩
  · obtain ⟨i, hi, rfl⟩ := List.mem_map.1 hy
    have hil := List.mem_range.1 hi
    rw [dif_pos hil]
    exact (Classical.choose_spec (key i hil)).1
  rw [List.map_map] at hj
  have hil : j < len := by have := (List.getElem?_eq_some_iff.1 hj).1; simpa using this
  rw [List.getElem?_map, List.getElem?_range hil] at hj
  have hj := Option.some.inj hj
  simp only [Function.comp_apply, dif_pos hil] at hj
  subst hj
  obtain ⟨_, h2, h3⟩ := Classical.choose_spec (key j hil)
  refine ⟨a.block, a.off, ?_, h3⟩
  rw [← h2]
instance : Inhabited Mb := ⟨⟨.slice none 0 0, [], false, 0, 0⟩⟩
theorem Z51 {r : Reach} {b0 : Nat} {v : Value} {d : DataW H} {ps : List MemPlace} (hval : Value.okWide Tryz.prog W r b0 30 v) (hd : DataW.Trod enc Tryz.prog W base sp held 30 v d ps) :
    ∃ ms : List Mb, (∀ y ∈ ms, Sl W y.u y.id ∧ y.id.length ≤ maxLen) ∧ RR 35 W v (ms.map mbC) :=
  Z7w (Q := fun y : Mb => Sl W y.u y.id ∧ y.id.length ≤ maxLen) Tryz.underlying30 (by kernel_rfl) (by decide) (fun x => Z31 (ms := [x]) (mbC x) (by simp)) (fun h => by
    obtain ⟨v1, l2, b3, n4, X5, h0, _, _, _, e⟩ := Q1a h
    exact ⟨⟨v1, l2, b3, n4, X5⟩, h0, e⟩) hval hd
end
end

section
set_option maxHeartbeats 3000000
set_option maxRecDepth 100000
open Go.RowKit
attribute [local irreducible] wpList J0k wpX
def J4q : TR → Nat → Nat → List TR
 | .node e l r, k, d => .node e l r :: (if kb k d = 0 then J4q l k (d + 1) else J4q r k (d + 1))
 | _, _, _ => []
def J0g : TR → Nat → Nat → TR
 | .node _ l r, k, d => if kb k d = 0 then J0g l k (d + 1) else J0g r k (d + 1)
 | T, _, _ => T
theorem J9t : ∀ (T : TR) (k d : Nat), J0g T k d = .nil ∨ ∃ a x, J0g T k d = .leaf a x
 | .nil, _, _ => .inl rfl
 | .leaf a x, _, _ => .inr ⟨a, x, rfl⟩
 | .node _ l r, k, d => by
  show (if kb k d = 0 then J0g l k (d + 1) else J0g r k (d + 1)) = _ ∨ ∃ a x, (if kb k d = 0 then J0g l k (d + 1) else J0g r k (d + 1)) = _
  split
  ·
   exact J9t l k (d + 1)
  ·
   exact J9t r k (d + 1)
theorem Q58 : ∀ (T : TR) (k d : Nat), (J4q T k d).length ≤ tsz T
 | .nil, _, _ => Nat.le_refl _
 | .leaf _ _, _, _ => Nat.zero_le _
 | .node _ l r, k, d => by
  show (_ :: (if kb k d = 0 then J4q l k (d + 1) else J4q r k (d + 1))).length ≤ 1 + tsz l + tsz r
  have h1 := Q58 l k (d + 1)
  have h2 := Q58 r k (d + 1)
  rw [List.length_cons]
  split <;> omega
abbrev J95 (u : Value) : List Value := [u]
structure WP (w0 : World) (T : TR) (k : Nat) where
 v : Value
 u : Value
 us : List Value
 hT : TA w0 (J0g T k 0) u
 hl : us.length = (J4q T k 0).length
 hu : ∀ (j : Nat) (x : Value), us[j]? = some x → ∃ T', (J4q T k 0)[j]? = some T' ∧ TA w0 T' x
def V4i (w0 : World) (T : TR) (k : Nat) (w w' : World) (e : Ending) : Prop := ∃ p : WP w0 T k, e = .returned (.tuple #[p.v, p.u]) ∧ SH [] w w' [.r 103 1 p.v (p.us.map J95)]
theorem V4j {f : FuncId} {args : Array Value} {F : List Nat} {w0 w W : World} {H : List As} {T : TR} {k : Nat} (hS : SH F w W H) (hc : Calls Tryz.prog f args W fun e W' => V4i w0 T k W W' e) (ht : H.all (SH.tyOk (.r 103 1 undef [])) = true) :
  Calls Tryz.prog f args W fun e W' => ∃ p : WP w0 T k, e = .returned (.tuple #[p.v, p.u]) ∧ SH F w W' (.r 103 1 p.v (p.us.map J95) :: H) :=
 hc.mono fun e W' ⟨u, h1, h2⟩ => ⟨u, h1, SH.frame (L := []) (L' := [.r 103 1 u.v (u.us.map J95)]) (R := H) hS h2 ⟨.inr ⟨rfl, ht⟩, trivial⟩⟩
theorem Z4c {w0 : World} {ns : List TR} {us : List Value} {T : TR} {u : Value} (hl : us.length = ns.length) (h : ∀ (j : Nat) (x : Value), us[j]? = some x → ∃ T', ns[j]? = some T' ∧ TA w0 T' x) (hT : TA w0 T u) :
  ∀ (j : Nat) (x : Value), (us ++ [u])[j]? = some x → ∃ T', (ns ++ [T])[j]? = some T' ∧ TA w0 T' x := fun j x hj => by
 rcases Nat.lt_or_ge j us.length with h1 | h1
 ·
  rw [List.getElem?_append_left h1] at hj
  obtain ⟨T', h2, h3⟩ := h j x hj
  exact ⟨T', by rw [List.getElem?_append_left (by omega)]; exact h2, h3⟩
 ·
  rw [List.getElem?_append_right h1] at hj
  have h0 : j - us.length = 0 := by
   rcases Nat.eq_zero_or_pos (j - us.length) with h | h
   ·
    exact h
   ·
    rw [List.getElem?_eq_none (by simp; omega)] at hj; cases hj
  rw [h0] at hj
  obtain rfl : u = x := by simpa using hj
  exact ⟨T, by rw [List.getElem?_append_right (by omega), show j - ns.length = 0 by omega]; rfl, hT⟩
attribute [local irreducible] hs4 sE sL sN

theorem Q62 (k i : Nat) : kb k i = 0 ∨ kb k i = 1 := by have := Q18 k i; omega
theorem V4k {T : TR} {u : Value} {k : Nat} (w0 w : World) (hx : Ext w0 w) (hzT : tsz T ≤ 1099511627775) (h : TA w0 T u) :
  Calls Tryz.prog 142 #[u, .agg (J0 .u8 32 (Q5 k))] w fun e w' => V4i w0 T k w w' e := by
 have hS := SH.nil [] w
 go_enter Tryz.func142, Tryz.ntmps142
 go_upto_region 0 with fail
 refine RL hS ?_
 clear hS
 refine MN (z := J0 .u8 32 (Q5 k)) (t := 31) ?_
 intro J0c
 refine MV ?_
 refine MV ?_
 refine MZ fun W hS => ?_
 have hS := hS.rnil 103 1 rfl
 go_wp2_with fail
 go_loopw [0, 4] (fun u uv wr => ∃ (T1 : TR) (ns : List TR) (us : List Value) (nv : Value), (TA w0 T1 u) ∧ (ns ++ J4q T1 k ns.length = J4q T k 0) ∧ (J0g T1 k ns.length = J0g T k 0) ∧ (us.length = ns.length) ∧ (∀ (j : Nat) (x : Value), us[j]? = some x → ∃ T', ns[j]? = some T' ∧ TA w0 T' x) ∧ (ns.length + tsz T1 ≤ tsz T) ∧ (nv = uv) ∧ SH [] w wr [.r 103 1 nv (List.map J95 us), .b J0c (J0 .u8 32 (Q5 k)) 31])
  (fun u uv _ => hd w0 (tsz T) u)
 case atStart => exact ⟨T, [], [], _, h, rfl, rfl, rfl, (fun j x h => by simp at h), by rw [List.length_nil]; omega, rfl, hS⟩
 clear hS
 case round =>
  obtain ⟨T1, ns, us, nv, hT, hN, hE, hul, hus, hz, rfl, hS⟩ := hrel
  rcases T1 with _ | ⟨a, x⟩ | ⟨e0, l, r⟩
  ·
   have _f := True.intro
   obtain rfl : _ = nlp := hT
   go_upto_region 1 with fail
   refine RL hS ?_
   clear hS
   refine MV ?_
   refine MW ?_ (v := .bool false)
   refine MW ?_ (v := .bool false)
   refine MS ?_
   refine MS ?_
   refine MS ?_
   refine MS ?_
   refine MW ?_ (v := .bool false)
   refine MZ fun W hS => ?_
   go_wp2
   exact bodyPost_ret (v := .tuple #[nv, .pointer none]) (by simp only [results, Tryz.results142]; go_simp) rfl ⟨⟨nv, .pointer none, us, by rw [← hE]; exact rfl, by rw [← hN, hul]; simp [J4q], fun j y_ hj => by rw [← hN, show J4q .nil k ns.length = [] from rfl, List.append_nil]; exact hus j y_ hj⟩, rfl, hS.pick [0]⟩
  ·
   have _f := True.intro
   obtain ⟨b1, rfl, hB1, ha, hxx⟩ := hT
   go_upto_region 1 with fail
   refine RL hS ?_
   clear hS
   refine MV ?_
   refine MW ?_ (v := .bool true)
   refine MW ?_ (v := .bool true)
   refine MV ?_
   refine MV ?_
   refine MV ?_
   refine MF (v := .bool false) (fun W hS => V2 rfl rfl (by rw [Q6 (J1 (J1 hB1 hx) hS.ext)]; exact J7v) (by kernel_rfl)) ?_
   refine MW ?_ (v := .bool false)
   refine MZ fun W hS => ?_
   go_wp2
   exact bodyPost_ret (v := .tuple #[nv, .pointer (some ⟨b1, 0, none⟩)]) (by simp only [results, Tryz.results142]; go_simp) rfl ⟨⟨nv, .pointer (some ⟨b1, 0, none⟩), us, by rw [← hE]; exact ⟨b1, rfl, hB1, ha, hxx⟩, by rw [← hN, hul]; simp [J4q], fun j y_ hj => by rw [← hN, show J4q (.leaf a x) k ns.length = [] from rfl, List.append_nil]; exact hus j y_ hj⟩, rfl, hS.pick [0]⟩
  have _f := True.intro
  have hN1 := hT
  obtain ⟨b, s0, s1, rfl, hB, hl, hr⟩ := hT
  obtain ⟨p0, rfl⟩ := hl.pt
  obtain ⟨p1, rfl⟩ := hr.pt
  have hz2_ : ns.length + (1 + tsz l + tsz r) ≤ tsz T := hz
  go_upto_region 1 with fail
  refine RL hS ?_
  clear hS
  refine MV ?_
  refine MW ?_ (v := .bool true)
  refine MW ?_ (v := .bool true)
  refine MV ?_
  refine MV ?_
  refine MV ?_
  refine MF (v := .bool true) (fun W hS => V2 rfl rfl (by rw [Q6 (J1 (J1 hB hx) hS.ext)]; exact J7v) (by kernel_rfl)) ?_
  refine MW ?_ (v := .bool true)
  refine MZ fun W hS => ?_
  go_upto_region 2 with fail
  refine RL hS ?_
  clear hS
  refine MV ?_
  refine MV ?_
  refine MB (z := #[.pointer (some ⟨b, 0, none⟩)]) (t := 103) (n := 1) (c := 1) ?_ (hr := fun W hS => J0h [.pointer (some ⟨b, 0, none⟩)] rfl rfl (vsc rfl vs0) Tryz.underlying212 (by kernel_rfl) (by kernel_rfl) rfl (by decide) (by decide))
  intro V7b
  refine MAr 1 0 (tS := 212) (bytes := 8) (es := (List.map J95 us)) (by first | omega | (simp only [List.length_append, List.length_map, List.length_take, List.length_cons, List.length_nil]; omega)) (e := ([.pointer (some ⟨b, 0, none⟩)] : List Value)) ?_
  intro Y6l
  refine MV ?_
  refine MZ fun W hS => ?_
  rcases Q62 k us.length with hb | hb
  ·
   have _f := True.intro
   go_upto_region 3 with fail
   refine RTh (.q 0 (.q 1 (.q 2 (.q 3 (.q 4 (.q 6 (.q 7 (.e 5 (.q 8 (.q 9 (.q 10 .z))))))))))) hS ?_
   clear hS
   refine TV ?_
   refine TL 2 ?_
   refine TV ?_
   refine TF (v := .int .i64 (((List.map J95 us) ++ [([.pointer (some ⟨b, 0, none⟩)] : List Value)]).length : Int)) rfl (fun W hS => J6b (hS.row (i := 1) rfl) rfl rfl Tryz.underlying212) ?_
   refine TW ?_ (v := .int .i64 (us.length : Int)) (hv := by intro W; go_simp; (try simp only [List.length_append, List.length_singleton]); (try simp only [IntKind.wrap_i64]); omega)
   refine TV ?_
   refine TV ?_
   refine TE (fun _ h => h) ?_
   refine MC (v := .int .i64 0) (fun W hS => hb ▸ J6e k us.length (by omega) W) ?_
   refine TNh (fun W hS => hS) ?_
   refine TW ?_ (v := .pointer (some ⟨b, 64, none⟩)) (hv := fun _ => J0f (m := 2) (k := 1) (j := 0) (off := 64) (by decide) Tryz.underlying149 (by kernel_rfl) rfl rfl rfl)
   refine TF (v := .pointer p0) rfl (fun W hS => V2 rfl rfl (by rw [Q6 (J1 (J1 hB hx) hS.ext)]; exact nd_s0) (by kernel_rfl)) ?_
   refine TV ?_
   refine TZ (fun _ h => h) fun W hS => ?_
   go_wp2
   go_roundw
   case rel => exact ⟨l, (ns ++ [.node e0 l r]), (us ++ [ptr b]), Y6l, hl, by rw [← hN, List.append_assoc, List.length_append]; show _ = ns ++ (.node e0 l r :: (if kb k ns.length = 0 then J4q l k (ns.length + 1) else J4q r k (ns.length + 1))); rw [if_pos (by rw [← hul]; exact hb)]; rfl, by rw [← hE, List.length_append]; show _ = if kb k ns.length = 0 then J0g l k (ns.length + 1) else J0g r k (ns.length + 1); rw [if_pos (by rw [← hul]; exact hb)]; rfl, by rw [List.length_append, List.length_append, hul]; rfl, Z4c hul hus hN1, by have h_ : ns.length + (1 + tsz l + tsz r) ≤ tsz T := hz; rw [List.length_append, List.length_singleton]; omega, rfl, (by rw [List.map_append]; exact (hS.pick [1, 2]))⟩
   case measure => have h_ : ns.length + (1 + tsz l + tsz r) ≤ tsz T := hz; rw [Q0c hN1 (by show 1 + tsz l + tsz r ≤ _; omega), Q0c hl (by omega)]; show _ < 1 + tsz l + tsz r; omega
  have _f := True.intro
  go_upto_region 3 with fail
  refine RTh (.q 0 (.q 1 (.q 2 (.q 3 (.q 4 (.q 6 (.q 7 (.e 5 (.q 8 (.q 9 (.q 10 .z))))))))))) hS ?_
  clear hS
  refine TV ?_
  refine TL 2 ?_
  refine TV ?_
  refine TF (v := .int .i64 (((List.map J95 us) ++ [([.pointer (some ⟨b, 0, none⟩)] : List Value)]).length : Int)) rfl (fun W hS => J6b (hS.row (i := 1) rfl) rfl rfl Tryz.underlying212) ?_
  refine TW ?_ (v := .int .i64 (us.length : Int)) (hv := by intro W; go_simp; (try simp only [List.length_append, List.length_singleton]); (try simp only [IntKind.wrap_i64]); omega)
  refine TV ?_
  refine TV ?_
  refine TE (fun _ h => h) ?_
  refine MC (v := .int .i64 1) (fun W hS => hb ▸ J6e k us.length (by omega) W) ?_
  refine TNh (fun W hS => hS) ?_
  refine TW ?_ (v := .pointer (some ⟨b, 65, none⟩)) (hv := fun _ => J0f (m := 2) (k := 1) (j := 1) (off := 64) (by decide) Tryz.underlying149 (by kernel_rfl) rfl rfl rfl)
  refine TF (v := .pointer p1) rfl (fun W hS => V2 rfl rfl (by rw [Q6 (J1 (J1 hB hx) hS.ext)]; exact nd_s1) (by kernel_rfl)) ?_
  refine TV ?_
  refine TZ (fun _ h => h) fun W hS => ?_
  go_wp2
  go_roundw
  case rel => exact ⟨r, (ns ++ [.node e0 l r]), (us ++ [ptr b]), Y6l, hr, by rw [← hN, List.append_assoc, List.length_append]; show _ = ns ++ (.node e0 l r :: (if kb k ns.length = 0 then J4q l k (ns.length + 1) else J4q r k (ns.length + 1))); rw [if_neg (by rw [← hul, hb]; decide)]; rfl, by rw [← hE, List.length_append]; show _ = if kb k ns.length = 0 then J0g l k (ns.length + 1) else J0g r k (ns.length + 1); rw [if_neg (by rw [← hul, hb]; decide)]; rfl, by rw [List.length_append, List.length_append, hul]; rfl, Z4c hul hus hN1, by have h_ : ns.length + (1 + tsz l + tsz r) ≤ tsz T := hz; rw [List.length_append, List.length_singleton]; omega, rfl, (by rw [List.map_append]; exact (hS.pick [1, 2]))⟩
  case measure => have h_ : ns.length + (1 + tsz l + tsz r) ≤ tsz T := hz; rw [Q0c hN1 (by show 1 + tsz l + tsz r ≤ _; omega), Q0c hr (by omega)]; show _ < 1 + tsz l + tsz r; omega
end

section
end

section
open Go.RowKit
attribute [local irreducible] wpList J0k wpX
def V1v (E : TR) (n k : Nat) : Nat × Bool × Nat := match E with
 | .leaf a x => if a = k then (x, true, n + 1) else (0, false, n + 1)
 | _ => (0, false, n)
attribute [local irreducible] hs4 sE sL sN

theorem V4m {T : TR} {k : Nat} {us : List Value} (h : us.length = (J4q T k 0).length) (hz : tsz T ≤ 1099511627775) : us.length ≤ 1099511627775 := by have := Q58 T k 0; omega
end

section
set_option maxHeartbeats 3000000
set_option maxRecDepth 100000
open Go.RowKit
attribute [local irreducible] wpList J0k wpX
def bsd : TR → Nat → Nat → List Nat
 | .node _ l r, k, d => if kb k d = 0 then rs r :: bsd l k (d + 1) else rs l :: bsd r k (d + 1)
 | _, _, _ => []
theorem Q8l : ∀ (T : TR) (k d : Nat), (bsd T k d).length = (J4q T k d).length
 | .nil, _, _ => rfl
 | .leaf _ _, _, _ => rfl
 | .node e l r, k, d => by
  show (if kb k d = 0 then rs r :: bsd l k (d + 1) else rs l :: bsd r k (d + 1)).length = (_ :: (if kb k d = 0 then J4q l k (d + 1) else J4q r k (d + 1))).length
  split
  ·
   simp [Q8l l k (d + 1)]
  ·
   simp [Q8l r k (d + 1)]
theorem Z20 : ∀ {T : TR} {k d j : Nat} {T' : TR}, (J4q T k d)[j]? = some T' → ∃ e l r, T' = .node e l r ∧ (bsd T k d)[j]? = some (if kb k (d + j) = 0 then rs r else rs l)
 | .nil, _, _, _, _, h => by simp [J4q] at h
 | .leaf _ _, _, _, _, _, h => by simp [J4q] at h
 | .node e l r, k, d, 0, T', h => by
  have h : some (TR.node e l r) = some T' := h
  refine ⟨e, l, r, (Option.some.inj h).symm, ?_⟩
  show (if kb k d = 0 then rs r :: bsd l k (d + 1) else rs l :: bsd r k (d + 1))[0]? = some (if kb k d = 0 then rs r else rs l)
  split <;> rfl
 | .node e l r, k, d, j + 1, T', h => by
  have h : (if kb k d = 0 then J4q l k (d + 1) else J4q r k (d + 1))[j]? = some T' := h
  show ∃ e' l' r', T' = TR.node e' l' r' ∧ (if kb k d = 0 then rs r :: bsd l k (d + 1) else rs l :: bsd r k (d + 1))[j + 1]? = _
  split at h
  ·
   rename_i hb
   rw [if_pos hb]
   obtain ⟨e', l', r', h1, h2⟩ := Z20 h
   exact ⟨e', l', r', h1, by rw [show d + (j + 1) = d + 1 + j by omega]; exact h2⟩
  ·
   rename_i hb
   rw [if_neg hb]
   obtain ⟨e', l', r', h1, h2⟩ := Z20 h
   exact ⟨e', l', r', h1, by rw [show d + (j + 1) = d + 1 + j by omega]; exact h2⟩
theorem Z4d {bs : List Nat} {i : Nat} {x : Nat} (h : bs[i]? = some x) : List.map J1e (bs.take i) ++ [J1e x] = List.map J1e (bs.take (i + 1)) := by rw [List.take_add_one, h, List.map_append]; rfl
attribute [local irreducible] hs4 sE sL sN

def J2i (E : TR) : Nat × Nat × Bool := match E with
 | .leaf a x => (a, x, true)
 | _ => (0, 0, false)
theorem Z7t {q : Prop} {T : TR} {u : Value} {k : Nat} (hzT : tsz T ≤ 1099511627775) (w : World) (hG : GT q w) (h : TA w T u) :
  Calls Tryz.prog 96 #[u, .agg (J0 .u8 32 (Q5 k))] w fun e w' => ∃ v, e = .returned (.tuple #[v, .agg (lf (J2i (J0g T k 0)).1 (J2i (J0g T k 0)).2.1), .bool (J2i (J0g T k 0)).2.2]) ∧ SH [] w w' [.r 23 32 v ((bsd T k 0).map J1e)] := by
 have hS := SH.nil [] w
 go_enter Tryz.func96, Tryz.ntmps96
 go_upto_region 0 with fail
 refine RL hS ?_
 clear hS
 refine MN (z := J0 .u8 32 (Q5 k)) (t := 31) ?_
 intro J0c
 refine MV ?_
 refine MN (z := lf 0 0) (t := 51) ?_
 intro J37
 refine MW ?_ (v := .bool false)
 refine MZ fun W hS => ?_
 go_upto_region 1 with fail
 refine RL hS ?_
 clear hS
 refine MV ?_
 refine ML 1 ?_
 refine ME (V := fun p : WP w T k => .tuple #[p.v, p.u]) (fun W hS => V4j hS (V4k w W hS.ext hzT h) rfl) ?_
 rintro ⟨nv, nu, us, hTe, hul, hus⟩
 dsimp only
 refine MV ?_
 refine MV ?_
 refine MV ?_
 refine MV ?_
 refine MV ?_
 refine MZ fun W hS => ?_
 go_upto_region 2 with fail
 refine RL hS ?_
 clear hS
 refine MV ?_
 refine MF (v := .int .i64 ((List.map J95 us).length : Int)) (fun W hS => J6b (hS.row (i := 0) rfl) rfl rfl Tryz.underlying212) ?_
 refine MW ?_ (v := .int .i64 0)
 refine MZ fun W hS => ?_
 have hle_ := V4m hul hzT
 have hS := hS.rnil 23 32 rfl
 go_wp2_with fail
 go_loopw [4, 9, 10, 19] (fun uu x1 x2 ii wr => ∃ (i : Nat) (sv : Value), (i ≤ us.length) ∧ (sv = uu) ∧ (ii = .int .i64 (i : Int)) ∧ SH [] w wr [.r 23 32 sv (List.map J1e (List.take i (bsd T k 0))), .r 103 1 nv (List.map J95 us), .b J37 (lf 0 0) 51, .b J0c (J0 .u8 32 (Q5 k)) 31])
  (fun uu x1 x2 ii _ => us.length - (intOf ii).toNat)
 case atStart => exact ⟨0, _, Nat.zero_le _, rfl, rfl, hS⟩
 clear hS
 case round =>
  obtain ⟨i, sv, hi, rfl, rfl, hS⟩ := hrel
  by_cases hlt : i < us.length
  ·
   have _f := hlt
   obtain ⟨y, yh⟩ : ∃ y, us[i]? = some y := ⟨_, List.getElem?_eq_getElem hlt⟩
   obtain ⟨T1, hT1, hTA⟩ := hus i y yh
   obtain ⟨e0, l, r, rfl, hb1⟩ := Z20 hT1
   obtain ⟨b, s0, s1, rfl, hB, hl, hr⟩ := hTA
   obtain ⟨p0, rfl⟩ := hl.pt
   obtain ⟨p1, rfl⟩ := hr.pt
   rw [Nat.zero_add] at hb1
   go_upto_region 3 with fail
   refine RL hS ?_
   clear hS
   refine MW ?_ (v := .bool true)
   refine MZ fun W hS => ?_
   go_upto_region 4 with fail
   refine RL hS ?_
   clear hS
   refine MV ?_
   refine MI 1 i (e := (J95 (ptr b))) (by rw [List.getElem?_map, yh]; rfl) ?_
   intro gb22_3 _ hv22_3
   refine MF (v := .pointer (some ⟨b, 0, none⟩)) (fun W hS => V2 rfl rfl (Z7l (hS.row (i := 1) rfl) hv22_3.out (by rw [List.getElem?_map, yh]; rfl) 0 _ (rfl)) (by kernel_rfl)) ?_
   refine MV ?_
   refine MV ?_
   refine MZ fun W hS => ?_
   rcases Q62 k i with hb | hb
   ·
    have _f := True.intro
    have hb2 : (bsd T k 0)[i]? = some (rs r) := by rw [hb1, if_pos hb]
    go_upto_region 5 with fail
    refine RTp [1, 2, 3] (.q 0 (.q 1 (.q 2 (.q 3 (.q 6 (.q 7 (.e 4 (.q 5 (.q 8 (.q 9 (.e 10 (.e 11 (.e 12 (.q 13 .z)))))))))))))) hS ?_
    clear hS
    refine TV ?_
    refine TV ?_
    refine TL 2 ?_
    refine TV ?_
    refine TV ?_
    refine TV ?_
    refine TE (fun _ h => h.pick [1, 2, 3]) ?_
    refine MC (v := .int .i64 0) (fun W hS => (by have h_ := J6e k i (by omega) W; rw [hb] at h_; exact h_)) ?_
    refine TNp [1, 2, 3] [0, 1, 2] ?_
    refine TW ?_ (v := .int .i64 1)
    refine TW ?_ (v := .pointer (some ⟨b, 65, none⟩)) (hv := fun _ => J0f (m := 2) (k := 1) (j := 1) (off := 64) (by decide) Tryz.underlying149 (by kernel_rfl) rfl rfl rfl)
    refine TF (v := .pointer p1) rfl (fun W hS => V2 rfl rfl (by rw [Q6 (J1 hB hS.ext)]; exact nd_s1) (by kernel_rfl)) ?_
    refine TE (fun _ h => h.pick [1, 2, 3]) ?_
    obtain ⟨U1, hU1⟩ := exn (rs r)
    have HU1 := Lib.hid hU1
    clear hU1
    refine MC (v := .agg (J0 .u8 32 (Q5 U1))) (fun W hS => (by rw [HU1.out]; exact Q2b W (V6 hG hS.ext) (TA.ext hr hS.ext))) ?_
    refine TNp [1, 2, 3] [0, 1, 2] ?_
    refine TE (fun _ h => h.pick [1, 2, 3]) ?_
    refine MB (z := (J0 .u8 32 (Q5 U1))) (t := 23) (n := 1) (c := 1) ?_ (hr := fun W _ => J1r rfl rfl rfl Tryz.underlying49 (by rw [J2]; kernel_rfl) (by rw [J2]; kernel_rfl) (by rw [J2]; decide) (by rw [J2]; decide))
    intro V7c
    refine TNp [0, 2, 3, 4] [1, 2, 3] ?_
    refine TE (fun _ h => h.pick [0, 2, 3, 4]) ?_
    refine MAr 1 0 (tS := 49) (bytes := 32) (es := (List.map J1e (List.take i (bsd T k 0)))) (by first | omega | (simp only [List.length_append, List.length_map, List.length_take, List.length_drop, List.length_reverse, List.length_cons, List.length_nil]; omega)) (e := J1e U1) (hk := J2 _ _ _) (h1 := K3 _ _ _) ?_
    intro V4n
    refine TNp [0, 1, 2, 3, 4] [0, 2, 3, 4] ?_
    refine TV ?_
    refine TZ (fun _ h => h) fun W hS => ?_
    go_wp2
    go_roundw
    case rel => exact ⟨i + 1, V4n, by omega, rfl, by go_num, (by have e_ := HU1.out; subst e_; rw [← Z4d hb2]; exact (hS.pick [1, 2, 3, 4]))⟩
    case measure => simp [intOf]; omega
   have _f := True.intro
   have hb2 : (bsd T k 0)[i]? = some (rs l) := by rw [hb1, if_neg (by rw [hb]; decide)]
   go_upto_region 5 with fail
   refine RTp [1, 2, 3] (.q 0 (.q 1 (.q 2 (.q 3 (.q 6 (.q 7 (.e 4 (.q 5 (.q 8 (.q 9 (.e 10 (.e 11 (.e 12 (.q 13 .z)))))))))))))) hS ?_
   clear hS
   refine TV ?_
   refine TV ?_
   refine TL 2 ?_
   refine TV ?_
   refine TV ?_
   refine TV ?_
   refine TE (fun _ h => h.pick [1, 2, 3]) ?_
   refine MC (v := .int .i64 1) (fun W hS => (by have h_ := J6e k i (by omega) W; rw [hb] at h_; exact h_)) ?_
   refine TNp [1, 2, 3] [0, 1, 2] ?_
   refine TW ?_ (v := .int .i64 0)
   refine TW ?_ (v := .pointer (some ⟨b, 64, none⟩)) (hv := fun _ => J0f (m := 2) (k := 1) (j := 0) (off := 64) (by decide) Tryz.underlying149 (by kernel_rfl) rfl rfl rfl)
   refine TF (v := .pointer p0) rfl (fun W hS => V2 rfl rfl (by rw [Q6 (J1 hB hS.ext)]; exact nd_s0) (by kernel_rfl)) ?_
   refine TE (fun _ h => h.pick [1, 2, 3]) ?_
   obtain ⟨U1, hU1⟩ := exn (rs l)
   have HU1 := Lib.hid hU1
   clear hU1
   refine MC (v := .agg (J0 .u8 32 (Q5 U1))) (fun W hS => (by rw [HU1.out]; exact Q2b W (V6 hG hS.ext) (TA.ext hl hS.ext))) ?_
   refine TNp [1, 2, 3] [0, 1, 2] ?_
   refine TE (fun _ h => h.pick [1, 2, 3]) ?_
   refine MB (z := (J0 .u8 32 (Q5 U1))) (t := 23) (n := 1) (c := 1) ?_ (hr := fun W _ => J1r rfl rfl rfl Tryz.underlying49 (by rw [J2]; kernel_rfl) (by rw [J2]; kernel_rfl) (by rw [J2]; decide) (by rw [J2]; decide))
   intro Y6b
   refine TNp [0, 2, 3, 4] [1, 2, 3] ?_
   refine TE (fun _ h => h.pick [0, 2, 3, 4]) ?_
   refine MAr 1 0 (tS := 49) (bytes := 32) (es := (List.map J1e (List.take i (bsd T k 0)))) (by first | omega | (simp only [List.length_append, List.length_map, List.length_take, List.length_drop, List.length_reverse, List.length_cons, List.length_nil]; omega)) (e := J1e U1) (hk := J2 _ _ _) (h1 := K3 _ _ _) ?_
   intro Y6c
   refine TNp [0, 1, 2, 3, 4] [0, 2, 3, 4] ?_
   refine TV ?_
   refine TZ (fun _ h => h) fun W hS => ?_
   go_wp2
   go_roundw
   case rel => exact ⟨i + 1, Y6c, by omega, rfl, by go_num, (by have e_ := HU1.out; subst e_; rw [← Z4d hb2]; exact (hS.pick [1, 2, 3, 4]))⟩
   case measure => simp [intOf]; omega
  have _f := hlt
  obtain rfl : i = us.length := by omega
  rw [hul, ← Q8l T k 0, List.take_length] at hS
  go_upto_region 3 with fail
  refine RL hS ?_
  clear hS
  refine MW ?_ (v := .bool false)
  refine MZ fun W hS => ?_
  rcases J9t T k 0 with he | ⟨a, x, he⟩
  ·
   have _f := True.intro
   rw [he] at hTe
   obtain rfl : _ = nlp := hTe
   go_upto_region 8 with fail
   refine RL hS ?_
   clear hS
   refine MV ?_
   refine MW ?_ (v := .agg (lf 0 0)) (hv := by intro W; first | rfl | kernel_rfl)
   refine MV ?_
   refine MR 2 ?_ (hz := by rw [Q8]; kernel_rfl) (hs := by first | rw [Q8, Q8] | rw [Q8] | kernel_rfl) (h1 := J34)
   refine MW ?_ (v := .bool false)
   refine MZ fun W hS => ?_
   go_wp2
   exact bodyPost_ret (Q7d rfl rfl rfl rfl (hS.blk (i := 2) rfl) (by kernel_rfl) (by rw [Q8]; kernel_rfl)) rfl ⟨_, by rw [he]; rfl, hS.pick [0]⟩
  have _f := True.intro
  rw [he] at hTe
  obtain ⟨b1, rfl, hB1, ha, hx⟩ := hTe
  go_upto_region 9 with fail
  refine RTp [0, 1, 3] (.q 0 (.q 1 (.q 2 (.q 3 (.q 4 (.q 5 (.e 6 (.q 7 .z)))))))) hS ?_
  clear hS
  refine TV ?_
  refine TV ?_
  refine TV ?_
  refine TV ?_
  refine TF (v := .agg (lf a x)) rfl (fun W hS => K4 rfl rfl (fun i v hv => by rw [Q6 (J1 hB1 hS.ext)]; exact Y4a i v hv) (by kernel_rfl) (by first | kernel_rfl | (rw [Q8]; kernel_rfl))) ?_
  refine TV ?_
  refine TE (fun _ h => h.pick [0, 1, 3]) ?_
  refine MR 2 ?_ (hz := by rw [Q8]; kernel_rfl) (hs := by first | rw [Q8, Q8] | rw [Q8] | kernel_rfl) (h1 := J34)
  refine TNp [0, 1, 3] [0, 1, 2] ?_
  refine TW ?_ (v := .bool true)
  refine TZ (fun _ h => h.pick [0, 1, 3]) fun W hS => ?_
  go_wp2
  exact bodyPost_ret (Q7d rfl rfl rfl rfl (hS.blk (i := 2) rfl) (by kernel_rfl) (by rw [Q8]; kernel_rfl)) rfl ⟨_, by rw [he]; rfl, hS.pick [0]⟩
end
end Go.Proofs.YtejkmhgkkibafaaGreatDoor

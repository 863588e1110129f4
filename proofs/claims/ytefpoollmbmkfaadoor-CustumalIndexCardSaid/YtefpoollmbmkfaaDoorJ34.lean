/- Sums of 32 bytes: the padded row, the states, the sum; a sum that goes on. No conditions. sha2's sums that go on: what a Hash holds; New. Conditions: the tables hold their numbers. append to a slice of bytes that has no room left: a new row. No conditions. append to a slice of bytes that has no room, over the list of what lies where; press by a slice. Conditions: the tables hold their numbers. -/
import Derived.Test.YtefpoollmbmkfaaDoorZSqC
import Derived.Test.YtefpoollmbmkfaaDoorJ31
import Derived.Test.YtefpoollmbmkfaaDoorGc
import Derived.Test.YtefpoollmbmkfaaDoorJ30
set_option linter.unusedSimpArgs false
set_option linter.unusedVariables false
namespace Go.Proofs.YtefpoollmbmkfaaDoor.H2
open Go.RowKit

/-- how many zeros stand behind the mark -/
def zc4 (n : Nat) : Nat := (119 - n % 64) % 64
/-- the padded row -/
def pad4 (l : List UInt8) : List UInt8 := l ++ [128] ++ List.replicate (zc4 l.length) 0 ++ be8 (8 * l.length)
def nb4 (n : Nat) : Nat := (n + 1 + zc4 n + 8) / 64
theorem zc_spec4 (n : Nat) : (n + 1 + zc4 n) % 64 = 56 ∧ zc4 n < 64 := by unfold zc4; omega
theorem zc_lt4 {n k : Nat} (h : k < zc4 n) : (n + 1 + k) % 64 ≠ 56 := by unfold zc4 at h; omega
theorem zc_rest4 (n : Nat) : zc4 (n - 64 * (n / 64)) = zc4 n := by unfold zc4; omega
theorem nb_rest4 (n : Nat) : nb4 (n - 64 * (n / 64)) + n / 64 = nb4 n := by unfold nb4 zc4; omega
theorem pad_length4 (l : List UInt8) : (pad4 l).length = 64 * nb4 l.length := by
  have h := zc_spec4 l.length
  unfold pad4 nb4
  simp only [List.length_append, List.length_cons, List.length_nil, List.length_replicate, be8]
  omega
/-- the states -/
def Hs4 (P : List UInt8) : Nat → Nat → Int
  | 0 => hf4
  | j + 1 => prs4 (Hs4 P j) (bt (P.drop (64 * j)))
/-- byte by byte -/
def ob4 (H : Nat → Int) (j : Nat) : Int := w8 (sr4 (H (j / 4)) (8 * (3 - j % 4)))
def outp4 (H : Nat → Int) (n j : Nat) : Int := if j < n then ob4 H j else 0
theorem outp_zero4 (H : Nat → Int) : outp4 H 0 = fun _ => 0 := by funext j; unfold outp4; rw [if_neg (by omega)]
theorem outp_step4 (H : Nat → Int) (i k : Nat) (hk : k < 4) : upd (outp4 H (4 * i + k)) (4 * i + k) (w8 (sr4 (H i) (8 * (3 - k)))) = outp4 H (4 * i + (k + 1)) := by
  funext j
  unfold upd outp4
  by_cases h : j = 4 * i + k
  · subst h
    rw [if_pos rfl, if_pos (by omega), ob4, show (4 * i + k) / 4 = i by omega, show (4 * i + k) % 4 = k by omega]
  · rw [if_neg h]
    by_cases hl : j < 4 * i + k
    · rw [if_pos hl, if_pos (by omega)]
    · rw [if_neg hl, if_neg (by omega)]
theorem outp_end4 (H : Nat → Int) : arrK .u8 32 (outp4 H 32) = arrK .u8 32 (ob4 H) := arrK_congr _ _ _ _ fun j hj => by unfold outp4; rw [if_pos hj]
/-- the sum's bytes -/
def sm4 (l : List UInt8) : Nat → Int := ob4 (Hs4 (pad4 l) (nb4 l.length))
theorem drop_next4 (P : List UInt8) (j : Nat) : List.drop 64 (List.drop (64 * j) P) = List.drop (64 * (j + 1)) P := by
  rw [List.drop_drop]; congr 1
/-! ### a block's words are of its bytes alone -/
theorem wrd_congr4 {a b : Nat → Int} {i : Nat} : ∀ k, (∀ j, j < 4 * i + k → a j = b j) → wrd4 a i k = wrd4 b i k
  | 0, _ => rfl
  | k + 1, h => by
    show oo4 (sl4 (wrd4 a i k) 8) (a (4 * i + k)) = oo4 (sl4 (wrd4 b i k) 8) (b (4 * i + k))
    rw [wrd_congr4 k (fun j hj => h j (by omega)), h (4 * i + k) (by omega)]
theorem sch_congr4 {a b : Nat → Int} (h : ∀ j, j < 64 → a j = b j) : ∀ i, sch4 a i = sch4 b i
  | 0 => rfl
  | i + 1 => by
    show upd (sch4 a i) i (if i < 16 then wrd4 a i 4 else sg4 (sch4 a i) i) = upd (sch4 b i) i (if i < 16 then wrd4 b i 4 else sg4 (sch4 b i) i)
    rw [sch_congr4 h i]
    by_cases hi : i < 16
    · rw [if_pos hi, if_pos hi, wrd_congr4 4 (fun j hj => h j (by omega))]
    · rw [if_neg hi, if_neg hi]
theorem prs_congr4 {H a b : Nat → Int} (h : ∀ j, j < 64 → a j = b j) : prs4 H a = prs4 H b := by
  funext j
  unfold prs4
  rw [sch_congr4 h 64]
theorem bt_drop4 (P : List UInt8) (n m : Nat) : bt (P.drop n) m = bt P (n + m) := by
  unfold bt
  simp [List.getD_eq_getElem?_getD, List.getElem?_drop]
theorem Hs_congr4 {P Q : List UInt8} : ∀ k, (∀ j, j < 64 * k → bt P j = bt Q j) → Hs4 P k = Hs4 Q k
  | 0, _ => rfl
  | k + 1, h => by
    show prs4 (Hs4 P k) (bt (P.drop (64 * k))) = prs4 (Hs4 Q k) (bt (Q.drop (64 * k)))
    rw [Hs_congr4 k (fun j hj => h j (by omega))]
    exact prs_congr4 fun j hj => by rw [bt_drop4, bt_drop4]; exact h _ (by omega)
theorem bt_app4 {P Q : List UInt8} {j : Nat} (h : j < P.length) : bt (P ++ Q) j = bt P j := by
  unfold bt
  simp [List.getD_eq_getElem?_getD, List.getElem?_append, h]
/-! ### a sum that goes on -/
/-- the words behind some bytes, and what is left of these -/
def hw4 (F : List UInt8) : Nat → Int := Hs4 F (F.length / 64)
def hr4 (F : List UInt8) : List UInt8 := F.drop (64 * (F.length / 64))
theorem hr_length4 (F : List UInt8) : (hr4 F).length = F.length - 64 * (F.length / 64) := by unfold hr4; rw [List.length_drop]
theorem hr_lt4 (F : List UInt8) : (hr4 F).length < 64 := by rw [hr_length4]; omega
theorem drop_app4 {F b : List UInt8} : (F ++ b).drop (64 * (F.length / 64)) = hr4 F ++ b := by
  unfold hr4
  rw [List.drop_append_of_le_length (by omega)]
theorem hw_app4 (F b : List UInt8) : hw4 F = Hs4 (F ++ b) (F.length / 64) := Hs_congr4 _ fun j hj => (bt_app4 (by omega)).symm
/-- a block more -/
theorem hs_next4 (F b : List UInt8) (k : Nat) : prs4 (Hs4 (F ++ b) (F.length / 64 + k)) (bt ((hr4 F ++ b).drop (64 * k))) = Hs4 (F ++ b) (F.length / 64 + (k + 1)) := by
  rw [← drop_app4, List.drop_drop, ← Nat.mul_add]; rfl
/-- behind all blocks -/
theorem hs_end4 {F b : List UInt8} {k : Nat} (h : k = (hr4 F ++ b).length / 64) : Hs4 (F ++ b) (F.length / 64 + k) = hw4 (F ++ b) ∧ (hr4 F ++ b).drop (64 * k) = hr4 (F ++ b) := by
  have e : F.length / 64 + k = (F ++ b).length / 64 := by rw [h, List.length_append, List.length_append, hr_length4]; omega
  refine ⟨by rw [hw4, e], ?_⟩
  rw [← drop_app4, List.drop_drop, ← Nat.mul_add, e]; rfl
/-- what is padded at the end -/
theorem pad_rest4 (F : List UInt8) : (pad4 F).drop (64 * (F.length / 64)) = hr4 F ++ [128] ++ List.replicate (zc4 F.length) 0 ++ be8 (8 * F.length) := by
  unfold pad4
  rw [List.append_assoc, List.append_assoc, drop_app4]
  simp only [List.append_assoc]
theorem hw_pad4 (F : List UInt8) : hw4 F = Hs4 (pad4 F) (F.length / 64) := by
  unfold pad4
  rw [List.append_assoc, List.append_assoc]
  exact hw_app4 _ _
theorem pad_next4 (F : List UInt8) (k : Nat) : prs4 (Hs4 (pad4 F) (F.length / 64 + k)) (bt (((pad4 F).drop (64 * (F.length / 64))).drop (64 * k))) = Hs4 (pad4 F) (F.length / 64 + (k + 1)) := by
  rw [List.drop_drop, ← Nat.mul_add]; rfl
theorem pad_end4 (F : List UInt8) : F.length / 64 + nb4 (hr4 F).length = nb4 F.length := by
  rw [hr_length4, Nat.add_comm]; exact nb_rest4 _
end Go.Proofs.YtefpoollmbmkfaaDoor.H2

set_option linter.unusedSimpArgs false
set_option linter.unusedVariables false
namespace Go.Proofs.YtefpoollmbmkfaaDoor.H2
set_option maxHeartbeats 1500000
set_option maxRecDepth 100000
open Go.RowKit
attribute [local irreducible] wpList

/-- the cells of a Hash: eight words, the rest, the count -/
abbrev hc8 (H : Nat → Int) (v n : Value) : Array Value := arrK .u32 8 H ++ #[v, n]
section
variable {H K : Nat → Int} {v n x : Value}
theorem hc_size : (hc8 H v n).size = 10 := by simp [arrK_size]
theorem hc_words : ∀ i u, (arrK .u32 8 H)[i]? = some u → (hc8 H v n)[0 + i]? = some u := fun i u h => by
  have hi : i < (arrK .u32 8 H).size := by
    rcases Nat.lt_or_ge i (arrK .u32 8 H).size with h1 | h1
    · exact h1
    · rw [Array.getElem?_eq_none h1] at h; cases h
  rw [Nat.zero_add, Array.getElem?_append_left hi]; exact h
theorem hc_rest : (hc8 H v n)[8]? = some v := by rw [Array.getElem?_append_right (by rw [arrK_size]; decide), arrK_size]; rfl
theorem hc_count : (hc8 H v n)[9]? = some n := by rw [Array.getElem?_append_right (by rw [arrK_size]; decide), arrK_size]; rfl
theorem hc_putrest : (hc8 H v n).setIfInBounds 8 x = hc8 H x n := by
  apply Array.toList_inj.1; simp [arrK]
theorem hc_putcount : (hc8 H v n).setIfInBounds 9 x = hc8 H v x := by
  apply Array.toList_inj.1; simp [arrK]
theorem hc_putwords : spl (hc8 H v n) 0 (arrK .u32 8 K).toList = hc8 K v n := by
  first | kernel_rfl | rfl | (apply Array.toList_inj.1; simp [spl, arrK, List.range, List.range.loop])
end
/-- a Hash that has taken the bytes F: its words, what is left of F, and the count -/
abbrev hcs (v : Value) (F : List UInt8) : Array Value := hc8 (hw4 F) v (.int .i64 (F.length : Int))
def Hsh (w : World) (p : Nat) (v : Value) (F : List UInt8) : Prop := Blk w p (hcs v F) 151 ∧ Own w v (hr4 F) ∧ v.ownBlock ≠ some p

theorem new4_c (w : World) (hG : GS4 w) :
  Calls Tryd.prog 113 #[] w fun e w' => ∃ p, e = .returned (.pointer (some ⟨p, 0, none⟩)) ∧ w.heap.size ≤ p ∧ Off [] w w' ∧ Hsh w' p (.slice none 0 0) [] := by
 have HG := Lib.hid hG
 clear hG
 have off0 : Off [] w w := Off.refl _ _
 go_enter Tryd.func113, Tryd.ntmps113
 go_upto_region 1 with fail
 refine wp_region_lit ?_
 refine wpL_rd0 (by rfl) rfl rfl ((GS_ext4 HG.out off0.ext).2) (by kernel_rfl) (by rw [arrK_size]; kernel_rfl) ?_
 (try simp only [Act.put, mA, mB, mC])
 refine Lw ?_ (v := .agg (hcs (.slice none 0 0) [])) (hv := by first | rfl | (go_simp; rfl) | kernel_rfl)
 refine Ln ?_ (z := hcs (.slice none 0 0) []) (t := 151)
 intro p3_1 W1 n_t3 hO h_
 have fb_t3 := fbn off0 n_t3
 replace off0 := off0.o hO
 have k_t3 := h_
 clear hO h_ n_t3
 refine Lv ?_
 refine wpL_nil ?_
 go_wp2
 exact bodyPost_ret (v := .pointer (some ⟨p3_1, 0, none⟩)) (by simp only [results, Tryd.results113]; go_simp) rfl ⟨_, rfl, Nat.le_of_not_lt (fun h_ => by simpa using fb_t3 h_), off0, k_t3, own_nil _, fun e_ => by cases e_⟩
end Go.Proofs.YtefpoollmbmkfaaDoor.H2

set_option linter.unusedSimpArgs false
set_option linter.unusedVariables false
namespace Go.Proofs.YtefpoollmbmkfaaDoor.H2
open Go.RowKit
set_option linter.unusedSimpArgs false

theorem sl_cells_at {w : World} {ad : Addr} {n c : Nat} {l : List UInt8} (h : Sl w (.slice (some ad) n c) l) : ∀ j u, (bs8 l)[j]? = some u → w.cell? (ad.add j) = some u := fun j u hu => by
  simp only [bs8, List.getElem?_map, Option.map_eq_some_iff] at hu
  obtain ⟨x, hx, rfl⟩ := hu
  exact sl_at h hx
theorem sl_fresh (w : World) {l : List UInt8} {cap n : Nat} {z : Array Value} (hn : n = l.length) (hc : l.length ≤ cap) (hm : cap ≤ maxLen) : Sl (w.drew.alloc (.cells ((bs8 l).toArray ++ z) 5)) (.slice (some ⟨w.heap.size, 0, none⟩) n cap) l :=
  sl_blk (cs := (bs8 l).toArray ++ z) (t := 5) (by exact heap_alloc_new w.drew _) hn (by omega) hm fun j x hj => by
    have h1 := bs8_get hj
    have h2 : j < (bs8 l).length := (List.getElem?_eq_some_iff.1 h1).1
    rw [Nat.zero_add, Array.getElem?_append_left (by simpa using h2)]
    simpa using h1
theorem run_append_tight (w : World) (ty : TypeId) {A : Option Addr} {u : Value} {l m : List UInt8} (hv : Sl w (.slice A l.length l.length) l) (hu : Sl w u m) (hlen : l.length + m.length ≤ 140737488355328) :
    ∃ v' W, (Builtin.append_ #[23, 23] ty #[.slice A l.length l.length, u]).run Tryd.prog w = .ok v' W ∧ Sl W v' (l ++ m) ∧ Off [] w W ∧ ((m = [] ∧ v' = .slice A l.length l.length) ∨ v'.ownBlock = some w.heap.size) := by
  obtain ⟨i, hi, hz, hsz, hby⟩ := info_parts bytes_info
  have ht := Tryd.underlying23
  obtain ⟨B, c, rfl, hc, hm, h0, hcell⟩ := id hu
  by_cases hme : m = []
  · subst hme
    refine ⟨_, w, ?_, by rw [List.append_nil]; exact hv, Off.refl _ _, .inl ⟨rfl, rfl⟩⟩
    cases A <;> cases B <;> simp [Builtin.append_, run_underlying ht, sizeOf, typeInfo, hi, Builtin.lenOf, Builtin.firstCells, storeCells, loadCells, loadCellsFrom]
  · have hml : 0 < m.length := List.length_pos_iff.2 hme
    rcases B with _ | ad
    · obtain ⟨ad, h, _⟩ := hcell 0 m[0] (List.getElem?_eq_getElem hml); cases h
    · have hge := fun o => grownCap_ge w (l.length + m.length) o 5
      have hcm := fun o => grownCap_le_maxLen w (l.length + m.length) o 5 (by unfold maxLen; omega)
      rcases A with _ | b
      · have hl : l = [] := by
          cases l with
          | nil => rfl
          | cons x r => obtain ⟨_, _, h, _, _, _, hcell2⟩ := hv; obtain ⟨ad, h2, _⟩ := hcell2 0 x rfl; cases h; cases h2
        subst hl
        have hr := run_append_nil (P := Tryd.prog) (w := w) 23 ty 5 i (.int .u8 0) ht hi hz ad m.length c (bs8 m) (by rw [bs8_length, hsz, Nat.mul_one]) (sl_cells_at hu) hml (by omega) (by rw [hby]; omega)
        refine ⟨_, _, hr, ?_, off_ext ((Below.refl _ _).drew.alloc (Nat.le_refl _) _), .inr rfl⟩
        have hg := hge 0; have hc2 := hcm 0
        simp only [List.length_nil, Nat.zero_add] at hg hc2
        exact sl_fresh w rfl hg hc2
      · have hr := run_append_grow (P := Tryd.prog) (w := w) 23 ty 5 i (.int .u8 0) ht hi hz b l.length l.length (bs8 l) (by rw [bs8_length, hsz, Nat.mul_one]) (sl_cells_at hv) ad m.length c (bs8 m) (by rw [bs8_length, hsz, Nat.mul_one]) (sl_cells_at hu) (by omega) (by omega) (by rw [hby]; exact growslice_fits (by omega) (by omega))
        refine ⟨_, _, hr, ?_, off_ext ((Below.refl _ _).drew.alloc (Nat.le_refl _) _), .inr rfl⟩
        rw [show (bs8 l).toArray ++ (bs8 m).toArray = (bs8 (l ++ m)).toArray by rw [bs8_append]; simp]
        exact sl_fresh w (by rw [List.length_append]) (by rw [List.length_append]; exact hge _) (hcm _)
/-- v[:n:n] -/
theorem run_tight {w : World} {v : Value} {l : List UInt8} (hs : Sl w v l) : ∃ A, (∀ W, (Instr.sliceAt 23 v none (some (.int .i64 (l.length : Int))) (some (.int .i64 (l.length : Int)))).run Tryd.prog W = .ok (.slice A l.length l.length) W) ∧ Sl w (.slice A l.length l.length) l ∧ (∀ x, (Value.slice A l.length l.length).ownBlock = some x → v.ownBlock = some x) := by
  obtain ⟨A, c, rfl, h1, h2, h0, h3⟩ := hs
  have hA : A.map (fun a : Addr => a.add 0) = A := by
    have : ∀ a : Addr, a.add 0 = a := fun a => by unfold Addr.add; simp
    cases A <;> simp [this]
  refine ⟨A, fun W => ?_, ⟨A, l.length, rfl, Nat.le_refl _, Nat.le_trans h1 h2, fun h => ?_, h3⟩, fun x hx => by cases A <;> exact hx⟩
  · have hnc : l.length ≤ c := h1
    have h1 := u8_size
    cases hq : Tryd.prog.info? 5 with
    | none => simp [hq] at h1
    | some i => simp [Instr.sliceAt, Instr.slice, Instr.sliceBounds, Instr.sliceBound, asIntOf, run_underlying Tryd.underlying23, Sem.run_bind, sizeOf, typeInfo, hq, hnc, hA]
  · have := h0 h; omega
end Go.Proofs.YtefpoollmbmkfaaDoor.H2

set_option linter.unusedSimpArgs false
set_option linter.unusedVariables false
namespace Go.Proofs.YtefpoollmbmkfaaDoor.H2
open Go.RowKit
section
variable {ops : Array Oper} {k : Wk} {Q : Exit → Act → World → Prop} {F : List Nat} {w : World} {H : List As} {l : List Oper} {o : Oper} {a : Act}
/-- thing i, as it is, with no room behind it: v[:n:n] -/
theorem MQ (i : Nat) {x y z : Operand} {v : Value} {m : List UInt8} {a' : Value → Act} (h : ∀ A, wpM Tryd.prog ops k F w (.s (.slice A m.length m.length) m :: H) l (a' (.slice A m.length m.length))) (hi : H[i]? = some (.s v m) := by exact rfl) (hw : Region.wanted o (yielded ops a.tmps) = true := by exact rfl)
    (ho : o.op = .slice 23 x none (some y) (some z) := by exact rfl) (hx : a.eval x = v := by exact rfl) (hy : a.eval y = .int .i64 (m.length : Int) := by exact rfl) (hz : a.eval z = .int .i64 (m.length : Int) := by exact rfl) (hp : ∀ v, a.put o.dst v = a' v := by intro b; first | exact pl (by dsimp only [mB, mC]; first | done | exact rfl) | exact pn | exact rfl) : wpM Tryd.prog ops k F w H (o :: l) a := by
  intro W hS
  obtain ⟨A, hr, h1, h2⟩ := run_tight (hS.sl hi)
  have hS' := hS.sub hi h1 fun x hx => by
    have hm : m ≠ [] := fun e => by subst e; unfold sb at hx; rw [if_pos rfl] at hx; cases hx
    unfold sb; rw [if_neg hm]; exact h2 x (sb_own hx)
  have hrun : ∀ W, (execOp a.eval o).run Tryd.prog W = .ok (.value (.slice A m.length m.length)) W := fun W => by simp [execOp, ho, hx, hy, hz, hr W, Sem.run_bind]
  cases k with
  | L Q => exact wpL_val hw (hrun W) (by rw [hp]; exact h A W hS')
  | X E => exact wpX_val hw (fun W' _ => hrun W') (by rw [hp]; exact h A W hS')
/-- append to such a one -/
theorem MAt (i : Nat) {s x : Operand} {A : Option Addr} {u : Value} {xs ys : List UInt8} {a' : Value → Act} (hsl : ∀ W, SH F w W H → Sl W u ys) (hlen : xs.length + ys.length ≤ 140737488355328) (h : ∀ v', wpM Tryd.prog ops (.L Q) F w (.s v' (xs ++ ys) :: H) l (a' v')) (hi : H[i]? = some (.s (.slice A xs.length xs.length) xs) := by exact rfl) (hw : Region.wanted o (yielded ops a.tmps) = true := by exact rfl)
    (ho : o.op = .call { callee := .builtin .append, args := #[s, x], argTypes := #[23, 23] } := by exact rfl) (hs : a.eval s = .slice A xs.length xs.length := by exact rfl) (hx : a.eval x = u := by exact rfl)
    (hp : ∀ v, a.put o.dst v = a' v := by intro b; first | exact pl (by dsimp only [mB, mC]; first | done | exact rfl) | exact pn | exact rfl) : wpM Tryd.prog ops (.L Q) F w H (o :: l) a := by
  intro W hS
  obtain ⟨v', W', hrun, h1, h2, h3⟩ := run_append_tight W o.type (hS.sl hi) (hsl W hS) hlen
  have hS' : SH F w W' (.s v' (xs ++ ys) :: H) := by
    rcases h3 with ⟨e1, e2⟩ | h3
    · subst e1 e2
      refine (hS.next h2).sub hi h1 ?_
      rw [List.append_nil]; exact sub_refl
    · refine hS.newS h2 h1 fun k hk => ?_
      have := sb_own hk
      rw [h3] at this
      exact Nat.le_of_eq (Option.some.inj this)
  refine wpL_run hw (v := v') (W := W') ?_ (by rw [hp]; exact h v' W' hS')
  unfold execOp
  simp only [ho, resolve, invoke, builtin, Sem.run_bind, Sem.run_pure, Result.andThen_ok, List.map_toArray, List.map_cons, List.map_nil, hs, hx, hrun]
end
theorem press4_t (h : Nat → Int) (L m : List UInt8) (u : Value) (hl : 64 ≤ L.length) (hm : m = L.take 64) (w : World) (hs : Sl w u m) (hG : GS4 w) : Calls Tryd.prog 121 #[.agg (arrK .u32 8 h), u] w fun e w' => Ret (.agg (arrK .u32 8 (prs4 h (bt L)))) w w' e := by
  have hml : m.length = 64 := by rw [hm, List.length_take]; omega
  obtain ⟨ad, c, rfl, _⟩ := sl_form hs (by omega)
  have hlc : m.length ≤ c := by obtain ⟨A, c', e, h1, _⟩ := hs; injection e with _ _ e; omega
  have hc := press4_c h m ad c (by omega) hlc w hs hG
  rw [show prs4 h (bt L) = prs4 h (bt m) from prs_congr4 fun j hj => by
    unfold bt; rw [hm, List.getD_eq_getElem?_getD, List.getD_eq_getElem?_getD, List.getElem?_take_of_lt hj]]
  exact hc
/-- the tables as one thing -/
abbrev gs4 : As := .p [12, 11] GS4
theorem gs4_holds {w : World} (h : GS4 w) : gs4.holds w :=
  ⟨h, fun k hk => by
    rcases List.mem_cons.1 hk with rfl | hk
    · exact h.1.2
    · rw [List.mem_singleton.1 hk]; exact h.2.2, fun W hs he => ⟨rd_keep h.1 hs (he _ (by simp)), rd_keep h.2 hs (he _ (by simp))⟩⟩
end Go.Proofs.YtefpoollmbmkfaaDoor.H2

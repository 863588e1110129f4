/- Contracts and plain laws that superChecks_holds rests on. Conditions: the variables' cells hold the numbers of the program's text. -/
import Derived.Test.YtejkmhgkkibafaaGreatDoorJ27
import Derived.Test.YtejkmhgkkibafaaGreatDoorJ8
import Derived.Test.YtejkmhgkkibafaaGreatDoorJ26
import Derived.Test.YtejkmhgkkibafaaGreatDoorGc
import Derived.Test.YtejkmhgkkibafaaGreatDoorJ5
open Go.RowKit
set_option maxRecDepth 100000
set_option linter.unusedSimpArgs false
set_option linter.unusedVariables false
namespace Go.Proofs.YtejkmhgkkibafaaGreatDoor
section

def zc4 (n : Nat) : Nat := (119 - n % 64) % 64
def J2c (l : List UInt8) : List UInt8 := l ++ [128] ++ List.replicate (zc4 l.length) 0 ++ be8 (8 * l.length)
def nb4 (n : Nat) : Nat := (n + 1 + zc4 n + 8) / 64
theorem Q2w (n : Nat) : (n + 1 + zc4 n) % 64 = 56 ∧ zc4 n < 64 := by unfold zc4; omega
theorem Y8a {n k : Nat} (h : k < zc4 n) : (n + 1 + k) % 64 ≠ 56 := by unfold zc4 at h; omega
theorem Z8h (n : Nat) : zc4 (n - 64 * (n / 64)) = zc4 n := by unfold zc4; omega
theorem Z8i (n : Nat) : nb4 (n - 64 * (n / 64)) + n / 64 = nb4 n := by unfold nb4 zc4; omega
theorem Q7z (l : List UInt8) : (J2c l).length = 64 * nb4 l.length := by
  have h := Q2w l.length
  unfold J2c nb4
  simp only [List.length_append, List.length_cons, List.length_nil, List.length_replicate, be8]
  omega
def Hs4 (P : List UInt8) : Nat → Nat → Int
  | 0 => hf4
  | j + 1 => J6h (Hs4 P j) (bt (P.drop (64 * j)))
def ob4 (H : Nat → Int) (j : Nat) : Int := w8 (sr4 (H (j / 4)) (8 * (3 - j % 4)))
def J6n (H : Nat → Int) (n j : Nat) : Int := if j < n then ob4 H j else 0
theorem Q9n (H : Nat → Int) : J6n H 0 = fun _ => 0 := by funext j; unfold J6n; rw [if_neg (by omega)]
theorem J6j (H : Nat → Int) (i k : Nat) (hk : k < 4) : upd (J6n H (4 * i + k)) (4 * i + k) (w8 (sr4 (H i) (8 * (3 - k)))) = J6n H (4 * i + (k + 1)) := by
  funext j
  unfold upd J6n
  by_cases h : j = 4 * i + k
  · subst h
    rw [if_pos rfl, if_pos (by omega), ob4, show (4 * i + k) / 4 = i by omega, show (4 * i + k) % 4 = k by omega]
  rw [if_neg h]
  by_cases hl : j < 4 * i + k
  · rw [if_pos hl, if_pos (by omega)]
  rw [if_neg hl, if_neg (by omega)]
theorem Z45 (H : Nat → Int) : J0 .u8 32 (J6n H 32) = J0 .u8 32 (ob4 H) := K5 _ _ _ _ fun j hj => by unfold J6n; rw [if_pos hj]
def sm4 (l : List UInt8) : Nat → Int := ob4 (Hs4 (J2c l) (nb4 l.length))
theorem Q2v (P : List UInt8) (j : Nat) : List.drop 64 (List.drop (64 * j) P) = List.drop (64 * (j + 1)) P := by
  rw [List.drop_drop]; congr 1
/-! ### a block's words are of its bytes alone -/
theorem Q2x {a b : Nat → Int} {i : Nat} : ∀ k, (∀ j, j < 4 * i + k → a j = b j) → J8o a i k = J8o b i k
  | 0, _ => rfl
  | k + 1, h => by
    show oo4 (sl4 (J8o a i k) 8) (a (4 * i + k)) = oo4 (sl4 (J8o b i k) 8) (b (4 * i + k))
    rw [Q2x k (fun j hj => h j (by omega)), h (4 * i + k) (by omega)]
theorem Q2y {a b : Nat → Int} (h : ∀ j, j < 64 → a j = b j) : ∀ i, Y7 a i = Y7 b i
  | 0 => rfl
  | i + 1 => by
    show upd (Y7 a i) i (if i < 16 then J8o a i 4 else sg4 (Y7 a i) i) = upd (Y7 b i) i (if i < 16 then J8o b i 4 else sg4 (Y7 b i) i)
    rw [Q2y h i]
    by_cases hi : i < 16
    · rw [if_pos hi, if_pos hi, Q2x 4 (fun j hj => h j (by omega))]
    · rw [if_neg hi, if_neg hi]
theorem Q2u {H a b : Nat → Int} (h : ∀ j, j < 64 → a j = b j) : J6h H a = J6h H b := by
  funext j
  unfold J6h
  rw [Q2y h 64]
theorem Q82 (P : List UInt8) (n m : Nat) : bt (P.drop n) m = bt P (n + m) := by
  unfold bt
  simp [List.getD_eq_getElem?_getD, List.getElem?_drop]
theorem Q46 {P Q : List UInt8} : ∀ k, (∀ j, j < 64 * k → bt P j = bt Q j) → Hs4 P k = Hs4 Q k
  | 0, _ => rfl
  | k + 1, h => by
    show J6h (Hs4 P k) (bt (P.drop (64 * k))) = J6h (Hs4 Q k) (bt (Q.drop (64 * k)))
    rw [Q46 k (fun j hj => h j (by omega))]
    exact Q2u fun j hj => by rw [Q82, Q82]; exact h _ (by omega)
theorem Y2d {P Q : List UInt8} {j : Nat} (h : j < P.length) : bt (P ++ Q) j = bt P j := by
  unfold bt
  simp [List.getD_eq_getElem?_getD, List.getElem?_append, h]
/-! ### a sum that goes on -/
def hw4 (F : List UInt8) : Nat → Int := Hs4 F (F.length / 64)
def hr4 (F : List UInt8) : List UInt8 := F.drop (64 * (F.length / 64))
theorem J6i (F : List UInt8) : (hr4 F).length = F.length - 64 * (F.length / 64) := by unfold hr4; rw [List.length_drop]
theorem Q9m (F : List UInt8) : (hr4 F).length < 64 := by rw [J6i]; omega
theorem Q05 {F b : List UInt8} : (F ++ b).drop (64 * (F.length / 64)) = hr4 F ++ b := by
  unfold hr4
  rw [List.drop_append_of_le_length (by omega)]
theorem Z1v (F b : List UInt8) : hw4 F = Hs4 (F ++ b) (F.length / 64) := Q46 _ fun j hj => (Y2d (by omega)).symm
theorem Z8g (F b : List UInt8) (k : Nat) : J6h (Hs4 (F ++ b) (F.length / 64 + k)) (bt ((hr4 F ++ b).drop (64 * k))) = Hs4 (F ++ b) (F.length / 64 + (k + 1)) := by
  rw [← Q05, List.drop_drop, ← Nat.mul_add]; rfl
theorem Y28 {F b : List UInt8} {k : Nat} (h : k = (hr4 F ++ b).length / 64) : Hs4 (F ++ b) (F.length / 64 + k) = hw4 (F ++ b) ∧ (hr4 F ++ b).drop (64 * k) = hr4 (F ++ b) := by
  have e : F.length / 64 + k = (F ++ b).length / 64 := by rw [h, List.length_append, List.length_append, J6i]; omega
  refine ⟨by rw [hw4, e], ?_⟩
  rw [← Q05, List.drop_drop, ← Nat.mul_add, e]; rfl
theorem Z43 (F : List UInt8) : (J2c F).drop (64 * (F.length / 64)) = hr4 F ++ [128] ++ List.replicate (zc4 F.length) 0 ++ be8 (8 * F.length) := by
  unfold J2c
  rw [List.append_assoc, List.append_assoc, Q05]
  simp only [List.append_assoc]
theorem Y2b (F : List UInt8) : hw4 F = Hs4 (J2c F) (F.length / 64) := by
  unfold J2c
  rw [List.append_assoc, List.append_assoc]
  exact Z1v _ _
theorem Z44 (F : List UInt8) (k : Nat) : J6h (Hs4 (J2c F) (F.length / 64 + k)) (bt (((J2c F).drop (64 * (F.length / 64))).drop (64 * k))) = Hs4 (J2c F) (F.length / 64 + (k + 1)) := by
  rw [List.drop_drop, ← Nat.mul_add]; rfl
theorem Q80 (F : List UInt8) : F.length / 64 + nb4 (hr4 F).length = nb4 F.length := by
  rw [J6i, Nat.add_comm]; exact Z8i _
end

section

theorem J4g (k : IntKind) (j : Nat) (hj : j ≤ k.bits) (hk : ∀ n : Int, 0 ≤ n → n < 2 ^ j → k.wrap n = n) (a b : Nat) (ha : a < 2 ^ j) (hb : b < 2 ^ j) : bits .xor k a b = ((a ^^^ b : Nat) : Int) := by
  have hp : 2 ^ j ≤ 2 ^ k.bits := Nat.pow_le_pow_right (by decide) hj
  have ha' : a % 2 ^ k.bits = a := Nat.mod_eq_of_lt (Nat.lt_of_lt_of_le ha hp)
  have hb' : b % 2 ^ k.bits = b := Nat.mod_eq_of_lt (Nat.lt_of_lt_of_le hb hp)
  simp only [bits, BitVec.ofInt_natCast, BitVec.toNat_xor, BitVec.toNat_ofNat, ha', hb']
  exact hk _ (Int.natCast_nonneg _) (by exact_mod_cast Nat.xor_lt_two_pow ha hb)
theorem V35 (n : Int) (h0 : 0 ≤ n) (h1 : n < 2 ^ 63) : IntKind.i64.wrap n = n := by rw [IntKind.wrap_i64]; omega
section
variable {a b : Nat}
end
def W4 (x : Int) : Prop := 0 ≤ x ∧ x < 4294967296
variable {x y : Int}
end

section
set_option maxHeartbeats 1500000
attribute [local irreducible] wpList

abbrev hc8 (H : Nat → Int) (v n : Value) : Array Value := J0 .u32 8 H ++ #[v, n]
section
variable {H K : Nat → Int} {v n x : Value}
theorem Q60 : (hc8 H v n).size = 10 := by simp [J1]
theorem Q7u : ∀ i u, (J0 .u32 8 H)[i]? = some u → (hc8 H v n)[0 + i]? = some u := fun i u h => by
  have hi : i < (J0 .u32 8 H).size := by
    rcases Nat.lt_or_ge i (J0 .u32 8 H).size with h1 | h1
    · exact h1
    · rw [Array.getElem?_eq_none h1] at h; cases h
  rw [Nat.zero_add, Array.getElem?_append_left hi]; exact h
theorem Q19 : (hc8 H v n)[8]? = some v := by rw [Array.getElem?_append_right (by rw [J1]; decide), J1]; rfl
theorem J3l : (hc8 H v n)[9]? = some n := by rw [Array.getElem?_append_right (by rw [J1]; decide), J1]; rfl
theorem Q9l : (hc8 H v n).setIfInBounds 8 x = hc8 H x n := by
  apply Array.toList_inj.1; simp [J0]
theorem Q7v : (hc8 H v n).setIfInBounds 9 x = hc8 H v x := by
  apply Array.toList_inj.1; simp [J0]
theorem Q7w : spl (hc8 H v n) 0 (J0 .u32 8 K).toList = hc8 K v n := by
  first | kernel_rfl | rfl | (apply Array.toList_inj.1; simp [spl, J0, List.range, List.range.loop])
end
abbrev hcs (v : Value) (F : List UInt8) : Array Value := hc8 (hw4 F) v (.int .i64 (F.length : Int))
def Hsh (w : World) (p : Nat) (v : Value) (F : List UInt8) : Prop := Blk w p (hcs v F) 196 ∧ Own w v (hr4 F) ∧ v.ownBlock ≠ some p

theorem Y89 (w : World) (hG : GS4 w) :
  Calls Tryz.prog 84 #[] w fun e w' => ∃ p, e = .returned (.pointer (some ⟨p, 0, none⟩)) ∧ w.heap.size ≤ p ∧ Off [] w w' ∧ Hsh w' p (.slice none 0 0) [] := by
 have HG := Lib.hid hG
 clear hG
 have D : Off [] w w := Off.refl _ _
 go_enter Tryz.func84, Tryz.ntmps84
 go_upto_region 1 with fail
 refine wp_region_lit ?_
 refine Z0e (by rfl) rfl rfl ((J2b HG.out D.ext).2) (by kernel_rfl) (by rw [J1]; kernel_rfl) ?_
 (try simp only [Act.put, mA, mB, mC])
 refine Lw ?_ (v := .agg (hcs (.slice none 0 0) [])) (hv := by first | rfl | (go_simp; rfl) | kernel_rfl)
 refine Ln ?_ (z := hcs (.slice none 0 0) []) (t := 196)
 intro M W1 G hO h_
 have N := fbn D G
 replace D := D.o hO
 have J := h_
 clear hO h_ G
 refine Lv ?_
 refine J9 ?_
 go_wp2
 exact bodyPost_ret (v := .pointer (some ⟨M, 0, none⟩)) (by simp only [results, Tryz.results84]; go_simp) rfl ⟨_, rfl, Nat.le_of_not_lt (fun h_ => by simpa using N h_), D, J, Q4l _, fun e_ => by cases e_⟩
end

section

theorem J7k {w : World} {ad : Addr} {n c : Nat} {l : List UInt8} (h : Sl w (.slice (some ad) n c) l) : ∀ j u, (bs8 l)[j]? = some u → w.cell? (ad.add j) = some u := fun j u hu => by
  simp only [bs8, List.getElem?_map, Option.map_eq_some_iff] at hu
  obtain ⟨x, hx, rfl⟩ := hu
  exact Q6o h hx
theorem Q7x (w : World) {l : List UInt8} {cap n : Nat} {z : Array Value} (hn : n = l.length) (hc : l.length ≤ cap) (hm : cap ≤ maxLen) : Sl (w.drew.alloc (.cells ((bs8 l).toArray ++ z) 5)) (.slice (some ⟨w.heap.size, 0, none⟩) n cap) l :=
  Z56 (cs := (bs8 l).toArray ++ z) (t := 5) (by exact heap_alloc_new w.drew _) hn (by omega) hm fun j x hj => by
    have h1 := Q4k hj
    have h2 : j < (bs8 l).length := (List.getElem?_eq_some_iff.1 h1).1
    rw [Nat.zero_add, Array.getElem?_append_left (by simpa using h2)]
    simpa using h1
theorem Q03 (w : World) (ty : TypeId) {A : Option Addr} {u : Value} {l m : List UInt8} (hv : Sl w (.slice A l.length l.length) l) (hu : Sl w u m) (hlen : l.length + m.length ≤ 140737488355328) :
    ∃ v' W, (Builtin.append_ #[22, 22] ty #[.slice A l.length l.length, u]).run Tryz.prog w = .ok v' W ∧ Sl W v' (l ++ m) ∧ Off [] w W ∧ ((m = [] ∧ v' = .slice A l.length l.length) ∨ v'.ownBlock = some w.heap.size) := by
  obtain ⟨i, hi, hz, D, M⟩ := info_parts J68
  have ht := Tryz.underlying22
  obtain ⟨B, c, rfl, hc, hm, h0, J⟩ := id hu
  by_cases R : m = []
  · subst R
    refine ⟨_, w, ?_, by rw [List.append_nil]; exact hv, Off.refl _ _, .inl ⟨rfl, rfl⟩⟩
    cases A <;> cases B <;> simp [Builtin.append_, run_underlying ht, sizeOf, typeInfo, hi, Builtin.lenOf, Builtin.firstCells, storeCells, loadCells, loadCellsFrom]
  have S : 0 < m.length := List.length_pos_iff.2 R
  rcases B with _ | ad
  · obtain ⟨ad, h, _⟩ := J 0 m[0] (List.getElem?_eq_getElem S); cases h
  have N := fun o => grownCap_ge w (l.length + m.length) o 5
  have T := fun o => grownCap_le_maxLen w (l.length + m.length) o 5 (by unfold maxLen; omega)
  rcases A with _ | b
  · have hl : l = [] := by
      cases l with
      | nil => rfl
      | cons x r => obtain ⟨_, _, h, _, _, _, G⟩ := hv; obtain ⟨ad, h2, _⟩ := G 0 x rfl; cases h; cases h2
    subst hl
    have hr := run_append_nil (P := Tryz.prog) (w := w) 22 ty 5 i (.int .u8 0) ht hi hz ad m.length c (bs8 m) (by rw [J02, D, Nat.mul_one]) (J7k hu) S (by omega) (by rw [M]; omega)
    refine ⟨_, _, hr, ?_, J0d ((Below.refl _ _).drew.alloc (Nat.le_refl _) _), .inr rfl⟩
    have hg := N 0; have U := T 0
    simp only [List.length_nil, Nat.zero_add] at hg U
    exact Q7x w rfl hg U
  have hr := run_append_grow (P := Tryz.prog) (w := w) 22 ty 5 i (.int .u8 0) ht hi hz b l.length l.length (bs8 l) (by rw [J02, D, Nat.mul_one]) (J7k hv) ad m.length c (bs8 m) (by rw [J02, D, Nat.mul_one]) (J7k hu) (by omega) (by omega) (by rw [M]; exact growslice_fits (by omega) (by omega))
  refine ⟨_, _, hr, ?_, J0d ((Below.refl _ _).drew.alloc (Nat.le_refl _) _), .inr rfl⟩
  rw [show (bs8 l).toArray ++ (bs8 m).toArray = (bs8 (l ++ m)).toArray by rw [J4r]; simp]
  exact Q7x w (by rw [List.length_append]) (by rw [List.length_append]; exact N _) (T _)
theorem Z41 {w : World} {v : Value} {l : List UInt8} (hs : Sl w v l) : ∃ A, (∀ W, (Instr.sliceAt 22 v none (some (.int .i64 (l.length : Int))) (some (.int .i64 (l.length : Int)))).run Tryz.prog W = .ok (.slice A l.length l.length) W) ∧ Sl w (.slice A l.length l.length) l ∧ (∀ x, (Value.slice A l.length l.length).ownBlock = some x → v.ownBlock = some x) := by
  obtain ⟨A, c, rfl, h1, h2, h0, h3⟩ := hs
  have hA : A.map (fun a : Addr => a.add 0) = A := by
    have : ∀ a : Addr, a.add 0 = a := fun a => by unfold Addr.add; simp
    cases A <;> simp [this]
  refine ⟨A, fun W => ?_, ⟨A, l.length, rfl, Nat.le_refl _, Nat.le_trans h1 h2, fun h => ?_, h3⟩, fun x hx => by cases A <;> exact hx⟩
  · have D : l.length ≤ c := h1
    have h1 := J8z
    cases hq : Tryz.prog.info? 5 with
    | none => simp [hq] at h1
    | some i => simp [Instr.sliceAt, Instr.slice, Instr.sliceBounds, Instr.sliceBound, asIntOf, run_underlying Tryz.underlying22, Sem.run_bind, sizeOf, typeInfo, hq, D, hA]
  have := h0 h; omega
end

section
section
variable {ops : Array Oper} {k : Wk} {Q : Exit → Act → World → Prop} {F : List Nat} {w : World} {H : List As} {l : List Oper} {o : Oper} {a : Act}
theorem MQ (i : Nat) {x y z : Operand} {v : Value} {m : List UInt8} {a' : Value → Act} (h : ∀ A, wpM Tryz.prog ops k F w (.s (.slice A m.length m.length) m :: H) l (a' (.slice A m.length m.length))) (hi : H[i]? = some (.s v m) := by exact rfl) (hw : Region.wanted o (yielded ops a.tmps) = true := by exact rfl)
    (ho : o.op = .slice 22 x none (some y) (some z) := by exact rfl) (hx : a.eval x = v := by exact rfl) (hy : a.eval y = .int .i64 (m.length : Int) := by exact rfl) (hz : a.eval z = .int .i64 (m.length : Int) := by exact rfl) (hp : ∀ v, a.put o.dst v = a' v := by intro b; first | exact pl (by dsimp only [mB, mC]; first | done | exact rfl) | exact pn | exact rfl) : wpM Tryz.prog ops k F w H (o :: l) a := by
  intro W hS
  obtain ⟨A, hr, h1, h2⟩ := Z41 (hS.sl hi)
  have hS' := hS.sub hi h1 fun x hx => by
    have hm : m ≠ [] := fun e => by subst e; unfold sb at hx; rw [if_pos rfl] at hx; cases hx
    unfold sb; rw [if_neg hm]; exact h2 x (J9v hx)
  have D : ∀ W, (execOp a.eval o).run Tryz.prog W = .ok (.value (.slice A m.length m.length)) W := fun W => by simp [execOp, ho, hx, hy, hz, hr W, Sem.run_bind]
  cases k with
  | L Q => exact J2a hw (D W) (by rw [hp]; exact h A W hS')
  | X E => exact J3d hw (fun W' _ => D W') (by rw [hp]; exact h A W hS')
theorem MAt (i : Nat) {s x : Operand} {A : Option Addr} {u : Value} {xs ys : List UInt8} {a' : Value → Act} (hsl : ∀ W, SH F w W H → Sl W u ys) (hlen : xs.length + ys.length ≤ 140737488355328) (h : ∀ v', wpM Tryz.prog ops (.L Q) F w (.s v' (xs ++ ys) :: H) l (a' v')) (hi : H[i]? = some (.s (.slice A xs.length xs.length) xs) := by exact rfl) (hw : Region.wanted o (yielded ops a.tmps) = true := by exact rfl)
    (ho : o.op = .call { callee := .builtin .append, args := #[s, x], argTypes := #[22, 22] } := by exact rfl) (hs : a.eval s = .slice A xs.length xs.length := by exact rfl) (hx : a.eval x = u := by exact rfl)
    (hp : ∀ v, a.put o.dst v = a' v := by intro b; first | exact pl (by dsimp only [mB, mC]; first | done | exact rfl) | exact pn | exact rfl) : wpM Tryz.prog ops (.L Q) F w H (o :: l) a := by
  intro W hS
  obtain ⟨v', W', D, h1, h2, h3⟩ := Q03 W o.type (hS.sl hi) (hsl W hS) hlen
  have hS' : SH F w W' (.s v' (xs ++ ys) :: H) := by
    rcases h3 with ⟨e1, e2⟩ | h3
    · subst e1 e2
      refine (hS.next h2).sub hi h1 ?_
      rw [List.append_nil]; exact J43
    refine hS.newS h2 h1 fun k hk => ?_
    have := J9v hk
    rw [h3] at this
    exact Nat.le_of_eq (Option.some.inj this)
  refine J7r hw (v := v') (W := W') ?_ (by rw [hp]; exact h v' W' hS')
  unfold execOp
  simp only [ho, resolve, invoke, builtin, Sem.run_bind, Sem.run_pure, Result.andThen_ok, List.map_toArray, List.map_cons, List.map_nil, hs, hx, D]
end
theorem Q7y (h : Nat → Int) (L m : List UInt8) (u : Value) (hl : 64 ≤ L.length) (hm : m = L.take 64) (w : World) (hs : Sl w u m) (hG : GS4 w) : Calls Tryz.prog 128 #[.agg (J0 .u32 8 h), u] w fun e w' => K7 (.agg (J0 .u32 8 (J6h h (bt L)))) w w' e := by
  have G : m.length = 64 := by rw [hm, List.length_take]; omega
  obtain ⟨ad, c, rfl, _⟩ := Q4n hs (by omega)
  have D : m.length ≤ c := by obtain ⟨A, c', e, h1, _⟩ := hs; injection e with _ _ e; omega
  have hc := Z8d h m ad c (by omega) D w hs hG
  rw [show J6h h (bt L) = J6h h (bt m) from Q2u fun j hj => by
    unfold bt; rw [hm, List.getD_eq_getElem?_getD, List.getD_eq_getElem?_getD, List.getElem?_take_of_lt hj]]
  exact hc
abbrev gs4 : As := .p [11, 4] GS4
theorem Z42 {w : World} (h : GS4 w) : gs4.holds w :=
  ⟨h, fun k hk => by
    rcases List.mem_cons.1 hk with rfl | hk
    · exact h.1.2
    · rw [List.mem_singleton.1 hk]; exact h.2.2, fun W hs he => ⟨J2v h.1 hs (he _ (by simp)), J2v h.2 hs (he _ (by simp))⟩⟩
end

section
set_option maxHeartbeats 1500000
attribute [local irreducible] wpList U0 wpX
theorem Z8f (p : Nat) (v u : Value) (F b : List UInt8) (hlen : F.length + b.length ≤ 140737488355200) (w : World) (h_ : SH (SH.feet [.b p (hcs v F) 196, .o v (hr4 F), .s u b, gs4]) w w [.b p (hcs v F) 196, .o v (hr4 F), .s u b, gs4]) :
  Calls Tryz.prog 85 #[.pointer (some ⟨p, 0, none⟩), u] w fun e w' => ∃ v', e = .returned (.tuple #[]) ∧ SH (SH.feet [.b p (hcs v F) 196, .o v (hr4 F), .s u b, gs4]) w w' [.b p (hcs v' (F ++ b)) 196, .o v' (hr4 (F ++ b)), .s u b, gs4] := by
 have V := Q9m F
 have hS := h_
 clear h_
 go_enter Tryz.func85, Tryz.ntmps85
 go_upto_region 1 with fail
 refine RL hS ?_
 clear hS
 refine MV ?_
 refine MV ?_
 refine MV ?_
 refine MG 0 ?_ (v := .int .i64 (F.length : Int)) (hj := J3l)
 refine MV ?_
 refine MF (v := .int .i64 (b.length : Int)) (fun W hS => J1u (hS.sl (i := 2) rfl) rfl rfl) ?_
 refine MW ?_ (v := .int .i64 ((F ++ b).length : Int)) (hv := by intro W; go_simp; (try simp only [List.length_append, IntKind.wrap_i64]); (try omega))
 refine MV ?_
 refine MV ?_
 refine MP 0 (v := .int .i64 ((F ++ b).length : Int)) (cs' := hc8 (hw4 F) v (.int .i64 ((F ++ b).length : Int))) ?_ (hs := by rw [Q60]; decide) (hc := Q7v)
 refine MZ fun W hS => ?_
 go_upto_region 2 with fail
 refine RX 16 hS ?_
 clear hS
 refine MV ?_
 refine MV ?_
 refine MV ?_
 refine MG 0 ?_ (v := v) (hj := Q19)
 refine MV ?_
 refine MV ?_
 refine MV ?_
 refine MG 0 ?_ (v := v) (hj := Q19)
 refine MF (v := .int .i64 ((hr4 F).length : Int)) (fun W hS => J1u (hS.osl (i := 1) rfl) rfl rfl) ?_
 refine MV ?_
 refine MV ?_
 refine MV ?_
 refine MG 0 ?_ (v := v) (hj := Q19)
 refine MF (v := .int .i64 ((hr4 F).length : Int)) (fun W hS => J1u (hS.osl (i := 1) rfl) rfl rfl) ?_
 refine MT (fun W hS => hS.read (i := 1) rfl (hS.osl (i := 1) rfl) J43) ?_
 refine MQ 1 ?_
 intro T
 refine MV ?_
 refine MZt ?_
 refine MAt 0 (xs := hr4 F) (ys := b) (fun W hS => (hS.sl (i := 3) rfl)) (by omega) ?_
 intro X
 refine MV ?_
 refine MZn fun W hS => ?_
 rw [Z1v F b] at hS
 go_wp2_with fail
 go_loopw [4] (fun sv wr => ∃ (k : Nat) (a : Value), (64 * k ≤ (hr4 F ++ b).length) ∧ (a = sv) ∧ SH (SH.feet [.b p (hcs v F) 196, .o v (hr4 F), .s u b, gs4]) w wr [.b p (hc8 (Hs4 (F ++ b) (F.length / 64 + k)) v (.int .i64 ((F ++ b).length : Int))) 196, .s a (List.drop (64 * k) (hr4 F ++ b)), .s u b, gs4])
  (fun sv _ => J8c sv)
 case atStart => exact ⟨0, _, Nat.zero_le _, rfl, (hS.pick [2, 0, 4, 5])⟩
 clear hS
 case round =>
  obtain ⟨k, a, hk, rfl, hS⟩ := hrel
  have lb := J5k (hS.sl (i := 1) rfl)
  by_cases hz : 64 ≤ (List.drop (64 * k) (hr4 F ++ b)).length
  ·
   go_upto_region 3 with fail
   refine RL hS ?_
   clear hS
   refine MV ?_
   refine MF (v := .int .i64 ((List.drop (64 * k) (hr4 F ++ b)).length : Int)) (fun W hS => J1u (hS.sl (i := 1) rfl) rfl rfl) ?_
   refine MW ?_ (v := .bool true) (hv := by intro W; have D := hz; simp only [List.length_drop, List.length_append] at D; go_simp; omega)
   refine MZ fun W hS => ?_
   go_upto_region 4 with fail
   refine RX 10 hS ?_
   clear hS
   refine MV ?_
   refine MV ?_
   refine MV ?_
   refine MV ?_
   refine Ml 0 Q7u ?_
   refine MV ?_
   refine MH 1 64 (m' := (List.take 64 (List.drop (64 * k) (hr4 F ++ b)))) (by exact hz) ?_
   intro N
   refine MC (v := .agg (J0 .u32 8 (J6h (Hs4 (F ++ b) (F.length / 64 + k)) (bt (List.drop (64 * k) (hr4 F ++ b)))))) (fun W hS => Q7y (Hs4 (F ++ b) (F.length / 64 + k)) (List.drop (64 * k) (hr4 F ++ b)) (List.take 64 (List.drop (64 * k) (hr4 F ++ b))) N hz rfl W (hS.sl (i := 0) rfl) (hS.pp (i := 4) rfl)) ?_
   refine MV ?_
   refine MV ?_
   refine MZt ?_
   refine Mr 1 (new := hc8 (J6h (Hs4 (F ++ b) (F.length / 64 + k)) (bt (List.drop (64 * k) (hr4 F ++ b)))) v (.int .i64 ((F ++ b).length : Int))) Q7w ?_ (hs := by rw [Q60, J1]; decide)
   refine MZn fun W hS => ?_
   go_upto_region 5 with fail
   refine RL hS ?_
   clear hS
   refine MV ?_
   refine Mt 2 64 (m' := (List.drop (64 * (k + 1)) (hr4 F ++ b))) (by exact hz) ?_ (hm := Q2v _ _)
   intro U
   refine MV ?_
   refine MZ fun W hS => ?_
   have la := J5k (hS.sl (i := 0) rfl)
   simp only [List.length_drop] at la lb hz
   rw [Z8g] at hS
   go_wp2
   go_roundw
   case rel => exact ⟨k + 1, _, by omega, rfl, (hS.pick [2, 0, 4, 5])⟩
   case measure => simp only [la, lb]; omega
  go_upto_region 3 with fail
  refine RL hS ?_
  clear hS
  refine MV ?_
  refine MF (v := .int .i64 ((List.drop (64 * k) (hr4 F ++ b)).length : Int)) (fun W hS => J1u (hS.sl (i := 1) rfl) rfl rfl) ?_
  refine MW ?_ (v := .bool false) (hv := by intro W; have D := hz; simp only [List.length_drop, List.length_append] at D; go_simp; omega)
  refine MZ fun W hS => ?_
  obtain ⟨G, J⟩ := Y28 (F := F) (b := b) (k := k) (by simp only [List.length_drop] at hz; omega)
  rw [G, J] at hS
  clear G J
  have S := Q9m (F ++ b)
  go_upto_region 6 with fail
  refine RL hS ?_
  clear hS
  refine MV ?_
  refine MO (m := []) (n := 0) (z := #[]) ?_
  intro R
  refine MV ?_
  refine MA 0 (xs := []) (ys := (hr4 (F ++ b))) (fun W hS => (hS.sl (i := 2) rfl)) (by first | omega | (simp only [List.length_append, List.length_drop, List.length_nil]; omega)) ?_
  intro M
  refine MT (fun W hS => by rw [List.nil_append] at hS; exact hS) ?_
  refine MV ?_
  refine MV ?_
  refine MP 1 (v := M) (cs' := hc8 (hw4 (F ++ b)) M (.int .i64 ((F ++ b).length : Int))) ?_ (hv := fun W hS => K6 (hS.osl (i := 0) rfl)) (hs := by rw [Q60]; decide) (hc := Q9l)
  refine MZ fun W hS => ?_
  go_wp2
  exact bodyPost_end (v := .tuple #[]) (by simp only [results, Tryz.results85]; go_simp) rfl ⟨_, rfl, hS.pick [1, 0, 3, 4]⟩
end
end Go.Proofs.YtejkmhgkkibafaaGreatDoor

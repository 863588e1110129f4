/- Contracts and plain laws that superChecks_holds rests on. Conditions: the variables' cells hold the numbers of the program's text. -/
import Derived.Test.YtejkmhgkkibafaaGreatDoorJ6
import Derived.Test.YtejkmhgkkibafaaGreatDoorJ3
import Derived.Test.YtejkmhgkkibafaaGreatDoorJ8
import Derived.Test.YtejkmhgkkibafaaGreatDoorJ17
import Derived.Deep.DeepCutAuto
import Derived.Test.YtejkmhgkkibafaaGreatDoorJ9
import Derived.Test.YtejkmhgkkibafaaGreatDoorS8Ei
import Derived.Laws.BitsLemmas
import Derived.Test.YtejkmhgkkibafaaGreatDoorJ5
open Go.RowKit
set_option maxRecDepth 100000
set_option linter.unusedSimpArgs false
set_option linter.unusedVariables false
namespace Go.Proofs.YtejkmhgkkibafaaGreatDoor.S8.Sc
section
set_option maxHeartbeats 4000000

end

section
set_option maxHeartbeats 4000000

def canonV (n : Nat) : Value := if n < LL then .tuple #[L4 n, .bool true] else .tuple #[L4 0, .bool false]
theorem Q2o (V : Nat) : c4 V = J0 .u64 4 (K3 V) := rfl
theorem J7o (i : Nat) : K3 0 i = 0 := by simp [K3]
theorem Z7p : J0 .u64 4 (K3 0) = #[.int .u64 0, .int .u64 0, .int .u64 0, .int .u64 0] := by
  show #[Value.int .u64 (K3 0 0), Value.int .u64 (K3 0 1), Value.int .u64 (K3 0 2), Value.int .u64 (K3 0 3)] = _
  rw [J7o, J7o, J7o, J7o]
theorem J9k (bs : Nat → Int) (h : ∀ j, J64 (bs j)) (n q r : Nat) (hr : r < 8) :
    (J0 .u64 n (K3 (J0v bs (8 * q + r)))).setIfInBounds q (.int .u64 (bits .or .u64 (K3 (J0v bs (8 * q + r)) q) (IntKind.wrap .u64 (bs (8 * q + r) * 2 ^ (8 * r))))) = J0 .u64 n (K3 (J0v bs (8 * q + r + 1))) := by
  rw [Z0k bs h q r hr, V6]
  apply K8
  intro j _
  by_cases hj : j = q
  · subst hj; rw [J1z]
  rw [J0i _ _ _ _ hj, J75 bs h (8 * q + r) j (by omega)]

theorem canon_c (bs : Nat → Int) (hbs : ∀ j, J64 (bs j)) (w : World) (hG : GL w) :
    Calls Tryz.prog 105 #[.agg (J0 .u8 32 bs)] w fun e w' => K6 (canonV (J0v bs 32)) w w' e := by
  have HG := Lib.hid hG
  have n0 := hG.2.2.2.2
  clear hG
  have HB := Lib.hid hbs
  clear hbs
  go_enter Tryz.func105, Tryz.ntmps105
  go_wp2_with (refine wpList_load_row rfl 23 (.tmp 1) rfl w.heap.size rfl 23 (J0 .u8 32 bs) (0, 0) _ (Y8 (Y8 (V2 _ _ rfl) _) _) Tryz.underlying23 rfl (by kernel_rfl) ?_)
  go_loopw [8] (fun ii wr => ∃ k : Nat, k ≤ 32 ∧ ii = .int .i64 k ∧ Below w.heap.size w wr ∧
      Blk wr (w.heap.size + 1) #[.int .u64 0, .int .u64 0, .int .u64 0, .int .u64 0] 153 ∧ Blk wr (w.heap.size + 2) (J0 .u64 4 (K3 (J0v bs k))) 153)
    (fun ii _ => (32 - intOf ii).toNat)
  case atStart =>
    refine ⟨0, by omega, rfl, ?_, ?_, ?_⟩
    · exact bz
    · exact Y8 (V2 _ _ (World.size_alloc _ _).symm) _
    rw [show J0v bs 0 = 0 from rfl, Z7p]; exact V2 _ _ (by simp)
  case round =>
    obtain ⟨k, hk, rfl, G, b1, b2⟩ := hrel
    by_cases N : k = 32
    · subst N
      have hV : J0v bs 32 < Q7 := J5d bs HB.out 32
      rw [← Q2o] at b2
      have R := Lib.hid (J3s HG.out G HG.out.2.2.2.2)
      have M.size := G.size
      have X := J6 b2
      have c2 := Q0 b2
      obtain ⟨g0, g1, g2, g3, g4⟩ := R.out
      go_wp2_with fail
      refine (Y5r (J0v bs 32) hV _).mono ?_
      rintro e w1 ⟨rfl, J⟩
      have β := Q0 (J1 b2 J)
      have α := Q0 (J1 b1 J)
      have T := V5 (J1 b1 J)
      have s1 := J.size
      have n1 : w.heap.size + 1 < w.heap.size + 2 := by omega
      clear c2
      by_cases D : J0v bs 32 < LL
      · rw [show decide (J0v bs 32 < LL) = true from decide_eq_true D]
        have HL := Lib.hid D
        clear D
        go_wp2
        refine bodyPost_ret (v := .tuple #[L4 (J0v bs 32), .bool true]) (by simp only [results, Tryz.results105]; go_simp) rfl ⟨(by unfold canonV; rw [if_pos HL.out]), ?_⟩
        exact bz
      rw [show decide (J0v bs 32 < LL) = false from decide_eq_false D]
      have HL := Lib.hid D
      clear D
      go_wp2
      refine bodyPost_ret (v := .tuple #[A4 0 0 0 0, .bool false]) (by simp only [results, Tryz.results105]; go_simp) rfl ⟨(by unfold canonV; rw [if_neg HL.out]; rfl), ?_⟩
      exact bz
    obtain ⟨q, r, hr, rfl⟩ : ∃ q r, r < 8 ∧ k = 8 * q + r := ⟨k / 8, k % 8, by omega, by omega⟩
    have S : ∀ W, (Instr.index 23 (.agg (J0 .u8 32 bs)) (.int .i64 (8 * (q : Int) + (r : Int)))).run Tryz.prog W = .ok (.int .u8 (bs (8 * q + r))) W :=
      fun W => J1b W 23 5 32 .u8 .i64 _ (8 * q + r) _ Tryz.underlying23 Tryz.underlying5 (by kernel_rfl) (by omega) (J4 _ _ _ _ (by omega))
    have d1 : IntKind.i64.wrap ((8 * (q : Int) + (r : Int)).tdiv 8) = (q : Int) := by rw [Int.tdiv_eq_ediv_of_nonneg (by omega), IntWalk.i64_in _ (by omega)]; omega
    have d2 : (8 * (q : Int) + (r : Int)).tmod 8 = (r : Int) := by rw [Int.tmod_eq_emod_of_nonneg (by omega)]; omega
    have d3 : IntKind.i64.wrap (8 * (r : Int)) = 8 * (r : Int) := IntWalk.i64_in _ (by omega)
    have d4 : IntKind.u64.wrap (bs (8 * q + r)) = bs (8 * q + r) := by have := HB.out (8 * q + r); unfold J64 at this; rw [IntKind.wrap_u64]; omega
    have U : (0 : Int) ≤ (q : Int) := by omega
    have Y : (q : Int) < 4 := by omega
    have Z : (0 : Int) ≤ (r : Int) := by omega
    have V : (r : Int) < 8 := by omega
    have c2 := (Q0 b2 q).trans (J4 _ _ _ _ (by omega))
    have f2 := V5 b2
    have hs := fun v => Y5 b2 q v
    go_wp2
    go_region
    go_wp2
    have M.size := G.size
    go_roundw
    case rel =>
      refine ⟨8 * q + r + 1, by omega, by go_num, ?_, Y9 (J8 b1 (by omega) _ _), ?_⟩
      · exact bz
      have := hs (.int .u64 (bits .or .u64 (K3 (J0v bs (8 * q + r)) q) (IntKind.wrap .u64 (bs (8 * q + r) * 2 ^ (8 * r)))))
      rw [J9k bs HB.out 4 q r hr] at this
      exact Y9 this
    case measure => simp [intOf]; omega
end

section
set_option maxHeartbeats 4000000

theorem Z7q (k : IntKind) (n : Nat) : madeCells (Value.int k 0).cells n = J0 k n (fun _ => 0) := by
  apply Array.ext
  · simp [madeCells, J0]
  intro i h1 h2
  simp [madeCells, J0, Value.cells, Nat.mod_one]
theorem Z3u (bs : Nat → Int) (h : ∀ j, J64 (bs j)) (k n : Nat) (hk : k ≤ 8 * n) : J1u (K3 (J0v bs k)) n = J0v bs k := by
  rw [J74, Nat.mod_eq_of_lt]
  exact Nat.lt_of_lt_of_le (J5d bs h k) (Nat.pow_le_pow_right (by omega) (by omega))

theorem of_c (bs : Nat → Int) (hbs : ∀ j, J64 (bs j)) (b off len cap : Nat) (w : World) (hG : GL w) (hlen : len ≤ 700)
    (hc : ∀ j, j < len → w.cell? ⟨b, off + j, none⟩ = some (.int .u8 (bs j))) (hb : b < w.heap.size) :
    Calls Tryz.prog 95 #[.slice (some ⟨b, off, none⟩) len cap] w fun e w' => K6 (L4 (J0v bs len % LL)) w w' e := by
  have HG := Lib.hid hG
  have n0 := hG.2.2.2.2
  clear hG
  have HB := Lib.hid hbs
  have HC := Lib.hid hc
  clear hbs hc
  obtain ⟨n, hn⟩ : ∃ n, n = (len + 7) / 8 := ⟨_, rfl⟩
  have d0 : ((len : Int) + 7) / 8 = (n : Int) := by omega
  have R : len ≤ 8 * n := by omega
  have G : n ≤ 100 := by omega
  have T : ∀ W, (Instr.makeSlice 201 (.int .i64 (n : Int)) (.int .i64 (n : Int))).run Tryz.prog W = .ok (.slice (some ⟨W.heap.size, 0, none⟩) n n) (W.alloc (.cells (J0 .u64 n fun _ => 0) 71)) := by
    intro W
    obtain ⟨i, hi, hz, hs, N⟩ := info_parts (show (Tryz.prog.info? 71).map (fun i => (i.zero, i.size, i.bytes)) = some (some (.int .u64 0), 1, 8) by kernel_rfl)
    have h := run_make (P := Tryz.prog) W 201 71 i (.int .u64 0) Tryz.underlying201 hi hz .i64 .i64 (n : Int) (n : Int) (by omega) (by omega) (by rw [N]; omega) (by omega)
    rw [Int.toNat_natCast, hs, Nat.mul_one, Z7q] at h
    exact h
  have HN := Lib.hid hn
  clear hn
  go_enter Tryz.func95, Tryz.ntmps95
  go_wp2
  go_loopw [13] (fun ii wr => ∃ k : Nat, k ≤ len ∧ ii = .int .i64 k ∧ Below w.heap.size w wr ∧
      Blk wr w.heap.size #[.int .u64 0, .int .u64 0, .int .u64 0, .int .u64 0] 153 ∧ Blk wr (w.heap.size + 1) (J0 .u64 n (K3 (J0v bs k))) 71)
    (fun ii _ => (len - intOf ii).toNat)
  case atStart =>
    refine ⟨0, by omega, rfl, ?_, Y8 (V2 _ _ rfl) _, ?_⟩
    · exact bz
    rw [show J0v bs 0 = 0 from rfl, K8 .u64 n (K3 0) (fun _ => 0) (fun i _ => J7o i)]
    exact V2 _ _ (by simp)
  case round =>
    obtain ⟨k, hk, rfl, D, b1, b2⟩ := hrel
    have S.size := D.size
    by_cases J : k = len
    · subst J
      have hs : ∀ j, V4 (K3 (J0v bs k) j) := fun j => J0q _ j
      go_wp2_with (go_at_call 133; refine (Q66 (K3 (J0v bs k)) (w.heap.size + 1) 0 n n _ (J3s HG.out D HG.out.2.2.2.2) G (fun j _ => hs j) (fun j hj => (by rw [Nat.zero_add]; exact (Q0 b2 j).trans (J4 _ _ _ _ hj))) (J6 b2)).mono ?_; rintro e w1 ⟨rfl, M⟩; have c1 := Q0 (J1 b1 M); have f1 := V5 (J1 b1 M))
      refine bodyPost_ret (v := L4 (J1u (K3 (J0v bs k)) n % LL)) (by simp only [results, Tryz.results95]; go_simp) rfl ⟨?_, ?_⟩
      · rw [Z3u bs HB.out k n R]
      exact bz
    obtain ⟨q, r, hr, rfl⟩ : ∃ q r, r < 8 ∧ k = 8 * q + r := ⟨k / 8, k % 8, by omega, by omega⟩
    have hkl' : 8 * (q : Int) + (r : Int) < (len : Int) := by omega
    have cb := (D.cell (p := ⟨b, off + (8 * q + r), none⟩) hb).trans (HC.out (8 * q + r) (by omega))
    have d1 : IntKind.i64.wrap ((8 * (q : Int) + (r : Int)).tdiv 8) = (q : Int) := by rw [Int.tdiv_eq_ediv_of_nonneg (by omega), IntWalk.i64_in _ (by omega)]; omega
    have d2 : (8 * (q : Int) + (r : Int)).tmod 8 = (r : Int) := by rw [Int.tmod_eq_emod_of_nonneg (by omega)]; omega
    have d3 : IntKind.i64.wrap (8 * (r : Int)) = 8 * (r : Int) := IntWalk.i64_in _ (by omega)
    have d4 : IntKind.u64.wrap (bs (8 * q + r)) = bs (8 * q + r) := by have := HB.out (8 * q + r); unfold J64 at this; rw [IntKind.wrap_u64]; omega
    have U : (0 : Int) ≤ (q : Int) := by omega
    have X : (q : Int) < (n : Int) := by have := HN.out; omega
    have Y : (0 : Int) ≤ (r : Int) := by omega
    have V : (r : Int) < 8 := by omega
    have c2 := (Q0 b2 q).trans (J4 _ _ _ _ (by omega))
    have f2 := V5 b2
    have hs := fun v => Y5 b2 q v
    clear J
    go_wp2
    go_region
    go_wp2
    go_roundw
    case rel =>
      refine ⟨8 * q + r + 1, by omega, by go_num, ?_, Y9 (J8 b1 (by omega) _ _), ?_⟩
      · exact bz
      have := hs (.int .u64 (bits .or .u64 (K3 (J0v bs (8 * q + r)) q) (IntKind.wrap .u64 (bs (8 * q + r) * 2 ^ (8 * r)))))
      rw [J9k bs HB.out n q r hr] at this
      exact Y9 this
    case measure => simp [intOf]; omega
end

section
set_option maxHeartbeats 4000000

def J3t (bs : Nat → Int) : Nat → Int := fun j => if j = 0 then bs 0 - bs 0 % 8 else if j = 31 then bs 31 % 64 + 64 else bs j
theorem Y27 (x : Int) (h : J64 x) : bits .andNot .u8 x 7 = x - x % 8 := by
  obtain ⟨h0, h1⟩ := h
  obtain ⟨n, rfl⟩ := Int.eq_ofNat_of_zero_le h0
  have D : ∀ n : Nat, n < 256 → bits .andNot .u8 (n : Int) 7 = (n : Int) - (n : Int) % 8 := by decide +kernel
  exact D n (by omega)
theorem Z3v (x : Int) (h : J64 x) : bits .or .u8 (bits .and .u8 x 63) 64 = x % 64 + 64 := by
  obtain ⟨h0, h1⟩ := h
  obtain ⟨n, rfl⟩ := Int.eq_ofNat_of_zero_le h0
  have D : ∀ n : Nat, n < 256 → bits .or .u8 (bits .and .u8 (n : Int) 63) 64 = (n : Int) % 64 + 64 := by decide +kernel
  exact D n (by omega)
theorem Z3w (bs : Nat → Int) : ((J0 .u8 32 bs).setIfInBounds 0 (.int .u8 (bs 0 - bs 0 % 8))).setIfInBounds 31 (.int .u8 (bs 31 % 64 + 64)) = J0 .u8 32 (J3t bs) := by
  rw [V6, V6]
  apply K8
  intro j _
  unfold upd J3t
  by_cases h : j = 31
  · subst h; rfl
  by_cases h2 : j = 0
  · subst h2; rfl
  simp [h, h2]

theorem clamp_c (bs : Nat → Int) (hbs : ∀ j, J64 (bs j)) (w : World) :
  Calls Tryz.prog 126 #[.agg (J0 .u8 32 bs)] w fun e w' => K6 (.agg (J0 .u8 32 (J3t bs))) w w' e := by
 have a0 := Y27 (bs 0) (hbs 0)
 have a1 := Z3v (bs 31) (hbs 31)
 clear hbs
 go_enter Tryz.func126, Tryz.ntmps126
 go_upto_region 1 with fail
 refine wn2 (c1 := (J0 .u8 32 bs)) (t1 := 23) (c2 := (J0 .u8 32 (fun _ => 0))) (t2 := 23) fun W J b1 b2 => ?_
 have c0 := (Q0 b1 0).trans (J4 _ _ _ _ (by omega))
 have M := (Q0 b1 31).trans (J4 _ _ _ _ (by omega))
 have f1 := V5 b1
 have hs := Y5 (Y5 b1 0 (.int .u8 (bs 0 - bs 0 % 8))) 31 (.int .u8 (bs 31 % 64 + 64))
 rw [Z3w] at hs
 have G := J8 (J8 b2 (show w.heap.size + 1 ≠ w.heap.size by omega) 0 (.int .u8 (bs 0 - bs 0 % 8))) (show w.heap.size + 1 ≠ w.heap.size by omega) 31 (.int .u8 (bs 31 % 64 + 64))
 have HS := Lib.hid hs
 have D := Lib.hid G
 clear hs G
 go_wp2_with (first
  | (refine wpList_load_row rfl 23 (.tmp 1) rfl w.heap.size rfl _ _ _ _ HS.out Tryz.underlying23 rfl (by kernel_rfl) ?_)
  | (refine wpList_store_row rfl 23 (.tmp 2) (.tmp 12) rfl (w.heap.size + 1) _ rfl rfl 23 _ D.out (by kernel_rfl) (by kernel_rfl) (Z0 _ _ _) ?_))
 refine bodyPost_ret (results_cell_row rfl _ _ (w.heap.size + 1) _ _ _ _ rfl (Y6 D.out _) Tryz.underlying23 rfl (by kernel_rfl)) rfl ⟨rfl, Z6 ?_ (by omega) _⟩
 exact Z9 (Z9 J (by omega) _ _) (by omega) _ _
end
end Go.Proofs.YtejkmhgkkibafaaGreatDoor.S8.Sc

namespace Go.Proofs.YtejkmhgkkibafaaGreatDoor.S8
section
open Sc (LL J3t)
/-! ### Bytes and numbers -/
theorem Y8o (m n V : Nat) : lb (m + n) V = lb m V ++ lb n (V / 2 ^ (8 * m)) := by
  induction m generalizing V with
  | zero => simp [show lb 0 V = [] from rfl]
  | succ m ih =>
    rw [show m + 1 + n = (m + n) + 1 by omega, J82, J82, ih, List.cons_append, Nat.div_div_eq_div_mul, show 256 * 2 ^ (8 * m) = 2 ^ (8 * (m + 1)) by rw [show 8 * (m + 1) = 8 * m + 8 by omega, Nat.pow_add]; omega]
def lo (V : Nat) : Nat := V % 2 ^ 256
def hi (V : Nat) : Nat := V / 2 ^ 256
theorem Z85 (V : Nat) : lo V < 2 ^ 256 := Nat.mod_lt _ (by decide)
theorem Q32 {V : Nat} (h : V < 2 ^ (256 + 256)) : hi V < 2 ^ 256 := by unfold hi; rw [Nat.div_lt_iff_lt_mul (by decide), ← Nat.pow_add]; exact h
theorem Y8p {V j : Nat} (hj : j < 32) : Q3 (lo V) j = Q3 V j := by
  unfold Q3 lo
  have e : (2 : Nat) ^ 256 = 2 ^ (8 * j) * 2 ^ (256 - 8 * j) := by rw [← Nat.pow_add]; congr 1; omega
  have e2 : (2 : Nat) ^ (256 - 8 * j) = 256 * 2 ^ (248 - 8 * j) := by rw [show 256 - 8 * j = 8 + (248 - 8 * j) by omega, Nat.pow_add]
  rw [e, Nat.mod_mul_right_div_self, e2, Nat.mod_mul_right_mod]
theorem Y8q (V j : Nat) : Q3 (hi V) j = Q3 V (32 + j) := by
  unfold Q3 hi
  rw [Nat.div_div_eq_div_mul, ← Nat.pow_add, show 256 + 8 * j = 8 * (32 + j) by omega]
theorem Z7y (V : Nat) : lb 64 V = lb 32 (lo V) ++ lb 32 (hi V) := by
  rw [show (64 : Nat) = 32 + 32 from rfl, Y8o, lo, ← Y6i 32 V]; rfl
theorem Q7y {V : Nat} : ∀ i v, (J0 .u8 32 (Q3 (lo V)))[i]? = some v → (J0 .u8 64 (Q3 V))[0 + i]? = some v := fun i v h => by
  have hi : i < 32 := by have := (Array.getElem?_eq_some_iff.1 h).1; rwa [J2] at this
  rw [J4 _ _ _ _ hi, Y8p hi] at h
  rw [Nat.zero_add, J4 _ _ _ _ (by omega)]; exact h
theorem Y2d {V : Nat} : ∀ i v, (J0 .u8 32 (Q3 (hi V)))[i]? = some v → (J0 .u8 64 (Q3 V))[32 + i]? = some v := fun i v h => by
  have hi : i < 32 := by have := (Array.getElem?_eq_some_iff.1 h).1; rwa [J2] at this
  rw [J4 _ _ _ _ hi, Y8q] at h
  rw [J4 _ _ _ _ (by omega)]; exact h
/-! ### Sums -/
def hs (F : List UInt8) : Nat := le (smb F)
theorem Q9o (F : List UInt8) : hs F < 2 ^ (8 * 64) := by have := Q6q (smb F); rwa [Q30] at this
theorem V4c : 8 * 64 = 256 + 256 := rfl
theorem V22 (F : List UInt8) : hs F < 2 ^ (256 + 256) := by have := Q9o F; rwa [V4c] at this
theorem Z87 (F : List UInt8) : smb F = lb 64 (hs F) := (Q8t (Q30 F)).symm
theorem V1l (F : List UInt8) : J0 .u8 64 (sm F) = J0 .u8 64 (Q3 (hs F)) := Q6p (by rw [Z3t, Z87, J72, J2d])
/-! ### Secrets -/
def clN (V : Nat) : Nat := J0v (J3t (Q3 V)) 32
theorem Q83 (V j : Nat) : J64 (J3t (Q3 V) j) := by
  have h0 := J38 V 0
  have h1 := J38 V 31
  have h2 := J38 V j
  unfold J3t J64 at *
  split
  · omega
  split
  · omega
  exact h2
theorem Z7x (V : Nat) : clN V < 2 ^ 256 := J5d _ (Q83 V) 32
theorem Y2b (V : Nat) : J0 .u8 32 (J3t (Q3 V)) = J0 .u8 32 (Q3 (clN V)) := K8 _ _ _ _ fun j hj => (Q73 _ (Q83 V) 32 j hj).symm
def kN (S : Nat) : Nat := clN (lo (hs (lb 32 S)))
def kD (S : Nat) : Nat := hi (hs (lb 32 S))
def kP (S : Nat) : Nat := enc (pm BP (kN S))
theorem V1o (S : Nat) : kN S < 2 ^ 256 := Z7x _
theorem V1p (S : Nat) : kD S < 2 ^ 256 := Q32 (V22 _)
/-! ### Signatures -/
def sR (S : Nat) (L : List UInt8) : Nat := hs (lb 32 (kD S) ++ L) % LL
def sA (S : Nat) (L : List UInt8) : Nat := enc (pm BP (sR S L))
def sK (S : Nat) (L : List UInt8) : Nat := hs (lb 32 (sA S L) ++ lb 32 (kP S) ++ L) % LL
def sT (S : Nat) (L : List UInt8) : Nat := (sR S L + sK S L * (kN S % LL) % LL) % LL
def sig (S : Nat) (L : List UInt8) : Nat := sA S L + 2 ^ 256 * sT S L
def vK (V : Nat) (L : List UInt8) (G : Nat) : Nat := hs (lb 32 (lo G) ++ lb 32 V ++ L) % LL
def vP (V : Nat) (L : List UInt8) (G : Nat) : Pr := J12 (pm BP (hi G)) (pm (J5c (dPt V)) (vK V L G))
def vfy (V : Nat) (L : List UInt8) (G : Nat) : Nat := if LL ≤ hi G then 16 else if dOk V = false then 15 else if enc (vP V L G) = lo G then 0 else 16
theorem Q0d (a : Pr) : enc a < 2 ^ 256 := by
  unfold enc
  have h : a.2.val < 2 ^ 255 := Nat.lt_trans a.2.isLt Q5t
  have h2 : a.1.val % 2 < 2 := Nat.mod_lt _ (by decide)
  have e : (2 : Nat) ^ 256 = 2 ^ 255 + 2 ^ 255 := by decide
  generalize (2 : Nat) ^ 255 = T at *
  have : T * (a.1.val % 2) ≤ T * 1 := Nat.mul_le_mul_left T (by omega)
  omega
theorem kP_lt (S : Nat) : kP S < 2 ^ 256 := Q0d _
theorem Y8r : 0 < LL := by decide
theorem J1q : LL < 2 ^ 256 := by decide
theorem mLL (n : Nat) : n % LL < LL := Nat.mod_lt _ Y8r
theorem Z88 (S : Nat) (L : List UInt8) : sA S L < 2 ^ 256 := Q0d _
theorem Y5w (S : Nat) (L : List UInt8) : sT S L < LL := mLL _
theorem Z89 (S : Nat) (L : List UInt8) : lo (sig S L) = sA S L := by
  unfold lo sig; rw [Nat.add_mul_mod_self_left, Nat.mod_eq_of_lt (Z88 S L)]
theorem Z8a (S : Nat) (L : List UInt8) : hi (sig S L) = sT S L := by
  unfold hi sig; rw [Nat.add_mul_div_left _ _ (by decide), Nat.div_eq_of_lt (Z88 S L), Nat.zero_add]
end

section
def n64 : Nat := 18446744073709551616
theorem Y2l (n : Int) (h0 : 0 ≤ n) (h1 : n < 2 ^ 64) : IntKind.u64.wrap n = n := by rw [IntKind.wrap_u64]; omega
theorem J4q (k : IntKind) (j : Nat) (hj : j ≤ k.bits) (hk : ∀ n : Int, 0 ≤ n → n < 2 ^ j → k.wrap n = n) (a b : Nat) (ha : a < 2 ^ j) (hb : b < 2 ^ j) : bits .xor k a b = ((a ^^^ b : Nat) : Int) := by
  have hp : 2 ^ j ≤ 2 ^ k.bits := Nat.pow_le_pow_right (by decide) hj
  have ha' : a % 2 ^ k.bits = a := Nat.mod_eq_of_lt (Nat.lt_of_lt_of_le ha hp)
  have hb' : b % 2 ^ k.bits = b := Nat.mod_eq_of_lt (Nat.lt_of_lt_of_le hb hp)
  simp only [bits, BitVec.ofInt_natCast, BitVec.toNat_xor, BitVec.toNat_ofNat, ha', hb']
  exact hk _ (Int.natCast_nonneg _) (by exact_mod_cast Nat.xor_lt_two_pow ha hb)
def Wn (x : Int) (a : Nat) : Prop := x = (a : Int) ∧ a < 2 ^ 64
section
variable {x y : Int} {a b : Nat}
theorem Wn.xo (h : Wn x a) (k : Wn y b) : Wn (xo x y) (a ^^^ b) := ⟨by rw [h.1, k.1]; exact J4q .u64 64 (by decide) Y2l a b h.2 k.2, Nat.xor_lt_two_pow h.2 k.2⟩
theorem Wn.an (h : Wn x a) (k : Wn y b) : Wn (an x y) (a &&& b) := ⟨by rw [h.1, k.1]; exact (bits_nat .u64 64 (by decide) Y2l a b h.2 k.2).1, Nat.and_lt_two_pow _ k.2⟩
theorem Wn.oo (h : Wn x a) (k : Wn y b) : Wn (oo x y) (a ||| b) := ⟨by rw [h.1, k.1]; exact (bits_nat .u64 64 (by decide) Y2l a b h.2 k.2).2, Nat.or_lt_two_pow h.2 k.2⟩
theorem Wn.nt (h : Wn x a) : Wn (nt x) (18446744073709551615 ^^^ a) := ⟨by rw [h.1]; exact J4q .u64 64 (by decide) Y2l _ a (by decide) h.2, Nat.xor_lt_two_pow (by decide) h.2⟩
theorem Wn.ad (h : Wn x a) (k : Wn y b) : Wn (ad x y) ((a + b) % n64) := ⟨by rw [h.1, k.1]; show IntKind.wrap .u64 ((a : Int) + b) = _; unfold n64; rw [IntKind.wrap_u64]; omega, Nat.mod_lt _ (by decide)⟩
theorem Wn.sl (h : Wn x a) (n : Nat) : Wn (sl x n) (a * 2 ^ n % n64) := ⟨by
  rw [h.1]; show IntKind.wrap .u64 ((a : Int) * 2 ^ n) = _; unfold n64
  rw [IntKind.wrap_u64, Int.natCast_emod, Int.natCast_mul, Int.natCast_pow]; rfl, Nat.mod_lt _ (by decide)⟩
theorem Wn.sr (h : Wn x a) (n : Nat) : Wn (sr x n) (a / 2 ^ n) := ⟨by
  rw [h.1]; show (a : Int) / 2 ^ n = _
  rw [Int.natCast_ediv, Int.natCast_pow]; rfl, Nat.lt_of_le_of_lt (Nat.div_le_self _ _) h.2⟩
end
def rtN (a n : Nat) : Nat := a / 2 ^ n ||| a * 2 ^ (64 - n) % n64
theorem Wn.rt {x : Int} {a : Nat} (h : Wn x a) (n : Nat) : Wn (rt x n) (rtN a n) := (h.sr n).oo (h.sl (64 - n))
/-! ### The words of a block -/
def bN (l : List UInt8) (j : Nat) : Nat := (l.getD j 0).toNat
def sgN (l : List Nat) : Nat :=
  let p := l.getD 14 0
  let q := l.getD 1 0
  (((l.getD 15 0 + (rtN p 1 ^^^ rtN p 8 ^^^ p / 2 ^ 7)) % n64 + l.getD 6 0) % n64 + (rtN q 19 ^^^ rtN q 61 ^^^ q / 2 ^ 6)) % n64
/-! ### The rounds -/
abbrev S8 := Nat × Nat × Nat × Nat × Nat × Nat × Nat × Nat
end

section
open Sc (LL J3t)
end
end Go.Proofs.YtejkmhgkkibafaaGreatDoor.S8

namespace Go.Proofs.YtejkmhgkkibafaaGreatDoor
theorem Q7e {P : Program} {ops : Array Oper} {w : World} {E E' : Act → Prop} (h : ∀ a, E a → E' a) : ∀ (l : List Oper) (a : Act), wpX P ops w E l a → wpX P ops w E' l a
  | [], a, x => h a x
  | _ :: l, _, ⟨v, hy, hk⟩ => ⟨v, hy, Q7e h l _ hk⟩
def nws (xs : List NewOp) (β : Nat → Nat) : List As := xs.map fun x => .b (β x.i) x.z x.t
theorem SH.news {F : List Nat} {w W W' : World} {H : List As} {β : Nat → Nat} (h : SH F w W H) (q : Ext W W') : ∀ (xs : List NewOp), (∀ x ∈ xs, W.heap.size ≤ β x.i ∧ Blk W' (β x.i) x.z x.t) → xs.Pairwise (fun x y => β x.i ≠ β y.i) → (∀ x ∈ xs, H.all (SH.tyOk (.b 0 x.z x.t)) = true) → SH F w W' (nws xs β ++ H)
  | [], _, _, _ => h.grow q
  | x :: xs, hb, hd, ht => by
    have h1 := SH.news h q xs (fun y hy => hb y (by simp [hy])) (List.pairwise_cons.1 hd).2 (fun y hy => ht y (by simp [hy]))
    have hx := hb x (by simp)
    have h2 : SH F w W' (.b (β x.i) x.z x.t :: H) := h.new (x := .b (β x.i) x.z x.t) (J0k q) hx.2 (fun k hk => by rw [List.mem_singleton.1 hk]; exact hx.1) rfl (ht x (by simp))
    have hn := (List.pairwise_cons.1 hd).1
    show SH F w W' (.b (β x.i) x.z x.t :: (nws xs β ++ H))
    refine ⟨h1.off, fun y hy => ?_, List.pairwise_cons.2 ⟨fun y hy => ?_, h1.ap⟩, fun y hy hm k hk hlt => ?_⟩
    · rcases List.mem_cons.1 hy with rfl | hy
      · exact hx.2
      · exact h1.all y hy
    · rcases List.mem_append.1 hy with hy | hy
      · obtain ⟨z, hz, rfl⟩ := List.mem_map.1 hy
        have hne := hn z hz
        exact ⟨fun _ k hk hk' => hne ((List.mem_singleton.1 hk).symm.trans (List.mem_singleton.1 hk')), fun _ k hk hk' => hne ((List.mem_singleton.1 hk').symm.trans (List.mem_singleton.1 hk))⟩
      · exact (List.pairwise_cons.1 h2.ap).1 y hy
    · rcases List.mem_cons.1 hy with rfl | hy
      · have := hx.1; have := h.size; rw [List.mem_singleton.1 hk] at hlt; omega
      · exact h1.old y hy hm k hk hlt
section
variable {P : Program} {Q : Exit → Act → World → Prop} {F : List Nat} {w : World} {H : List As} {l : List Oper} {a a' : Act}
theorem RXn {id : Nat} {W : World} {l1 l2 : List Oper} (m : Nat) (xs : List NewOp) (hS : SH F w W H)
    (h : wpM P l.toArray (.X (fun a1 W1 => ∀ (β : Nat → Nat) (W' : World), Ext W1 W' → (∀ x ∈ xs, W1.heap.size ≤ β x.i ∧ Blk W' (β x.i) x.z x.t) → (∀ x ∈ xs, ∀ y ∈ xs, x.i ≠ y.i → β x.i ≠ β y.i) → wpList P l.toArray (NoPanic Q) l2 (J0e xs β a1) W')) F w H l1 a')
    (hok : ∀ x ∈ xs, Q21 P l.toArray x) (hm : P.follows .mixedOrders = true := by as_aux_lemma => kernel_rfl)
    (hB : (Region.noSelect l.toArray && Q0v .any l.toArray (m + xs.length) m 0 (Array.replicate l.length false) && decide (m + xs.length ≤ l.length) && decide (xs.map (·.i)).Nodup && decide (xs.map (·.d)).Nodup && xs.all (fun x => decide (x.i < m + xs.length)) &&
      Q22 .any l.toArray (J02 (m + xs.length) 0 (Array.replicate l.length false)) xs.length (xs.map (·.i)) (J02 m 0 (Array.replicate l.length false)) &&
      (Region.ready .any l.toArray (J02 (m + xs.length) 0 (Array.replicate l.length false))).all (fun j => decide (m + xs.length ≤ j)) &&
      Region.seqB .any l.toArray (l.length - (m + xs.length)) (m + xs.length) (J02 (m + xs.length) 0 (Array.replicate l.length false))) = true := by as_aux_lemma => kernel_rfl)
    (h1 : l.take m = l1 := by (try simp only [List.append, List.take_succ_cons, List.take_zero, List.take_nil]); exact rfl) (h2 : l.drop (m + xs.length) = l2 := by (try simp only [List.append, List.length_cons, List.length_nil, List.drop_succ_cons, List.drop_zero, List.drop_nil]); exact rfl)
    (hp : a = a' := by (try simp only [Act.put, mA, mB, mC]); exact rfl) : (Code.region id l.toArray true).wp P Q a W := by
  subst hp h1 h2
  exact J1a m xs hm hok hB (Q7e (fun a1 h3 β W' h4 h5 h6 => h3 W (Below.refl _ _) β W' h4 h5 h6) _ _ (h W hS))
theorem MZB {ops ops2 : Array Oper} {l2 : List Oper} {xs : List NewOp} {H' : (Nat → Nat) → List As} {a2 : (Nat → Nat) → Act} (h : ∀ β, wpM P ops2 (.L Q) F w (H' β) l2 (a2 β)) (hnd : (xs.map (·.i)).Nodup := by decide) (ht : ∀ x ∈ xs, H.all (SH.tyOk (.b 0 x.z x.t)) = true := by (intro x hx; simp only [List.mem_cons, List.not_mem_nil, or_false] at hx; rcases hx with rfl | rfl | rfl | rfl <;> rfl))
    (hH : ∀ β, nws xs β ++ H = H' β := by exact fun _ => rfl) (hp : ∀ β, J0e xs β a = a2 β := by (intro β; dsimp only [J0e, Act.put, mA, mB, mC]; first | done | exact rfl)) :
    wpM P ops (.X (fun a1 W1 => ∀ (β : Nat → Nat) (W' : World), Ext W1 W' → (∀ x ∈ xs, W1.heap.size ≤ β x.i ∧ Blk W' (β x.i) x.z x.t) → (∀ x ∈ xs, ∀ y ∈ xs, x.i ≠ y.i → β x.i ≠ β y.i) → wpList P ops2 Q l2 (J0e xs β a1) W')) F w H [] a := fun W hS => Z7 fun W1 h1 β W' h2 h3 h4 => by
  rw [hp β]
  refine h β W' ?_
  rw [← hH β]
  refine (hS.grow h1).news h2 xs h3 ?_ ht
  have : xs.Pairwise fun x y => x.i ≠ y.i := by
    have := List.pairwise_map.1 hnd
    exact this
  exact List.Pairwise.imp_of_mem (fun hx hy D => h4 _ hx _ hy D) this
end
end Go.Proofs.YtejkmhgkkibafaaGreatDoor

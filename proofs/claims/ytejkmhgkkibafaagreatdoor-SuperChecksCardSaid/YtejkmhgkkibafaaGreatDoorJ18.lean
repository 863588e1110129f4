/- Contracts and plain laws that superChecks_holds rests on. Conditions: the variables' cells hold the numbers of the program's text. -/
import Derived.Test.YtejkmhgkkibafaaGreatDoorJ6
import Derived.Test.YtejkmhgkkibafaaGreatDoorJ3
import Derived.Test.YtejkmhgkkibafaaGreatDoorJ8
import Derived.Test.YtejkmhgkkibafaaGreatDoorJ17
import Derived.Deep.DeepCutAuto
import Derived.Test.YtejkmhgkkibafaaGreatDoorJ9
import Derived.Test.YtejkmhgkkibafaaGreatDoorS8Ei
import Derived.Laws.BitsLemmas
open Go.RowKit
set_option maxRecDepth 100000
set_option linter.unusedSimpArgs false
set_option linter.unusedVariables false
namespace Go.Proofs.YtejkmhgkkibafaaGreatDoor.S8.Sc
section
set_option maxHeartbeats 4000000

end

section
set_option maxHeartbeats 4000000

def canonV (n : Nat) : Value := if n < LL then .tuple #[L4 n, .bool true] else .tuple #[L4 0, .bool false]
theorem Q2f (V : Nat) : c4 V = J0 .u64 4 (K3 V) := rfl
theorem J7g (i : Nat) : K3 0 i = 0 := by simp [K3]
theorem Z77 : J0 .u64 4 (K3 0) = #[.int .u64 0, .int .u64 0, .int .u64 0, .int .u64 0] := by
  show #[Value.int .u64 (K3 0 0), Value.int .u64 (K3 0 1), Value.int .u64 (K3 0 2), Value.int .u64 (K3 0 3)] = _
  rw [J7g, J7g, J7g, J7g]
theorem J99 (bs : Nat → Int) (h : ∀ j, J5u (bs j)) (n q r : Nat) (hr : r < 8) :
    (J0 .u64 n (K3 (J0o bs (8 * q + r)))).setIfInBounds q (.int .u64 (bits .or .u64 (K3 (J0o bs (8 * q + r)) q) (IntKind.wrap .u64 (bs (8 * q + r) * 2 ^ (8 * r))))) = J0 .u64 n (K3 (J0o bs (8 * q + r + 1))) := by
  rw [Z08 bs h q r hr, V4]
  apply K5
  intro j _
  by_cases hj : j = q
  · subst hj; rw [J1t]
  rw [J0b _ _ _ _ hj, J6x bs h (8 * q + r) j (by omega)]

theorem canon_c (bs : Nat → Int) (hbs : ∀ j, J5u (bs j)) (w : World) (hG : GL w) :
    Calls Tryz.prog 105 #[.agg (J0 .u8 32 bs)] w fun e w' => K7 (canonV (J0o bs 32)) w w' e := by
  have HG := Lib.hid hG
  have n0 := hG.2.2.2.2
  clear hG
  have HB := Lib.hid hbs
  clear hbs
  go_enter Tryz.func105, Tryz.ntmps105
  go_wp2_with (refine wpList_load_row rfl 23 (.tmp 1) rfl w.heap.size rfl 23 (J0 .u8 32 bs) (0, 0) _ (Y5 (Y5 (Y9 _ _ rfl) _) _) Tryz.underlying23 rfl (by kernel_rfl) ?_)
  go_loopw [8] (fun ii wr => ∃ k : Nat, k ≤ 32 ∧ ii = .int .i64 k ∧ Below w.heap.size w wr ∧
      Blk wr (w.heap.size + 1) #[.int .u64 0, .int .u64 0, .int .u64 0, .int .u64 0] 153 ∧ Blk wr (w.heap.size + 2) (J0 .u64 4 (K3 (J0o bs k))) 153)
    (fun ii _ => (32 - intOf ii).toNat)
  case atStart =>
    refine ⟨0, by omega, rfl, ?_, ?_, ?_⟩
    · exact bz
    · exact Y5 (Y9 _ _ (World.size_alloc _ _).symm) _
    rw [show J0o bs 0 = 0 from rfl, Z77]; exact Y9 _ _ (by simp)
  case round =>
    obtain ⟨k, hk, rfl, G, b1, b2⟩ := hrel
    by_cases M : k = 32
    · subst M
      have hV : J0o bs 32 < Q5 := J53 bs HB.out 32
      rw [← Q2f] at b2
      have R := Lib.hid (J3i HG.out G HG.out.2.2.2.2)
      have N.size := G.size
      have Z := Q2 b2
      have c2 := J7 b2
      obtain ⟨g0, g1, g2, g3, g4⟩ := R.out
      go_wp2_with fail
      refine (Y57 (J0o bs 32) hV _).mono ?_
      rintro e w1 ⟨rfl, J⟩
      have β := J7 (J2 b2 J)
      have T := J7 (J2 b1 J)
      have V := V2 (J2 b1 J)
      have s1 := J.size
      have n1 : w.heap.size + 1 < w.heap.size + 2 := by omega
      clear c2
      by_cases D : J0o bs 32 < LL
      · rw [show decide (J0o bs 32 < LL) = true from decide_eq_true D]
        have HL := Lib.hid D
        clear D
        go_wp2
        refine bodyPost_ret (v := .tuple #[L4 (J0o bs 32), .bool true]) (by simp only [results, Tryz.results105]; go_simp) rfl ⟨(by unfold canonV; rw [if_pos HL.out]), ?_⟩
        exact bz
      rw [show decide (J0o bs 32 < LL) = false from decide_eq_false D]
      have HL := Lib.hid D
      clear D
      go_wp2
      refine bodyPost_ret (v := .tuple #[A4 0 0 0 0, .bool false]) (by simp only [results, Tryz.results105]; go_simp) rfl ⟨(by unfold canonV; rw [if_neg HL.out]; rfl), ?_⟩
      exact bz
    obtain ⟨q, r, hr, rfl⟩ : ∃ q r, r < 8 ∧ k = 8 * q + r := ⟨k / 8, k % 8, by omega, by omega⟩
    have X : ∀ W, (Instr.index 23 (.agg (J0 .u8 32 bs)) (.int .i64 (8 * (q : Int) + (r : Int)))).run Tryz.prog W = .ok (.int .u8 (bs (8 * q + r))) W :=
      fun W => J1n W 23 5 32 .u8 .i64 _ (8 * q + r) _ Tryz.underlying23 Tryz.underlying5 (by kernel_rfl) (by omega) (J3 _ _ _ _ (by omega))
    have d1 : IntKind.i64.wrap ((8 * (q : Int) + (r : Int)).tdiv 8) = (q : Int) := by rw [Int.tdiv_eq_ediv_of_nonneg (by omega), IntWalk.i64_in _ (by omega)]; omega
    have d2 : (8 * (q : Int) + (r : Int)).tmod 8 = (r : Int) := by rw [Int.tmod_eq_emod_of_nonneg (by omega)]; omega
    have d3 : IntKind.i64.wrap (8 * (r : Int)) = 8 * (r : Int) := IntWalk.i64_in _ (by omega)
    have d4 : IntKind.u64.wrap (bs (8 * q + r)) = bs (8 * q + r) := by have := HB.out (8 * q + r); unfold J5u at this; rw [IntKind.wrap_u64]; omega
    have α : (0 : Int) ≤ (q : Int) := by omega
    have U : (q : Int) < 4 := by omega
    have Y : (0 : Int) ≤ (r : Int) := by omega
    have S : (r : Int) < 8 := by omega
    have c2 := (J7 b2 q).trans (J3 _ _ _ _ (by omega))
    have f2 := V2 b2
    have hs := fun v => Z8 b2 q v
    go_wp2
    go_region
    go_wp2
    have N.size := G.size
    go_roundw
    case rel =>
      refine ⟨8 * q + r + 1, by omega, by go_num, ?_, Y6 (J6 b1 (by omega) _ _), ?_⟩
      · exact bz
      have := hs (.int .u64 (bits .or .u64 (K3 (J0o bs (8 * q + r)) q) (IntKind.wrap .u64 (bs (8 * q + r) * 2 ^ (8 * r)))))
      rw [J99 bs HB.out 4 q r hr] at this
      exact Y6 this
    case measure => simp [intOf]; omega
end

section
set_option maxHeartbeats 4000000

theorem Z78 (k : IntKind) (n : Nat) : madeCells (Value.int k 0).cells n = J0 k n (fun _ => 0) := by
  apply Array.ext
  · simp [madeCells, J0]
  intro i h1 h2
  simp [madeCells, J0, Value.cells, Nat.mod_one]
theorem Z3h (bs : Nat → Int) (h : ∀ j, J5u (bs j)) (k n : Nat) (hk : k ≤ 8 * n) : J1o (K3 (J0o bs k)) n = J0o bs k := by
  rw [J6w, Nat.mod_eq_of_lt]
  exact Nat.lt_of_lt_of_le (J53 bs h k) (Nat.pow_le_pow_right (by omega) (by omega))

theorem of_c (bs : Nat → Int) (hbs : ∀ j, J5u (bs j)) (b off len cap : Nat) (w : World) (hG : GL w) (hlen : len ≤ 700)
    (hc : ∀ j, j < len → w.cell? ⟨b, off + j, none⟩ = some (.int .u8 (bs j))) (hb : b < w.heap.size) :
    Calls Tryz.prog 95 #[.slice (some ⟨b, off, none⟩) len cap] w fun e w' => K7 (L4 (J0o bs len % LL)) w w' e := by
  have HG := Lib.hid hG
  have n0 := hG.2.2.2.2
  clear hG
  have HB := Lib.hid hbs
  have HC := Lib.hid hc
  clear hbs hc
  obtain ⟨n, hn⟩ : ∃ n, n = (len + 7) / 8 := ⟨_, rfl⟩
  have d0 : ((len : Int) + 7) / 8 = (n : Int) := by omega
  have R : len ≤ 8 * n := by omega
  have G : n ≤ 100 := by omega
  have Y : ∀ W, (Instr.makeSlice 201 (.int .i64 (n : Int)) (.int .i64 (n : Int))).run Tryz.prog W = .ok (.slice (some ⟨W.heap.size, 0, none⟩) n n) (W.alloc (.cells (J0 .u64 n fun _ => 0) 71)) := by
    intro W
    obtain ⟨i, hi, hz, hs, N⟩ := info_parts (show (Tryz.prog.info? 71).map (fun i => (i.zero, i.size, i.bytes)) = some (some (.int .u64 0), 1, 8) by kernel_rfl)
    have h := run_make (P := Tryz.prog) W 201 71 i (.int .u64 0) Tryz.underlying201 hi hz .i64 .i64 (n : Int) (n : Int) (by omega) (by omega) (by rw [N]; omega) (by omega)
    rw [Int.toNat_natCast, hs, Nat.mul_one, Z78] at h
    exact h
  have HN := Lib.hid hn
  clear hn
  go_enter Tryz.func95, Tryz.ntmps95
  go_wp2
  go_loopw [13] (fun ii wr => ∃ k : Nat, k ≤ len ∧ ii = .int .i64 k ∧ Below w.heap.size w wr ∧
      Blk wr w.heap.size #[.int .u64 0, .int .u64 0, .int .u64 0, .int .u64 0] 153 ∧ Blk wr (w.heap.size + 1) (J0 .u64 n (K3 (J0o bs k))) 71)
    (fun ii _ => (len - intOf ii).toNat)
  case atStart =>
    refine ⟨0, by omega, rfl, ?_, Y5 (Y9 _ _ rfl) _, ?_⟩
    · exact bz
    rw [show J0o bs 0 = 0 from rfl, K5 .u64 n (K3 0) (fun _ => 0) (fun i _ => J7g i)]
    exact Y9 _ _ (by simp)
  case round =>
    obtain ⟨k, hk, rfl, D, b1, b2⟩ := hrel
    have S.size := D.size
    by_cases J : k = len
    · subst J
      have hs : ∀ j, V1 (K3 (J0o bs k) j) := fun j => J0j _ j
      go_wp2_with (go_at_call 133; refine (Q5u (K3 (J0o bs k)) (w.heap.size + 1) 0 n n _ (J3i HG.out D HG.out.2.2.2.2) G (fun j _ => hs j) (fun j hj => (by rw [Nat.zero_add]; exact (J7 b2 j).trans (J3 _ _ _ _ hj))) (Q2 b2)).mono ?_; rintro e w1 ⟨rfl, M⟩; have c1 := J7 (J2 b1 M); have f1 := V2 (J2 b1 M))
      refine bodyPost_ret (v := L4 (J1o (K3 (J0o bs k)) n % LL)) (by simp only [results, Tryz.results95]; go_simp) rfl ⟨?_, ?_⟩
      · rw [Z3h bs HB.out k n R]
      exact bz
    obtain ⟨q, r, hr, rfl⟩ : ∃ q r, r < 8 ∧ k = 8 * q + r := ⟨k / 8, k % 8, by omega, by omega⟩
    have hkl' : 8 * (q : Int) + (r : Int) < (len : Int) := by omega
    have cb := (D.cell (p := ⟨b, off + (8 * q + r), none⟩) hb).trans (HC.out (8 * q + r) (by omega))
    have d1 : IntKind.i64.wrap ((8 * (q : Int) + (r : Int)).tdiv 8) = (q : Int) := by rw [Int.tdiv_eq_ediv_of_nonneg (by omega), IntWalk.i64_in _ (by omega)]; omega
    have d2 : (8 * (q : Int) + (r : Int)).tmod 8 = (r : Int) := by rw [Int.tmod_eq_emod_of_nonneg (by omega)]; omega
    have d3 : IntKind.i64.wrap (8 * (r : Int)) = 8 * (r : Int) := IntWalk.i64_in _ (by omega)
    have d4 : IntKind.u64.wrap (bs (8 * q + r)) = bs (8 * q + r) := by have := HB.out (8 * q + r); unfold J5u at this; rw [IntKind.wrap_u64]; omega
    have X : (0 : Int) ≤ (q : Int) := by omega
    have U : (q : Int) < (n : Int) := by have := HN.out; omega
    have V : (0 : Int) ≤ (r : Int) := by omega
    have T : (r : Int) < 8 := by omega
    have c2 := (J7 b2 q).trans (J3 _ _ _ _ (by omega))
    have f2 := V2 b2
    have hs := fun v => Z8 b2 q v
    clear J
    go_wp2
    go_region
    go_wp2
    go_roundw
    case rel =>
      refine ⟨8 * q + r + 1, by omega, by go_num, ?_, Y6 (J6 b1 (by omega) _ _), ?_⟩
      · exact bz
      have := hs (.int .u64 (bits .or .u64 (K3 (J0o bs (8 * q + r)) q) (IntKind.wrap .u64 (bs (8 * q + r) * 2 ^ (8 * r)))))
      rw [J99 bs HB.out n q r hr] at this
      exact Y6 this
    case measure => simp [intOf]; omega
end

section
set_option maxHeartbeats 4000000

def J3j (bs : Nat → Int) : Nat → Int := fun j => if j = 0 then bs 0 - bs 0 % 8 else if j = 31 then bs 31 % 64 + 64 else bs j
theorem Y1m (x : Int) (h : J5u x) : bits .andNot .u8 x 7 = x - x % 8 := by
  obtain ⟨h0, h1⟩ := h
  obtain ⟨n, rfl⟩ := Int.eq_ofNat_of_zero_le h0
  have D : ∀ n : Nat, n < 256 → bits .andNot .u8 (n : Int) 7 = (n : Int) - (n : Int) % 8 := by decide +kernel
  exact D n (by omega)
theorem Z3i (x : Int) (h : J5u x) : bits .or .u8 (bits .and .u8 x 63) 64 = x % 64 + 64 := by
  obtain ⟨h0, h1⟩ := h
  obtain ⟨n, rfl⟩ := Int.eq_ofNat_of_zero_le h0
  have D : ∀ n : Nat, n < 256 → bits .or .u8 (bits .and .u8 (n : Int) 63) 64 = (n : Int) % 64 + 64 := by decide +kernel
  exact D n (by omega)
theorem Z3j (bs : Nat → Int) : ((J0 .u8 32 bs).setIfInBounds 0 (.int .u8 (bs 0 - bs 0 % 8))).setIfInBounds 31 (.int .u8 (bs 31 % 64 + 64)) = J0 .u8 32 (J3j bs) := by
  rw [V4, V4]
  apply K5
  intro j _
  unfold upd J3j
  by_cases h : j = 31
  · subst h; rfl
  by_cases h2 : j = 0
  · subst h2; rfl
  simp [h, h2]

theorem clamp_c (bs : Nat → Int) (hbs : ∀ j, J5u (bs j)) (w : World) :
  Calls Tryz.prog 126 #[.agg (J0 .u8 32 bs)] w fun e w' => K7 (.agg (J0 .u8 32 (J3j bs))) w w' e := by
 have a0 := Y1m (bs 0) (hbs 0)
 have a1 := Z3i (bs 31) (hbs 31)
 clear hbs
 go_enter Tryz.func126, Tryz.ntmps126
 go_upto_region 1 with fail
 refine wn2 (c1 := (J0 .u8 32 bs)) (t1 := 23) (c2 := (J0 .u8 32 (fun _ => 0))) (t2 := 23) fun W J b1 b2 => ?_
 have c0 := (J7 b1 0).trans (J3 _ _ _ _ (by omega))
 have M := (J7 b1 31).trans (J3 _ _ _ _ (by omega))
 have f1 := V2 b1
 have hs := Z8 (Z8 b1 0 (.int .u8 (bs 0 - bs 0 % 8))) 31 (.int .u8 (bs 31 % 64 + 64))
 rw [Z3j] at hs
 have D := J6 (J6 b2 (show w.heap.size + 1 ≠ w.heap.size by omega) 0 (.int .u8 (bs 0 - bs 0 % 8))) (show w.heap.size + 1 ≠ w.heap.size by omega) 31 (.int .u8 (bs 31 % 64 + 64))
 have HS := Lib.hid hs
 have G := Lib.hid D
 clear hs D
 go_wp2_with (first
  | (refine wpList_load_row rfl 23 (.tmp 1) rfl w.heap.size rfl _ _ _ _ HS.out Tryz.underlying23 rfl (by kernel_rfl) ?_)
  | (refine wpList_store_row rfl 23 (.tmp 2) (.tmp 12) rfl (w.heap.size + 1) _ rfl rfl 23 _ G.out (by kernel_rfl) (by kernel_rfl) (Z9 _ _ _) ?_))
 refine bodyPost_ret (results_cell_row rfl _ _ (w.heap.size + 1) _ _ _ _ rfl (Y8 G.out _) Tryz.underlying23 rfl (by kernel_rfl)) rfl ⟨rfl, Z7 ?_ (by omega) _⟩
 exact Z4 (Z4 J (by omega) _ _) (by omega) _ _
end
end Go.Proofs.YtejkmhgkkibafaaGreatDoor.S8.Sc

namespace Go.Proofs.YtejkmhgkkibafaaGreatDoor.S8
section
open Sc (LL J3j)
/-! ### Bytes and numbers -/
theorem Y82 (m n V : Nat) : lb (m + n) V = lb m V ++ lb n (V / 2 ^ (8 * m)) := by
  induction m generalizing V with
  | zero => simp [show lb 0 V = [] from rfl]
  | succ m ih =>
    rw [show m + 1 + n = (m + n) + 1 by omega, J7u, J7u, ih, List.cons_append, Nat.div_div_eq_div_mul, show 256 * 2 ^ (8 * m) = 2 ^ (8 * (m + 1)) by rw [show 8 * (m + 1) = 8 * m + 8 by omega, Nat.pow_add]; omega]
def lo (V : Nat) : Nat := V % 2 ^ 256
def hi (V : Nat) : Nat := V / 2 ^ 256
theorem Z7n (V : Nat) : lo V < 2 ^ 256 := Nat.mod_lt _ (by decide)
theorem Q2s {V : Nat} (h : V < 2 ^ (256 + 256)) : hi V < 2 ^ 256 := by unfold hi; rw [Nat.div_lt_iff_lt_mul (by decide), ← Nat.pow_add]; exact h
theorem Y83 {V j : Nat} (hj : j < 32) : Q3 (lo V) j = Q3 V j := by
  unfold Q3 lo
  have e : (2 : Nat) ^ 256 = 2 ^ (8 * j) * 2 ^ (256 - 8 * j) := by rw [← Nat.pow_add]; congr 1; omega
  have e2 : (2 : Nat) ^ (256 - 8 * j) = 256 * 2 ^ (248 - 8 * j) := by rw [show 256 - 8 * j = 8 + (248 - 8 * j) by omega, Nat.pow_add]
  rw [e, Nat.mod_mul_right_div_self, e2, Nat.mod_mul_right_mod]
theorem Y84 (V j : Nat) : Q3 (hi V) j = Q3 V (32 + j) := by
  unfold Q3 hi
  rw [Nat.div_div_eq_div_mul, ← Nat.pow_add, show 256 + 8 * j = 8 * (32 + j) by omega]
theorem Z7g (V : Nat) : lb 64 V = lb 32 (lo V) ++ lb 32 (hi V) := by
  rw [show (64 : Nat) = 32 + 32 from rfl, Y82, lo, ← Y5y 32 V]; rfl
theorem Q7m {V : Nat} : ∀ i v, (J0 .u8 32 (Q3 (lo V)))[i]? = some v → (J0 .u8 64 (Q3 V))[0 + i]? = some v := fun i v h => by
  have hi : i < 32 := by have := (Array.getElem?_eq_some_iff.1 h).1; rwa [J1] at this
  rw [J3 _ _ _ _ hi, Y83 hi] at h
  rw [Nat.zero_add, J3 _ _ _ _ (by omega)]; exact h
theorem Y1s {V : Nat} : ∀ i v, (J0 .u8 32 (Q3 (hi V)))[i]? = some v → (J0 .u8 64 (Q3 V))[32 + i]? = some v := fun i v h => by
  have hi : i < 32 := by have := (Array.getElem?_eq_some_iff.1 h).1; rwa [J1] at this
  rw [J3 _ _ _ _ hi, Y84] at h
  rw [J3 _ _ _ _ (by omega)]; exact h
/-! ### Sums -/
def hs (F : List UInt8) : Nat := le (smb F)
theorem Q9d (F : List UInt8) : hs F < 2 ^ (8 * 64) := by have := Q6f (smb F); rwa [Q2q] at this
theorem V3r : 8 * 64 = 256 + 256 := rfl
theorem V1i (F : List UInt8) : hs F < 2 ^ (256 + 256) := by have := Q9d F; rwa [V3r] at this
theorem Z7p (F : List UInt8) : smb F = lb 64 (hs F) := (Q8h (Q2q F)).symm
theorem V10 (F : List UInt8) : J0 .u8 64 (sm F) = J0 .u8 64 (Q3 (hs F)) := Q6e (by rw [Z3g, Z7p, J6u, J26])
/-! ### Secrets -/
def clN (V : Nat) : Nat := J0o (J3j (Q3 V)) 32
theorem Q7r (V j : Nat) : J5u (J3j (Q3 V) j) := by
  have h0 := J2y V 0
  have h1 := J2y V 31
  have h2 := J2y V j
  unfold J3j J5u at *
  split
  · omega
  split
  · omega
  exact h2
theorem Z7f (V : Nat) : clN V < 2 ^ 256 := J53 _ (Q7r V) 32
theorem Y1q (V : Nat) : J0 .u8 32 (J3j (Q3 V)) = J0 .u8 32 (Q3 (clN V)) := K5 _ _ _ _ fun j hj => (Q6s _ (Q7r V) 32 j hj).symm
def kN (S : Nat) : Nat := clN (lo (hs (lb 32 S)))
def kD (S : Nat) : Nat := hi (hs (lb 32 S))
def kP (S : Nat) : Nat := enc (pm BP (kN S))
theorem V13 (S : Nat) : kN S < 2 ^ 256 := Z7f _
theorem V14 (S : Nat) : kD S < 2 ^ 256 := Q2s (V1i _)
/-! ### Signatures -/
def sR (S : Nat) (L : List UInt8) : Nat := hs (lb 32 (kD S) ++ L) % LL
def sA (S : Nat) (L : List UInt8) : Nat := enc (pm BP (sR S L))
def sK (S : Nat) (L : List UInt8) : Nat := hs (lb 32 (sA S L) ++ lb 32 (kP S) ++ L) % LL
def sT (S : Nat) (L : List UInt8) : Nat := (sR S L + sK S L * (kN S % LL) % LL) % LL
def sig (S : Nat) (L : List UInt8) : Nat := sA S L + 2 ^ 256 * sT S L
def vK (V : Nat) (L : List UInt8) (G : Nat) : Nat := hs (lb 32 (lo G) ++ lb 32 V ++ L) % LL
def vP (V : Nat) (L : List UInt8) (G : Nat) : Pr := J0w (pm BP (hi G)) (pm (J52 (dPt V)) (vK V L G))
def vfy (V : Nat) (L : List UInt8) (G : Nat) : Nat := if LL ≤ hi G then 16 else if dOk V = false then 15 else if enc (vP V L G) = lo G then 0 else 16
theorem Q02 (a : Pr) : enc a < 2 ^ 256 := by
  unfold enc
  have h : a.2.val < 2 ^ 255 := Nat.lt_trans a.2.isLt Q5h
  have h2 : a.1.val % 2 < 2 := Nat.mod_lt _ (by decide)
  have e : (2 : Nat) ^ 256 = 2 ^ 255 + 2 ^ 255 := by decide
  generalize (2 : Nat) ^ 255 = T at *
  have : T * (a.1.val % 2) ≤ T * 1 := Nat.mul_le_mul_left T (by omega)
  omega
theorem kP_lt (S : Nat) : kP S < 2 ^ 256 := Q02 _
theorem Y85 : 0 < LL := by decide
theorem J1i : LL < 2 ^ 256 := by decide
theorem mLL (n : Nat) : n % LL < LL := Nat.mod_lt _ Y85
theorem Z7q (S : Nat) (L : List UInt8) : sA S L < 2 ^ 256 := Q02 _
theorem Y5c (S : Nat) (L : List UInt8) : sT S L < LL := mLL _
theorem Z7r (S : Nat) (L : List UInt8) : lo (sig S L) = sA S L := by
  unfold lo sig; rw [Nat.add_mul_mod_self_left, Nat.mod_eq_of_lt (Z7q S L)]
theorem Z7s (S : Nat) (L : List UInt8) : hi (sig S L) = sT S L := by
  unfold hi sig; rw [Nat.add_mul_div_left _ _ (by decide), Nat.div_eq_of_lt (Z7q S L), Nat.zero_add]
end

section
def n64 : Nat := 18446744073709551616
theorem Y21 (n : Int) (h0 : 0 ≤ n) (h1 : n < 2 ^ 64) : IntKind.u64.wrap n = n := by rw [IntKind.wrap_u64]; omega
theorem J4g (k : IntKind) (j : Nat) (hj : j ≤ k.bits) (hk : ∀ n : Int, 0 ≤ n → n < 2 ^ j → k.wrap n = n) (a b : Nat) (ha : a < 2 ^ j) (hb : b < 2 ^ j) : bits .xor k a b = ((a ^^^ b : Nat) : Int) := by
  have hp : 2 ^ j ≤ 2 ^ k.bits := Nat.pow_le_pow_right (by decide) hj
  have ha' : a % 2 ^ k.bits = a := Nat.mod_eq_of_lt (Nat.lt_of_lt_of_le ha hp)
  have hb' : b % 2 ^ k.bits = b := Nat.mod_eq_of_lt (Nat.lt_of_lt_of_le hb hp)
  simp only [bits, BitVec.ofInt_natCast, BitVec.toNat_xor, BitVec.toNat_ofNat, ha', hb']
  exact hk _ (Int.natCast_nonneg _) (by exact_mod_cast Nat.xor_lt_two_pow ha hb)
def Wn (x : Int) (a : Nat) : Prop := x = (a : Int) ∧ a < 2 ^ 64
section
variable {x y : Int} {a b : Nat}
theorem Wn.xo (h : Wn x a) (k : Wn y b) : Wn (xo x y) (a ^^^ b) := ⟨by rw [h.1, k.1]; exact J4g .u64 64 (by decide) Y21 a b h.2 k.2, Nat.xor_lt_two_pow h.2 k.2⟩
theorem Wn.an (h : Wn x a) (k : Wn y b) : Wn (an x y) (a &&& b) := ⟨by rw [h.1, k.1]; exact (bits_nat .u64 64 (by decide) Y21 a b h.2 k.2).1, Nat.and_lt_two_pow _ k.2⟩
theorem Wn.oo (h : Wn x a) (k : Wn y b) : Wn (oo x y) (a ||| b) := ⟨by rw [h.1, k.1]; exact (bits_nat .u64 64 (by decide) Y21 a b h.2 k.2).2, Nat.or_lt_two_pow h.2 k.2⟩
theorem Wn.nt (h : Wn x a) : Wn (nt x) (18446744073709551615 ^^^ a) := ⟨by rw [h.1]; exact J4g .u64 64 (by decide) Y21 _ a (by decide) h.2, Nat.xor_lt_two_pow (by decide) h.2⟩
theorem Wn.ad (h : Wn x a) (k : Wn y b) : Wn (ad x y) ((a + b) % n64) := ⟨by rw [h.1, k.1]; show IntKind.wrap .u64 ((a : Int) + b) = _; unfold n64; rw [IntKind.wrap_u64]; omega, Nat.mod_lt _ (by decide)⟩
theorem Wn.sl (h : Wn x a) (n : Nat) : Wn (sl x n) (a * 2 ^ n % n64) := ⟨by
  rw [h.1]; show IntKind.wrap .u64 ((a : Int) * 2 ^ n) = _; unfold n64
  rw [IntKind.wrap_u64, Int.natCast_emod, Int.natCast_mul, Int.natCast_pow]; rfl, Nat.mod_lt _ (by decide)⟩
theorem Wn.sr (h : Wn x a) (n : Nat) : Wn (sr x n) (a / 2 ^ n) := ⟨by
  rw [h.1]; show (a : Int) / 2 ^ n = _
  rw [Int.natCast_ediv, Int.natCast_pow]; rfl, Nat.lt_of_le_of_lt (Nat.div_le_self _ _) h.2⟩
end
def rtN (a n : Nat) : Nat := a / 2 ^ n ||| a * 2 ^ (64 - n) % n64
theorem Wn.rt {x : Int} {a : Nat} (h : Wn x a) (n : Nat) : Wn (rt x n) (rtN a n) := (h.sr n).oo (h.sl (64 - n))
/-! ### The words of a block -/
def bN (l : List UInt8) (j : Nat) : Nat := (l.getD j 0).toNat
def sgN (l : List Nat) : Nat :=
  let p := l.getD 14 0
  let q := l.getD 1 0
  (((l.getD 15 0 + (rtN p 1 ^^^ rtN p 8 ^^^ p / 2 ^ 7)) % n64 + l.getD 6 0) % n64 + (rtN q 19 ^^^ rtN q 61 ^^^ q / 2 ^ 6)) % n64
/-! ### The rounds -/
abbrev S8 := Nat × Nat × Nat × Nat × Nat × Nat × Nat × Nat
end

section
open Sc (LL J3j)
end
end Go.Proofs.YtejkmhgkkibafaaGreatDoor.S8

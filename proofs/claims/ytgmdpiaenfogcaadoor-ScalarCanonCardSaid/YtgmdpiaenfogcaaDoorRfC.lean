/- custumalref06.Raw: four words as 32 bytes. No conditions. -/
import Derived.Test.YtgmdpiaenfogcaaDoorScA
import Derived.Test.YtgmdpiaenfogcaaDoorArr
import Derived.Deep.AppendLies
namespace Go.Proofs.YtgmdpiaenfogcaaDoor
open Go.RowKit

/-- n cells as a list, by a function -/
def lstK (k : IntKind) (n : Nat) (f : Nat → Int) : List Value := (List.range n).map fun i => Value.int k (f i)
theorem lstK_length (k : IntKind) (n : Nat) (f : Nat → Int) : (lstK k n f).length = n := by simp [lstK]
theorem lstK_succ (k : IntKind) (n : Nat) (f : Nat → Int) : lstK k (n + 1) f = lstK k n f ++ [.int k (f n)] := by simp [lstK, List.range_succ]
theorem lstK_get (k : IntKind) (n : Nat) (f : Nat → Int) (i : Nat) (h : i < n) : (lstK k n f)[i]? = some (.int k (f i)) := by simp [lstK, h]
/-- n bytes as a text, by a function -/
def strN (n : Nat) (f : Nat → Int) : Value := .string (strOfNums ((List.range n).map f))
theorem strN_congr (n : Nat) (f g : Nat → Int) (h : ∀ i, i < n → f i = g i) : strN n f = strN n g := by
  unfold strN
  rw [List.map_congr_left (fun i hi => h i (by simpa using hi))]
theorem run_string_own {P : Program} {w : World} {base src e n : Nat} {v : Value} {f : Nat → Int} (hs : P.underlying src = some (.slice e)) (he : P.underlying e = some (.int .u8))
    (hown : w.ownsRow base e 1 v n (lstK .u8 n f)) : ∀ dst, P.underlying dst = some .string → (convert src dst v).run P w = .ok (strN n f) w := by
  intro dst hd
  have h := hown
  obtain ⟨_, ⟨rfl, rfl⟩ | ⟨g, cap, cur, rfl, _, _, _, _, _, _⟩⟩ := h
  · exact run_convert_bytes_nil w src e hs he _ _ dst hd
  · refine run_convert_bytes_arg w src e hs he g 0 n cap ((List.range n).map f) (by simp) (fun i hi => ?_) dst hd
    rw [Nat.zero_add, hown.cellAt i (by omega), lstK_get _ _ _ _ hi]
    simp [List.getD, hi]
theorem byteInfo : (Tryd.prog.info? 5).map (fun i => (i.zero, i.size, i.bytes)) = some (some (.int .u8 0), 1, 1) := by kernel_rfl
theorem own_below {B : Nat} {w w' : World} {row : Option Nat} {a : World} (h : Below B a w) (hg : w.grownBy w' row) (hB : B ≤ w.heap.size) (hr : ∀ k, row = some k → B ≤ k) : Below B a w' := h.grown hg hB hr
theorem blk_grown {w w' : World} {b : Nat} {cs : Array Value} {t : TypeId} {row : Option Nat} (h : Blk w b cs t) (hg : w.grownBy w' row) (hr : ∀ k, row = some k → b < k) : Blk w' b cs t := by
  refine blk_below h ((Below.refl (b + 1) w).grown hg (blk_lt h) (fun k hk => hr k hk)) (by omega)

set_option maxHeartbeats 1000000 in
theorem raw_c (V : Nat) (w : World) : Calls Tryd.prog 25 #[L4 V] w fun e w' => Ret (strN 32 (byt V)) w w' e := by
  obtain ⟨i0, hi, hz0, hz1, hz2⟩ := info_parts byteInfo
  go_enter Tryd.func25, Tryd.ntmps25
  go_wp2
  go_loopw [3, 4] (fun v ii wr => ∃ k : Nat, k ≤ 32 ∧ ii = .int .i64 k ∧ Below w.heap.size w wr ∧ wr.ownsRow (w.heap.size + 1) 5 1 v k (lstK .u8 k (byt V)) ∧
      Blk wr w.heap.size #[.int .u64 (lim V 0), .int .u64 (lim V 1), .int .u64 (lim V 2), .int .u64 (lim V 3)] 26)
    (fun _ ii _ => (32 - intOf ii).toNat)
  case atStart =>
    refine ⟨0, by omega, rfl, ?_, ?_, blk_alloc (blk_new _ _ rfl) _⟩
    · (repeat' (first | (with_reducible assumption) | (with_reducible exact Below.refl _ _) | (with_reducible refine Below.drew ?_) | (with_reducible refine Below.alloc ?_ ?_ _) | (with_reducible refine below_set ?_ ?_ _ _) | (with_reducible refine below_setRow ?_ ?_ _) | (with_reducible refine below_step ?_ (by assumption) ?_))) <;> (first | omega | ((try simp only [World.size_alloc, World.size_setCell, World.size_drew, size_setRow]); omega))
    · exact ⟨rfl, .inr ⟨w.heap.size + 1, 0, #[], rfl, Nat.le_refl _, blk_new _ _ (by simp), Nat.le_refl _, by decide, rfl, rfl⟩⟩
  case round =>
    obtain ⟨k, hk, rfl, hbel, hown, b1⟩ := hrel
    by_cases hk0 : k = 32
    · subst hk0
      have hc := run_string_own Tryd.underlying22 Tryd.underlying5 hown 9 Tryd.underlying9
      go_wp2
      go_ret
      exact ⟨rfl, hbel⟩
    · obtain ⟨q, r, hr, rfl⟩ : ∃ q r, r < 8 ∧ k = 8 * q + r := ⟨k / 8, k % 8, by omega, by omega⟩
      have d1 : (8 * (q : Int) + (r : Int)) / 8 = (q : Int) := by omega
      have d2 : (8 * (q : Int) + (r : Int)) % 8 = (r : Int) := by omega
      have hq1 : (q : Int) < 4 := by omega
      have hr1 : (r : Int) < 8 := by omega
      have c0 := (blk_cell b1 q).trans (show _ = some (.int .u64 (lim V q)) by (have : q = 0 ∨ q = 1 ∨ q = 2 ∨ q = 3 := by omega); rcases this with rfl | rfl | rfl | rfl <;> rfl)
      have sz := hbel.size
      have HB := Lib.hid hbel.size
      go_wp2_with (at_builtin; refine wpList_append_own _ rfl (.tmp 10) (.tmp 20) 22 rfl (w.heap.size + 1) 5 i0 (.int .u8 0) 1 1 Tryd.underlying22 hi hz0 hz1 hz2 rfl (by decide) _ _ _ rfl (hown.alloc _) ⟨wr.heap.size, 0, none⟩ 1 1 [.int .u8 (lim V q / 2 ^ (8 * r) % 256)] rfl rfl ?c1 ?c2 ?c3 ?c4 ?c5 ?_)
      case c1 => exact World.news_of_block (cs := #[.int .u8 (lim V q / 2 ^ (8 * r) % 256)]) (t := 5) (fr := (0, 0)) (heap_alloc_new wr _)
      case c2 => intro u hu; simp at hu; subst hu; rfl
      case c3 => unfold maxLen; omega
      case c4 => omega
      case c5 => simp only [World.size_alloc]; omega
      · intro v' w1 hown' hgrow _
        have hby := lim_byt V (8 * q + r)
        rw [show (8 * q + r) / 8 = q by omega, show (8 * q + r) % 8 = r by omega] at hby
        rw [hby, ← lstK_succ] at hown'
        have hob : ∀ k, u3.ownBlock = some k → w.heap.size + 1 ≤ k := fun k hk => (hown.lt k hk).1
        have hbel' := own_below (hbel.alloc sz (.cells #[.int .u8 (lim V q / 2 ^ (8 * r) % 256)] 5)) hgrow (by simp only [World.size_alloc]; omega) (fun k hk => by have := hob k hk; omega)
        have b1' := blk_grown (blk_alloc b1 _) hgrow (fun k hk => by have := hob k hk; omega)
        clear hown hgrow hob hby b1 c0
        go_wp2
        go_roundw
        case rel =>
          (repeat apply Exists.intro)
          refine ⟨?_, rfl⟩
          exact ⟨8 * q + r + 1, by omega, by go_num, hbel', hown', b1'⟩
        case measure => simp [intOf]; omega
end Go.Proofs.YtgmdpiaenfogcaaDoor

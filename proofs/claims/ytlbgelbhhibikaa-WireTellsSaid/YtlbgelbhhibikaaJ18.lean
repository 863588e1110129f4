/- A drawn region whose first operations yield one value (some of them, that look at no world, may come late); the others are forced. No conditions. wire: the document's bytes of a request; the law's tame and to. Conditions: memory holds what is written. The laws of layer 24: tame, to. Conditions: memory holds what is written. wire: what bytes are a request; the document's Asked. Conditions: the texts are not too long. wire: read, right; codec's reader as one thing among others. Conditions: memory holds what is written. A leaf's and a proof's cells. No conditions. -/
import Derived.Test.YtlbgelbhhibikaaJ7
import Derived.Test.YtlbgelbhhibikaaWb
import Derived.Test.YtlbgelbhhibikaaJ14
import Derived.Test.YtlbgelbhhibikaaMh
set_option linter.unusedSimpArgs false
set_option linter.unusedVariables false
namespace Go.Proofs.Ytlbgelbhhibikaa
open Go.RowKit
attribute [local irreducible] wpList wpTr wpX
section
variable {P : Program} {ops : Array Oper} {md : Region.Mode}
end
section
variable {P : Program} {ops : Array Oper} {Q : Exit → Act → World → Prop} {E : Act → World → Prop} {F : List Nat} {w : World} {H : List As} {l : List Oper} {o : Oper} {a a' : Act} {b : Bool} {bs : List Bool}
end
end Go.Proofs.Ytlbgelbhhibikaa

set_option linter.unusedSimpArgs false
set_option linter.unusedVariables false
namespace Go.Proofs.Ytlbgelbhhibikaa.Ww
set_option maxHeartbeats 1500000
set_option maxRecDepth 100000
open Go.RowKit
attribute [local irreducible] wpList wpTr wpX
set_option linter.unusedSimpArgs false
/-- a text of at most so many bytes, by the document -/
def dtx (most : Int) (t : List UInt8) : List UInt8 := if most < (t.length : Int) then [] else tB t
def dok (most : Int) (t : List UInt8) : Bool := !decide (most < (t.length : Int))
theorem dtx_le {most : Int} {m : Nat} {t : List UInt8} (h : most = (m : Int)) : (dtx most t).length ≤ 2 + m := by
 subst h
 unfold dtx
 split
 ·
  exact Nat.zero_le _
 ·
  rw [tB_len]; omega
theorem eight_i (n : Int) (w : World) : Calls Try.prog 33 #[.int .i64 n] w fun e w' => Ret (str (eI n)) w w' e :=
 eight_c n _ (by rw [Int.toNat_of_nonneg (Int.emod_nonneg _ (by decide))]) w
theorem one_i (n : Int) (hn : 0 ≤ n) (w : World) : Calls Try.prog 31 #[.int .i64 n] w fun e w' => Ret (str [u8 n.toNat]) w w' e := by
 have h := one_c n.toNat w
 rw [Int.toNat_of_nonneg hn] at h
 exact h
theorem tx_i (m : List UInt8) (hm : m.length ≤ 140737488350000) (w : World) : Calls Try.prog 43 #[str m] w fun e w' => Ret (str (tB m)) w w' e := by
 have h := rtext_c m (by omega) w
 rw [show [u8 (m.length / 256)] ++ [u8 m.length] ++ m = tB m from by unfold tB; rfl] at h
 exact h
def daskL (q : Rq) : List UInt8 :=
 if q.k = 1 then [u8 q.k.toNat] ++ dtx 16 q.id ++ lb 32 q.vrf ++ lb 32 q.bind ++ eI q.l0 ++ eI q.l1 ++ eI q.l2 ++ eI q.per
 else if q.k = 5 then [u8 q.k.toNat] ++ dtx 16 q.id ++ dtx 32 q.lab ++ dtx 64 q.val
 else if q.k = 6 then [u8 q.k.toNat] ++ dtx 16 q.id ++ dtx 32 q.lab ++ eI q.fr
 else if q.k = 7 then [u8 q.k.toNat] ++ dtx 16 q.id ++ dtx 32 q.lab
 else if q.k = 8 then [u8 q.k.toNat] ++ dtx 16 q.id ++ eI q.fr ++ eI q.ti
 else if q.k = 10 then [u8 q.k.toNat] ++ dtx 65535 q.bun
 else if q.k = 12 then [u8 q.k.toNat] ++ eI q.fr ++ eI q.ti
 else [u8 q.k.toNat] ++ dtx 16 q.id
theorem dok_tx (most : Int) (t : List UInt8) (b : Bool) (l : List UInt8) : (dok most t = !(txB most t false)) ∧ (dok most t = true → txL most t l = l ++ dtx most t ∧ txB most t b = b) ∧ (txB most t b = (!dok most t || b)) := by
 unfold dok txB txL dtx
 by_cases h : most < (t.length : Int)
 ·
  simp [h]
 ·
  simp [h]
theorem b2 (a b : Bool) : a = false ∨ (a = true ∧ b = false) ∨ (a = true ∧ b = true) := by cases a <;> cases b <;> simp
attribute [local irreducible] lb be8 eI tB txL txB dtx dok

theorem rtx_c {m : List UInt8} (most : Int) (hm : m.length ≤ 140737488350000) (w : World) :
  Calls Try.prog 32 #[str m, .int .i64 most] w fun e w' => Ret (.tuple #[str (dtx most m), .bool (dok most m)]) w w' e := by
 have hS := SH.nil [] w
 go_enter Try.func32, Try.ntmps32
 by_cases hlt : most < (m.length : Int)
 ·
  have _f := hlt
  go_upto_region 1 with fail
  refine RL hS ?_
  clear hS
  refine MV ?_
  refine MW ?_ (v := .int .i64 (m.length : Int)) (hv := fun _ => run_slen (l := m) rfl rfl)
  refine MV ?_
  refine MW ?_ (v := .bool true) (hv := by intro W; go_simp; first | done | omega)
  refine MZ fun W hS => ?_
  go_wp2
  exact bodyPost_ret (v := .tuple #[str [], .bool false]) (by simp only [results, Try.results32]; first | (go_simp; done) | (go_simp; rfl)) rfl ⟨by unfold dtx dok; rw [if_pos hlt, decide_eq_true hlt]; rfl, hS.ext⟩
 ·
  have _f := hlt
  go_upto_region 1 with fail
  refine RL hS ?_
  clear hS
  refine MV ?_
  refine MW ?_ (v := .int .i64 (m.length : Int)) (hv := fun _ => run_slen (l := m) rfl rfl)
  refine MV ?_
  refine MW ?_ (v := .bool false) (hv := by intro W; go_simp; first | done | omega)
  refine MZ fun W hS => ?_
  go_upto_region 3 with fail
  refine RL hS ?_
  clear hS
  refine MV ?_
  refine MC (v := str (tB m)) (fun W hS => tx_i m (by omega) W) ?_
  refine MV ?_
  refine MW ?_ (v := .bool true)
  refine MZ fun W hS => ?_
  go_wp2
  exact bodyPost_ret (v := .tuple #[str (tB m), .bool true]) (by simp only [results, Try.results32]; first | (go_simp; done) | (go_simp; rfl)) rfl ⟨by unfold dtx dok; rw [if_neg (Int.not_lt.2 hlt), decide_eq_false (Int.not_lt.2 hlt)]; rfl, hS.ext⟩
end Go.Proofs.Ytlbgelbhhibikaa.Ww

set_option linter.unusedSimpArgs false
set_option linter.unusedVariables false
namespace Go.Proofs.Ytlbgelbhhibikaa.Ww
set_option maxHeartbeats 1500000
set_option maxRecDepth 100000
open Go.RowKit
attribute [local irreducible] wpList wpTr wpX
set_option linter.unusedSimpArgs false
attribute [local irreducible] lb be8 eI tB txL txB dtx dok

theorem zer_wire_Request : zer Try.prog 33 = some (some (agF [.c (.int .i64 0), .c (.slice none 0 0), .a 32 0, .a 32 0, .c (.int .i64 0), .c (.int .i64 0), .c (.int .i64 0), .c (.int .i64 0), .c (.slice none 0 0), .c (.slice none 0 0), .c (.int .i64 0), .c (.int .i64 0), .c (.slice none 0 0)])) := by kernel_rfl
theorem plc_wire_Request : plc Try.prog 33 = some [(0, 1), (1, 1), (2, 64), (66, 3), (69, 1), (70, 1), (71, 1), (72, 1), (73, 1), (74, 1)] := by kernel_rfl
theorem zer_direct_Limits : zer Try.prog 31 = some (some (agF [.c (.int .i64 0), .c (.int .i64 0), .c (.int .i64 0)])) := by kernel_rfl
theorem plc_direct_Limits : plc Try.prog 31 = some [(0, 1), (1, 1), (2, 1)] := by kernel_rfl
theorem zer_direct_Keys : zer Try.prog 29 = some (some (agF [.a 32 0, .a 32 0])) := by kernel_rfl
theorem plc_direct_Keys : plc Try.prog 29 = some [(0, 32), (32, 32)] := by kernel_rfl
end Go.Proofs.Ytlbgelbhhibikaa.Ww

set_option linter.unusedSimpArgs false
set_option linter.unusedVariables false
namespace Go.Proofs.Ytlbgelbhhibikaa.Ww
set_option maxHeartbeats 1500000
set_option maxRecDepth 100000
open Go.RowKit
attribute [local irreducible] wpList wpTr wpX
set_option linter.unusedSimpArgs false
def zQ (k : Nat) : Rq := ⟨(k : Int), [], 0, 0, 0, 0, 0, 0, [], [], 0, 0, []⟩
/-- what is read of a request of a kind; what is left then -/
def rdQ (k : Nat) (s : RSt) : Rq × RSt :=
 if k = 1 then ({ zQ k with id := txV 16 s, vrf := suV (txS 16 s), bind := suV (tkS 32 (txS 16 s)), l0 := nuV (tkS 32 (tkS 32 (txS 16 s))), l1 := nuV (tkS 8 (tkS 32 (tkS 32 (txS 16 s)))), l2 := nuV (tkS 8 (tkS 8 (tkS 32 (tkS 32 (txS 16 s))))), per := nuV (tkS 8 (tkS 8 (tkS 8 (tkS 32 (tkS 32 (txS 16 s)))))) }, tkS 8 (tkS 8 (tkS 8 (tkS 8 (tkS 32 (tkS 32 (txS 16 s)))))))
 else if k = 5 then ({ zQ k with id := txV 16 s, lab := txV 32 (txS 16 s), val := txV 64 (txS 32 (txS 16 s)) }, txS 64 (txS 32 (txS 16 s)))
 else if k = 6 then ({ zQ k with id := txV 16 s, lab := txV 32 (txS 16 s), fr := nuV (txS 32 (txS 16 s)) }, tkS 8 (txS 32 (txS 16 s)))
 else if k = 7 then ({ zQ k with id := txV 16 s, lab := txV 32 (txS 16 s) }, txS 32 (txS 16 s))
 else if k = 8 then ({ zQ k with id := txV 16 s, fr := nuV (txS 16 s), ti := nuV (tkS 8 (txS 16 s)) }, tkS 8 (tkS 8 (txS 16 s)))
 else if k = 10 then ({ zQ k with bun := txV 65535 s }, txS 65535 s)
 else if k = 12 then ({ zQ k with fr := nuV s, ti := nuV (tkS 8 s) }, tkS 8 (tkS 8 s))
 else ({ zQ k with id := txV 16 s }, txS 16 s)
/-- of the bytes l -/
abbrev aQ (l : List UInt8) : Rq × RSt := rdQ (byV (l, 0)) (tkS 1 (l, 0))
attribute [local irreducible] lb be8 eI tB txL txB dtx dok txV txS tkS byV nuV suV enV
theorem rdQ_1 {k : Nat} {s : RSt} (hk : k = 1) : rdQ k s = ({ zQ k with id := txV 16 s, vrf := suV (txS 16 s), bind := suV (tkS 32 (txS 16 s)), l0 := nuV (tkS 32 (tkS 32 (txS 16 s))), l1 := nuV (tkS 8 (tkS 32 (tkS 32 (txS 16 s)))), l2 := nuV (tkS 8 (tkS 8 (tkS 32 (tkS 32 (txS 16 s))))), per := nuV (tkS 8 (tkS 8 (tkS 8 (tkS 32 (tkS 32 (txS 16 s)))))) }, tkS 8 (tkS 8 (tkS 8 (tkS 8 (tkS 32 (tkS 32 (txS 16 s))))))) := by subst hk; rfl
theorem rdQ_5 {k : Nat} {s : RSt} (hk : k = 5) : rdQ k s = ({ zQ k with id := txV 16 s, lab := txV 32 (txS 16 s), val := txV 64 (txS 32 (txS 16 s)) }, txS 64 (txS 32 (txS 16 s))) := by subst hk; rfl
theorem rdQ_6 {k : Nat} {s : RSt} (hk : k = 6) : rdQ k s = ({ zQ k with id := txV 16 s, lab := txV 32 (txS 16 s), fr := nuV (txS 32 (txS 16 s)) }, tkS 8 (txS 32 (txS 16 s))) := by subst hk; rfl
theorem rdQ_7 {k : Nat} {s : RSt} (hk : k = 7) : rdQ k s = ({ zQ k with id := txV 16 s, lab := txV 32 (txS 16 s) }, txS 32 (txS 16 s)) := by subst hk; rfl
theorem rdQ_8 {k : Nat} {s : RSt} (hk : k = 8) : rdQ k s = ({ zQ k with id := txV 16 s, fr := nuV (txS 16 s), ti := nuV (tkS 8 (txS 16 s)) }, tkS 8 (tkS 8 (txS 16 s))) := by subst hk; rfl
theorem rdQ_10 {k : Nat} {s : RSt} (hk : k = 10) : rdQ k s = ({ zQ k with bun := txV 65535 s }, txS 65535 s) := by subst hk; rfl
theorem rdQ_12 {k : Nat} {s : RSt} (hk : k = 12) : rdQ k s = ({ zQ k with fr := nuV s, ti := nuV (tkS 8 s) }, tkS 8 (tkS 8 s)) := by subst hk; rfl
theorem rdQ_0 {k : Nat} {s : RSt} (hk : k ≠ 1 ∧ k ≠ 5 ∧ k ≠ 6 ∧ k ≠ 7 ∧ k ≠ 8 ∧ k ≠ 10 ∧ k ≠ 12) : rdQ k s = ({ zQ k with id := txV 16 s }, txS 16 s) := by unfold rdQ; simp only [hk.1, hk.2.1, hk.2.2.1, hk.2.2.2.1, hk.2.2.2.2.1, hk.2.2.2.2.2.1, hk.2.2.2.2.2.2, if_false]
/-- what the bytes l ask -/
def askedM (l : List UInt8) : Option Rq := if (1 ≤ byV (l, 0) ∧ byV (l, 0) ≤ 12) ∧ enV (aQ l).2 = 0 then some (aQ l).1 else none
end Go.Proofs.Ytlbgelbhhibikaa.Ww

set_option linter.unusedSimpArgs false
set_option linter.unusedVariables false
namespace Go.Proofs.Ytlbgelbhhibikaa
set_option maxHeartbeats 1500000
set_option maxRecDepth 100000
open Go.RowKit
attribute [local irreducible] wpList wpTr wpX
set_option linter.unusedSimpArgs false
theorem txS_len (m : Int) (s : RSt) : (txS m s).1.length ≤ s.1.length := by
 unfold txS
 split
 ·
  rw [List.length_drop]; omega
 ·
  exact Nat.le_refl _
namespace SH
variable {F : List Nat} {w W : World} {H : List As} {x : As}
/-- a thing of new blocks that lies apart from all else -/
theorem addn {n : Nat} (h : SH F w W H) (hx : x.holds W) (hm : x.mv = true) (hn : ∀ k ∈ x.foot, n ≤ k) (hw : w.heap.size ≤ n) (hl : ∀ y ∈ H, ∀ k ∈ y.foot, k < n) (ht : H.all (tyOk x) = true) : SH F w W (x :: H) := by
 refine ⟨h.off, fun y hy => ?_, List.pairwise_cons.2 ⟨fun y hy => ⟨fun _ => ?_, fun _ => ?_⟩, h.ap⟩, fun y hy hm k hk hlt => ?_⟩
 ·
  rcases List.mem_cons.1 hy with rfl | hy
  ·
   exact hx
  ·
   exact h.all y hy
 ·
  have hl := hl y hy
  have ht := List.all_eq_true.1 ht y hy
  cases y with
  | t T K => simpa [tyOk, hm] using ht
  | _ => exact fun k hk hk' => Nat.not_lt.2 (hn k hk) (hl k hk')
 ·
  have hl := hl y hy
  cases x with
  | t T K => cases hm
  | _ => exact fun k hk hk' => Nat.not_lt.2 (hn k hk') (hl k hk)
 ·
  rcases List.mem_cons.1 hy with rfl | hy
  ·
   have := hn k hk; omega
  ·
   exact h.old y hy hm k hk hlt
end SH
/-- a method of a reader that tells a text -/
theorem rdcallT {P : Program} {f : FuncId} {args : Array Value} {t : List UInt8} {F : List Nat} {w W : World} {H : List As} {i j p : Nat} {v : Value} {l l' : List UInt8} {e e' : Int} (hS : SH F w W H) (hi : H[i]? = some (.b p #[v, .int .i64 e] 141)) (hj : H[j]? = some (.s v l))
 (hc : Rdr W p v l e → Calls P f args W fun en W' => ∃ u, en = .returned u ∧ Own W' u t ∧ Fr u.ownBlock W.heap.size [] ∧ ∃ v', RdTo W p v l l' e' v' W') (ht : ∀ x y : Value, (As.s y l' :: H.set i (.b p #[y, .int .i64 e'] 141)).all (SH.tyOk (.o x t)) = true) :
 Calls P f args W fun en W' => ∃ x : Value × { u : Value // Sub u l' (sb v l) }, en = .returned x.1 ∧ SH F w W' (.o x.1 t :: .s x.2.1 l' :: H.set i (.b p #[x.2.1, .int .i64 e'] 141)) := by
 have hn : i ≠ j := fun e => by subst e; rw [hi] at hj; cases hj
 refine (hc (rdr_at hS hi hj)).mono fun en W' ⟨u, h1, h5, h6, v', h2⟩ => ⟨(u, ⟨v', h2.sub⟩), h1, ?_⟩
 have h3 := hS.setb hi h2.off h2.rd.1
 have h4 := h3.sub (i := j) (by rw [List.getElem?_set_ne hn]; exact hj) h2.rd.2.1 h2.sub
 refine h4.addn (n := W.heap.size) (x := .o u t) h5 rfl (fun k hk => Nat.le_of_not_lt fun hlt => by have := h6 k (As.mem_toList hk) hlt; cases this) hS.size (fun y hy k hk => ?_) (ht u v')
 rcases List.mem_cons.1 hy with rfl | hy
 ·
  have hk' : sb v' l' = some k := As.mem_toList hk
  exact Sl.lt (hS.sl hj) k (h2.sub k hk')
 ·
  rcases SH.mem_set_ne hy with rfl | ⟨j2, _, hj2⟩
  ·
   obtain rfl : k = p := List.mem_singleton.1 hk
   exact blk_lt (hS.blk hi)
  ·
   exact As.lt (hS.at_ hj2) k hk
namespace Ww
/-- a reader in new blocks -/
theorem read_f {F : List Nat} {w W : World} {H : List As} {u : Value} {l : List UInt8} (hS : SH F w W H) (hs : Sl W u l) (hl : l.length ≤ 140737488355328) (ht : ∀ x : Nat × Value, (rdL x.1 x.2 l 0).all (fun y => (match y with | .t _ _ => false | _ => true) && H.all (SH.tyOk y)) = true) :
  Calls Try.prog 58 #[u] W fun e w' => ∃ x : { x : Nat × Value // ∀ k, sb x.2 l = some k → w.heap.size ≤ k }, e = .returned (.pointer (some ⟨x.1.1, 0, none⟩)) ∧ SH F w w' (rdL x.1.1 x.1.2 l 0 ++ H) :=
 (read_n hs hl).mono fun e w' ⟨x, h1, h2, h3⟩ => ⟨⟨x, fun k hk => Nat.le_trans hS.size (h3 (.s x.2 l) (by simp) rfl k (by show k ∈ (sb x.2 l).toList; rw [hk]; simp))⟩, h1, hS.newL h2 h3 (ht x)⟩
/-- wire's reader, as things -/
abbrev wrdL (r p : Nat) (v : Value) (s : RSt) (bad : Bool) : List As := [.b r #[.pointer (some ⟨p, 0, none⟩), .bool bad] 115, .b p #[v, .int .i64 s.2] 141, .s v s.1]

theorem zer_wire_reader : zer Try.prog 115 = some (some (agF [.c (.pointer none), .c (.bool false)])) := by kernel_rfl
theorem plc_wire_reader : plc Try.prog 115 = some [(0, 1), (1, 1)] := by kernel_rfl
theorem fresh3 {r p : Nat} {v : Value} {l : List UInt8} {n : Nat} {c1 c2 : Array Value} {t1 t2 : TypeId} (h : ∀ k, sb v l = some k → n ≤ k) : ∀ y ∈ [As.b r c1 t1, As.b p c2 t2, As.s v l], y.mv = false → ∀ k ∈ y.foot, n ≤ k := fun y hy hm k hk => by
 rcases List.mem_cons.1 hy with rfl | hy
 ·
  cases hm
 rcases List.mem_cons.1 hy with rfl | hy
 ·
  cases hm
 rw [List.mem_singleton.1 hy] at hk
 exact h k (As.mem_toList hk)
theorem wread_c {u : Value} {l : List UInt8} (hl : l.length ≤ 140737488000000) (w : World) (hs : Sl w u l) :
  Calls Try.prog 36 #[u] w fun e w' => ∃ x : Nat × Nat × Value, e = .returned (.pointer (some ⟨x.1, 0, none⟩)) ∧ SH [] w w' (wrdL x.1 x.2.1 x.2.2 (l, 0) false) ∧ ∀ y ∈ wrdL x.1 x.2.1 x.2.2 (l, 0) false, y.mv = false → ∀ k ∈ y.foot, w.heap.size ≤ k := by
 have hS := SH.nil [] w
 go_enter Try.func36, Try.ntmps36
 go_upto_region 1 with fail
 refine RL hS ?_
 clear hS
 refine MV ?_
 refine ME (V := fun x : { x : Nat × Value // ∀ k, sb x.2 l = some k → w.heap.size ≤ k } => .pointer (some ⟨x.1.1, 0, none⟩)) (fun W hS => read_f hS (sl_e hs hS.ext) (by omega) (fun _ => rfl)) ?_
 rintro ⟨⟨p_rd4, v_rd4⟩, hfr⟩
 dsimp only at hfr ⊢
 refine MF (v := .agg (agF [.c (.pointer (some ⟨p_rd4, 0, none⟩)), .c (.bool false)])) (fun W hS => run_bld rfl rfl zer_wire_reader plc_wire_reader (fill_c fill_n (l' := [.c (.pointer (some ⟨p_rd4, 0, none⟩)), .c (.bool false)]) (m := [.c (.pointer (some ⟨p_rd4, 0, none⟩))]) (hv := rfl) (hs := agF_setp 0 1) (hp := rfl) (hn := rfl) (hb := by show 0 + 1 ≤ 2; decide))) ?_
 refine MN (z := agF [.c (.pointer (some ⟨p_rd4, 0, none⟩)), .c (.bool false)]) (t := 115) ?_
 intro p6_1
 refine MV ?_
 refine MZ fun W hS => ?_
 go_wp2
 exact bodyPost_ret (v := .pointer (some ⟨p6_1, 0, none⟩)) (by simp only [results, Try.results36]; go_simp) rfl ⟨(p6_1, p_rd4, v_rd4), rfl, hS.pick [0, 1, 2], fresh3 hfr⟩
theorem rdr_ext {w W : World} {p : Nat} {v : Value} {l : List UInt8} {e : Int} (h : Rdr w p v l e) (q : Ext w W) : Rdr W p v l e := ⟨blk_step h.1 q, sl_e h.2.1 q, h.2.2⟩
theorem wright_c {r p : Nat} {v : Value} {s : RSt} (w : World) (hr : Blk w r #[.pointer (some ⟨p, 0, none⟩), .bool false] 115) (hrd : Rdr w p v s.1 s.2) :
  Calls Try.prog 41 #[.pointer (some ⟨r, 0, none⟩)] w fun e w' => Ret (.bool (decide (enV s = 0))) w w' e := by
 have hS := SH.nil [] w
 go_enter Try.func41, Try.ntmps41
 go_upto_region 1 with fail
 refine RL hS ?_
 clear hS
 refine MV ?_
 refine MV ?_
 refine MV ?_
 refine MF (v := .bool false) (fun W hS => run_at rfl rfl (by rw [blk_cell (blk_step hr hS.ext)]; rfl) (by kernel_rfl)) ?_
 refine MW ?_ (v := .bool true) (hv := by intro W; go_simp; (try omega))
 refine MW ?_ (v := .bool true)
 refine MV ?_
 refine MV ?_
 refine MV ?_
 refine MF (v := .pointer (some ⟨p, 0, none⟩)) (fun W hS => run_at rfl rfl (by rw [blk_cell (blk_step hr hS.ext)]; rfl) (by kernel_rfl)) ?_
 refine MC (v := .int .i64 (enV s)) (fun W hS => rend_t (s := s) (rdr_ext hrd hS.ext)) ?_
 refine MW ?_ (v := .bool (decide (enV s = 0))) (hv := by intro W; first | (go_simp; done) | (go_simp; rfl))
 refine MW ?_ (v := .bool (decide (enV s = 0)))
 refine MW ?_ (v := .bool (decide (enV s = 0)))
 refine MZ fun W hS => ?_
 go_wp2
 exact bodyPost_ret (v := .bool (decide (enV s = 0))) (by simp only [results, Try.results41]; first | (go_simp; done) | (go_simp; rfl)) rfl ⟨rfl, hS.ext⟩
theorem wright_b {r p : Nat} {v : Value} {s : RSt} (w : World) (hr : Blk w r #[.pointer (some ⟨p, 0, none⟩), .bool true] 115) (hrd : Rdr w p v s.1 s.2) :
  Calls Try.prog 41 #[.pointer (some ⟨r, 0, none⟩)] w fun e w' => Ret (.bool false) w w' e := by
 have hS := SH.nil [] w
 go_enter Try.func41, Try.ntmps41
 go_upto_region 1 with fail
 refine RL hS ?_
 clear hS
 refine MV ?_
 refine MV ?_
 refine MV ?_
 refine MF (v := .bool true) (fun W hS => run_at rfl rfl (by rw [blk_cell (blk_step hr hS.ext)]; rfl) (by kernel_rfl)) ?_
 refine MW ?_ (v := .bool false) (hv := by intro W; go_simp; (try omega))
 refine MW ?_ (v := .bool false)
 refine MS ?_
 refine MS ?_
 refine MS ?_
 refine MS ?_
 refine MS ?_
 refine MS ?_
 refine MW ?_ (v := .bool false)
 refine MW ?_ (v := .bool false)
 refine MZ fun W hS => ?_
 go_wp2
 exact bodyPost_ret (v := .bool false) (by simp only [results, Try.results41]; first | (go_simp; done) | (go_simp; rfl)) rfl ⟨rfl, hS.ext⟩
end Ww
end Go.Proofs.Ytlbgelbhhibikaa

set_option linter.unusedSimpArgs false
set_option linter.unusedVariables false
namespace Go.Proofs.Ytlbgelbhhibikaa
set_option maxRecDepth 100000
open Go.RowKit
attribute [local irreducible] wpList wpTr wpX
set_option linter.unusedSimpArgs false
/-- a leaf's cells -/
def lf (k v : Nat) : Array Value := arrK .u8 32 (byt k) ++ arrK .u8 32 (byt v)
section
variable {k v : Nat}
theorem lf_size : (lf k v).size = 64 := by unfold lf; rw [Array.size_append, arrK_size, arrK_size]
theorem lf_one : (lf k v).all (·.oneCell') = true := by unfold lf; rw [Array.all_append, arrK_one, arrK_one]; rfl
theorem lf_k : ∀ i u, (arrK .u8 32 (byt k))[i]? = some u → (lf k v)[0 + i]? = some u := fun i u h => by rw [Nat.zero_add]; exact app_l h
theorem lf_v : ∀ i u, (arrK .u8 32 (byt v))[i]? = some u → (lf k v)[32 + i]? = some u := fun i u h => app_r (arrK_size _ _ _) h
end
/-- a proof's cells -/
def pfc (s : Value) (th : Bool) (a x : Nat) : Array Value := #[s, .bool th] ++ lf a x
section
variable {s : Value} {th : Bool} {a x : Nat}
theorem pf_size : (pfc s th a x).size = 66 := by unfold pfc; rw [Array.size_append, lf_size]; rfl
theorem pf_one (h : s.oneCell' = true) : (pfc s th a x).all (·.oneCell') = true := by unfold pfc; rw [Array.all_append, lf_one]; simp [h]; rfl
theorem pf_s : (pfc s th a x)[0]? = some s := by unfold pfc; rw [Array.getElem?_append_left (by simp)]; rfl
theorem pf_t : (pfc s th a x)[1]? = some (.bool th) := by unfold pfc; rw [Array.getElem?_append_left (by simp)]; rfl
theorem pf_e : ∀ i v, (lf a x)[i]? = some v → (pfc s th a x)[2 + i]? = some v := fun i v h => by unfold pfc; exact app_r rfl h
theorem pf_k : ∀ i v, (arrK .u8 32 (byt a))[i]? = some v → (pfc s th a x)[2 + i]? = some v := fun i v h => pf_e i v (by have h_ := lf_k (v := x) i v h; rwa [Nat.zero_add] at h_)
theorem pf_v : ∀ i v, (arrK .u8 32 (byt x))[i]? = some v → (pfc s th a x)[34 + i]? = some v := fun i v h => by
 have h_ := pf_e (s := s) (th := th) (32 + i) v (lf_v (k := a) i v h)
 rwa [show 2 + (32 + i) = 34 + i by omega] at h_
end
section
variable {s : Value} {th : Bool} {a x k y : Nat} {v : Value}
theorem pfl (s : Value) (th : Bool) (a x : Nat) : (pfc s th a x).toList = s :: .bool th :: (lf a x).toList := by unfold pfc; simp
theorem pf_puts : (pfc s th a x).setIfInBounds 0 v = pfc v th a x := by
 apply Array.toList_inj.1; rw [Array.toList_setIfInBounds, pfl, pfl]; rfl
theorem pf_putb {b : Bool} : (pfc s th a x).setIfInBounds 1 (.bool b) = pfc s b a x := by
 apply Array.toList_inj.1; rw [Array.toList_setIfInBounds, pfl, pfl]; rfl
theorem spl_all : ∀ (vs old pre : List Value), old.length = vs.length → spl (pre ++ old).toArray pre.length vs = (pre ++ vs).toArray
 | [], old, pre, h => by rw [List.eq_nil_of_length_eq_zero h]; rfl
 | u :: r, o :: old, pre, h => by
  show spl ((pre ++ o :: old).toArray.setIfInBounds pre.length u) (pre.length + 1) r = _
  have e : (pre ++ o :: old).toArray.setIfInBounds pre.length u = ((pre ++ [u]) ++ old).toArray := by
   apply Array.toList_inj.1
   rw [Array.toList_setIfInBounds]
   show (pre ++ o :: old).set pre.length u = _
   rw [List.set_append_right _ _ (Nat.le_refl _), Nat.sub_self]; simp
  rw [e, show pre.length + 1 = (pre ++ [u]).length by simp, spl_all r old (pre ++ [u]) (by simpa using h)]
  simp
theorem pf_pute : spl (pfc s th a x) 2 (lf k y).toList = pfc s th k y := by
 have h := spl_all (lf k y).toList (lf a x).toList [s, .bool th] (by rw [Array.length_toList, Array.length_toList, lf_size, lf_size])
 have e1 : ([s, .bool th] ++ (lf a x).toList).toArray = pfc s th a x := by apply Array.toList_inj.1; rw [pfl]; rfl
 have e2 : ([s, .bool th] ++ (lf k y).toList).toArray = pfc s th k y := by apply Array.toList_inj.1; rw [pfl]; rfl
 rw [e1, e2] at h
 exact h
end
/-- 32 bytes that lie as an element of a row -/
theorem sl_c32 {W : World} {g o s : Nat} (h : ∀ i v, (b32l s)[i]? = some v → W.cell? ⟨g, o + i, none⟩ = some v) : Sl W (.slice (some ⟨g, o, none⟩) 32 32) (lb 32 s) := by
 refine ⟨some ⟨g, o, none⟩, 32, by rw [lb_length], by rw [lb_length]; decide, by decide, fun h => (by cases h), fun j x hj => ⟨_, rfl, ?_⟩⟩
 have hj2 : j < 32 := by have := (List.getElem?_eq_some_iff.1 hj).1; rwa [lb_length] at this
 rw [lb_get hj2] at hj
 have := Option.some.inj hj
 subst this
 rw [lb_byt, Addr.add_mid]
 exact h j _ (by unfold b32l; rw [Array.getElem?_toList]; exact arrK_get _ _ _ _ hj2)
end Go.Proofs.Ytlbgelbhhibikaa

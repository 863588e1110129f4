/- The Writer that is a part of wire's, over one list of what lies where. Conditions: memory holds what is written. wire's writer: a number of any int; texts as bytes. Conditions: memory holds what is written. wire's writer: a text of at most so many bytes; done. Conditions: memory holds what is written. -/
import Derived.Test.YtlbgelbhhibikaaJ14
import Derived.Test.YtlbgelbhhibikaaKw
import Derived.Test.YtlbgelbhhibikaaJ7
set_option linter.unusedSimpArgs false
set_option linter.unusedVariables false
namespace Go.Proofs.Ytlbgelbhhibikaa.Ww
open Go.RowKit
variable {bad : Bool}
attribute [local irreducible] wpList wpTr wpX
/-- a writer, as things -/
abbrev wrL (bad : Bool) (p : Nat) (v : Value) (l : List UInt8) (big : Bool) : List As := [.b p #[v, .bool big, .bool bad] 96, .o v l]
theorem wr_form {w w' : World} {p : Nat} {v v' : Value} {l l' : List UInt8} {big big' : Bool} (h : WrTo bad w p v l' big' v' w') : SH (SH.feet (wrL bad p v l big)) w w' (wrL bad p v' l' big') := by
  have hf : SH.feet (wrL bad p v l big) = p :: v.ownBlock.toList := by simp [SH.feet, As.mv, As.foot]
  rw [hf]
  refine ⟨h.off, fun x hx => ?_, List.pairwise_cons.2 ⟨fun y hy => ?_, List.pairwise_cons.2 ⟨fun y hy => (by cases hy), .nil⟩⟩, fun x hx hm k hk hlt => ?_⟩
  · rcases List.mem_cons.1 hx with rfl | hx
    · exact h.wr.1
    · rw [List.mem_singleton.1 hx]; exact h.wr.2
  · rw [List.mem_singleton.1 hy]
    have hne := Own.ne_blk h.wr.2 h.wr.1 (by decide)
    refine ⟨fun _ k hk hk' => ?_, fun _ k hk hk' => ?_⟩
    · obtain rfl : k = p := List.mem_singleton.1 hk
      exact hne (As.mem_toList hk')
    · obtain rfl : k = p := List.mem_singleton.1 hk'
      exact hne (As.mem_toList hk)
  · rcases List.mem_cons.1 hx with rfl | hx
    · rw [show k = p from List.mem_singleton.1 hk]; simp
    · rw [List.mem_singleton.1 hx] at hk
      exact List.mem_cons_of_mem _ (h.fr k (As.mem_toList hk) hlt)
/-- a method of a writer -/
theorem wr_call {P : Program} {f : FuncId} {args : Array Value} {val : Value} {W : World} {p : Nat} {v : Value} {l l' : List UInt8} {big big' : Bool} (hS : SH (SH.feet (wrL bad p v l big)) W W (wrL bad p v l big)) (hc : Wr bad W p v l big → Calls P f args W fun en W' => en = .returned val ∧ ∃ v', WrTo bad W p v l' big' v' W') :
    Calls P f args W fun en W' => ∃ v', en = .returned val ∧ SH (SH.feet (wrL bad p v l big)) W W' (wrL bad p v' l' big') :=
  (hc ⟨hS.blk (i := 0) rfl, hS.own (i := 1) rfl⟩).mono fun _ _ ⟨h1, v', h2⟩ => ⟨v', h1, wr_form h2⟩
theorem newB_sh {w w' : World} {l : List UInt8} {u : Value} (h : NewB w l u w') : SH [] w w' [.o u l] :=
  ⟨h.off, fun x hx => by rw [List.mem_singleton.1 hx]; exact h.own, List.pairwise_cons.2 ⟨fun y hy => (by cases hy), .nil⟩, fun x hx _ k hk hlt => by rw [List.mem_singleton.1 hx] at hk; exact h.fr k (As.mem_toList hk) hlt⟩
/-- what Read leaves -/
abbrev rdL (p : Nat) (v : Value) (l : List UInt8) (e : Int) : List As := [.b p #[v, .int .i64 e] 141, .s v l]
theorem read_n {u : Value} {l : List UInt8} {w : World} (hs : Sl w u l) (hl : l.length ≤ 140737488355328) :
    Calls Try.prog 58 #[u] w fun e w' => ∃ x : Nat × Value, e = .returned (.pointer (some ⟨x.1, 0, none⟩)) ∧ SH [] w w' (rdL x.1 x.2 l 0) ∧ ∀ y ∈ rdL x.1 x.2 l 0, y.mv = false → ∀ k ∈ y.foot, w.heap.size ≤ k := by
  refine (read_c u l w hs hl).mono fun e w' ⟨p, h1, v, h2, h3, h4, h5⟩ => ⟨(p, v), h1, ⟨h3, fun x hx => ?_, List.pairwise_cons.2 ⟨fun y hy => ?_, List.pairwise_cons.2 ⟨fun y hy => (by cases hy), .nil⟩⟩, fun x hx hm k hk hlt => ?_⟩, fun y hy hm k hk => ?_⟩
  · rcases List.mem_cons.1 hx with rfl | hx
    · exact h2.1
    · rw [List.mem_singleton.1 hx]; exact h2.2.1
  · rw [List.mem_singleton.1 hy]
    refine ⟨fun _ k hk hk' => ?_, fun hm => by cases hm⟩
    obtain rfl : k = p := List.mem_singleton.1 hk
    exact h2.2.2 (As.mem_toList hk')
  · rcases List.mem_cons.1 hx with rfl | hx
    · obtain rfl : k = p := List.mem_singleton.1 hk
      exact h4 hlt
    · rw [List.mem_singleton.1 hx] at hm; cases hm
  · rcases List.mem_cons.1 hy with rfl | hy
    · cases hm
    · rw [List.mem_singleton.1 hy] at hk
      refine Nat.le_of_not_lt fun hlt => ?_
      have := h5 k (sb_own (As.mem_toList hk)) hlt
      cases this
theorem bs8_arrW (n U : Nat) : (bs8 (lb n U)).toArray = arrK .u8 n (byt U) := by rw [bs8_lb, ← arrK_list]
theorem wsum_n (N : Nat) (p : Nat) (v : Value) (l : List UInt8) (big : Bool) (w : World) (hwr : Wr bad w p v l big) (hl : l.length < 140737488355290) :
    Calls Try.prog 48 #[.pointer (some ⟨p, 0, none⟩), .agg (arrK .u8 32 (byt N))] w fun e w' => e = .returned (.tuple #[]) ∧ ∃ v', WrTo bad w p v (l ++ lb 32 N) big v' w' := by
  rw [← bs8_arrW]; exact wsum_c (lb 32 N) (lb_length _ _) p v l big w hwr hl
theorem wnum_n (n : Nat) (hn : n < 9223372036854775808) (p : Nat) (v : Value) (l : List UInt8) (big : Bool) (w : World) (hwr : Wr bad w p v l big) (hl : l.length < 140737488355320) :
    Calls Try.prog 29 #[.pointer (some ⟨p, 0, none⟩), .int .i64 (n : Int)] w fun e w' => e = .returned (.tuple #[]) ∧ ∃ v', WrTo bad w p v (l ++ be8 n) big v' w' := wnum_c n n (by omega) p v l big w hwr hl
theorem wflag_n (b : Bool) (p : Nat) (v : Value) (l : List UInt8) (big : Bool) (w : World) (hwr : Wr bad w p v l big) (hl : l.length < 140737488355328) :
    Calls Try.prog 62 #[.pointer (some ⟨p, 0, none⟩), .bool b] w fun e w' => e = .returned (.tuple #[]) ∧ ∃ v', WrTo bad w p v (l ++ [if b then 1 else 0]) big v' w' := by
  cases b
  · exact wflag_false p v l big w hwr hl
  · exact wflag_true p v l big w hwr hl
end Go.Proofs.Ytlbgelbhhibikaa.Ww

set_option linter.unusedSimpArgs false
set_option linter.unusedVariables false
namespace Go.Proofs.Ytlbgelbhhibikaa.Ww
open Go.RowKit
/-- a number's eight bytes -/
def eI (n : Int) : List UInt8 := be8 (n % 18446744073709551616).toNat
theorem eI_len (n : Int) : (eI n).length = 8 := rfl
/-- a text's bytes -/
def tB (t : List UInt8) : List UInt8 := u8 (t.length / 256) :: u8 t.length :: t
theorem tB_len (t : List UInt8) : (tB t).length = 2 + t.length := by unfold tB; simp; omega
variable {bad : Bool}
theorem wnum_i (n : Int) (p : Nat) (v : Value) (l : List UInt8) (big : Bool) (w : World) (hwr : Wr bad w p v l big) (hl : l.length < 140737488355320) :
    Calls Try.prog 29 #[.pointer (some ⟨p, 0, none⟩), .int .i64 n] w fun e w' => e = .returned (.tuple #[]) ∧ ∃ v', WrTo bad w p v (l ++ eI n) big v' w' :=
  wnum_c n _ (by rw [Int.toNat_of_nonneg (Int.emod_nonneg _ (by decide))]) p v l big w hwr hl
theorem ap_bs {F : List Nat} {w W : World} {H : List As} {i j p : Nat} {cs : Array Value} {t : TypeId} {u : Value} {m : List UInt8} (hS : SH F w W H) (hi : H[i]? = some (.b p cs t)) (hj : H[j]? = some (.s u m)) : sb u m ≠ some p := fun e => by
  have hn : i ≠ j := fun e => by subst e; rw [hi] at hj; cases hj
  exact (hS.ap2 hi hj hn).1 rfl p (by simp [As.foot]) (by show p ∈ (sb u m).toList; rw [e]; simp)
theorem ap_os {F : List Nat} {w W : World} {H : List As} {i j : Nat} {v : Value} {l : List UInt8} {u : Value} {m : List UInt8} (hS : SH F w W H) (hi : H[i]? = some (.o v l)) (hj : H[j]? = some (.s u m)) : ∀ x, v.ownBlock = some x → sb u m ≠ some x := fun x hx e => by
  have hn : i ≠ j := fun e => by subst e; rw [hi] at hj; cases hj
  exact (hS.ap2 hi hj hn).1 rfl x (by show x ∈ v.ownBlock.toList; rw [hx]; simp) (by show x ∈ (sb u m).toList; rw [e]; simp)
end Go.Proofs.Ytlbgelbhhibikaa.Ww

set_option linter.unusedSimpArgs false
set_option linter.unusedVariables false
namespace Go.Proofs.Ytlbgelbhhibikaa.Ww
set_option maxHeartbeats 1500000
set_option maxRecDepth 100000
open Go.RowKit
attribute [local irreducible] wpList wpTr wpX
set_option linter.unusedSimpArgs false
/-- what text turns -/
abbrev txPL (p : Nat) (v : Value) (l : List UInt8) (bad : Bool) (u : Value) (t : List UInt8) : List As := [.b p #[v, .bool false, .bool bad] 96, .o v l, .s u t]
def txL (most : Int) (t l : List UInt8) : List UInt8 := if most < (t.length : Int) then l else l ++ tB t
theorem tB_app (l t : List UInt8) : l ++ [u8 (t.length / 256), u8 t.length] ++ t = l ++ tB t := by unfold tB; simp
def txB (most : Int) (t : List UInt8) (bad : Bool) : Bool := if most < (t.length : Int) then true else bad

theorem wwtext_c {p : Nat} {v u : Value} {l t : List UInt8} {bad : Bool} (most : Int) (hm : most ≤ 65535) (hl : l.length < 140737488280000) (w : World) (h_ : SH (SH.feet (txPL p v l bad u t)) w w (txPL p v l bad u t)) :
  Calls Try.prog 27 #[.pointer (some ⟨p, 0, none⟩), u, .int .i64 most] w fun e w' => e = .returned (.tuple #[]) ∧ ∃ v', SH (SH.feet (txPL p v l bad u t)) w w' (txPL p v' (txL most t l) (txB most t bad) u t) := by
 have hS := h_
 go_enter Try.func27, Try.ntmps27
 by_cases hlt : most < (t.length : Int)
 ·
  have _f := hlt
  go_upto_region 0 with fail
  refine RL hS ?_
  clear hS
  refine MV ?_
  refine MF (v := .int .i64 (t.length : Int)) (fun W hS => run_lenA (hS.sl (i := 2) rfl) rfl rfl) ?_
  refine MV ?_
  refine MW ?_ (v := .bool true) (hv := by intro W; go_simp; (try omega))
  refine MZ fun W hS => ?_
  go_upto_region 1 with fail
  refine RL hS ?_
  clear hS
  refine MV ?_
  refine MV ?_
  refine MV ?_
  refine MP 0 (v := .bool true) ?_
  refine MZ fun W hS => ?_
  go_wp2
  first | exact bodyPost_end (v := .tuple #[]) (by simp only [results, Try.results27]; go_simp) rfl ⟨rfl, _, by have h_ := hS.pick [0, 1, 2]; unfold txL txB; first | (rw [if_pos hlt, if_pos hlt]; exact h_) | (rw [if_neg (Int.not_lt.2 hlt), if_neg (Int.not_lt.2 hlt)]; rw [tB_app] at h_; exact h_)⟩ | exact bodyPost_ret (v := .tuple #[]) (by simp only [results, Try.results27]; go_simp) rfl ⟨rfl, _, by have h_ := hS.pick [0, 1, 2]; unfold txL txB; first | (rw [if_pos hlt, if_pos hlt]; exact h_) | (rw [if_neg (Int.not_lt.2 hlt), if_neg (Int.not_lt.2 hlt)]; rw [tB_app] at h_; exact h_)⟩
 ·
  have _f := hlt
  go_upto_region 0 with fail
  refine RL hS ?_
  clear hS
  refine MV ?_
  refine MF (v := .int .i64 (t.length : Int)) (fun W hS => run_lenA (hS.sl (i := 2) rfl) rfl rfl) ?_
  refine MV ?_
  refine MW ?_ (v := .bool false) (hv := by intro W; go_simp; (try omega))
  refine MZ fun W hS => ?_
  go_upto_region 2 with fail
  refine RL hS ?_
  clear hS
  refine MV ?_
  refine MV ?_
  refine MV ?_
  refine MV ?_
  refine ME (V := fun _ => .tuple #[]) (fun W hS => callX [0, 1] [2] hS (fun hT => wr_call hT (fun hw => wtext_c p v l false W hw u t (hS.sl (i := 2) rfl) (by first | omega | (simp only [List.length_append, List.length_cons, List.length_nil, lb_length, eI_len, tB_len]; omega)) (ap_bs hS (i := 0) rfl (j := 2) rfl) (ap_os hS (i := 1) rfl (j := 2) rfl) (by first | omega | (simp only [List.length_append, List.length_cons, List.length_nil, lb_length, eI_len, tB_len]; omega)))) (fun _ => ⟨.inr ⟨rfl, rfl⟩, .inr ⟨rfl, rfl⟩, trivial⟩)) ?_
  intro w1
  refine MZ fun W hS => ?_
  go_wp2
  first | exact bodyPost_end (v := .tuple #[]) (by simp only [results, Try.results27]; go_simp) rfl ⟨rfl, _, by have h_ := hS.pick [0, 1, 2]; unfold txL txB; first | (rw [if_pos hlt, if_pos hlt]; exact h_) | (rw [if_neg (Int.not_lt.2 hlt), if_neg (Int.not_lt.2 hlt)]; rw [tB_app] at h_; exact h_)⟩ | exact bodyPost_ret (v := .tuple #[]) (by simp only [results, Try.results27]; go_simp) rfl ⟨rfl, _, by have h_ := hS.pick [0, 1, 2]; unfold txL txB; first | (rw [if_pos hlt, if_pos hlt]; exact h_) | (rw [if_neg (Int.not_lt.2 hlt), if_neg (Int.not_lt.2 hlt)]; rw [tB_app] at h_; exact h_)⟩
theorem ncallW {P : Program} {f : FuncId} {args : Array Value} {F : List Nat} {w W : World} {H : List As} {V : Value → Value} {l : List UInt8} (hS : SH F w W H) (hc : Calls P f args W fun e W' => ∃ u, e = .returned (V u) ∧ SH [] W W' [.o u l]) (ht : H.all (SH.tyOk (.o undef l)) = true := by exact rfl) :
 Calls P f args W fun e W' => ∃ u, e = .returned (V u) ∧ SH F w W' (.o u l :: H) :=
 hc.mono fun e W' ⟨u, h1, h2⟩ => ⟨u, h1, hS.new (x := .o u l) h2.off (h2.own (i := 0) rfl) (fun k hk => Nat.le_of_not_lt fun hlt => by have := h2.old _ (by simp) rfl k hk hlt; cases this) rfl ht⟩
theorem newB_call {P : Program} {f : FuncId} {args : Array Value} {w : World} {l : List UInt8} {z : Value} (h : Calls P f args w fun e w' => ∃ u, e = .returned (.tuple #[u, z]) ∧ NewB w l u w') : Calls P f args w fun e w' => ∃ u, e = .returned (.tuple #[u, z]) ∧ SH [] w w' [.o u l] :=
 h.mono fun _ _ ⟨u, h1, h2⟩ => ⟨u, h1, newB_sh h2⟩
theorem done_ok (p : Nat) (v : Value) (l : List UInt8) (w : World) (hk : Blk w p #[v, .bool false, .bool false] 96) (ho : Own w v l) (hl : l.length ≤ 140737488355328) :
  Calls Try.prog 30 #[.pointer (some ⟨p, 0, none⟩)] w fun e w' => ∃ u, e = .returned (.tuple #[u, .int .i64 0]) ∧ SH [] w w' [.o u l] := by
 have hS := SH.nil [] w
 go_enter Try.func30, Try.ntmps30
 go_upto_region 1 with fail
 refine RL hS ?_
 clear hS
 refine MV ?_
 refine MV ?_
 refine MV ?_
 refine ME (V := fun u => .tuple #[u, .int .i64 0]) (fun W hS => ncallW hS (newB_call (wbytes_false (bad := false) p v l W ⟨blk_off hk hS.off nm0, Own.off ho hS.off f0⟩ hl))) ?_
 intro u
 refine MV ?_
 refine MV ?_
 refine MW ?_ (v := .int .i64 0)
 refine MV ?_
 refine MW ?_ (v := .int .i64 0)
 refine MZ fun W hS => ?_
 go_upto_region 2 with fail
 refine RL hS ?_
 clear hS
 refine MV ?_
 refine MV ?_
 refine MV ?_
 refine MF (v := .bool false) (fun W hS => run_at rfl rfl (by rw [blk_cell (blk_step hk hS.ext)]; rfl) (by kernel_rfl)) ?_
 refine MW ?_ (v := .bool false)
 refine MW ?_ (v := .int .i64 0)
 refine MW ?_ (v := .bool false)
 refine MW ?_ (v := .bool false)
 refine MZ fun W hS => ?_
 go_wp2
 exact bodyPost_ret (v := .tuple #[u, .int .i64 0]) (by simp only [results, Try.results30]; go_simp) rfl ⟨_, rfl, hS.pick [0]⟩
theorem done_bad (p : Nat) (v : Value) (l : List UInt8) (w : World) (hk : Blk w p #[v, .bool false, .bool true] 96) (ho : Own w v l) (hl : l.length ≤ 140737488355328) :
  Calls Try.prog 30 #[.pointer (some ⟨p, 0, none⟩)] w fun e w' => Ret (.tuple #[.slice none 0 0, .int .i64 2]) w w' e := by
 have hS := SH.nil [] w
 go_enter Try.func30, Try.ntmps30
 go_upto_region 1 with fail
 refine RL hS ?_
 clear hS
 refine MV ?_
 refine MV ?_
 refine MV ?_
 refine ME (V := fun u => .tuple #[u, .int .i64 0]) (fun W hS => ncallW hS (newB_call (wbytes_false (bad := true) p v l W ⟨blk_off hk hS.off nm0, Own.off ho hS.off f0⟩ hl))) ?_
 intro u
 refine MV ?_
 refine MV ?_
 refine MW ?_ (v := .int .i64 0)
 refine MV ?_
 refine MW ?_ (v := .int .i64 0)
 refine MZ fun W hS => ?_
 go_upto_region 2 with fail
 refine RL hS ?_
 clear hS
 refine MV ?_
 refine MV ?_
 refine MV ?_
 refine MF (v := .bool true) (fun W hS => run_at rfl rfl (by rw [blk_cell (blk_step hk hS.ext)]; rfl) (by kernel_rfl)) ?_
 refine MW ?_ (v := .bool true)
 refine MS ?_
 refine MS ?_
 refine MW ?_ (v := .bool true)
 refine MZ fun W hS => ?_
 go_wp2
 exact bodyPost_ret (v := .tuple #[.slice none 0 0, .int .i64 2]) (by simp only [results, Try.results30]; go_simp) rfl ⟨rfl, hS.ext⟩
end Go.Proofs.Ytlbgelbhhibikaa.Ww

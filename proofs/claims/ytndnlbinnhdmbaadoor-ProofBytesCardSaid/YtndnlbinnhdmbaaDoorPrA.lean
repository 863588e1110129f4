/- Proofs, the program's: the texts that are summed up. Conditions: the tables hold their numbers. -/
import Derived.Test.YtndnlbinnhdmbaaDoorJ18
set_option linter.unusedSimpArgs false
set_option linter.unusedVariables false
namespace Go.Proofs.YtndnlbinnhdmbaaDoor
set_option maxHeartbeats 3000000
set_option maxRecDepth 100000
open Go.RowKit
attribute [local irreducible] wpList wpTr wpX
set_option linter.unusedSimpArgs false
/-- a proof's cells -/
def pfc (s : Value) (th : Bool) (a x : Nat) : Array Value := #[s, .bool th] ++ lf a x
section
variable {s : Value} {th : Bool} {a x : Nat}
theorem pf_size : (pfc s th a x).size = 66 := by unfold pfc; rw [Array.size_append, lf_size]; rfl
theorem pf_one (h : s.oneCell' = true) : (pfc s th a x).all (·.oneCell') = true := by unfold pfc; rw [Array.all_append, lf_one]; simp [h]; rfl
theorem pf_s : (pfc s th a x)[0]? = some s := by unfold pfc; rw [Array.getElem?_append_left (by simp)]; rfl
theorem pf_t : (pfc s th a x)[1]? = some (.bool th) := by unfold pfc; rw [Array.getElem?_append_left (by simp)]; rfl
theorem pf_e : ∀ i v, (lf a x)[i]? = some v → (pfc s th a x)[2 + i]? = some v := fun i v h => by unfold pfc; exact app_r rfl h
theorem pf_k : ∀ i v, (arrK .u8 32 (byt a))[i]? = some v → (pfc s th a x)[2 + i]? = some v := fun i v h => pf_e i v (by have h_ := lf_k (v := x) i v h; rwa [Nat.zero_add] at h_)
theorem pf_v : ∀ i v, (arrK .u8 32 (byt x))[i]? = some v → (pfc s th a x)[34 + i]? = some v := fun i v h => by
 have h_ := pf_e (s := s) (th := th) (32 + i) v (lf_v (k := a) i v h)
 rwa [show 2 + (32 + i) = 34 + i by omega] at h_
end
theorem RR.opf {α : Type} {f : α → List Value} {k : Nat} {w : World} {u : Value} {ls : List α} (h : RR k w u (ls.map f)) : ∃ A c, u = .slice A ls.length c ∧ ls.length ≤ c ∧ Hid (∀ (j : Nat) (x : α), ls[j]? = some x → ∃ g o, A = some ⟨g, o, none⟩ ∧ ∀ (i : Nat) (v : Value), (f x)[i]? = some v → w.cell? ⟨g, o + j * k + i, none⟩ = some v) := by
 obtain ⟨A, c, h1, h2, _, h3⟩ := h
 rw [List.length_map] at h1 h2
 exact ⟨A, c, h1, h2, Lib.hid fun j x hj => h3 j (f x) (by rw [List.getElem?_map, hj]; rfl)⟩
theorem b32l_all {ls : List Nat} : ∀ e ∈ ls.map b32l, e.length = 32 ∧ ∀ x ∈ e, x.oneCell' = true := fun e he => by
 obtain ⟨y, _, rfl⟩ := List.mem_map.1 he
 exact ⟨by show (arrK .u8 32 (byt y)).toList.length = 32; rw [Array.length_toList, arrK_size], fun x hx => Array.all_eq_true_iff_forall_mem.1 (arrK_one .u8 32 (byt y)) x (by simpa using hx)⟩
/-- slices that read as texts -/
def TXS (W : World) (us : List Value) (ts : List (List UInt8)) : Prop := us.length = ts.length ∧ ∀ (i : Nat) (u : Value) (t : List UInt8), us[i]? = some u → ts[i]? = some t → Sl W u t
/-- the blocks that they look at -/
def txF : List Value → List (List UInt8) → List Nat
 | u :: us, t :: ts => (sb u t).toList ++ txF us ts
 | _, _ => []
theorem mem_txF {k : Nat} : ∀ {us : List Value} {ts : List (List UInt8)}, k ∈ txF us ts ↔ ∃ (i : Nat) (u : Value) (t : List UInt8), us[i]? = some u ∧ ts[i]? = some t ∧ sb u t = some k
 | [], _ => ⟨fun h => (by cases h), fun ⟨i, u, t, h, _⟩ => by simp at h⟩
 | _ :: _, [] => ⟨fun h => (by cases h), fun ⟨i, u, t, _, h, _⟩ => by simp at h⟩
 | u :: us, t :: ts => by
  show k ∈ (sb u t).toList ++ txF us ts ↔ _
  rw [List.mem_append, mem_txF]
  constructor
  ·
   rintro (h | ⟨i, v, s, h1, h2, h3⟩)
   ·
    exact ⟨0, u, t, rfl, rfl, As.mem_toList h⟩
   ·
    exact ⟨i + 1, v, s, h1, h2, h3⟩
  ·
   rintro ⟨i, v, s, h1, h2, h3⟩
   cases i with
   | zero =>
    obtain rfl : u = v := by simpa using h1
    obtain rfl : t = s := by simpa using h2
    exact .inl (by rw [h3]; simp)
   | succ i => exact .inr ⟨i, v, s, by simpa using h1, by simpa using h2, h3⟩
theorem sl_keep {w W : World} {v : Value} {l : List UInt8} (h : Sl w v l) (e : ∀ b, sb v l = some b → W.heap[b]? = w.heap[b]?) : Sl W v l := by
 obtain ⟨A, c, rfl, h1, h2, h0, h3⟩ := h
 refine ⟨A, c, rfl, h1, h2, h0, fun j x hj => ?_⟩
 obtain ⟨ad, hA, hc⟩ := h3 j x hj
 refine ⟨ad, hA, ?_⟩
 have hb : sb (.slice A l.length c) l = some ad.block := by
  unfold sb
  rw [if_neg (by rintro rfl; simp at hj), hA]; rfl
 have h4 := e _ hb
 rw [← hc]
 exact World.cell?_of_block (a := ad.add j) (w := w) (w' := W) (by rw [show (ad.add j).block = ad.block from by unfold Addr.add; split <;> rfl]; exact h4)
theorem TXS.holds {W : World} {us : List Value} {ts : List (List UInt8)} (h : TXS W us ts) : (As.p (txF us ts) (fun W => TXS W us ts)).holds W :=
 ⟨h, fun k hk => by obtain ⟨i, u, t, h1, h2, h3⟩ := mem_txF.1 hk; exact Sl.lt (h.2 i u t h1 h2) k h3,
 fun W' _ e => ⟨h.1, fun i u t h1 h2 => sl_keep (h.2 i u t h1 h2) fun b hb => e b (mem_txF.2 ⟨i, u, t, h1, h2, hb⟩)⟩⟩
theorem txs_nil (W : World) : TXS W [] [] := ⟨rfl, fun i u t h => by simp at h⟩
theorem txs_snoc {W : World} {us : List Value} {ts : List (List UInt8)} {u : Value} {t : List UInt8} (h : TXS W us ts) (hu : Sl W u t) : TXS W (us ++ [u]) (ts ++ [t]) := by
 refine ⟨by rw [List.length_append, List.length_append, h.1]; rfl, fun i v s h1 h2 => ?_⟩
 rcases Nat.lt_or_ge i us.length with hi | hi
 ·
  rw [List.getElem?_append_left hi] at h1
  rw [List.getElem?_append_left (by rw [← h.1]; exact hi)] at h2
  exact h.2 i v s h1 h2
 ·
  rw [List.getElem?_append_right hi] at h1
  rw [List.getElem?_append_right (by rw [← h.1]; exact hi), ← h.1] at h2
  rcases Nat.eq_zero_or_pos (i - us.length) with h0 | h0
  ·
   rw [h0] at h1 h2
   obtain rfl : u = v := by simpa using h1
   obtain rfl : t = s := by simpa using h2
   exact hu
  ·
   rw [List.getElem?_eq_none (by simp; omega)] at h1; cases h1
theorem txF_snoc {us : List Value} {ts : List (List UInt8)} {u : Value} {t : List UInt8} {k : Nat} (hl : us.length = ts.length) (h : k ∈ txF (us ++ [u]) (ts ++ [t])) : k ∈ txF us ts ∨ sb u t = some k := by
 obtain ⟨i, v, s, h1, h2, h3⟩ := mem_txF.1 h
 rcases Nat.lt_or_ge i us.length with hi | hi
 ·
  rw [List.getElem?_append_left hi] at h1
  rw [List.getElem?_append_left (by rw [← hl]; exact hi)] at h2
  exact .inl (mem_txF.2 ⟨i, v, s, h1, h2, h3⟩)
 ·
  rw [List.getElem?_append_right hi] at h1
  rw [List.getElem?_append_right (by rw [← hl]; exact hi), ← hl] at h2
  rcases Nat.eq_zero_or_pos (i - us.length) with h0 | h0
  ·
   rw [h0] at h1 h2
   obtain rfl : u = v := by simpa using h1
   obtain rfl : t = s := by simpa using h2
   exact .inr h3
  ·
   rw [List.getElem?_eq_none (by simp; omega)] at h1; cases h1
namespace SH
variable {F : List Nat} {w W W' : World} {H X : List As} {i j : Nat}
/-- a fact about blocks of things that are only read -/
theorem addp {f : List Nat} {K : World → Prop} (h : SH F w W H) (hz : (As.p f K).holds W) (hf : ∀ k ∈ f, ∃ (i : Nat) (x : As), H[i]? = some x ∧ x.mv = false ∧ k ∈ x.foot) : SH F w W (.p f K :: H) := by
 refine ⟨h.off, fun y hy => ?_, List.pairwise_cons.2 ⟨fun y hy => ⟨fun h => by (cases h), fun hm k hk hk' => ?_⟩, h.ap⟩, fun y hy hm k hk hlt => ?_⟩
 ·
  rcases List.mem_cons.1 hy with rfl | hy
  ·
   exact hz
  ·
   exact h.all y hy
 ·
  obtain ⟨i, x, hi, hx, hkx⟩ := hf k hk'
  obtain ⟨j, hj, e⟩ := List.mem_iff_getElem.1 hy
  have hj' : H[j]? = some y := by rw [List.getElem?_eq_getElem hj, e]
  have hn : j ≠ i := fun e => by subst e; rw [hi] at hj'; obtain rfl := Option.some.inj hj'; rw [hx] at hm; cases hm
  have h1 := (h.ap2 hj' hi hn).1 hm
  cases x with
  | t T K => cases hkx
  | _ => exact h1 k hk hkx
 ·
  rcases List.mem_cons.1 hy with rfl | hy
  ·
   cases hm
  ·
   exact h.old y hy hm k hk hlt
/-- one text more -/
theorem txs {us : List Value} {ts : List (List UInt8)} {u : Value} {t : List UInt8} (h : SH F w W H) (hi : H[i]? = some (.p (txF us ts) (fun W => TXS W us ts))) (hj : H[j]? = some (.s u t)) : SH F w W (.p (txF (us ++ [u]) (ts ++ [t])) (fun W => TXS W (us ++ [u]) (ts ++ [t])) :: H) :=
 h.addp (txs_snoc (h.pp hi) (h.sl hj)).holds fun k hk => by
  rcases txF_snoc (h.pp hi).1 hk with hk | hk
  ·
   exact ⟨i, _, hi, rfl, hk⟩
  ·
   exact ⟨j, _, hj, rfl, by show k ∈ (sb u t).toList; rw [hk]; simp⟩
theorem txn (h : SH F w W H) : SH F w W (.p (txF [] []) (fun W => TXS W [] []) :: H) := h.addp (txs_nil W).holds fun k hk => by cases hk
theorem fresh {u : Value} {t : List UInt8} (h : SH [] w W H) (hj : H[j]? = some (.o u t)) {us : List Value} {ts : List (List UInt8)} (hl : us.length = ts.length) (hf : ∀ k ∈ txF us ts, w.heap.size ≤ k) : ∀ k ∈ txF (us ++ [u]) (ts ++ [t]), w.heap.size ≤ k := fun k hk => by
 rcases txF_snoc hl hk with hk | hk
 ·
  exact hf k hk
 ·
  refine Nat.le_of_not_lt fun hlt => ?_
  have := h.old _ (mem hj) rfl k (by show k ∈ (Value.ownBlock u).toList; rw [sb_own hk]; simp) hlt
  cases this
/-- the things that a call has left, all of them new -/
theorem newL (h : SH F w W H) (h' : SH [] W W' X) (hf : ∀ y ∈ X, y.mv = false → ∀ k ∈ y.foot, W.heap.size ≤ k) (hx : X.all (fun y => (match y with | .t _ _ => false | _ => true) && H.all (tyOk y)) = true) : SH F w W' (X ++ H) := by
 have hn : ∀ y ∈ X, ∀ k ∈ y.foot, W.heap.size ≤ k := fun y hy k hk => by
  cases hm : y.mv with
  | false => exact hf y hy hm k hk
  | true => exact Nat.le_of_not_lt fun hlt => by have := h'.old y hy hm k hk hlt; cases this
 have h2 := h.next h'.off
 refine ⟨h2.off, fun y hy => ?_, List.pairwise_append.2 ⟨h'.ap, h2.ap, fun y hy z hz => ⟨fun hm => ?_, fun hm => ?_⟩⟩, fun y hy hm k hk hlt => ?_⟩
 ·
  rcases List.mem_append.1 hy with hy | hy
  ·
   exact h'.all y hy
  ·
   exact h2.all y hy
 ·
  have h3 := List.all_eq_true.1 hx y hy
  have h4 := As.lt (h.all z hz)
  cases z with
  | t T K =>
   have h5 := List.all_eq_true.1 (Bool.and_eq_true_iff.1 h3).2 _ hz
   simpa [tyOk, hm] using h5
  | _ => exact fun k hk hk' => Nat.not_lt.2 (hn y hy k hk) (h4 k hk')
 ·
  have h3 := List.all_eq_true.1 hx y hy
  have h4 := As.lt (h.all z hz)
  cases y with
  | t T K => simp at h3
  | _ => exact fun k hk hk' => Nat.not_lt.2 (hn _ hy k hk') (h4 k hk)
 ·
  rcases List.mem_append.1 hy with hy | hy
  ·
   have := hn y hy k hk; have := h.size; omega
  ·
   exact h2.old y hy hm k hk hlt
end SH
/-- a fact of no world -/
theorem MFact {P : Program} {ops : Array Oper} {k : Wk} {F : List Nat} {w : World} {H : List As} {l : List Oper} {a : Act} {p : Prop} (hp : ∀ W, SH F w W H → p) (h : p → wpM P ops k F w H l a) : wpM P ops k F w H l a := fun W hS => h (hp W hS) W hS
/-- a call that leaves new things -/
theorem ncallL {P : Program} {α : Type} {f : FuncId} {args : Array Value} {F : List Nat} {w W : World} {H : List As} {V : α → Value} {X : α → List As} (hS : SH F w W H) (hc : Calls P f args W fun e W' => ∃ x, e = .returned (V x) ∧ SH [] W W' (X x) ∧ ∀ y ∈ X x, y.mv = false → ∀ k ∈ y.foot, W.heap.size ≤ k) (ht : ∀ x, (X x).all (fun y => (match y with | .t _ _ => false | _ => true) && H.all (SH.tyOk y)) = true) :
  Calls P f args W fun e W' => ∃ x, e = .returned (V x) ∧ SH F w W' (X x ++ H) :=
 hc.mono fun e W' ⟨x, h1, h2, h3⟩ => ⟨x, h1, hS.newL h2 h3 (ht x)⟩
theorem run_lenV {P : Program} {a : Act} {o : Oper} {x : Operand} {tS t : TypeId} {W : World} {A : Option Addr} {n c : Nat} (ho : o.op = .call { callee := .builtin .len, args := #[x], argTypes := #[tS] }) (hx : a.eval x = .slice A n c) (ht : P.underlying tS = some (.slice t)) : (execOp a.eval o).run P W = .ok (.value (.int .i64 (n : Int))) W := by
 unfold execOp
 simp only [ho, resolve, invoke, builtin, Sem.run_bind, Sem.run_pure, Result.andThen_ok, List.map_toArray, List.map_cons, List.map_nil, hx]
 simp [Builtin.len_, run_underlying ht, goInt, Sem.run_bind]
attribute [local irreducible] hs4 sE sL sN

theorem end_c {sv : Value} (hsv : sv.oneCell' = true) (th : Bool) (a x : Nat) (w : World) :
  Calls Tryd.prog 66 #[.agg (pfc sv th a x)] w fun e w' => ∃ v, e = .returned v ∧ SH [] w w' [.o v (tE th a x)] := by
 have hS := SH.nil [] w
 go_enter Tryd.func66, Tryd.ntmps66
 go_upto_region 0 with fail
 refine RL hS ?_
 clear hS
 refine MN (z := pfc sv th a x) (t := 69) ?_
 intro p1_1
 refine MV ?_
 refine MZ fun W hS => ?_
 rcases th with _ | _
 ·
  have _f := True.intro
  go_upto_region 1 with fail
  refine RL hS ?_
  clear hS
  refine MV ?_
  refine MG 0 ?_ (v := .bool false) (hj := pf_t)
  refine MW ?_ (v := .bool true)
  refine MZ fun W hS => ?_
  go_upto_region 2 with fail
  refine RL hS ?_
  clear hS
  refine MO (m := [2]) (n := 1) (z := #[.int .u8 2]) ?_
  intro v6_2
  refine MV ?_
  refine MZ fun W hS => ?_
  go_wp2
  exact bodyPost_ret (v := v6_2) (by simp only [results, Tryd.results66]; go_simp) rfl ⟨_, rfl, hS.pick [0]⟩
 ·
  have _f := True.intro
  go_upto_region 1 with fail
  refine RL hS ?_
  clear hS
  refine MV ?_
  refine MG 0 ?_ (v := .bool true) (hj := pf_t)
  refine MW ?_ (v := .bool false)
  refine MZ fun W hS => ?_
  go_upto_region 3 with fail
  refine RTh (.q 1 (.q 2 (.q 3 (.q 5 (.q 6 (.q 7 (.e 0 (.e 4 (.e 8 (.q 9 .z)))))))))) hS ?_
  clear hS
  refine TV ?_
  refine TV ?_
  refine TW ?_ (v := .slice (some ⟨p1_1, 2, none⟩) 32 32)
  refine TV ?_
  refine TV ?_
  refine TW ?_ (v := .slice (some ⟨p1_1, 34, none⟩) 32 32)
  refine TE (fun _ h => h) ?_
  refine MO (m := [0]) (n := 1) (z := #[.int .u8 0]) ?_
  intro v7_3
  refine TNp [1] [0] ?_
  refine TE (fun _ h => h.pick [1]) ?_
  refine MA 0 (xs := [0]) (ys := (lb 32 a)) (fun W hS => (sl_part (V := a) (n := 32) (off := 2) (c := 32) (hS.blk (i := 1) rfl) pf_k (by decide) (by decide))) (by first | omega | (simp only [List.length_append, List.length_map, List.length_take, List.length_drop, List.length_reverse, List.length_cons, List.length_nil, lb_length, dbl]; omega)) ?_
  intro v11_4
  refine TNp [1] [0] ?_
  refine TE (fun _ h => h.pick [1]) ?_
  refine MA 0 (xs := ([0] ++ (lb 32 a))) (ys := (lb 32 x)) (fun W hS => (sl_part (V := x) (n := 32) (off := 34) (c := 32) (hS.blk (i := 1) rfl) pf_v (by decide) (by decide))) (by first | omega | (simp only [List.length_append, List.length_map, List.length_take, List.length_drop, List.length_reverse, List.length_cons, List.length_nil, lb_length, dbl]; omega)) ?_
  intro v15_5
  refine TNp [0, 1] [1] ?_
  refine TV ?_
  refine TZ (fun _ h => h) fun W hS => ?_
  go_wp2
  exact bodyPost_ret (v := v15_5) (by simp only [results, Tryd.results66]; go_simp) rfl ⟨_, rfl, hS.pick [0]⟩
theorem node_c (d : Int) (b s o : Nat) (hb : b = 0 ∨ b = 1) (w : World) :
  Calls Tryd.prog 67 #[.int .i64 d, .int .i64 (b : Int), .agg (arrK .u8 32 (byt s)), .agg (arrK .u8 32 (byt o))] w fun e w' => ∃ v, e = .returned v ∧ SH [] w w' [.o v (tN d b s o)] := by
 have hS := SH.nil [] w
 go_enter Tryd.func67, Tryd.ntmps67
 go_upto_region 0 with fail
 refine RL hS ?_
 clear hS
 refine MN (z := arrK .u8 32 (byt s)) (t := 22) ?_
 intro p6_1
 refine MN (z := arrK .u8 32 (byt o)) (t := 22) ?_
 intro p7_2
 refine MV ?_
 refine MZ fun W hS => ?_
 rcases hb with rfl | rfl
 ·
  have _f := True.intro
  go_upto_region 1 with fail
  refine RL hS ?_
  clear hS
  refine MV ?_
  refine MW ?_ (v := .bool false)
  refine MZ fun W hS => ?_
  go_upto_region 3 with fail
  refine RL hS ?_
  clear hS
  refine MV ?_
  refine MW ?_ (v := .int .i64 (d / 256)) (hv := by intro W; exact run_shr_i (n := 8) (by decide) rfl rfl rfl)
  refine MW ?_ (v := .int .u8 ((UInt8.ofNat (d / 256 % 256).toNat).toNat : Int)) (hv := by intro W; rw [← db_hi d]; exact run_c8i rfl rfl)
  refine MV ?_
  refine MW ?_ (v := .int .u8 ((UInt8.ofNat (d % 256).toNat).toNat : Int)) (hv := by intro W; rw [← db_lo d]; exact run_c8i rfl rfl)
  refine MO (m := [1, UInt8.ofNat (d / 256 % 256).toNat, UInt8.ofNat (d % 256).toNat]) (n := 3) (z := #[.int .u8 1, .int .u8 ((UInt8.ofNat (d / 256 % 256).toNat).toNat : Int), .int .u8 ((UInt8.ofNat (d % 256).toNat).toNat : Int)]) ?_
  intro v19_3
  refine MV ?_
  refine MZ fun W hS => ?_
  go_upto_region 4 with fail
  refine RTp [1, 2] (.q 0 (.q 1 (.q 3 (.e 2 (.e 4 (.q 5 .z)))))) hS ?_
  clear hS
  refine TV ?_
  refine TW ?_ (v := .slice (some ⟨p6_1, 0, none⟩) 32 32)
  refine TW ?_ (v := .slice (some ⟨p7_2, 0, none⟩) 32 32)
  refine TE (fun _ h => h.pick [1, 2]) ?_
  refine MA 0 (xs := [1, UInt8.ofNat (d / 256 % 256).toNat, UInt8.ofNat (d % 256).toNat]) (ys := (lb 32 s)) (fun W hS => (sl_part (V := s) (n := 32) (off := 0) (c := 32) (hS.blk (i := 2) rfl) ap0 (by decide) (by decide))) (by first | omega | (simp only [List.length_append, List.length_map, List.length_take, List.length_drop, List.length_reverse, List.length_cons, List.length_nil, lb_length, dbl]; omega)) ?_
  intro v22_4
  refine TNp [1, 2] [0, 1] ?_
  refine TE (fun _ h => h.pick [1, 2]) ?_
  refine MA 0 (xs := ([1, UInt8.ofNat (d / 256 % 256).toNat, UInt8.ofNat (d % 256).toNat] ++ (lb 32 s))) (ys := (lb 32 o)) (fun W hS => (sl_part (V := o) (n := 32) (off := 0) (c := 32) (hS.blk (i := 1) rfl) ap0 (by decide) (by decide))) (by first | omega | (simp only [List.length_append, List.length_map, List.length_take, List.length_drop, List.length_reverse, List.length_cons, List.length_nil, lb_length, dbl]; omega)) ?_
  intro v24_5
  refine TNp [0, 1, 2] [1, 2] ?_
  refine TV ?_
  refine TZ (fun _ h => h) fun W hS => ?_
  go_wp2
  exact bodyPost_ret (v := v24_5) (by simp only [results, Tryd.results67]; go_simp) rfl ⟨_, rfl, hS.pick [0]⟩
 ·
  have _f := True.intro
  go_upto_region 1 with fail
  refine RL hS ?_
  clear hS
  refine MV ?_
  refine MW ?_ (v := .bool true)
  refine MZ fun W hS => ?_
  go_upto_region 2 with fail
  refine RL hS ?_
  clear hS
  refine ML 0 ?_
  refine ML 1 ?_
  refine MR 1 ?_ 
  refine MR 0 ?_ 
  refine MZ fun W hS => ?_
  go_upto_region 3 with fail
  refine RL hS ?_
  clear hS
  refine MV ?_
  refine MW ?_ (v := .int .i64 (d / 256)) (hv := by intro W; exact run_shr_i (n := 8) (by decide) rfl rfl rfl)
  refine MW ?_ (v := .int .u8 ((UInt8.ofNat (d / 256 % 256).toNat).toNat : Int)) (hv := by intro W; rw [← db_hi d]; exact run_c8i rfl rfl)
  refine MV ?_
  refine MW ?_ (v := .int .u8 ((UInt8.ofNat (d % 256).toNat).toNat : Int)) (hv := by intro W; rw [← db_lo d]; exact run_c8i rfl rfl)
  refine MO (m := [1, UInt8.ofNat (d / 256 % 256).toNat, UInt8.ofNat (d % 256).toNat]) (n := 3) (z := #[.int .u8 1, .int .u8 ((UInt8.ofNat (d / 256 % 256).toNat).toNat : Int), .int .u8 ((UInt8.ofNat (d % 256).toNat).toNat : Int)]) ?_
  intro v19_6
  refine MV ?_
  refine MZ fun W hS => ?_
  go_upto_region 4 with fail
  refine RTp [1, 2] (.q 0 (.q 1 (.q 3 (.e 2 (.e 4 (.q 5 .z)))))) hS ?_
  clear hS
  refine TV ?_
  refine TW ?_ (v := .slice (some ⟨p6_1, 0, none⟩) 32 32)
  refine TW ?_ (v := .slice (some ⟨p7_2, 0, none⟩) 32 32)
  refine TE (fun _ h => h.pick [1, 2]) ?_
  refine MA 0 (xs := [1, UInt8.ofNat (d / 256 % 256).toNat, UInt8.ofNat (d % 256).toNat]) (ys := (lb 32 o)) (fun W hS => (sl_part (V := o) (n := 32) (off := 0) (c := 32) (hS.blk (i := 2) rfl) ap0 (by decide) (by decide))) (by first | omega | (simp only [List.length_append, List.length_map, List.length_take, List.length_drop, List.length_reverse, List.length_cons, List.length_nil, lb_length, dbl]; omega)) ?_
  intro v22_7
  refine TNp [1, 2] [0, 1] ?_
  refine TE (fun _ h => h.pick [1, 2]) ?_
  refine MA 0 (xs := ([1, UInt8.ofNat (d / 256 % 256).toNat, UInt8.ofNat (d % 256).toNat] ++ (lb 32 o))) (ys := (lb 32 s)) (fun W hS => (sl_part (V := s) (n := 32) (off := 0) (c := 32) (hS.blk (i := 1) rfl) ap0 (by decide) (by decide))) (by first | omega | (simp only [List.length_append, List.length_map, List.length_take, List.length_drop, List.length_reverse, List.length_cons, List.length_nil, lb_length, dbl]; omega)) ?_
  intro v24_8
  refine TNp [0, 1, 2] [1, 2] ?_
  refine TV ?_
  refine TZ (fun _ h => h) fun W hS => ?_
  go_wp2
  exact bodyPost_ret (v := v24_8) (by simp only [results, Tryd.results67]; go_simp) rfl ⟨_, rfl, hS.pick [0]⟩
/-- all texts of a proof -/
def TXR (ts : List (List UInt8)) (w w' : World) (e : Ending) : Prop := ∃ p : Value × List Value, e = .returned p.1 ∧ SH [] w w' [.r 33 1 p.1 (p.2.map one1), .p (txF p.2 ts) (fun W => TXS W p.2 ts)] ∧ ∀ y ∈ [As.r 33 1 p.1 (p.2.map one1), As.p (txF p.2 ts) (fun W => TXS W p.2 ts)], y.mv = false → ∀ k ∈ y.foot, w.heap.size ≤ k
theorem tA_step {k d : Nat} {ss : List Nat} {o : Nat} (h : ss[d]? = some o) (e : List UInt8) : tA k (ss.drop (d + 1)) (d + 1) e ++ [tT k (ss.drop d) d e] = tA k (ss.drop d) d e := by
 obtain ⟨h1, h2⟩ := List.getElem?_eq_some_iff.1 h
 rw [List.drop_eq_getElem_cons h1]; rfl
theorem tT_step {k d : Nat} {ss : List Nat} {o : Nat} (h : ss[d]? = some o) (e : List UInt8) : tT k (ss.drop d) d e = tN (d : Int) (kb k d) (hs4 (tT k (ss.drop (d + 1)) (d + 1) e)) o := by
 obtain ⟨h1, h2⟩ := List.getElem?_eq_some_iff.1 h
 rw [List.drop_eq_getElem_cons h1, h2]; rfl
theorem fresh2 {w : World} {t : TypeId} {n : Nat} {v : Value} {es : List (List Value)} {f : List Nat} {K : World → Prop} (h : ∀ k ∈ f, w.heap.size ≤ k) : ∀ y ∈ [As.r t n v es, As.p f K], y.mv = false → ∀ k ∈ y.foot, w.heap.size ≤ k := fun y hy hm => by
 rcases List.mem_cons.1 hy with rfl | hy
 ·
  cases hm
 ·
  rw [List.mem_singleton.1 hy]; exact h
theorem txs_lt {W : World} {us : List Value} {ts : List (List UInt8)} (h : TXS W us ts) {n : Nat} {t : List UInt8} (ht : ts[n]? = some t) : ∃ u, us[n]? = some u ∧ Sl W u t := by
 have h1 := (List.getElem?_eq_some_iff.1 ht).1
 have h2 : n < us.length := by rw [h.1]; exact h1
 exact ⟨us[n], List.getElem?_eq_getElem h2, h.2 n _ t (List.getElem?_eq_getElem h2) ht⟩
theorem texts_c {q : Prop} {ss : List Nat} {sv : Value} {th : Bool} {k a x : Nat} (hn : ss.length ≤ 1000) (w : World) (hG : GT q w) (hp : RR 32 w sv (ss.map b32l)) :
  Calls Tryd.prog 43 #[.agg (arrK .u8 32 (byt k)), .agg (pfc sv th a x)] w fun e w' => TXR (tA k ss 0 (tE th a x)) w w' e := by
 obtain ⟨Ap, cp, rfl, hlcp, HRp⟩ := RR.opf hp
 have hS := SH.nil [] w
 go_enter Tryd.func43, Tryd.ntmps43
 go_upto_region 0 with fail
 refine RL hS ?_
 clear hS
 refine MN (z := arrK .u8 32 (byt k)) (t := 28) ?_
 intro p2_1
 refine MN (z := pfc (.slice Ap ss.length cp) th a x) (t := 69) ?_
 intro p3_2
 refine MV ?_
 refine MZ fun W hS => ?_
 go_upto_region 1 with fail
 refine RL hS ?_
 clear hS
 refine ML 0 ?_ (hs := by rw [pf_size]; kernel_rfl)
 refine ME (V := fun v => v) (fun W hS => ncall hS (end_c rfl th a x W) (fun _ => ⟨rfl, rfl⟩)) ?_
 intro ev
 refine MB (z := #[ev]) (t := 33) (n := 1) (c := 1) ?_ (hr := fun W hS => run_bsv [ev] rfl rfl (vsc (sl_cells (hS.osl (i := 0) rfl)).1 vs0) Tryd.underlying77 (by kernel_rfl) (by kernel_rfl) rfl (by decide) (by decide))
 intro p9_3
 refine MV ?_
 refine MZ fun W hS => ?_
 go_upto_region 2 with fail
 refine RL hS ?_
 clear hS
 refine MV ?_
 refine MG 2 ?_ (v := .slice Ap ss.length cp) (hj := pf_s)
 refine MV ?_
 refine MW ?_ (v := .int .i64 ((ss.length : Int) - 1)) (hv := by intro W; go_simp; (try simp only [IntKind.wrap_i64]); omega)
 refine MV ?_
 refine MZ fun W hS => ?_
 have hS := hS.b2r (k := 1) (es := List.map one1 [ev]) (n := 1) (by rfl) (by intro e he; simp at he; subst he; rfl) rfl (by decide)
 have hS := hS.txn
 have hfr : ∀ k ∈ txF [] [], w.heap.size ≤ k := fun k hk => by cases hk
 have hfr := hS.fresh (j := 2) (u := ev) (us := []) (ts := []) rfl rfl hfr
 have hS := hS.read (i := 2) rfl (hS.osl (i := 2) rfl) sub_refl
 have hS := hS.txs (i := 0) (j := 2) rfl rfl
 go_wp2_with fail
 go_loopw [5, 6] (fun uu ii wr => ∃ (j : Nat) (us : List Value) (sl : Value) (iv : Int), (j ≤ ss.length) ∧ (∀ k_ ∈ txF us (tA k (List.drop j ss) j (tE th a x)), w.heap.size ≤ k_) ∧ (sl = uu) ∧ (iv = (j : Int) - 1) ∧ (ii = .int .i64 iv) ∧ SH [] w wr [.p (txF us (tA k (List.drop j ss) j (tE th a x))) (fun W => TXS W us (tA k (List.drop j ss) j (tE th a x))), .r 33 1 sl (List.map one1 us), .b p2_1 (arrK .u8 32 (byt k)) 28, .b p3_2 (pfc (.slice Ap ss.length cp) th a x) 69])
  (fun uu ii _ => ((intOf ii) + 1).toNat)
 case atStart => exact ⟨ss.length, [ev], _, _, Nat.le_refl _, by rw [List.drop_length]; exact hfr, rfl, rfl, rfl, (by rw [List.drop_length]; exact (hS.pick [0, 2, 5, 4]))⟩
 clear hS
 case round =>
  obtain ⟨j, us, sl, iv, hj, hfr, rfl, hiv, rfl, hS⟩ := hrel
  rcases j with _ | d
  ·
   have _f := True.intro
   obtain rfl : iv = -1 := by omega
   clear hiv
   rw [List.drop_zero] at hS hfr
   go_upto_region 3 with fail
   refine RL hS ?_
   clear hS
   refine MW ?_ (v := .int .i64 (-1))
   refine MW ?_ (v := .bool false)
   refine MZ fun W hS => ?_
   go_wp2
   exact bodyPost_ret (v := sl) (by simp only [results, Tryd.results43]; go_simp) rfl ⟨(_, us), rfl, hS.pick [1, 0], fresh2 hfr⟩
  ·
   have _f := True.intro
   obtain rfl : iv = (d : Int) := by omega
   clear hiv
   obtain ⟨u, uh, ush⟩ := txs_lt (hS.pp (i := 0) rfl) (tA_last k (tE th a x) (List.drop (d + 1) ss) (d + 1))
   obtain ⟨A1, c1, hv1, _, HR1⟩ := RR.opf (hS.row (i := 1) rfl).rr
   subst hv1
   obtain ⟨g1, o1, A10, _⟩ := HR1.out _ u uh
   have HA1 := Lib.hid A10
   clear A10 HR1
   have hul : us.length = (List.drop (d + 1) ss).length + 1 := by rw [(hS.pp (i := 0) rfl).1, tA_len]
   obtain ⟨nL, hnL⟩ : ∃ nL, (List.drop (d + 1) ss).length = nL := ⟨_, rfl⟩
   have hnL2 : nL ≤ ss.length := by rw [← hnL, List.length_drop]; omega
   rw [hnL] at uh hul
   have husl : us.length ≤ 1001 := by omega
   have hlt_ : (tT k (List.drop (d + 1) ss) (d + 1) (tE th a x)).length ≤ 67 := tT_len k (tE_len ..) _ _
   have Hul := Lib.hid hul
   clear hul
   have hdlt : d < ss.length := by omega
   obtain ⟨o, oh⟩ : ∃ o, ss[d]? = some o := ⟨_, List.getElem?_eq_getElem (show d < ss.length by omega)⟩
   obtain ⟨gp, op, A0p, c0p⟩ := HRp.out d o oh
   have HAp := Lib.hid A0p
   clear A0p
   go_upto_region 3 with fail
   refine RL hS ?_
   clear hS
   refine MV ?_
   refine MW ?_ (v := .bool true)
   refine MZ fun W hS => ?_
   go_upto_region 5 with fail
   refine RTp [0, 2, 3] (.q 0 (.q 1 (.q 2 (.q 3 (.q 5 (.q 6 (.q 7 (.q 8 (.q 9 (.q 13 (.q 14 (.q 15 (.q 16 (.q 17 (.b 4 (.e 10 (.e 11 (.e 12 (.e 18 (.e 19 (.e 20 (.q 21 .z))))))) 10 (.b 4 (.e 11 (.e 12 (.e 18 (.e 19 (.e 20 (.q 21 .z)))))) 11 (.e 4 (.e 12 (.e 18 (.e 19 (.e 20 (.q 21 .z)))))))))))))))))))))) hS ?_
   clear hS
   refine TV ?_
   refine TV ?_
   refine TL 1 ?_
   refine TV ?_
   refine TV ?_
   refine TV ?_
   refine TW ?_ (v := .int .i64 (us.length : Int)) (hv := by intro W; exact run_lenV rfl rfl Tryd.underlying77)
   refine TW ?_ (v := .int .i64 (nL : Int)) (hv := by intro W; have hul := Hul.out; go_simp; (try simp only [IntKind.wrap_i64]); omega)
   refine TW ?_ (v := .pointer (some ⟨g1, o1 + nL * 1, none⟩)) (hv := fun _ => run_ixRA HA1.out (show nL < us.length by have h_ := Hul.out; omega) rfl rfl rfl Tryd.underlying77 (by kernel_rfl))
   refine TV ?_
   refine TG 2 ?_ (v := .slice Ap ss.length cp) (hj := pf_s)
   refine TV ?_
   refine TW ?_ (v := .pointer (some ⟨gp, op + d * 32, none⟩)) (hv := fun _ => run_ixRA HAp.out hdlt rfl rfl rfl Tryd.underlying58 (by kernel_rfl))
   refine TF (v := .agg (arrK .u8 32 (byt o))) rfl (fun W hS => run_atsub rfl rfl (fun i_ v hv => cell_ext (c0p i_ v (by simpa using hv)) hS.ext) (by kernel_rfl) (by rw [arrK_size]; kernel_rfl)) ?_
   refine TB (fun _ h => h.pick [0, 2, 3]) ?_ ?_
   ·
    skip
    refine MC (v := .int .i64 ((kb k d : Nat) : Int)) (fun W hS => bit_c k d (by omega) W) ?_
    refine TNp [0, 2, 3] [0, 1, 2] ?_
    refine TE (fun _ h => h.pick [0, 2, 3]) ?_
    refine MF (v := u) (fun W hS => run_at rfl rfl ((RR.cellat (hS.row (i := 1) rfl).rr (by rw [List.getElem?_map, uh]; rfl) HA1.out) 0 _ rfl) (by kernel_rfl)) ?_
    refine TNp [0, 2, 3] [0, 1, 2] ?_
    refine TE (fun _ h => h.pick [0, 2, 3]) ?_
    refine MB (z := #[u]) (t := 33) (n := 1) (c := 1) ?_ (hr := fun W hS => run_bsv [u] rfl rfl (vsc (sl_cells ((hS.pp (i := 0) rfl).2 nL u _ uh (by rw [← hnL]; exact tA_last _ _ _ _))).1 vs0) Tryd.underlying77 (by kernel_rfl) (by kernel_rfl) rfl (by decide) (by decide))
    intro p29_4
    refine TNp [0, 1, 3, 4] [1, 2, 3] ?_
    refine TE (fun _ h => h.pick [0, 1, 3, 4]) ?_
    obtain ⟨U1, hU1⟩ := exn (hs4 ((tT k (List.drop (d + 1) ss) (d + 1) (tE th a x))))
    have HU1 := Lib.hid hU1
    clear hU1
    refine MC (v := .agg (arrK .u8 32 (byt U1))) (fun W hS => sumN4_c HU1.out [tT k (List.drop (d + 1) ss) (d + 1) (tE th a x)] (some ⟨p29_4, 0, none⟩) 1 (by simp only [List.flatten_cons, List.flatten_nil, List.append_nil, List.nil_append, List.append_assoc, List.cons_append]) (by first | omega | (simp only [List.length_append, List.length_cons, List.length_nil, lb_length, dbl]; omega)) (by simp) W (pss_blk (hS.blk (i := 0) rfl) (pvc ((hS.pp (i := 1) rfl).2 nL u _ uh (by rw [← hnL]; exact tA_last _ _ _ _)) pv0)) (GS_ext4 hG.1 hS.ext)) ?_
    refine TNp [0, 1, 3, 4] [0, 1, 2, 3] ?_
    refine TE (fun _ h => h.pick [0, 1, 3, 4]) ?_
    refine ME (V := fun v => v) (fun W hS => ncall hS (node_c (d : Int) (kb k d) U1 o (kb_01 k d) W) (fun _ => ⟨rfl, rfl⟩)) ?_
    intro nv
    refine MFact (fun W hS => (sl_cells (hS.osl (i := 0) rfl)).2) ?_
    intro oc_nv
    refine TNp [0, 1, 2, 4, 5] [1, 2, 3, 4] ?_
    refine TE (fun _ h => h.pick [0, 1, 2, 4, 5]) ?_
    refine MB (z := #[nv]) (t := 33) (n := 1) (c := 1) ?_ (hr := fun W hS => run_bsv [nv] rfl rfl (vsc (sl_cells (hS.osl (i := 0) rfl)).1 vs0) Tryd.underlying77 (by kernel_rfl) (by kernel_rfl) rfl (by decide) (by decide))
    intro p37_5
    refine TNp [0, 1, 2, 3, 5, 6] [1, 2, 3, 4, 5] ?_
    refine TE (fun _ h => h.pick [0, 1, 2, 3, 5, 6]) ?_
    refine MAr 4 0 (tS := 77) (bytes := 24) (es := (List.map one1 us)) (by first | omega | (simp only [List.length_append, List.length_map, List.length_take, List.length_drop, List.length_reverse, List.length_cons, List.length_nil, lb_length, dbl]; omega)) (e := ([nv] : List Value)) (h1 := all1 oc_nv) ?_
    intro v38_6
    refine TNp [0, 1, 2, 3, 4, 5, 6] [0, 1, 2, 3, 5, 6] ?_
    refine TV ?_
    refine TZ (fun _ h => h) fun W hS => ?_
    go_upto_region 4 with fail
    refine RL hS ?_
    clear hS
    refine MV ?_
    refine MW ?_ (v := .int .i64 ((d : Int) - 1)) (hv := by intro W; go_simp; (try simp only [IntKind.wrap_i64]); omega)
    refine MV ?_
    refine MZ fun W hS => ?_
    have hfr2 := hS.fresh (j := 1) rfl (hS.pp (i := 3) rfl).1 hfr
    have hS := hS.read (i := 1) rfl (hS.osl (i := 1) rfl) sub_refl
    have hS := hS.txs (i := 3) (j := 1) rfl rfl
    go_wp2
    go_roundw
    case rel => exact ⟨d, (us ++ [nv]), v38_6, ((d : Int) - 1), by omega, by rw [← tA_step oh, tT_step oh, ← HU1.out]; exact hfr2, rfl, rfl, rfl, (by rw [← tA_step oh, tT_step oh, ← HU1.out, List.map_append]; exact (hS.pick [0, 5, 6, 7]))⟩
    case measure => (simp [intOf]; try omega)
   ·
    skip
    refine MF (v := u) (fun W hS => run_at rfl rfl ((RR.cellat (hS.row (i := 1) rfl).rr (by rw [List.getElem?_map, uh]; rfl) HA1.out) 0 _ rfl) (by kernel_rfl)) ?_
    refine TNp [0, 2, 3] [0, 1, 2] ?_
    refine TB (fun _ h => h.pick [0, 2, 3]) ?_ ?_
    ·
     skip
     refine MC (v := .int .i64 ((kb k d : Nat) : Int)) (fun W hS => bit_c k d (by omega) W) ?_
     refine TNp [0, 2, 3] [0, 1, 2] ?_
     refine TE (fun _ h => h.pick [0, 2, 3]) ?_
     refine MB (z := #[u]) (t := 33) (n := 1) (c := 1) ?_ (hr := fun W hS => run_bsv [u] rfl rfl (vsc (sl_cells ((hS.pp (i := 0) rfl).2 nL u _ uh (by rw [← hnL]; exact tA_last _ _ _ _))).1 vs0) Tryd.underlying77 (by kernel_rfl) (by kernel_rfl) rfl (by decide) (by decide))
     intro p29_7
     refine TNp [0, 1, 3, 4] [1, 2, 3] ?_
     refine TE (fun _ h => h.pick [0, 1, 3, 4]) ?_
     obtain ⟨U1, hU1⟩ := exn (hs4 ((tT k (List.drop (d + 1) ss) (d + 1) (tE th a x))))
     have HU1 := Lib.hid hU1
     clear hU1
     refine MC (v := .agg (arrK .u8 32 (byt U1))) (fun W hS => sumN4_c HU1.out [tT k (List.drop (d + 1) ss) (d + 1) (tE th a x)] (some ⟨p29_7, 0, none⟩) 1 (by simp only [List.flatten_cons, List.flatten_nil, List.append_nil, List.nil_append, List.append_assoc, List.cons_append]) (by first | omega | (simp only [List.length_append, List.length_cons, List.length_nil, lb_length, dbl]; omega)) (by simp) W (pss_blk (hS.blk (i := 0) rfl) (pvc ((hS.pp (i := 1) rfl).2 nL u _ uh (by rw [← hnL]; exact tA_last _ _ _ _)) pv0)) (GS_ext4 hG.1 hS.ext)) ?_
     refine TNp [0, 1, 3, 4] [0, 1, 2, 3] ?_
     refine TE (fun _ h => h.pick [0, 1, 3, 4]) ?_
     refine ME (V := fun v => v) (fun W hS => ncall hS (node_c (d : Int) (kb k d) U1 o (kb_01 k d) W) (fun _ => ⟨rfl, rfl⟩)) ?_
     intro nv
     refine MFact (fun W hS => (sl_cells (hS.osl (i := 0) rfl)).2) ?_
     intro oc_nv
     refine TNp [0, 1, 2, 4, 5] [1, 2, 3, 4] ?_
     refine TE (fun _ h => h.pick [0, 1, 2, 4, 5]) ?_
     refine MB (z := #[nv]) (t := 33) (n := 1) (c := 1) ?_ (hr := fun W hS => run_bsv [nv] rfl rfl (vsc (sl_cells (hS.osl (i := 0) rfl)).1 vs0) Tryd.underlying77 (by kernel_rfl) (by kernel_rfl) rfl (by decide) (by decide))
     intro p37_8
     refine TNp [0, 1, 2, 3, 5, 6] [1, 2, 3, 4, 5] ?_
     refine TE (fun _ h => h.pick [0, 1, 2, 3, 5, 6]) ?_
     refine MAr 4 0 (tS := 77) (bytes := 24) (es := (List.map one1 us)) (by first | omega | (simp only [List.length_append, List.length_map, List.length_take, List.length_drop, List.length_reverse, List.length_cons, List.length_nil, lb_length, dbl]; omega)) (e := ([nv] : List Value)) (h1 := all1 oc_nv) ?_
     intro v38_9
     refine TNp [0, 1, 2, 3, 4, 5, 6] [0, 1, 2, 3, 5, 6] ?_
     refine TV ?_
     refine TZ (fun _ h => h) fun W hS => ?_
     go_upto_region 4 with fail
     refine RL hS ?_
     clear hS
     refine MV ?_
     refine MW ?_ (v := .int .i64 ((d : Int) - 1)) (hv := by intro W; go_simp; (try simp only [IntKind.wrap_i64]); omega)
     refine MV ?_
     refine MZ fun W hS => ?_
     have hfr2 := hS.fresh (j := 1) rfl (hS.pp (i := 3) rfl).1 hfr
     have hS := hS.read (i := 1) rfl (hS.osl (i := 1) rfl) sub_refl
     have hS := hS.txs (i := 3) (j := 1) rfl rfl
     go_wp2
     go_roundw
     case rel => exact ⟨d, (us ++ [nv]), v38_9, ((d : Int) - 1), by omega, by rw [← tA_step oh, tT_step oh, ← HU1.out]; exact hfr2, rfl, rfl, rfl, (by rw [← tA_step oh, tT_step oh, ← HU1.out, List.map_append]; exact (hS.pick [0, 5, 6, 7]))⟩
     case measure => (simp [intOf]; try omega)
    ·
     skip
     refine MB (z := #[u]) (t := 33) (n := 1) (c := 1) ?_ (hr := fun W hS => run_bsv [u] rfl rfl (vsc (sl_cells ((hS.pp (i := 0) rfl).2 nL u _ uh (by rw [← hnL]; exact tA_last _ _ _ _))).1 vs0) Tryd.underlying77 (by kernel_rfl) (by kernel_rfl) rfl (by decide) (by decide))
     intro p29_10
     refine TNp [0, 1, 3, 4] [1, 2, 3] ?_
     refine TE (fun _ h => h.pick [0, 1, 3, 4]) ?_
     refine MC (v := .int .i64 ((kb k d : Nat) : Int)) (fun W hS => bit_c k d (by omega) W) ?_
     refine TNp [0, 1, 3, 4] [0, 1, 2, 3] ?_
     refine TE (fun _ h => h.pick [0, 1, 3, 4]) ?_
     obtain ⟨U1, hU1⟩ := exn (hs4 ((tT k (List.drop (d + 1) ss) (d + 1) (tE th a x))))
     have HU1 := Lib.hid hU1
     clear hU1
     refine MC (v := .agg (arrK .u8 32 (byt U1))) (fun W hS => sumN4_c HU1.out [tT k (List.drop (d + 1) ss) (d + 1) (tE th a x)] (some ⟨p29_10, 0, none⟩) 1 (by simp only [List.flatten_cons, List.flatten_nil, List.append_nil, List.nil_append, List.append_assoc, List.cons_append]) (by first | omega | (simp only [List.length_append, List.length_cons, List.length_nil, lb_length, dbl]; omega)) (by simp) W (pss_blk (hS.blk (i := 0) rfl) (pvc ((hS.pp (i := 1) rfl).2 nL u _ uh (by rw [← hnL]; exact tA_last _ _ _ _)) pv0)) (GS_ext4 hG.1 hS.ext)) ?_
     refine TNp [0, 1, 3, 4] [0, 1, 2, 3] ?_
     refine TE (fun _ h => h.pick [0, 1, 3, 4]) ?_
     refine ME (V := fun v => v) (fun W hS => ncall hS (node_c (d : Int) (kb k d) U1 o (kb_01 k d) W) (fun _ => ⟨rfl, rfl⟩)) ?_
     intro nv
     refine MFact (fun W hS => (sl_cells (hS.osl (i := 0) rfl)).2) ?_
     intro oc_nv
     refine TNp [0, 1, 2, 4, 5] [1, 2, 3, 4] ?_
     refine TE (fun _ h => h.pick [0, 1, 2, 4, 5]) ?_
     refine MB (z := #[nv]) (t := 33) (n := 1) (c := 1) ?_ (hr := fun W hS => run_bsv [nv] rfl rfl (vsc (sl_cells (hS.osl (i := 0) rfl)).1 vs0) Tryd.underlying77 (by kernel_rfl) (by kernel_rfl) rfl (by decide) (by decide))
     intro p37_11
     refine TNp [0, 1, 2, 3, 5, 6] [1, 2, 3, 4, 5] ?_
     refine TE (fun _ h => h.pick [0, 1, 2, 3, 5, 6]) ?_
     refine MAr 4 0 (tS := 77) (bytes := 24) (es := (List.map one1 us)) (by first | omega | (simp only [List.length_append, List.length_map, List.length_take, List.length_drop, List.length_reverse, List.length_cons, List.length_nil, lb_length, dbl]; omega)) (e := ([nv] : List Value)) (h1 := all1 oc_nv) ?_
     intro v38_12
     refine TNp [0, 1, 2, 3, 4, 5, 6] [0, 1, 2, 3, 5, 6] ?_
     refine TV ?_
     refine TZ (fun _ h => h) fun W hS => ?_
     go_upto_region 4 with fail
     refine RL hS ?_
     clear hS
     refine MV ?_
     refine MW ?_ (v := .int .i64 ((d : Int) - 1)) (hv := by intro W; go_simp; (try simp only [IntKind.wrap_i64]); omega)
     refine MV ?_
     refine MZ fun W hS => ?_
     have hfr2 := hS.fresh (j := 1) rfl (hS.pp (i := 3) rfl).1 hfr
     have hS := hS.read (i := 1) rfl (hS.osl (i := 1) rfl) sub_refl
     have hS := hS.txs (i := 3) (j := 1) rfl rfl
     go_wp2
     go_roundw
     case rel => exact ⟨d, (us ++ [nv]), v38_12, ((d : Int) - 1), by omega, by rw [← tA_step oh, tT_step oh, ← HU1.out]; exact hfr2, rfl, rfl, rfl, (by rw [← tA_step oh, tT_step oh, ← HU1.out, List.map_append]; exact (hS.pick [0, 5, 6, 7]))⟩
     case measure => (simp [intOf]; try omega)
end Go.Proofs.YtndnlbinnhdmbaaDoor

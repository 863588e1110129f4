/- codec's Reader, whatever is left: what is not there is told. Conditions: memory holds what is written. codec's Reader, whatever is left: the methods by what they do. Conditions: memory holds what is written. -/
import Derived.Test.YtlbgelbhhibikaaKa
import Derived.Test.YtlbgelbhhibikaaJ7
set_option linter.unusedSimpArgs false
set_option linter.unusedVariables false
namespace Go.Proofs.Ytlbgelbhhibikaa
set_option maxHeartbeats 1500000
set_option maxRecDepth 100000
open Go.RowKit
attribute [local irreducible] wpList wpTr wpX
set_option linter.unusedSimpArgs false
theorem rdr_sh {w : World} {p : Nat} {v : Value} {l : List UInt8} {e : Int} (h : Rdr w p v l e) : SH [p] w w [.b p #[v, .int .i64 e] 141, .s v l] := by
 refine ⟨Off.refl _ _, fun x hx => ?_, List.pairwise_cons.2 ⟨fun y hy => ⟨fun _ => ?_, fun hm => ?_⟩, List.pairwise_cons.2 ⟨fun y hy => (by cases hy), .nil⟩⟩, fun x hx hm k hk _ => ?_⟩
 ·
  rcases List.mem_cons.1 hx with rfl | hx
  ·
   exact h.1
  ·
   rw [List.mem_singleton.1 hx]; exact h.2.1
 ·
  rw [List.mem_singleton.1 hy]
  intro k hk hk'
  obtain rfl : k = p := List.mem_singleton.1 hk
  exact h.2.2 (As.mem_toList hk')
 ·
  rw [List.mem_singleton.1 hy] at hm; cases hm
 ·
  rcases List.mem_cons.1 hx with rfl | hx
  ·
   exact hk
  ·
   rw [List.mem_singleton.1 hx] at hm; cases hm
theorem sub_tr {v v1 v2 : Value} {l l1 l2 : List UInt8} (h2 : Sub v2 l2 (sb v1 l1)) (h1 : Sub v1 l1 (sb v l)) : Sub v2 l2 (sb v l) := fun x hx => h1 x (h2 x hx)
theorem rdr_of {w W : World} {p : Nat} {v v' : Value} {l l' : List UInt8} {e e0 : Int} (h0 : Rdr w p v l e0) (h : SH [p] w W [.b p #[v', .int .i64 e] 141, .s v' l']) (hs : Sub v' l' (sb v l)) : RdTo w p v l l' e v' W :=
 ⟨⟨h.blk (i := 0) rfl, h.sl (i := 1) rfl, fun e_ => h0.2.2 (hs _ e_)⟩, hs, h.off⟩
theorem rdr_at {F : List Nat} {w W : World} {H : List As} {i j p : Nat} {v : Value} {l : List UInt8} {e : Int} (hS : SH F w W H) (hi : H[i]? = some (.b p #[v, .int .i64 e] 141)) (hj : H[j]? = some (.s v l)) : Rdr W p v l e := by
 refine ⟨hS.blk hi, hS.sl hj, fun e_ => ?_⟩
 have hn : i ≠ j := fun e => by subst e; rw [hi] at hj; cases hj
 exact (hS.ap2 hi hj hn).1 rfl p (by simp [As.foot]) (by show p ∈ (sb v l).toList; rw [e_]; simp)
/-- a method of a reader that is known -/
theorem rdcall {P : Program} {f : FuncId} {args : Array Value} {val : Value} {F : List Nat} {w W : World} {H : List As} {i j p : Nat} {v : Value} {l l' : List UInt8} {e e' : Int} (hS : SH F w W H) (hi : H[i]? = some (.b p #[v, .int .i64 e] 141)) (hj : H[j]? = some (.s v l))
  (hc : Rdr W p v l e → Calls P f args W fun en W' => en = .returned val ∧ ∃ v', RdTo W p v l l' e' v' W') : Calls P f args W fun en W' => ∃ x : { u : Value // Sub u l' (sb v l) }, en = .returned val ∧ SH F w W' (.s x.1 l' :: H.set i (.b p #[x.1, .int .i64 e'] 141)) := by
 have hn : i ≠ j := fun e => by subst e; rw [hi] at hj; cases hj
 refine (hc (rdr_at hS hi hj)).mono fun en W' ⟨h1, v', h2⟩ => ⟨⟨v', h2.sub⟩, h1, ?_⟩
 have h3 := hS.setb hi h2.off h2.rd.1
 exact h3.sub (i := j) (by rw [List.getElem?_set_ne hn]; exact hj) h2.rd.2.1 h2.sub

theorem take_e (p : Nat) (v : Value) (l : List UInt8) (n : Nat) (e0 : Int) (he : e0 ≠ 0) (w : World) (hrd : Rdr w p v l e0) :
  Calls Try.prog 59 #[.pointer (some ⟨p, 0, none⟩), .int .i64 (n : Int)] w fun e w' => e = .returned (.slice none 0 0) ∧ ∃ v', RdTo w p v l l e0 v' w' := by
 have hS := rdr_sh hrd
 go_enter Try.func59, Try.ntmps59
 go_upto_region 1 with fail
 refine RL hS ?_
 clear hS
 refine MV ?_
 refine MW ?_ (v := .bool false)
 refine MW ?_ (v := .bool false)
 refine MV ?_
 refine MV ?_
 refine MV ?_
 refine MG 0 ?_ (v := .int .i64 e0)
 refine MW ?_ (v := .bool true) (hv := by intro W; go_simp; first | done | exact he | (simp [he]))
 refine MW ?_ (v := .bool true)
 refine MW ?_ (v := .bool true)
 refine MZ fun W hS => ?_
 go_wp2
 exact bodyPost_ret (v := .slice none 0 0) (by simp only [results, Try.results59]; first | (go_simp; done) | (go_simp; rfl)) rfl ⟨rfl, _, rdr_of hrd (hS.pick [0, 1]) sub_refl⟩
theorem take_s (p : Nat) (v : Value) (l : List UInt8) (n : Nat) (he : l.length < n) (w : World) (hrd : Rdr w p v l 0) :
  Calls Try.prog 59 #[.pointer (some ⟨p, 0, none⟩), .int .i64 (n : Int)] w fun e w' => e = .returned (.slice none 0 0) ∧ ∃ v', RdTo w p v l l 3 v' w' := by
 have hS := rdr_sh hrd
 go_enter Try.func59, Try.ntmps59
 go_upto_region 1 with fail
 refine RL hS ?_
 clear hS
 refine MV ?_
 refine MW ?_ (v := .bool false)
 refine MW ?_ (v := .bool false)
 refine MV ?_
 refine MV ?_
 refine MV ?_
 refine MG 0 ?_ (v := .int .i64 0)
 refine MW ?_ (v := .bool false) (hv := by intro W; go_simp)
 refine MW ?_ (v := .bool false)
 refine MW ?_ (v := .bool false)
 refine MZ fun W hS => ?_
 go_upto_region 3 with fail
 refine RL hS ?_
 clear hS
 refine MV ?_
 refine MV ?_
 refine MV ?_
 refine MG 0 ?_ (v := v)
 refine MF (v := .int .i64 (l.length : Int)) (fun W hS => run_lenA (hS.sl (i := 1) rfl) rfl rfl) ?_
 refine MV ?_
 refine MW ?_ (v := .bool true) (hv := by intro W; go_simp; (try omega))
 refine MW ?_ (v := .bool true)
 refine MZ fun W hS => ?_
 go_upto_region 4 with fail
 refine RL hS ?_
 clear hS
 refine MV ?_
 refine MV ?_
 refine MV ?_
 refine MP 0 (v := .int .i64 3) ?_
 refine MZ fun W hS => ?_
 go_wp2
 exact bodyPost_ret (v := .slice none 0 0) (by simp only [results, Try.results59]; first | (go_simp; done) | (go_simp; rfl)) rfl ⟨rfl, _, rdr_of hrd (hS.pick [0, 1]) sub_refl⟩
/-- what is wrong behind a part that is not there -/
def noE (e : Int) : Int := if e = 0 then 3 else e
theorem take_no (p : Nat) (v : Value) (l : List UInt8) (n : Nat) (e0 : Int) (h : e0 ≠ 0 ∨ l.length < n) (w : World) (hrd : Rdr w p v l e0) : Calls Try.prog 59 #[.pointer (some ⟨p, 0, none⟩), .int .i64 (n : Int)] w fun e w' => e = .returned (.slice none 0 0) ∧ ∃ v', RdTo w p v l l (noE e0) v' w' := by
 by_cases he : e0 = 0
 ·
  subst he
  exact take_s p v l n (h.resolve_left (fun h => h rfl)) w hrd
 ·
  unfold noE; rw [if_neg he]
  exact take_e p v l n e0 he w hrd
theorem rbyte_no (p : Nat) (v : Value) (l : List UInt8) (e0 : Int) (h : e0 ≠ 0 ∨ l.length < 1) (w : World) (hrd : Rdr w p v l e0) :
  Calls Try.prog 37 #[.pointer (some ⟨p, 0, none⟩)] w fun e w' => e = .returned (.int .i64 0) ∧ ∃ v', RdTo w p v l l (noE e0) v' w' := by
 have hS := rdr_sh hrd
 go_enter Try.func37, Try.ntmps37
 go_upto_region 1 with fail
 refine RL hS ?_
 clear hS
 refine MV ?_
 refine ME (V := fun _ => .slice none 0 0) (fun W hS => rdcall (i := 0) (j := 1) hS rfl rfl (fun hr => take_no p _ _ 1 _ h W hr)) ?_
 rintro ⟨w1, hs_w1⟩
 dsimp only
 refine MD 2 ?_
 refine MV ?_
 refine MZ fun W hS => ?_
 go_upto_region 2 with fail
 refine RL hS ?_
 clear hS
 refine MV ?_
 refine MW ?_ (v := .bool true)
 refine MZ fun W hS => ?_
 go_wp2
 exact bodyPost_ret (v := .int .i64 0) (by simp only [results, Try.results37]; first | (go_simp; done) | (go_simp; rfl)) rfl ⟨rfl, _, rdr_of hrd (hS.pick [1, 0]) hs_w1⟩
theorem rflag_no (p : Nat) (v : Value) (l : List UInt8) (e0 : Int) (h : e0 ≠ 0 ∨ l.length < 1) (w : World) (hrd : Rdr w p v l e0) :
  Calls Try.prog 65 #[.pointer (some ⟨p, 0, none⟩)] w fun e w' => e = .returned (.bool false) ∧ ∃ v', RdTo w p v l l (noE e0) v' w' := by
 have hS := rdr_sh hrd
 go_enter Try.func65, Try.ntmps65
 go_upto_region 1 with fail
 refine RL hS ?_
 clear hS
 refine MV ?_
 refine ME (V := fun _ => .int .i64 0) (fun W hS => rdcall (i := 0) (j := 1) hS rfl rfl (fun hr => rbyte_no p _ _ _ h W hr)) ?_
 rintro ⟨w1, hs_w1⟩
 dsimp only
 refine MD 2 ?_
 refine MW ?_ (v := .int .i64 0)
 refine MZ fun W hS => ?_
 go_wp2
 exact bodyPost_ret (v := .bool false) (by simp only [results, Try.results65]; first | (go_simp; done) | (go_simp; rfl)) rfl ⟨rfl, _, rdr_of hrd (hS.pick [1, 0]) hs_w1⟩
theorem rnum_no (p : Nat) (v : Value) (l : List UInt8) (e0 : Int) (h : e0 ≠ 0 ∨ l.length < 8) (w : World) (hrd : Rdr w p v l e0) :
  Calls Try.prog 40 #[.pointer (some ⟨p, 0, none⟩)] w fun e w' => e = .returned (.int .i64 0) ∧ ∃ v', RdTo w p v l l (noE e0) v' w' := by
 have hS := rdr_sh hrd
 go_enter Try.func40, Try.ntmps40
 go_upto_region 2 with fail
 refine RL hS ?_
 clear hS
 refine MV ?_
 refine ME (V := fun _ => .slice none 0 0) (fun W hS => rdcall (i := 0) (j := 1) hS rfl rfl (fun hr => take_no p _ _ 8 _ h W hr)) ?_
 rintro ⟨w1, hs_w1⟩
 dsimp only
 refine MD 2 ?_
 refine MW ?_ (v := .int .i64 0)
 refine MW ?_ (v := .int .i64 0)
 refine MZ fun W hS => ?_
 go_wp2_with fail
 refine wp_loop_rounds 1 ?_
 rw [rounds_succ]
 go_wp2
 exact bodyPost_ret (v := .int .i64 0) (by simp only [results, Try.results40]; first | (go_simp; done) | (go_simp; rfl)) rfl ⟨rfl, _, rdr_of hrd (hS.pick [1, 0]) hs_w1⟩
theorem run_copyN {W : World} {o : Oper} {a : Act} {x y : Operand} {ad : Addr} {n c : Nat} (ho : o.op = .call { callee := .builtin .copy, args := #[x, y], argTypes := #[26, 26] }) (hx : a.eval x = .slice (some ad) n c) (hy : a.eval y = .slice none 0 0) : (execOp a.eval o).run Try.prog W = .ok (.value (.int .i64 0)) W := by
 have h := run_copy_nil Try.prog W 26 26 o.type 5 ad n c Try.underlying26 (by have h0 := u8_size; cases hq : Try.prog.info? 5 with | none => rw [hq] at h0; cases h0 | some i => rfl)
 unfold execOp
 simp only [ho, resolve, invoke, builtin, Sem.run_bind, Sem.run_pure, Result.andThen_ok, List.map_toArray, List.map_cons, List.map_nil, hx, hy, h]
 rfl
theorem rsum_no (p : Nat) (v : Value) (l : List UInt8) (e0 : Int) (h : e0 ≠ 0 ∨ l.length < 32) (w : World) (hrd : Rdr w p v l e0) :
  Calls Try.prog 39 #[.pointer (some ⟨p, 0, none⟩)] w fun e w' => e = .returned (.agg (arrK .u8 32 (byt 0))) ∧ ∃ v', RdTo w p v l l (noE e0) v' w' := by
 have hS := rdr_sh hrd
 go_enter Try.func39, Try.ntmps39
 go_upto_region 0 with fail
 refine RL hS ?_
 clear hS
 refine MN (z := arrK .u8 32 (byt 0)) (t := 27) ?_
 intro p2_1
 refine MZ fun W hS => ?_
 go_upto_region 1 with fail
 refine RL hS ?_
 clear hS
 refine MN (z := arrK .u8 32 (byt 0)) (t := 27) ?_
 intro p3_2
 refine MZ fun W hS => ?_
 go_upto_region 2 with fail
 refine RTp [1] (.q 0 (.q 1 (.e 2 (.e 3 .z)))) hS ?_
 clear hS
 refine TW ?_ (v := .slice (some ⟨p3_2, 0, none⟩) 32 32)
 refine TV ?_
 refine TE (fun _ h => h.pick [1]) ?_
 refine ME (V := fun _ => .slice none 0 0) (fun W hS => rdcall (i := 2) (j := 3) hS rfl rfl (fun hr => take_no p _ _ 32 _ h W hr)) ?_
 rintro ⟨w3, hs_w3⟩
 dsimp only
 refine MD 4 ?_
 refine TNp [0, 2] [1] ?_
 refine TE (fun _ h => h.pick [0, 2]) ?_
 refine MW ?_ (v := .int .i64 0) (hv := fun _ => run_copyN rfl rfl rfl)
 refine TNp [0, 2] [0, 1] ?_
 refine TZ (fun _ h => h.pick [0, 2]) fun W hS => ?_
 go_upto_region 3 with fail
 refine RL hS ?_
 clear hS
 refine ML 1 ?_
 refine MR 2 ?_ 
 refine MZ fun W hS => ?_
 go_wp2
 exact bodyPost_ret (res_row rfl rfl (hS.blk (i := 2) rfl) (by kernel_rfl) (by rw [arrK_size]; kernel_rfl)) rfl ⟨rfl, _, rdr_of hrd (hS.pick [3, 0]) hs_w3⟩
end Go.Proofs.Ytlbgelbhhibikaa

set_option linter.unusedSimpArgs false
set_option linter.unusedVariables false
namespace Go.Proofs.Ytlbgelbhhibikaa
set_option maxHeartbeats 1500000
set_option maxRecDepth 100000
open Go.RowKit
attribute [local irreducible] wpList wpTr wpX
set_option linter.unusedSimpArgs false
/-- what is left, and what was wrong -/
abbrev RSt := List UInt8 × Int
/-- are so many bytes there? -/
def okS (n : Nat) (s : RSt) : Prop := s.2 = 0 ∧ n ≤ s.1.length
instance (n : Nat) (s : RSt) : Decidable (okS n s) := by unfold okS; exact inferInstance
/-- behind a part of so many bytes -/
def tkS (n : Nat) (s : RSt) : RSt := if okS n s then (s.1.drop n, 0) else (s.1, noE s.2)
/-- a number of bytes, the highest first -/
def beN (bs : List UInt8) : Nat := bs.foldl (fun n b => n * 256 + b.toNat) 0
def byV (s : RSt) : Nat := if okS 1 s then (s.1.headD 0).toNat else 0
def flV (s : RSt) : Bool := decide (byV s = 1)
def flS (s : RSt) : RSt := if 1 < byV s then ((tkS 1 s).1, 2) else tkS 1 s
def nuV (s : RSt) : Int := if okS 8 s then IntKind.wrap .i64 (beN (s.1.take 8) : Int) else 0
def suV (s : RSt) : Nat := if okS 32 s then le (s.1.take 32) else 0
def enV (s : RSt) : Int := if s.2 = 0 ∧ s.1 ≠ [] then 4 else s.2
theorem not_ok {n : Nat} {s : RSt} (h : ¬ okS n s) : s.2 ≠ 0 ∨ s.1.length < n := by
 unfold okS at h
 by_cases h0 : s.2 = 0
 ·
  exact .inr (Nat.lt_of_not_le fun h1 => h ⟨h0, h1⟩)
 ·
  exact .inl h0
theorem beN8 {bs : List UInt8} (h : bs.length = 8) : be8 (beN bs) = bs ∧ beN bs < 18446744073709551616 := by
 match bs, h with
 | [a, b, c, d, e, f, g, i], _ =>
  have ha := a.toNat_lt; have hb := b.toNat_lt; have hc := c.toNat_lt; have hd := d.toNat_lt; have he := e.toNat_lt; have hf := f.toNat_lt; have hg := g.toNat_lt; have hi := i.toNat_lt
  have hX : beN [a, b, c, d, e, f, g, i] = ((((((((0 * 256 + a.toNat) * 256 + b.toNat) * 256 + c.toNat) * 256 + d.toNat) * 256 + e.toNat) * 256 + f.toNat) * 256 + g.toNat) * 256 + i.toNat) := rfl
  rw [hX]
  have key : ∀ (x : UInt8) (n : Nat), n % 256 = x.toNat → u8 n = x := fun x n h => by apply UInt8.toNat_inj.1; rw [u8_nat, h]
  refine ⟨?_, by omega⟩
  unfold be8
  rw [key a _ (by omega), key b _ (by omega), key c _ (by omega), key d _ (by omega), key e _ (by omega), key f _ (by omega), key g _ (by omega), key i _ (by omega)]
theorem beN_be8 {X : Nat} (h : X < 18446744073709551616) : beN (be8 X) = X := be8_val X h
theorem bs8_arrL {S : List UInt8} (h : S.length = 32) : (bs8 S).toArray = arrK .u8 32 (byt (le S)) := by
 have e := lb_le' h
 rw [show bs8 S = bs8 (lb 32 (le S)) by rw [e], bs8_lb, ← arrK_list]
theorem le32_lt {S : List UInt8} (h : S.length = 32) : le S < 2 ^ 256 := by have := le_lt S; rwa [h] at this
theorem suV_lt (s : RSt) : suV s < 2 ^ 256 := by
 unfold suV
 split
 ·
  rename_i h
  exact le32_lt (by rw [List.length_take]; exact Nat.min_eq_left h.2)
 ·
  exact Nat.two_pow_pos _

theorem rflag_big (p : Nat) (v : Value) (c : UInt8) (r : List UInt8) (hc : 1 < c.toNat) (hlen : (c :: r).length < 140737488000000) (w : World) (hrd : Rdr w p v (c :: r) 0) :
  Calls Try.prog 65 #[.pointer (some ⟨p, 0, none⟩)] w fun e w' => e = .returned (.bool false) ∧ ∃ v', RdTo w p v (c :: r) r 2 v' w' := by
 have hS := rdr_sh hrd
 go_enter Try.func65, Try.ntmps65
 go_upto_region 1 with fail
 refine RL hS ?_
 clear hS
 refine MV ?_
 refine ME (V := fun _ => .int .i64 (c.toNat : Int)) (fun W hS => rdcall (i := 0) (j := 1) hS rfl rfl (fun hr => rbyte_ok p _ c r W hr hlen)) ?_
 rintro ⟨w1, hs_w1⟩
 dsimp only
 refine MD 2 ?_
 refine MV ?_
 refine MZ fun W hS => ?_
 go_upto_region 2 with fail
 refine RL hS ?_
 clear hS
 refine MV ?_
 refine MW ?_ (v := .bool true) (hv := by intro W; go_simp; (try omega))
 refine MZ fun W hS => ?_
 go_upto_region 3 with fail
 refine RL hS ?_
 clear hS
 refine MV ?_
 refine MV ?_
 refine MV ?_
 refine MP 1 (v := .int .i64 2) ?_
 refine MZ fun W hS => ?_
 go_upto_region 4 with fail
 refine RL hS ?_
 clear hS
 refine MV ?_
 refine MW ?_ (v := .bool false) (hv := by intro W; go_simp; (try omega))
 refine MW ?_ (v := .bool false)
 refine MZ fun W hS => ?_
 go_wp2
 exact bodyPost_ret (v := .bool false) (by simp only [results, Try.results65]; first | (go_simp; done) | (go_simp; rfl)) rfl ⟨rfl, _, rdr_of hrd (hS.pick [1, 0]) hs_w1⟩
theorem rend_e (p : Nat) (v : Value) (l : List UInt8) (e0 : Int) (he : e0 ≠ 0) (w : World) (hrd : Rdr w p v l e0) :
  Calls Try.prog 61 #[.pointer (some ⟨p, 0, none⟩)] w fun e w' => Ret (.int .i64 e0) w w' e := by
 have hS := SH.nil [] w
 go_enter Try.func61, Try.ntmps61
 go_upto_region 3 with fail
 refine RL hS ?_
 clear hS
 refine MV ?_
 refine MV ?_
 refine MV ?_
 refine MF (v := .int .i64 e0) (fun W hS => run_at rfl rfl (by rw [blk_cell (blk_step hrd.1 hS.ext)]; rfl) (by kernel_rfl)) ?_
 refine MW ?_ (v := .bool false) (hv := by intro W; go_simp; first | done | exact he | (simp [he]))
 refine MW ?_ (v := .bool false)
 refine MS ?_
 refine MS ?_
 refine MS ?_
 refine MS ?_
 refine MS ?_
 refine MS ?_
 refine MW ?_ (v := .bool false)
 refine MW ?_ (v := .bool false)
 refine MZ fun W hS => ?_
 go_upto_region 5 with fail
 refine RL hS ?_
 clear hS
 refine MV ?_
 refine MV ?_
 refine MV ?_
 refine MF (v := .int .i64 e0) (fun W hS => run_at rfl rfl (by rw [blk_cell (blk_step hrd.1 hS.ext)]; rfl) (by kernel_rfl)) ?_
 refine MV ?_
 refine MZ fun W hS => ?_
 go_wp2
 exact bodyPost_ret (v := .int .i64 e0) (by simp only [results, Try.results61]; first | (go_simp; done) | (go_simp; rfl)) rfl ⟨rfl, hS.ext⟩
section
variable {p : Nat} {v : Value} {s : RSt} {w : World}
theorem rbyte_t (hrd : Rdr w p v s.1 s.2) (hlen : s.1.length < 140737488000000) : Calls Try.prog 37 #[.pointer (some ⟨p, 0, none⟩)] w fun e w' => e = .returned (.int .i64 (byV s : Int)) ∧ ∃ v', RdTo w p v s.1 (tkS 1 s).1 (tkS 1 s).2 v' w' := by
 obtain ⟨l, e0⟩ := s
 unfold byV tkS
 by_cases h : okS 1 (l, e0)
 ·
  rw [if_pos h, if_pos h]
  obtain ⟨h0, h1⟩ := h
  obtain rfl : e0 = 0 := h0
  match l, h1 with
  | c :: r, _ => exact rbyte_ok p v c r w hrd hlen
 ·
  rw [if_neg h, if_neg h]
  exact rbyte_no p v l e0 (not_ok h) w hrd
theorem rflag_t (hrd : Rdr w p v s.1 s.2) (hlen : s.1.length < 140737488000000) : Calls Try.prog 65 #[.pointer (some ⟨p, 0, none⟩)] w fun e w' => e = .returned (.bool (flV s)) ∧ ∃ v', RdTo w p v s.1 (flS s).1 (flS s).2 v' w' := by
 obtain ⟨l, e0⟩ := s
 unfold flV flS byV tkS
 by_cases h : okS 1 (l, e0)
 ·
  rw [if_pos h, if_pos h]
  obtain ⟨h0, h1⟩ := h
  obtain rfl : e0 = 0 := h0
  match l, h1 with
  | c :: r, _ =>
   show Calls _ _ _ _ fun e w' => e = .returned (.bool (decide (c.toNat = 1))) ∧ ∃ v', RdTo w p v (c :: r) (if 1 < c.toNat then (r, 2) else (r, 0) : RSt).1 (if 1 < c.toNat then (r, 2) else (r, 0) : RSt).2 v' w'
   have hu : ∀ n, c.toNat = n → c = u8 n := fun n h => by apply UInt8.toNat_inj.1; rw [u8_nat, h]; have := c.toNat_lt; omega
   by_cases hc : 1 < c.toNat
   ·
    rw [if_pos hc, decide_eq_false (by omega)]
    exact rflag_big p v c r hc hlen w hrd
   ·
    rw [if_neg hc]
    by_cases hc1 : c.toNat = 1
    ·
     rw [decide_eq_true hc1]
     rw [hu 1 hc1] at hrd hlen ⊢
     exact rflag_1 p v r w hrd hlen
    ·
     rw [decide_eq_false hc1]
     have hc0 : c.toNat = 0 := by omega
     rw [hu 0 hc0] at hrd hlen ⊢
     exact rflag_0 p v r w hrd hlen
 ·
  rw [if_neg h, if_neg h]
  exact rflag_no p v l e0 (not_ok h) w hrd
theorem rnum_t (hrd : Rdr w p v s.1 s.2) (hlen : s.1.length < 140737488000000) : Calls Try.prog 40 #[.pointer (some ⟨p, 0, none⟩)] w fun e w' => e = .returned (.int .i64 (nuV s)) ∧ ∃ v', RdTo w p v s.1 (tkS 8 s).1 (tkS 8 s).2 v' w' := by
 obtain ⟨l, e0⟩ := s
 unfold nuV tkS
 by_cases h : okS 8 (l, e0)
 ·
  rw [if_pos h, if_pos h]
  obtain ⟨h0, h1⟩ := h
  obtain rfl : e0 = 0 := h0
  obtain ⟨h2, h3⟩ := beN8 (bs := l.take 8) (by rw [List.length_take]; exact Nat.min_eq_left h1)
  have h4 : be8 (beN (l.take 8)) ++ l.drop 8 = l := by rw [h2, List.take_append_drop]
  have := rnum_ok p v (beN (l.take 8)) h3 (l.drop 8) w (by rw [h4]; exact hrd) (by rw [h4]; exact hlen)
  rw [h4] at this
  exact this
 ·
  rw [if_neg h, if_neg h]
  exact rnum_no p v l e0 (not_ok h) w hrd
theorem rsum_t (hrd : Rdr w p v s.1 s.2) (hlen : s.1.length < 140737488000000) : Calls Try.prog 39 #[.pointer (some ⟨p, 0, none⟩)] w fun e w' => e = .returned (.agg (arrK .u8 32 (byt (suV s)))) ∧ ∃ v', RdTo w p v s.1 (tkS 32 s).1 (tkS 32 s).2 v' w' := by
 obtain ⟨l, e0⟩ := s
 unfold suV tkS
 by_cases h : okS 32 (l, e0)
 ·
  rw [if_pos h, if_pos h]
  obtain ⟨h0, h1⟩ := h
  obtain rfl : e0 = 0 := h0
  have h2 : (l.take 32).length = 32 := by rw [List.length_take]; exact Nat.min_eq_left h1
  have h4 : l.take 32 ++ l.drop 32 = l := List.take_append_drop ..
  have := rsum_ok p v (l.take 32) (l.drop 32) h2 w (by rw [h4]; exact hrd) (by rw [h4]; exact hlen)
  rw [h4, bs8_arrL h2] at this
  exact this
 ·
  rw [if_neg h, if_neg h]
  exact rsum_no p v l e0 (not_ok h) w hrd
theorem rend_t (hrd : Rdr w p v s.1 s.2) : Calls Try.prog 61 #[.pointer (some ⟨p, 0, none⟩)] w fun e w' => Ret (.int .i64 (enV s)) w w' e := by
 obtain ⟨l, e0⟩ := s
 unfold enV
 by_cases h0 : e0 = 0
 ·
  subst h0
  match l with
  | [] => rw [if_neg (by simp)]; exact rend_ok p v w hrd
  | c :: r => rw [if_pos ⟨rfl, by simp⟩]; exact rend_tail p v c r w hrd
 ·
  rw [if_neg (fun h => h0 h.1)]
  exact rend_e p v l e0 h0 w hrd
end
theorem tkS_len (n : Nat) (s : RSt) : (tkS n s).1.length ≤ s.1.length := by
 unfold tkS
 split
 ·
  rw [List.length_drop]; omega
 ·
  exact Nat.le_refl _
theorem flS_len (s : RSt) : (flS s).1.length ≤ s.1.length := by
 unfold flS
 split
 ·
  exact tkS_len 1 s
 ·
  exact tkS_len 1 s
end Go.Proofs.Ytlbgelbhhibikaa

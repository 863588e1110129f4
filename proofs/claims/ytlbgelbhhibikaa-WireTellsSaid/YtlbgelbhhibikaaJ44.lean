/- The law's answers have the bytes that are told of them. Conditions: as told in each. WireTold. Conditions: none. -/
import Derived.Test.YtlbgelbhhibikaaYq
import Derived.Test.YtlbgelbhhibikaaYl
import Derived.Test.YtlbgelbhhibikaaJ42
set_option linter.unusedSimpArgs false
set_option linter.unusedVariables false
namespace Go.Proofs.Ytlbgelbhhibikaa.Ww
open Go.RowKit
set_option linter.unusedSimpArgs false
theorem ensB_A (nu : Int) (u : Value) (tx : List UInt8) (n : Nat) : ensB (enA nu u tx n) false = !(decide (n = 0) || decide (tx.length ≤ 64)) := by
  induction n with
  | zero => rfl
  | succ n ih =>
    show ensB (enA nu u tx n ++ [_]) false = _
    rw [ensB_snoc, ih]
    show txB 64 tx _ = _
    unfold txB
    by_cases h : tx.length ≤ 64
    · rw [if_neg (by omega), decide_eq_true h]; simp
    · rw [if_pos (by omega), decide_eq_false h, decide_eq_false (by omega)]; rfl
theorem enX_app : ∀ (q : List En) (y : En) (r : List UInt8), enX (q ++ [y]) r = enX q (eI y.ep ++ (eI y.ver ++ (tB y.val ++ r))) := by
  intro q
  induction q with
  | nil => intro y r; rfl
  | cons x q ih => intro y r; show eI x.ep ++ (eI x.ver ++ (tB x.val ++ enX (q ++ [y]) r)) = _; rw [ih]; rfl
theorem enX_A (nu : Int) (u : Value) (tx : List UInt8) (n : Nat) : ∀ r, enX (enA nu u tx n) r = enS nu tx n ++ r := by
  induction n with
  | zero => intro r; rfl
  | succ n ih =>
    intro r
    show enX (enA nu u tx n ++ [_]) r = (enS nu tx n ++ _) ++ r
    rw [enX_app, ih]
    simp only [List.append_assoc]
/-- what the parts are -/
structure wfT (t : Tp) : Prop where
  k0 : 0 ≤ t.k
  k9 : t.k ≤ 12
  er : t.er = 0
  f : wfF t.f
  fs : t.f.ss.length ≤ 258
  ss : t.ss.length ≤ 258
  ssb : ∀ y ∈ t.ss, y < 2 ^ 256
  sg : t.sg.length = 64
  tx : t.tx.length ≤ 100
theorem wfT.un {t : Tp} (h : wfT t) : wfU t.un := by
  obtain ⟨_, _, _, ⟨_, _, ⟨h1, h2, h3⟩, _⟩, _, _, hs, hg, _⟩ := h
  refine ⟨?_, h1, h2, h3, hs⟩
  have h4 := le_lt (t.sg.take 64)
  rw [List.length_take, hg, show min 64 64 = 64 from rfl] at h4
  show le (t.sg.take 64) < 2 ^ (8 * 64)
  exact h4
theorem wfT.sig {t : Tp} (h : wfT t) : lb 64 (le (t.sg.take 64)) = t.sg := by
  have h4 : (t.sg.take 64).length = 64 := by rw [List.length_take, h.sg]; rfl
  rw [lb_le' h4, List.take_of_length_le (by rw [h.sg]; exact Nat.le_refl _)]
theorem few_B {t : Tp} {b : Bool} : unB t.un b = !(!b && t.few) := by
  unfold unB smB Tp.few
  by_cases h1 : 256 < t.ss.length
  · rw [if_pos h1, decide_eq_false (by omega)]; cases b <;> rfl
  · rw [if_neg h1, decide_eq_true (by omega)]
    by_cases h2 : 256 < t.f.ss.length
    · rw [if_pos h2, decide_eq_false (by omega)]; cases b <;> rfl
    · rw [if_neg h2, decide_eq_true (by omega)]; cases b <;> rfl
theorem unX_S {t : Tp} (h : wfT t) : unX t.un [] = t.unS := by
  unfold unX
  show pB t.f.ss t.f.th t.f.a t.f.x ++ (eI t.nu ++ (lb 32 t.sm ++ (tB (lb 64 (le (t.sg.take 64))) ++ (lb 32 t.sm ++ (sB t.ss ++ []))))) = _
  rw [h.sig, List.append_nil]
  show _ = pB t.f.ss t.f.th t.f.a t.f.x ++ eI t.nu ++ lb 32 t.sm ++ tB t.sg ++ lb 32 t.sm ++ sB t.ss
  simp only [List.append_assoc]
theorem u8_b (b : Bool) : u8 (if b = true then 1 else 0) = if b = true then 1 else 0 := by cases b <;> rfl
/-- what is told of the parts is what is written of them -/
theorem tp_an {t : Tp} (h : wfT t) (x : Value) : anB (t.A x) = !t.O ∧ (t.O = true → t.hd ++ anX (t.A x) [] = t.S) ∧ wfA (t.A x) ∧ lenA (t.A x) ∧ (t.A x).k = t.k ∧ (t.A x).er = t.er := by
  have hu := h.un
  have hn : ∀ {n : Nat}, n ≤ 258 → n ≤ 1000000 := fun h => by omega
  have z : ([] : List Nat).length ≤ 1000000 := by decide
  have z2 : ([] : List En).length ≤ 1000000 := by decide
  have z3 : ([] : List Mrk).length ≤ 1000000 := by decide
  by_cases h1 : t.k = 1
  · obtain ⟨ea, es, eo⟩ := tp_1 (x := x) h1
    rw [ea, es, eo, anX_1 h1, anB_1 h1]
    exact ⟨rfl, fun _ => by rw [List.append_nil], ⟨zF_wf, zU_wf, nolt rfl, nolt rfl⟩, ⟨z, z, z, z, z2, z3, z⟩, rfl, rfl⟩
  by_cases h2 : t.k = 10
  · obtain ⟨ea, es, eo⟩ := tp_10 (x := x) h2
    rw [ea, es, eo, anX_10 h2, anB_10 h2]
    exact ⟨rfl, fun _ => by rw [List.append_nil], ⟨zF_wf, zU_wf, nolt rfl, nolt rfl⟩, ⟨z, z, z, z, z2, z3, z⟩, rfl, rfl⟩
  by_cases h3 : t.k = 6
  · obtain ⟨ea, es, eo⟩ := tp_6 (x := x) h3
    rw [ea, es, eo, anX_6 h3, anB_6 h3]
    have hd := df_eq t.f
    refine ⟨?_, fun ho => ?_, ⟨h.f, hu, h.ssb, nolt rfl⟩, ⟨hn h.fs, hn h.ss, hn h.fs, hn h.ss, z2, z3, z⟩, rfl, rfl⟩
    · show unB t.un (smB t.ss (foB t.f false)) = _
      rw [few_B, hd.1]
      unfold smB
      by_cases h1 : 256 < t.ss.length
      · rw [if_pos h1]
        have : t.few = false := by unfold Tp.few; rw [decide_eq_false (by omega)]; rfl
        rw [this]; simp
      · rw [if_neg h1]
    · rw [Bool.and_eq_true] at ho
      have hb : foB t.f false = false := by have h9 := hd.1; rw [ho.1] at h9; simpa using h9.symm
      show t.hd ++ (foL t.f [] ++ (lb 32 t.sm ++ (sB t.ss ++ unX t.un []))) = _
      rw [unX_S h, hd.2 hb]
      simp only [List.append_assoc]
  by_cases h4 : t.k = 7
  · obtain ⟨ea, es, eo⟩ := tp_7 (x := x) h4
    rw [ea, es, eo, anX_7 h4, anB_7 h4]
    refine ⟨?_, fun ho => ?_, ⟨zF_wf, zU_wf, nolt rfl, nolt rfl⟩, ⟨z, z, z, z, by show (enA _ _ _ _).length ≤ _; rw [enA_len]; exact hn h.ss, z3, z⟩, rfl, rfl⟩
    · show esB (enA t.nu x t.tx t.ss.length) false = _
      unfold esB
      rw [enA_len, if_neg (by have := h.ss; omega), ensB_A]
    · show t.hd ++ (be8 (enA t.nu x t.tx t.ss.length).length ++ enX (enA t.nu x t.tx t.ss.length) []) = _
      rw [enX_A, enA_len, be8_eI (by have := h.ss; omega), List.append_nil]
      simp only [List.append_assoc]
  by_cases h5 : t.k = 8
  · obtain ⟨ea, es, eo⟩ := tp_8 (x := x) h5
    rw [ea, es, eo, anX_8 h5, anB_8 h5]
    refine ⟨?_, fun ho => ?_, ⟨zF_wf, zU_wf, nolt rfl, nolt rfl⟩, ⟨z, z, z, z, z2, by show (mkA _ _ _).length ≤ _; rw [mkA_len]; exact hn h.ss, z⟩, rfl, rfl⟩
    · show mksB (mkA t.nu t.sm t.ss) false = _
      unfold mksB rwB
      rw [mkA_len, if_neg (by have := h.ss; omega)]; rfl
    · show t.hd ++ (be8 (mkA t.nu t.sm t.ss).length ++ (((mkA t.nu t.sm t.ss).map mkB).flatten ++ [])) = _
      rw [mkA_len, be8_eI (by have := h.ss; omega), List.append_nil]
      unfold mkS
      simp only [List.append_assoc]
  by_cases h6 : t.k = 9
  · obtain ⟨ea, es, eo⟩ := tp_9 (x := x) h6
    rw [ea, es, eo, anX_9 h6, anB_9 h6]
    refine ⟨txB_no.2 ⟨by have := h.tx; show (t.tx.length : Int) ≤ 65535; omega, rfl⟩, fun _ => by rw [List.append_nil], ⟨zF_wf, zU_wf, nolt rfl, nolt rfl⟩, ⟨z, z, z, z, z2, z3, z⟩, rfl, rfl⟩
  by_cases h7 : t.k = 11
  · obtain ⟨ea, es, eo⟩ := tp_11 (x := x) h7
    rw [ea, es, eo, anX_11 h7, anB_11 h7]
    refine ⟨?_, fun ho => ?_, ⟨zF_wf, hu, nolt rfl, nolt rfl⟩, ⟨z, z, hn h.fs, hn h.ss, z2, z3, z⟩, rfl, rfl⟩
    · show unB t.un (txB 16 t.tx false) = _
      rw [few_B]
      have e : txB 16 t.tx false = !decide (t.tx.length ≤ 16) := by
        unfold txB
        by_cases h1 : t.tx.length ≤ 16
        · rw [if_neg (by omega), decide_eq_true h1]; rfl
        · rw [if_pos (by omega), decide_eq_false h1]; rfl
      rw [e, Bool.not_not]
    · show t.hd ++ (tB t.tx ++ ((if t.gone = true then 1 else 0) :: (eI t.nu ++ (lb 32 t.sm ++ unX t.un [])))) = _
      rw [unX_S h, u8_b]
      simp only [List.append_assoc, List.cons_append, List.nil_append]
  by_cases h8 : t.k = 12
  · obtain ⟨ea, es, eo⟩ := tp_12 (x := x) h8
    rw [ea, es, eo, anX_12 h8, anB_12 h8]
    refine ⟨?_, fun ho => ?_, ⟨zF_wf, zU_wf, nolt rfl, h.ssb⟩, ⟨z, z, z, z, z2, z3, hn h.ss⟩, rfl, rfl⟩
    · show smB t.ss false = _
      unfold smB
      by_cases h1 : 256 < t.ss.length
      · rw [if_pos h1, decide_eq_false (by omega)]; rfl
      · rw [if_neg h1, decide_eq_true (by omega)]; rfl
    · show t.hd ++ (lb 32 t.sm ++ (sB t.ss ++ [])) = _
      rw [List.append_nil]
      simp only [List.append_assoc]
  · have hno : noK t.k := ⟨h1, h2, h3, h4, h5, h6, h7, h8⟩
    obtain ⟨ea, es, eo⟩ := tp_o (x := x) hno
    rw [ea, es, eo]
    refine ⟨?_, fun ho => ?_, ⟨zF_wf, zU_wf, nolt rfl, nolt rfl⟩, ⟨z, z, z, z, z2, z3, z⟩, rfl, rfl⟩
    · unfold anB
      simp only [if_neg h3, if_neg h4, if_neg h5, if_neg h6, if_neg h7, if_neg h8]; rfl
    · unfold anX
      simp only [if_neg h1, if_neg h2, if_neg h3, if_neg h4, if_neg h5, if_neg h6, if_neg h7, if_neg h8, List.append_nil]
/-- what an answer is, and the document's bytes of it -/
structure AnsW (a : An) (S : List UInt8) (O : Bool) : Prop where
  b : telB a = !O
  l : O = true → telL a = S
  wf : wfA a
  len : lenA a
theorem tp_W {t : Tp} (h : wfT t) (x : Value) : AnsW (t.A x) t.S t.O := by
  obtain ⟨h1, h2, h3, h4, h5, h6⟩ := tp_an h x
  have hK : telK (t.A x) := by unfold telK; rw [h5, h6, h.er]; have := h.k0; have := h.k9; omega
  have he : (t.A x).er = 0 := by rw [h6, h.er]
  refine ⟨?_, fun ho => ?_, h3, h4⟩
  · unfold telB; rw [if_pos hK, if_pos he, h1]
  · have hb : anB (t.A x) = false := by rw [h1, ho]; rfl
    have := an_app (l := [u8 (t.A x).k.toNat, u8 (t.A x).er.toNat]) (r := []) hb
    rw [List.append_nil] at this
    unfold telL
    rw [if_pos he, this, h5, h6]
    exact h2 ho
theorem zA_W {k er : Int} (h : ¬ ((0 ≤ k ∧ k ≤ 12) ∧ 0 ≤ er ∧ er ≤ 255)) : AnsW (zA k er) [] false :=
  ⟨by unfold telB; rw [if_neg h]; rfl, fun h => (by cases h), ⟨zF_wf, zU_wf, nolt rfl, nolt rfl⟩, ⟨Nat.zero_le _, Nat.zero_le _, Nat.zero_le _, Nat.zero_le _, Nat.zero_le _, Nat.zero_le _, Nat.zero_le _⟩⟩
theorem zE_W {k er : Int} (h : (0 ≤ k ∧ k ≤ 12) ∧ 0 ≤ er ∧ er ≤ 255) (he : er ≠ 0) : AnsW (zA k er) ([u8 k.toNat] ++ [u8 er.toNat]) true :=
  ⟨by unfold telB; rw [if_pos (show telK (zA k er) from h), if_neg (show ¬ (zA k er).er = 0 from he)]; rfl, fun _ => by unfold telL; rw [if_neg (show ¬ (zA k er).er = 0 from he)]; rfl, ⟨zF_wf, zU_wf, nolt rfl, nolt rfl⟩, ⟨Nat.zero_le _, Nat.zero_le _, Nat.zero_le _, Nat.zero_le _, Nat.zero_le _, Nat.zero_le _, Nat.zero_le _⟩⟩
/-- answer -/
theorem answer_c {k er nu : Int} {d : Do} {sm : Nat} {gone : Bool} {us : List Nat} {tb : List UInt8} {sv uv tv u10 : Value} (hw : wfF (szD d)) (hub : ∀ y ∈ us, y < 2 ^ 256) (w : World) (hsm : RR 32 w sv (d.ss.map b32l)) (hum : RR 32 w uv (us.map b32l)) (htv : Sl w tv tb)
    (hu10 : ∀ W, (Instr.sliceAt 48 sv none (some (.int .i64 ((min d.ss.length 258 : Nat) : Int))) none).run Try.prog W = .ok u10 W) (hR : RR 32 w u10 ((szD d).ss.map b32l)) :
    Calls Try.prog 23 #[.agg (toF k er nu d sm gone sv uv tv)] w fun e w' => ∃ (a : An) (S : List UInt8) (O : Bool), AnsW a S O ∧ AnsR (fbR u10 ((szD d).ss.map b32l)) a S O w w' e := by
  have hn := szD_ss d
  have hv := szD_val d
  have hsl : (us.take 258).length ≤ 258 := by rw [List.length_take]; omega
  have htl : (List.take (min tb.length 100) tb).length ≤ 100 := by rw [List.length_take]; omega
  have hgl : (lb 32 sm ++ lb 32 sm).length = 64 := by rw [List.length_append, lb_length]
  refine (ans_c (k := k) (er := er) (nu := nu) (gone := gone) rfl rfl rfl rfl hw hn hv w hsm hum htv hu10 hR).mono fun e w' ⟨x, h⟩ => ⟨_, _, _, ?_, h⟩
  by_cases hok : (0 ≤ k ∧ k ≤ 12) ∧ 0 ≤ er ∧ er ≤ 255
  · by_cases he : er = 0
    · have hT : wfT ⟨k, er, nu, szD d, sm, us.take 258, lb 32 sm ++ lb 32 sm, List.take (min tb.length 100) tb, gone⟩ :=
        ⟨hok.1.1, hok.1.2, he, hw, hn, hsl, fun y hy => hub y (List.mem_of_mem_take hy), hgl, htl⟩
      obtain ⟨e1, e2, e3⟩ := t2_ok (t := ⟨k, er, nu, szD d, sm, us.take 258, lb 32 sm ++ lb 32 sm, List.take (min tb.length 100) tb, gone⟩) (x := x) hok he
      rw [e1, e2, e3]; exact tp_W hT x
    · obtain ⟨e1, e2, e3⟩ := t2_e (t := ⟨k, er, nu, szD d, sm, us.take 258, lb 32 sm ++ lb 32 sm, List.take (min tb.length 100) tb, gone⟩) (x := x) hok he
      rw [e1, e2, e3]; exact zE_W hok he
  · obtain ⟨e1, e2, e3⟩ := t2_none (t := ⟨k, er, nu, szD d, sm, us.take 258, lb 32 sm ++ lb 32 sm, List.take (min tb.length 100) tb, gone⟩) (x := x) hok
    rw [e1, e2, e3]; exact zA_W hok
/-- bounds of an answer's bytes -/
theorem anL_le (a : An) (l : List UInt8) : (anL a l).length ≤ l.length + 100000 := by
  have t1 := txL_le (most := 65535) (m := 65535) (t := a.bun) (l := l) rfl
  have t2 := foL_le (f := a.f) (l := l)
  have t3 := smL_le (ss := a.lat) (l := foL a.f l ++ lb 32 a.pub)
  have t4 := unL_le (u := a.u) (l := smL a.lat (foL a.f l ++ lb 32 a.pub))
  have t5 := esL_le (q := a.en) (l := l)
  have t6 := mksL_le (ms := a.mks) (l := l)
  have t7 := mbL_le (m := a.m) (l := l)
  have t8 := unL_le (u := a.u) (l := mbL a.m l)
  have t9 := smL_le (ss := a.su) (l := l ++ lb 32 a.lo)
  unfold anL
  simp only [List.length_append, lb_length] at t3 t9
  repeat' split
  all_goals (try simp only [List.length_append, eI_len]); omega
theorem telL_le (a : An) : (telL a).length ≤ 200000 := by
  have := anL_le a [u8 a.k.toNat, u8 a.er.toNat]
  unfold telL
  split
  · simp only [List.length_cons, List.length_nil] at this; omega
  · simp
theorem telL_pos (a : An) (h : telB a = false) (hw : wfA a) : 0 < (telL a).length := by
  refine Nat.pos_of_ne_zero fun h0 => ?_
  have h1 := (told_fwd h hw []).1
  have h2 := List.eq_nil_of_length_eq_zero h0
  rw [h2] at h1
  have h3 : toldO ([] ++ []) = false := by decide
  rw [h3] at h1; cases h1
end Go.Proofs.Ytlbgelbhhibikaa.Ww

set_option linter.unusedSimpArgs false
set_option linter.unusedVariables false
namespace Go.Proofs.Ytlbgelbhhibikaa.Ww
set_option maxHeartbeats 6000000
set_option maxRecDepth 100000
open Go.RowKit
attribute [local irreducible] wpList wpTr wpX
set_option linter.unusedSimpArgs false
attribute [local irreducible] lb be8 eI tB txL txB dtx dok pB telL telB toldA toldO

end Go.Proofs.Ytlbgelbhhibikaa.Ww

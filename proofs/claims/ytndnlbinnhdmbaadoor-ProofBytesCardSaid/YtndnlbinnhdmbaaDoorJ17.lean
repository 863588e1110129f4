/- The way of a key in a tree; a key's value. Conditions: the tree is not too large. A key's value; TreeStays. Conditions: keys and values have 256 bits; the tables hold their numbers. TreeStays. Conditions: keys and values have 256 bits; the tables hold their numbers. -/
import Derived.Test.YtndnlbinnhdmbaaDoorJ16
set_option linter.unusedSimpArgs false
set_option linter.unusedVariables false
namespace Go.Proofs.YtndnlbinnhdmbaaDoor
set_option maxHeartbeats 3000000
set_option maxRecDepth 100000
open Go.RowKit
attribute [local irreducible] wpList wpTr wpX
set_option linter.unusedSimpArgs false
theorem res_c3 {P : Program} {fn : Func} {p q r : Tmp} {ty t : TypeId} {tmps : Array Value} {w : World} {g : Nat} {cs : Array Value} {v u : Value} (h : fn.results = #[.cell p ty, .tmp q, .tmp r])
  (hp : tmps.getD p undef = .pointer (some ⟨g, 0, none⟩)) (hq : tmps.getD q undef = v) (hr : tmps.getD r undef = u) (hB : Blk w g cs t) (hk : (P.underlying ty).map TypeDesc.isRow = some true) (hi : (P.info? ty).map (·.size) = some cs.size) :
  (results fn tmps).run P w = .ok (.tuple #[.agg cs, v, u]) w := by
 cases hu : P.underlying ty with
 | none => simp [hu] at hk
 | some d =>
  have hd : d.isRow = true := by simpa [hu] using hk
  have hp' : tmps[p]?.getD undef = .pointer (some ⟨g, 0, none⟩) := by simpa using hp
  have hq' : tmps[q]?.getD undef = v := by simpa using hq
  have hr' : tmps[r]?.getD undef = u := by simpa using hr
  simp [results, h, hp', hq', hr', asAddr, run_loadVar_row w g t ty cs _ d hB hu (by cases d <;> simp_all [TypeDesc.isRow]) hi]
theorem res_m3 {P : Program} {fn : Func} {p q r : Tmp} {ty t : TypeId} {tmps : Array Value} {w : World} {g : Nat} {cs : Array Value} {v u : Value} (h : fn.results = #[.tmp q, .cell p ty, .tmp r])
  (hp : tmps.getD p undef = .pointer (some ⟨g, 0, none⟩)) (hq : tmps.getD q undef = v) (hr : tmps.getD r undef = u) (hB : Blk w g cs t) (hk : (P.underlying ty).map TypeDesc.isRow = some true) (hi : (P.info? ty).map (·.size) = some cs.size) :
  (results fn tmps).run P w = .ok (.tuple #[v, .agg cs, u]) w := by
 cases hu : P.underlying ty with
 | none => simp [hu] at hk
 | some d =>
  have hd : d.isRow = true := by simpa [hu] using hk
  have hp' : tmps[p]?.getD undef = .pointer (some ⟨g, 0, none⟩) := by simpa using hp
  have hq' : tmps[q]?.getD undef = v := by simpa using hq
  have hr' : tmps[r]?.getD undef = u := by simpa using hr
  simp [results, h, hp', hq', hr', asAddr, run_loadVar_row w g t ty cs _ d hB hu (by cases d <;> simp_all [TypeDesc.isRow]) hi]
/-- the nodes on a key's way, and its end -/
def wayN : TR → Nat → Nat → List TR
 | .node e l r, k, d => .node e l r :: (if kb k d = 0 then wayN l k (d + 1) else wayN r k (d + 1))
 | _, _, _ => []
def wayE : TR → Nat → Nat → TR
 | .node _ l r, k, d => if kb k d = 0 then wayE l k (d + 1) else wayE r k (d + 1)
 | T, _, _ => T
theorem wayE_or : ∀ (T : TR) (k d : Nat), wayE T k d = .nil ∨ ∃ a x, wayE T k d = .leaf a x
 | .nil, _, _ => .inl rfl
 | .leaf a x, _, _ => .inr ⟨a, x, rfl⟩
 | .node _ l r, k, d => by
  show (if kb k d = 0 then wayE l k (d + 1) else wayE r k (d + 1)) = _ ∨ ∃ a x, (if kb k d = 0 then wayE l k (d + 1) else wayE r k (d + 1)) = _
  split
  ·
   exact wayE_or l k (d + 1)
  ·
   exact wayE_or r k (d + 1)
theorem wayN_len : ∀ (T : TR) (k d : Nat), (wayN T k d).length ≤ tsz T
 | .nil, _, _ => Nat.le_refl _
 | .leaf _ _, _, _ => Nat.zero_le _
 | .node _ l r, k, d => by
  show (_ :: (if kb k d = 0 then wayN l k (d + 1) else wayN r k (d + 1))).length ≤ 1 + tsz l + tsz r
  have h1 := wayN_len l k (d + 1)
  have h2 := wayN_len r k (d + 1)
  rw [List.length_cons]
  split <;> omega
abbrev one1 (u : Value) : List Value := [u]
structure WP (w0 : World) (T : TR) (k : Nat) where
 v : Value
 u : Value
 us : List Value
 hT : TA w0 (wayE T k 0) u
 hl : us.length = (wayN T k 0).length
 hu : ∀ (j : Nat) (x : Value), us[j]? = some x → ∃ T', (wayN T k 0)[j]? = some T' ∧ TA w0 T' x
def WRet (w0 : World) (T : TR) (k : Nat) (w w' : World) (e : Ending) : Prop := ∃ p : WP w0 T k, e = .returned (.tuple #[p.v, p.u]) ∧ SH [] w w' [.r 42 1 p.v (p.us.map one1)]
theorem wcall {f : FuncId} {args : Array Value} {F : List Nat} {w0 w W : World} {H : List As} {T : TR} {k : Nat} (hS : SH F w W H) (hc : Calls Tryd.prog f args W fun e W' => WRet w0 T k W W' e) (ht : H.all (SH.tyOk (.r 42 1 undef [])) = true) :
  Calls Tryd.prog f args W fun e W' => ∃ p : WP w0 T k, e = .returned (.tuple #[p.v, p.u]) ∧ SH F w W' (.r 42 1 p.v (p.us.map one1) :: H) :=
 hc.mono fun e W' ⟨u, h1, h2⟩ => ⟨u, h1, SH.frame (L := []) (L' := [.r 42 1 u.v (u.us.map one1)]) (R := H) hS h2 ⟨.inr ⟨rfl, ht⟩, trivial⟩⟩
theorem us_snoc {w0 : World} {ns : List TR} {us : List Value} {T : TR} {u : Value} (hl : us.length = ns.length) (h : ∀ (j : Nat) (x : Value), us[j]? = some x → ∃ T', ns[j]? = some T' ∧ TA w0 T' x) (hT : TA w0 T u) :
  ∀ (j : Nat) (x : Value), (us ++ [u])[j]? = some x → ∃ T', (ns ++ [T])[j]? = some T' ∧ TA w0 T' x := fun j x hj => by
 rcases Nat.lt_or_ge j us.length with h1 | h1
 ·
  rw [List.getElem?_append_left h1] at hj
  obtain ⟨T', h2, h3⟩ := h j x hj
  exact ⟨T', by rw [List.getElem?_append_left (by omega)]; exact h2, h3⟩
 ·
  rw [List.getElem?_append_right h1] at hj
  have h0 : j - us.length = 0 := by
   rcases Nat.eq_zero_or_pos (j - us.length) with h | h
   ·
    exact h
   ·
    rw [List.getElem?_eq_none (by simp; omega)] at hj; cases hj
  rw [h0] at hj
  obtain rfl : u = x := by simpa using hj
  exact ⟨T, by rw [List.getElem?_append_right (by omega), show j - ns.length = 0 by omega]; rfl, hT⟩
attribute [local irreducible] hs4 sE sL sN

theorem kb_01 (k i : Nat) : kb k i = 0 ∨ kb k i = 1 := by have := kb_le k i; omega
theorem way_c {T : TR} {u : Value} {k : Nat} (w0 w : World) (hx : Ext w0 w) (hzT : tsz T ≤ 1099511627775) (h : TA w0 T u) :
  Calls Tryd.prog 60 #[u, .agg (arrK .u8 32 (byt k))] w fun e w' => WRet w0 T k w w' e := by
 have hS := SH.nil [] w
 go_enter Tryd.func60, Tryd.ntmps60
 go_upto_region 0 with fail
 refine RL hS ?_
 clear hS
 refine MN (z := arrK .u8 32 (byt k)) (t := 28) ?_
 intro p3_1
 refine MV ?_
 refine MV ?_
 refine MZ fun W hS => ?_
 have hS := hS.rnil 42 1 rfl
 go_wp2_with fail
 go_loopw [0, 4] (fun u uv wr => ∃ (T1 : TR) (ns : List TR) (us : List Value) (nv : Value), (TA w0 T1 u) ∧ (ns ++ wayN T1 k ns.length = wayN T k 0) ∧ (wayE T1 k ns.length = wayE T k 0) ∧ (us.length = ns.length) ∧ (∀ (j : Nat) (x : Value), us[j]? = some x → ∃ T', ns[j]? = some T' ∧ TA w0 T' x) ∧ (ns.length + tsz T1 ≤ tsz T) ∧ (nv = uv) ∧ SH [] w wr [.r 42 1 nv (List.map one1 us), .b p3_1 (arrK .u8 32 (byt k)) 28])
  (fun u uv _ => hd w0 (tsz T) u)
 case atStart => exact ⟨T, [], [], _, h, rfl, rfl, rfl, (fun j x h => by simp at h), by rw [List.length_nil]; omega, rfl, hS⟩
 clear hS
 case round =>
  obtain ⟨T1, ns, us, nv, hT, hN, hE, hul, hus, hz, rfl, hS⟩ := hrel
  rcases T1 with _ | ⟨a, x⟩ | ⟨e0, l, r⟩
  ·
   have _f := True.intro
   obtain rfl : _ = nlp := hT
   go_upto_region 1 with fail
   refine RL hS ?_
   clear hS
   refine MV ?_
   refine MW ?_ (v := .bool false)
   refine MW ?_ (v := .bool false)
   refine MS ?_
   refine MS ?_
   refine MS ?_
   refine MS ?_
   refine MW ?_ (v := .bool false)
   refine MZ fun W hS => ?_
   go_wp2
   exact bodyPost_ret (v := .tuple #[nv, .pointer none]) (by simp only [results, Tryd.results60]; go_simp) rfl ⟨⟨nv, .pointer none, us, by rw [← hE]; exact rfl, by rw [← hN, hul]; simp [wayN], fun j y_ hj => by rw [← hN, show wayN .nil k ns.length = [] from rfl, List.append_nil]; exact hus j y_ hj⟩, rfl, hS.pick [0]⟩
  ·
   have _f := True.intro
   obtain ⟨b1, rfl, hB1, ha, hxx⟩ := hT
   go_upto_region 1 with fail
   refine RL hS ?_
   clear hS
   refine MV ?_
   refine MW ?_ (v := .bool true)
   refine MW ?_ (v := .bool true)
   refine MV ?_
   refine MV ?_
   refine MV ?_
   refine MF (v := .bool false) (fun W hS => run_at rfl rfl (by rw [blk_cell (blk_step (blk_step hB1 hx) hS.ext)]; exact nd_sp) (by kernel_rfl)) ?_
   refine MW ?_ (v := .bool false)
   refine MZ fun W hS => ?_
   go_wp2
   exact bodyPost_ret (v := .tuple #[nv, .pointer (some ⟨b1, 0, none⟩)]) (by simp only [results, Tryd.results60]; go_simp) rfl ⟨⟨nv, .pointer (some ⟨b1, 0, none⟩), us, by rw [← hE]; exact ⟨b1, rfl, hB1, ha, hxx⟩, by rw [← hN, hul]; simp [wayN], fun j y_ hj => by rw [← hN, show wayN (.leaf a x) k ns.length = [] from rfl, List.append_nil]; exact hus j y_ hj⟩, rfl, hS.pick [0]⟩
  ·
   have _f := True.intro
   have hN1 := hT
   obtain ⟨b, s0, s1, rfl, hB, hl, hr⟩ := hT
   obtain ⟨p0, rfl⟩ := hl.pt
   obtain ⟨p1, rfl⟩ := hr.pt
   have hz2_ : ns.length + (1 + tsz l + tsz r) ≤ tsz T := hz
   go_upto_region 1 with fail
   refine RL hS ?_
   clear hS
   refine MV ?_
   refine MW ?_ (v := .bool true)
   refine MW ?_ (v := .bool true)
   refine MV ?_
   refine MV ?_
   refine MV ?_
   refine MF (v := .bool true) (fun W hS => run_at rfl rfl (by rw [blk_cell (blk_step (blk_step hB hx) hS.ext)]; exact nd_sp) (by kernel_rfl)) ?_
   refine MW ?_ (v := .bool true)
   refine MZ fun W hS => ?_
   go_upto_region 2 with fail
   refine RL hS ?_
   clear hS
   refine MV ?_
   refine MV ?_
   refine MB (z := #[.pointer (some ⟨b, 0, none⟩)]) (t := 42) (n := 1) (c := 1) ?_ (hr := fun W hS => run_bsv [.pointer (some ⟨b, 0, none⟩)] rfl rfl (vsc rfl vs0) Tryd.underlying107 (by kernel_rfl) (by kernel_rfl) rfl (by decide) (by decide))
   intro p16_2
   refine MAr 1 0 (tS := 107) (bytes := 8) (es := (List.map one1 us)) (by first | omega | (simp only [List.length_append, List.length_map, List.length_take, List.length_cons, List.length_nil]; omega)) (e := ([.pointer (some ⟨b, 0, none⟩)] : List Value)) ?_
   intro v17_3
   refine MV ?_
   refine MZ fun W hS => ?_
   rcases kb_01 k us.length with hb | hb
   ·
    have _f := True.intro
    go_upto_region 3 with fail
    refine RTh (.q 0 (.q 1 (.q 2 (.q 3 (.q 4 (.q 6 (.q 7 (.e 5 (.q 8 (.q 9 (.q 10 .z))))))))))) hS ?_
    clear hS
    refine TV ?_
    refine TL 2 ?_
    refine TV ?_
    refine TF (v := .int .i64 (((List.map one1 us) ++ [([.pointer (some ⟨b, 0, none⟩)] : List Value)]).length : Int)) rfl (fun W hS => run_lenR (hS.row (i := 1) rfl) rfl rfl Tryd.underlying107) ?_
    refine TW ?_ (v := .int .i64 (us.length : Int)) (hv := by intro W; go_simp; (try simp only [List.length_append, List.length_singleton]); (try simp only [IntKind.wrap_i64]); omega)
    refine TV ?_
    refine TV ?_
    refine TE (fun _ h => h) ?_
    refine MC (v := .int .i64 0) (fun W hS => hb ▸ bit_c k us.length (by omega) W) ?_
    refine TNh (fun W hS => hS) ?_
    refine TW ?_ (v := .pointer (some ⟨b, 64, none⟩)) (hv := fun _ => run_ixarrn (m := 2) (k := 1) (j := 0) (off := 64) (by decide) Tryd.underlying103 (by kernel_rfl) rfl rfl rfl)
    refine TF (v := .pointer p0) rfl (fun W hS => run_at rfl rfl (by rw [blk_cell (blk_step (blk_step hB hx) hS.ext)]; exact nd_s0) (by kernel_rfl)) ?_
    refine TV ?_
    refine TZ (fun _ h => h) fun W hS => ?_
    go_wp2
    go_roundw
    case rel => exact ⟨l, (ns ++ [.node e0 l r]), (us ++ [ptr b]), v17_3, hl, by rw [← hN, List.append_assoc, List.length_append]; show _ = ns ++ (.node e0 l r :: (if kb k ns.length = 0 then wayN l k (ns.length + 1) else wayN r k (ns.length + 1))); rw [if_pos (by rw [← hul]; exact hb)]; rfl, by rw [← hE, List.length_append]; show _ = if kb k ns.length = 0 then wayE l k (ns.length + 1) else wayE r k (ns.length + 1); rw [if_pos (by rw [← hul]; exact hb)]; rfl, by rw [List.length_append, List.length_append, hul]; rfl, us_snoc hul hus hN1, by have h_ : ns.length + (1 + tsz l + tsz r) ≤ tsz T := hz; rw [List.length_append, List.length_singleton]; omega, rfl, (by rw [List.map_append]; exact (hS.pick [1, 2]))⟩
    case measure => have h_ : ns.length + (1 + tsz l + tsz r) ≤ tsz T := hz; rw [hd_eq hN1 (by show 1 + tsz l + tsz r ≤ _; omega), hd_eq hl (by omega)]; show _ < 1 + tsz l + tsz r; omega
   ·
    have _f := True.intro
    go_upto_region 3 with fail
    refine RTh (.q 0 (.q 1 (.q 2 (.q 3 (.q 4 (.q 6 (.q 7 (.e 5 (.q 8 (.q 9 (.q 10 .z))))))))))) hS ?_
    clear hS
    refine TV ?_
    refine TL 2 ?_
    refine TV ?_
    refine TF (v := .int .i64 (((List.map one1 us) ++ [([.pointer (some ⟨b, 0, none⟩)] : List Value)]).length : Int)) rfl (fun W hS => run_lenR (hS.row (i := 1) rfl) rfl rfl Tryd.underlying107) ?_
    refine TW ?_ (v := .int .i64 (us.length : Int)) (hv := by intro W; go_simp; (try simp only [List.length_append, List.length_singleton]); (try simp only [IntKind.wrap_i64]); omega)
    refine TV ?_
    refine TV ?_
    refine TE (fun _ h => h) ?_
    refine MC (v := .int .i64 1) (fun W hS => hb ▸ bit_c k us.length (by omega) W) ?_
    refine TNh (fun W hS => hS) ?_
    refine TW ?_ (v := .pointer (some ⟨b, 65, none⟩)) (hv := fun _ => run_ixarrn (m := 2) (k := 1) (j := 1) (off := 64) (by decide) Tryd.underlying103 (by kernel_rfl) rfl rfl rfl)
    refine TF (v := .pointer p1) rfl (fun W hS => run_at rfl rfl (by rw [blk_cell (blk_step (blk_step hB hx) hS.ext)]; exact nd_s1) (by kernel_rfl)) ?_
    refine TV ?_
    refine TZ (fun _ h => h) fun W hS => ?_
    go_wp2
    go_roundw
    case rel => exact ⟨r, (ns ++ [.node e0 l r]), (us ++ [ptr b]), v17_3, hr, by rw [← hN, List.append_assoc, List.length_append]; show _ = ns ++ (.node e0 l r :: (if kb k ns.length = 0 then wayN l k (ns.length + 1) else wayN r k (ns.length + 1))); rw [if_neg (by rw [← hul, hb]; decide)]; rfl, by rw [← hE, List.length_append]; show _ = if kb k ns.length = 0 then wayE l k (ns.length + 1) else wayE r k (ns.length + 1); rw [if_neg (by rw [← hul, hb]; decide)]; rfl, by rw [List.length_append, List.length_append, hul]; rfl, us_snoc hul hus hN1, by have h_ : ns.length + (1 + tsz l + tsz r) ≤ tsz T := hz; rw [List.length_append, List.length_singleton]; omega, rfl, (by rw [List.map_append]; exact (hS.pick [1, 2]))⟩
    case measure => have h_ : ns.length + (1 + tsz l + tsz r) ≤ tsz T := hz; rw [hd_eq hN1 (by show 1 + tsz l + tsz r ≤ _; omega), hd_eq hr (by omega)]; show _ < 1 + tsz l + tsz r; omega
end Go.Proofs.YtndnlbinnhdmbaaDoor

set_option linter.unusedSimpArgs false
set_option linter.unusedVariables false
namespace Go.Proofs.YtndnlbinnhdmbaaDoor
set_option maxHeartbeats 3000000
set_option maxRecDepth 100000
open Go.RowKit
attribute [local irreducible] wpList wpTr wpX
set_option linter.unusedSimpArgs false
attribute [local irreducible] hs4 sE sL sN

theorem us_le {T : TR} {k : Nat} {us : List Value} (h : us.length = (wayN T k 0).length) (hz : tsz T ≤ 1099511627775) : us.length ≤ 1099511627775 := by have := wayN_len T k 0; omega
end Go.Proofs.YtndnlbinnhdmbaaDoor

set_option linter.unusedSimpArgs false
set_option linter.unusedVariables false
namespace Go.Proofs.YtndnlbinnhdmbaaDoor
set_option maxHeartbeats 3000000
set_option maxRecDepth 100000
open Go.RowKit
attribute [local irreducible] wpList wpTr wpX
set_option linter.unusedSimpArgs false
attribute [local irreducible] hs4 sE sL sN

end Go.Proofs.YtndnlbinnhdmbaaDoor

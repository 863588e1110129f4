/- wire: Tell. Conditions: memory holds what is written. -/
import Derived.Test.YtlbgelbhhibikaaYc
set_option linter.unusedSimpArgs false
set_option linter.unusedVariables false
namespace Go.Proofs.Ytlbgelbhhibikaa.Ww
set_option maxHeartbeats 6000000
set_option maxRecDepth 100000
open Go.RowKit
attribute [local irreducible] wpList wpTr wpX
set_option linter.unusedSimpArgs false
/-- an answer, without memory -/
structure An where
 k : Int
 er : Int
 ep : Int
 f : Fo
 pub : Nat
 lat : List Nat
 u : Un
 en : List En
 mks : List Mrk
 m : Mbr
 bun : List UInt8
 lo : Nat
 su : List Nat
/-- where its parts lie -/
structure Av where
 fv : Value
 fs : Value
 lat : Value
 us : Value
 uu : Value
 en : Value
 mks : Value
 mi : Value
 bun : Value
 su : Value
abbrev anF (a : An) (v : Av) : Array Value := agF (.c (.int .i64 a.k) :: .c (.int .i64 a.er) :: .c (.int .i64 a.ep) :: .c (.int .i64 a.f.ep) :: .a 32 a.f.ix :: .a 80 a.f.vr :: .c (.bool a.f.pre) :: .c (.int .i64 a.f.ver) :: .c v.fv :: .a 32 a.f.bo :: .a 32 a.f.op :: .c v.fs :: .c (.bool a.f.th) :: .a 32 a.f.a :: .a 32 a.f.x :: .a 32 a.f.ro :: .a 32 a.f.li :: .a 32 a.f.ah :: .c (.int .i64 a.f.rd) :: .a 32 a.pub :: .c v.lat :: .c v.us :: .c (.bool a.u.th) :: .a 32 a.u.a :: .a 32 a.u.x :: .c (.int .i64 a.u.ep) :: .a 32 a.u.ro :: .a 64 a.u.sig :: .a 32 a.u.lo :: .c v.uu :: .c v.en :: .c v.mks :: .c v.mi :: .c (.bool a.m.gone) :: .c (.int .i64 a.m.ep) :: .a 32 a.m.li :: .c v.bun :: .a 32 a.lo :: .c v.su :: [])
structure AnR (a : An) (v : Av) (w : World) : Prop where
 fv : Sl w v.fv a.f.val
 fs : RR 32 w v.fs (a.f.ss.map b32l)
 lat : RR 32 w v.lat (a.lat.map b32l)
 us : RR 32 w v.us (a.u.ss.map b32l)
 uu : RR 32 w v.uu (a.u.us.map b32l)
 en : EnR v.en a.en w
 mks : RR 65 w v.mks (a.mks.map mkC)
 mi : Sl w v.mi a.m.id
 bun : Sl w v.bun a.bun
 su : RR 32 w v.su (a.su.map b32l)
def anFt (a : An) (v : Av) : List Nat := (sb v.fv a.f.val).toList ++ (fbR v.fs (a.f.ss.map b32l) ++ (fbR v.lat (a.lat.map b32l) ++ (fbR v.us (a.u.ss.map b32l) ++ (fbR v.uu (a.u.us.map b32l) ++ ((fbR v.en (a.en.map enC) ++ enFt a.en) ++ (fbR v.mks (a.mks.map mkC) ++ ((sb v.mi a.m.id).toList ++ ((sb v.bun a.bun).toList ++ fbR v.su (a.su.map b32l)))))))))
/-- an answer that is known, as a thing -/
abbrev anT (a : An) (v : Av) : As := .p (anFt a v) (AnR a v)
theorem p_and {f g : List Nat} {K L M : World → Prop} {w : World} (h1 : (As.p f K).holds w) (h2 : (As.p g L).holds w) (hM : ∀ W, K W → L W → M W) : (As.p (f ++ g) M).holds w :=
 ⟨hM w h1.1 h2.1, fun k hk => (List.mem_append.1 hk).elim (h1.2.1 k) (h2.2.1 k), fun W hs e => hM W (h1.2.2 W hs fun k hk => e k (List.mem_append.2 (.inl hk))) (h2.2.2 W hs fun k hk => e k (List.mem_append.2 (.inr hk)))⟩
theorem sl_p {w : World} {u : Value} {l : List UInt8} (h : Sl w u l) : (As.p (sb u l).toList (fun W => Sl W u l)).holds w :=
 ⟨h, fun k hk => Sl.lt h k (As.mem_toList hk), fun _ _ e => sl_keep h fun b hb => e b (by rw [hb]; simp)⟩
theorem anT_holds {a : An} {v : Av} {w : World} (h : AnR a v w) : (anT a v).holds w := by
 have P := fun {v : Value} {ss : List Nat} (h : RR 32 w v (ss.map b32l)) => RR.pholds (by decide) b32l_len h
 have h1 := p_and (sl_p h.bun) (P h.su) (fun W x y => And.intro x y)
 have h2 := p_and (sl_p h.mi) h1 (fun W x y => And.intro x y)
 have h3 := p_and (RR.pholds (by decide) mkC_len h.mks) h2 (fun W x y => And.intro x y)
 have h4 := p_and (enT_holds h.en) h3 (fun W x y => And.intro x y)
 have h5 := p_and (P h.uu) h4 (fun W x y => And.intro x y)
 have h6 := p_and (P h.us) h5 (fun W x y => And.intro x y)
 have h7 := p_and (P h.lat) h6 (fun W x y => And.intro x y)
 have h8 := p_and (P h.fs) h7 (fun W x y => And.intro x y)
 exact p_and (sl_p h.fv) h8 (fun W x ⟨y1, y2, y3, y4, y5, y6, y7, y8, y9⟩ => ⟨x, y1, y2, y3, y4, y5, y6, y7, y8, y9⟩)
theorem AnR.ext {a : An} {v : Av} {w W : World} (h : AnR a v w) (hW : Ext w W) : AnR a v W := (As.keep0 (off_ext hW) (anT_holds h)).1
/-- are the rows no longer than some? -/
structure lenA (a : An) : Prop where
 fs : a.f.ss.length ≤ 1000000
 lat : a.lat.length ≤ 1000000
 us : a.u.ss.length ≤ 1000000
 uu : a.u.us.length ≤ 1000000
 en : a.en.length ≤ 1000000
 mks : a.mks.length ≤ 1000000
 su : a.su.length ≤ 1000000
/-- what is written behind the kind and the error; is one part too long? -/
def anL (a : An) (l : List UInt8) : List UInt8 :=
 if a.k = 1 then l ++ eI a.ep
 else if a.k = 10 then l ++ eI a.ep
 else if a.k = 6 then unL a.u (smL a.lat (foL a.f l ++ lb 32 a.pub))
 else if a.k = 7 then esL a.en l
 else if a.k = 8 then mksL a.mks l
 else if a.k = 9 then txL 65535 a.bun l
 else if a.k = 11 then unL a.u (mbL a.m l)
 else if a.k = 12 then smL a.su (l ++ lb 32 a.lo)
 else l
def anB (a : An) : Bool :=
 if a.k = 6 then unB a.u (smB a.lat (foB a.f false))
 else if a.k = 7 then esB a.en false
 else if a.k = 8 then mksB a.mks false
 else if a.k = 9 then txB 65535 a.bun false
 else if a.k = 11 then unB a.u (mbB a.m false)
 else if a.k = 12 then smB a.su false
 else false
def telL (a : An) : List UInt8 := if a.er = 0 then anL a [u8 a.k.toNat, u8 a.er.toNat] else [u8 a.k.toNat, u8 a.er.toNat]
abbrev telK (a : An) : Prop := (0 ≤ a.k ∧ a.k ≤ 12) ∧ 0 ≤ a.er ∧ a.er ≤ 255
def telB (a : An) : Bool := if telK a then (if a.er = 0 then anB a else false) else true
attribute [local irreducible] lb be8 eI tB txL txB dtx dok pB smL smB pfL foL foB unL unB mbL mbB esL esB mksL mksB

theorem zer_wire_Answer : zer Try.prog 85 = some (some (agF (.c (.int .i64 0) :: .c (.int .i64 0) :: .c (.int .i64 0) :: .c (.int .i64 0) :: .a 32 0 :: .a 80 0 :: .c (.bool false) :: .c (.int .i64 0) :: .c (.slice none 0 0) :: .a 32 0 :: .a 32 0 :: .c (.slice none 0 0) :: .c (.bool false) :: .a 32 0 :: .a 32 0 :: .a 32 0 :: .a 32 0 :: .a 32 0 :: .c (.int .i64 0) :: .a 32 0 :: .c (.slice none 0 0) :: .c (.slice none 0 0) :: .c (.bool false) :: .a 32 0 :: .a 32 0 :: .c (.int .i64 0) :: .a 32 0 :: .a 64 0 :: .a 32 0 :: .c (.slice none 0 0) :: .c (.slice none 0 0) :: .c (.slice none 0 0) :: .c (.slice none 0 0) :: .c (.bool false) :: .c (.int .i64 0) :: .a 32 0 :: .c (.slice none 0 0) :: .a 32 0 :: .c (.slice none 0 0) :: []))) := by kernel_rfl
theorem plc_wire_Answer : plc Try.prog 85 = some [(0, 1), (1, 1), (2, 1), (3, 343), (346, 32), (378, 1), (379, 196), (575, 1), (576, 1), (577, 35), (612, 1), (613, 32), (645, 1)] := by kernel_rfl
theorem anL_1 {a : An} {l : List UInt8} (hk : a.k = 1) : anL a l = l ++ eI a.ep := by unfold anL; rw [hk]; rfl
theorem anB_1 {a : An} (hk : a.k = 1) : anB a = false := by unfold anB; rw [hk]; rfl
theorem anL_10 {a : An} {l : List UInt8} (hk : a.k = 10) : anL a l = l ++ eI a.ep := by unfold anL; rw [hk]; rfl
theorem anB_10 {a : An} (hk : a.k = 10) : anB a = false := by unfold anB; rw [hk]; rfl
theorem anL_6 {a : An} {l : List UInt8} (hk : a.k = 6) : anL a l = unL a.u (smL a.lat (foL a.f l ++ lb 32 a.pub)) := by unfold anL; rw [hk]; rfl
theorem anB_6 {a : An} (hk : a.k = 6) : anB a = unB a.u (smB a.lat (foB a.f false)) := by unfold anB; rw [hk]; rfl
theorem anL_7 {a : An} {l : List UInt8} (hk : a.k = 7) : anL a l = esL a.en l := by unfold anL; rw [hk]; rfl
theorem anB_7 {a : An} (hk : a.k = 7) : anB a = esB a.en false := by unfold anB; rw [hk]; rfl
theorem anL_8 {a : An} {l : List UInt8} (hk : a.k = 8) : anL a l = mksL a.mks l := by unfold anL; rw [hk]; rfl
theorem anB_8 {a : An} (hk : a.k = 8) : anB a = mksB a.mks false := by unfold anB; rw [hk]; rfl
theorem anL_9 {a : An} {l : List UInt8} (hk : a.k = 9) : anL a l = txL 65535 a.bun l := by unfold anL; rw [hk]; rfl
theorem anB_9 {a : An} (hk : a.k = 9) : anB a = txB 65535 a.bun false := by unfold anB; rw [hk]; rfl
theorem anL_11 {a : An} {l : List UInt8} (hk : a.k = 11) : anL a l = unL a.u (mbL a.m l) := by unfold anL; rw [hk]; rfl
theorem anB_11 {a : An} (hk : a.k = 11) : anB a = unB a.u (mbB a.m false) := by unfold anB; rw [hk]; rfl
theorem anL_12 {a : An} {l : List UInt8} (hk : a.k = 12) : anL a l = smL a.su (l ++ lb 32 a.lo) := by unfold anL; rw [hk]; rfl
theorem anB_12 {a : An} (hk : a.k = 12) : anB a = smB a.su false := by unfold anB; rw [hk]; rfl
theorem anL_o {a : An} {l : List UInt8} (hk : a.k ≠ 1 ∧ a.k ≠ 10 ∧ a.k ≠ 6 ∧ a.k ≠ 7 ∧ a.k ≠ 8 ∧ a.k ≠ 9 ∧ a.k ≠ 11 ∧ a.k ≠ 12) : anL a l = l := by unfold anL; simp only [hk.1, hk.2.1, hk.2.2.1, hk.2.2.2.1, hk.2.2.2.2.1, hk.2.2.2.2.2.1, hk.2.2.2.2.2.2.1, hk.2.2.2.2.2.2.2, if_false]
theorem anB_o {a : An} (hk : a.k ≠ 1 ∧ a.k ≠ 10 ∧ a.k ≠ 6 ∧ a.k ≠ 7 ∧ a.k ≠ 8 ∧ a.k ≠ 9 ∧ a.k ≠ 11 ∧ a.k ≠ 12) : anB a = false := by unfold anB; simp only [hk.1, hk.2.1, hk.2.2.1, hk.2.2.2.1, hk.2.2.2.2.1, hk.2.2.2.2.2.1, hk.2.2.2.2.2.2.1, hk.2.2.2.2.2.2.2, if_false]
theorem tell_e {a : An} {v : Av} (hok : telK a) (he : a.er ≠ 0) (hle : lenA a) (w : World) (h : AnR a v w) :
  Calls Try.prog 24 #[.agg (anF a v)] w fun e w' => (telB a = true ∧ Ret (.tuple #[.slice none 0 0, .int .i64 2]) w w' e) ∨ (telB a = false ∧ ∃ u, e = .returned (.tuple #[u, .int .i64 0]) ∧ SH [] w w' [.o u (telL a)]) := by
 obtain ⟨⟨hk0, hk9⟩, he0, he9⟩ := id hok
 have hS := SH.nil [] w
 obtain ⟨hfv, hfs, hlat, hus, huu, hen, hmks, hmi, hbun, hsu⟩ := h
 have hhd : ([u8 a.k.toNat, u8 a.er.toNat]).length ≤ 2 := Nat.le_refl _
 go_enter Try.func24, Try.ntmps24
 go_upto_region 0 with fail
 refine RL hS ?_
 clear hS
 refine MN (z := agF (.c (.int .i64 a.k) :: .c (.int .i64 a.er) :: .c (.int .i64 a.ep) :: .c (.int .i64 a.f.ep) :: .a 32 a.f.ix :: .a 80 a.f.vr :: .c (.bool a.f.pre) :: .c (.int .i64 a.f.ver) :: .c v.fv :: .a 32 a.f.bo :: .a 32 a.f.op :: .c v.fs :: .c (.bool a.f.th) :: .a 32 a.f.a :: .a 32 a.f.x :: .a 32 a.f.ro :: .a 32 a.f.li :: .a 32 a.f.ah :: .c (.int .i64 a.f.rd) :: .a 32 a.pub :: .c v.lat :: .c v.us :: .c (.bool a.u.th) :: .a 32 a.u.a :: .a 32 a.u.x :: .c (.int .i64 a.u.ep) :: .a 32 a.u.ro :: .a 64 a.u.sig :: .a 32 a.u.lo :: .c v.uu :: .c v.en :: .c v.mks :: .c v.mi :: .c (.bool a.m.gone) :: .c (.int .i64 a.m.ep) :: .a 32 a.m.li :: .c v.bun :: .a 32 a.lo :: .c v.su :: [])) (t := 85) ?_
 intro p1_1
 refine MV ?_
 refine MW ?_ (v := .int .i64 0)
 refine MZ fun W hS => ?_
 go_upto_region 1 with fail
 refine RL hS ?_
 clear hS
 refine MV ?_
 refine MG 0 ?_ (v := .int .i64 a.k) (hj := (agF_cel (off := 0) 0))
 refine MW ?_ (v := .bool false) (hv := by intro W; go_simp; first | done | omega)
 refine MW ?_ (v := .bool false)
 refine MV ?_
 refine MG 0 ?_ (v := .int .i64 a.k) (hj := (agF_cel (off := 0) 0))
 refine MW ?_ (v := .bool false) (hv := by intro W; go_simp; first | done | omega)
 refine MW ?_ (v := .bool false)
 refine MW ?_ (v := .bool false)
 refine MV ?_
 refine MG 0 ?_ (v := .int .i64 a.er) (hj := (agF_cel (off := 1) 1))
 refine MW ?_ (v := .bool false) (hv := by intro W; go_simp; first | done | omega)
 refine MW ?_ (v := .bool false)
 refine MW ?_ (v := .bool false)
 refine MV ?_
 refine MG 0 ?_ (v := .int .i64 a.er) (hj := (agF_cel (off := 1) 1))
 refine MW ?_ (v := .bool false) (hv := by intro W; go_simp; first | done | omega)
 refine MW ?_ (v := .bool false)
 refine MZ fun W hS => ?_
 go_upto_region 3 with fail
 refine RL hS ?_
 clear hS
 refine MW ?_ (v := .agg #[.slice none 0 0, .bool false, .bool false]) (hv := by intro W; first | rfl | kernel_rfl)
 refine MN (z := #[.slice none 0 0, .bool false, .bool false]) (t := 96) ?_
 intro p24_2
 refine MT (fun W hS => hS.onil rfl) ?_
 refine MV ?_
 refine MZ fun W hS => ?_
 go_upto_region 4 with fail
 refine RTp [2] (.q 0 (.q 1 (.q 2 (.q 3 (.q 4 (.e 5 .z)))))) hS ?_
 clear hS
 refine TV ?_
 refine TV ?_
 refine TV ?_
 refine TV ?_
 refine TG 0 ?_ (v := .int .i64 a.k) (hj := (agF_cel (off := 0) 0))
 refine TE (fun _ h => h.pick [2]) ?_
 refine ME (V := fun _ => .tuple #[]) (fun W hS => callX [1, 0] [2] hS (fun hT => wr_call hT (fun hw => wbyte_i (n := a.k) (l := []) (by omega) hw (by first | omega | decide))) (fun _ => ⟨.inr ⟨rfl, rfl⟩, .inr ⟨rfl, rfl⟩, trivial⟩)) ?_
 intro w3
 have hb_4 : ([] ++ [u8 a.k.toNat]).length ≤ 1 := (by rw [List.length_append]; simp only [List.length_cons, List.length_nil, lb_length, be8_len, eI_len, tB_len]; omega)
 refine TNp [2] [0] ?_
 refine TZ (fun _ h => h.pick [2]) fun W hS => ?_
 go_upto_region 5 with fail
 refine RTp [2] (.q 0 (.q 1 (.q 2 (.q 3 (.q 4 (.e 5 .z)))))) hS ?_
 clear hS
 refine TV ?_
 refine TV ?_
 refine TV ?_
 refine TV ?_
 refine TG 0 ?_ (v := .int .i64 a.er) (hj := (agF_cel (off := 1) 1))
 refine TE (fun _ h => h.pick [2]) ?_
 refine ME (V := fun _ => .tuple #[]) (fun W hS => callX [0, 1] [2] hS (fun hT => wr_call hT (fun hw => wbyte_i (n := a.er) (l := [] ++ [u8 a.k.toNat]) (by omega) hw (by first | omega | decide))) (fun _ => ⟨.inr ⟨rfl, rfl⟩, .inr ⟨rfl, rfl⟩, trivial⟩)) ?_
 intro w5
 have hb_6 : (([] ++ [u8 a.k.toNat]) ++ [u8 a.er.toNat]).length ≤ 2 := (by rw [List.length_append]; simp only [List.length_cons, List.length_nil, lb_length, be8_len, eI_len, tB_len]; omega)
 refine MT (H' := [.b p24_2 #[w5, .bool false, .bool false] 96, .o w5 [u8 a.k.toNat, u8 a.er.toNat], .b p1_1 (anF a v) 85]) (fun W hS => hS) ?_
 refine TNp [2] [0] ?_
 refine TZ (fun _ h => h.pick [2]) fun W hS => ?_
 go_upto_region 6 with fail
 refine RL hS ?_
 clear hS
 refine MV ?_
 refine MG 2 ?_ (v := .int .i64 a.er) (hj := (agF_cel (off := 1) 1))
 refine MW ?_ (v := .bool true) (hv := by intro W; go_simp; first | done | omega)
 refine MZ fun W hS => ?_
 go_upto_region 7 with fail
 refine RL hS ?_
 clear hS
 refine MV ?_
 refine ME (V := fun u => .tuple #[u, .int .i64 0]) (fun W hS => ncallW hS (done_ok p24_2 w5 [u8 a.k.toNat, u8 a.er.toNat] W (hS.blk (i := 0) rfl) (hS.own (i := 1) rfl) (by omega))) ?_
 intro u
 refine MV ?_
 refine MW ?_ (v := .int .i64 0)
 refine MV ?_
 refine MW ?_ (v := .int .i64 0)
 refine MZ fun W hS => ?_
 go_wp2
 exact bodyPost_ret (v := .tuple #[u, .int .i64 0]) (by simp only [results, Try.results24]; go_simp) rfl (.inr ⟨by unfold telB; rw [if_pos hok, if_neg he], _, rfl, by unfold telL; rw [if_neg he]; exact hS.pick [0]⟩)
theorem tell_1 {a : An} {v : Av} (hok : telK a) (he : a.er = 0) (hk : a.k = 1) (hle : lenA a) (w : World) (h : AnR a v w) :
  Calls Try.prog 24 #[.agg (anF a v)] w fun e w' => (telB a = true ∧ Ret (.tuple #[.slice none 0 0, .int .i64 2]) w w' e) ∨ (telB a = false ∧ ∃ u, e = .returned (.tuple #[u, .int .i64 0]) ∧ SH [] w w' [.o u (telL a)]) := by
 obtain ⟨⟨hk0, hk9⟩, he0, he9⟩ := id hok
 have hS := SH.nil [] w
 obtain ⟨hfv, hfs, hlat, hus, huu, hen, hmks, hmi, hbun, hsu⟩ := h
 have hhd : ([u8 a.k.toNat, u8 a.er.toNat]).length ≤ 2 := Nat.le_refl _
 go_enter Try.func24, Try.ntmps24
 go_upto_region 0 with fail
 refine RL hS ?_
 clear hS
 refine MN (z := agF (.c (.int .i64 a.k) :: .c (.int .i64 a.er) :: .c (.int .i64 a.ep) :: .c (.int .i64 a.f.ep) :: .a 32 a.f.ix :: .a 80 a.f.vr :: .c (.bool a.f.pre) :: .c (.int .i64 a.f.ver) :: .c v.fv :: .a 32 a.f.bo :: .a 32 a.f.op :: .c v.fs :: .c (.bool a.f.th) :: .a 32 a.f.a :: .a 32 a.f.x :: .a 32 a.f.ro :: .a 32 a.f.li :: .a 32 a.f.ah :: .c (.int .i64 a.f.rd) :: .a 32 a.pub :: .c v.lat :: .c v.us :: .c (.bool a.u.th) :: .a 32 a.u.a :: .a 32 a.u.x :: .c (.int .i64 a.u.ep) :: .a 32 a.u.ro :: .a 64 a.u.sig :: .a 32 a.u.lo :: .c v.uu :: .c v.en :: .c v.mks :: .c v.mi :: .c (.bool a.m.gone) :: .c (.int .i64 a.m.ep) :: .a 32 a.m.li :: .c v.bun :: .a 32 a.lo :: .c v.su :: [])) (t := 85) ?_
 intro p1_1
 refine MV ?_
 refine MW ?_ (v := .int .i64 0)
 refine MZ fun W hS => ?_
 go_upto_region 1 with fail
 refine RL hS ?_
 clear hS
 refine MV ?_
 refine MG 0 ?_ (v := .int .i64 a.k) (hj := (agF_cel (off := 0) 0))
 refine MW ?_ (v := .bool false) (hv := by intro W; go_simp; first | done | omega)
 refine MW ?_ (v := .bool false)
 refine MV ?_
 refine MG 0 ?_ (v := .int .i64 a.k) (hj := (agF_cel (off := 0) 0))
 refine MW ?_ (v := .bool false) (hv := by intro W; go_simp; first | done | omega)
 refine MW ?_ (v := .bool false)
 refine MW ?_ (v := .bool false)
 refine MV ?_
 refine MG 0 ?_ (v := .int .i64 a.er) (hj := (agF_cel (off := 1) 1))
 refine MW ?_ (v := .bool false) (hv := by intro W; go_simp; first | done | omega)
 refine MW ?_ (v := .bool false)
 refine MW ?_ (v := .bool false)
 refine MV ?_
 refine MG 0 ?_ (v := .int .i64 a.er) (hj := (agF_cel (off := 1) 1))
 refine MW ?_ (v := .bool false) (hv := by intro W; go_simp; first | done | omega)
 refine MW ?_ (v := .bool false)
 refine MZ fun W hS => ?_
 go_upto_region 3 with fail
 refine RL hS ?_
 clear hS
 refine MW ?_ (v := .agg #[.slice none 0 0, .bool false, .bool false]) (hv := by intro W; first | rfl | kernel_rfl)
 refine MN (z := #[.slice none 0 0, .bool false, .bool false]) (t := 96) ?_
 intro p24_2
 refine MT (fun W hS => hS.onil rfl) ?_
 refine MV ?_
 refine MZ fun W hS => ?_
 go_upto_region 4 with fail
 refine RTp [2] (.q 0 (.q 1 (.q 2 (.q 3 (.q 4 (.e 5 .z)))))) hS ?_
 clear hS
 refine TV ?_
 refine TV ?_
 refine TV ?_
 refine TV ?_
 refine TG 0 ?_ (v := .int .i64 a.k) (hj := (agF_cel (off := 0) 0))
 refine TE (fun _ h => h.pick [2]) ?_
 refine ME (V := fun _ => .tuple #[]) (fun W hS => callX [1, 0] [2] hS (fun hT => wr_call hT (fun hw => wbyte_i (n := a.k) (l := []) (by omega) hw (by first | omega | decide))) (fun _ => ⟨.inr ⟨rfl, rfl⟩, .inr ⟨rfl, rfl⟩, trivial⟩)) ?_
 intro w3
 have hb_4 : ([] ++ [u8 a.k.toNat]).length ≤ 1 := (by rw [List.length_append]; simp only [List.length_cons, List.length_nil, lb_length, be8_len, eI_len, tB_len]; omega)
 refine TNp [2] [0] ?_
 refine TZ (fun _ h => h.pick [2]) fun W hS => ?_
 go_upto_region 5 with fail
 refine RTp [2] (.q 0 (.q 1 (.q 2 (.q 3 (.q 4 (.e 5 .z)))))) hS ?_
 clear hS
 refine TV ?_
 refine TV ?_
 refine TV ?_
 refine TV ?_
 refine TG 0 ?_ (v := .int .i64 a.er) (hj := (agF_cel (off := 1) 1))
 refine TE (fun _ h => h.pick [2]) ?_
 refine ME (V := fun _ => .tuple #[]) (fun W hS => callX [0, 1] [2] hS (fun hT => wr_call hT (fun hw => wbyte_i (n := a.er) (l := [] ++ [u8 a.k.toNat]) (by omega) hw (by first | omega | decide))) (fun _ => ⟨.inr ⟨rfl, rfl⟩, .inr ⟨rfl, rfl⟩, trivial⟩)) ?_
 intro w5
 have hb_6 : (([] ++ [u8 a.k.toNat]) ++ [u8 a.er.toNat]).length ≤ 2 := (by rw [List.length_append]; simp only [List.length_cons, List.length_nil, lb_length, be8_len, eI_len, tB_len]; omega)
 refine MT (H' := [.b p24_2 #[w5, .bool false, .bool false] 96, .o w5 [u8 a.k.toNat, u8 a.er.toNat], .b p1_1 (anF a v) 85]) (fun W hS => hS) ?_
 refine TNp [2] [0] ?_
 refine TZ (fun _ h => h.pick [2]) fun W hS => ?_
 go_upto_region 6 with fail
 refine RL hS ?_
 clear hS
 refine MV ?_
 refine MG 2 ?_ (v := .int .i64 a.er) (hj := (agF_cel (off := 1) 1))
 refine MW ?_ (v := .bool false) (hv := by intro W; go_simp; first | done | omega)
 refine MZ fun W hS => ?_
 go_upto_region 8 with fail
 refine RL hS ?_
 clear hS
 refine MV ?_
 refine MG 2 ?_ (v := .int .i64 a.k) (hj := (agF_cel (off := 0) 0))
 refine MZ fun W hS => ?_
 go_upto_region 9 with fail
 refine RL hS ?_
 clear hS
 refine MW ?_ (v := .bool true) (hv := by intro W; go_simp; first | done | omega | decide)
 refine MW ?_ (v := .bool true)
 refine MZ fun W hS => ?_
 go_upto_region 11 with fail
 refine RTp [2] (.q 0 (.q 1 (.q 2 (.q 3 (.q 4 (.e 5 .z)))))) hS ?_
 clear hS
 refine TV ?_
 refine TV ?_
 refine TV ?_
 refine TV ?_
 refine TG 0 ?_ (v := .int .i64 a.ep) (hj := (agF_cel (off := 2) 2))
 refine TE (fun _ h => h.pick [2]) ?_
 refine ME (V := fun _ => .tuple #[]) (fun W hS => callX [0, 1] [2] hS (fun hT => wr_call hT (fun hw => wnum_i a.ep p24_2 w5 [u8 a.k.toNat, u8 a.er.toNat] false W hw (by first | omega | decide))) (fun _ => ⟨.inr ⟨rfl, rfl⟩, .inr ⟨rfl, rfl⟩, trivial⟩)) ?_
 intro w7
 have hb_8 : ([u8 a.k.toNat, u8 a.er.toNat] ++ (eI a.ep)).length ≤ 10 := (by rw [List.length_append]; simp only [List.length_cons, List.length_nil, lb_length, be8_len, eI_len, tB_len]; omega)
 refine TNp [2] [0] ?_
 refine TZ (fun _ h => h.pick [2]) fun W hS => ?_
 go_upto_region 29 with fail
 refine RL hS ?_
 clear hS
 refine MV ?_
 refine ME (V := fun u => .tuple #[u, .int .i64 0]) (fun W hS => ncallW hS (done_ok p24_2 w7 ([u8 a.k.toNat, u8 a.er.toNat] ++ (eI a.ep)) W (hS.blk (i := 0) rfl) (hS.own (i := 1) rfl) (by omega))) ?_
 intro u
 refine MV ?_
 refine MW ?_ (v := .int .i64 0)
 refine MV ?_
 refine MW ?_ (v := .int .i64 0)
 refine MZ fun W hS => ?_
 go_wp2
 exact bodyPost_ret (v := .tuple #[u, .int .i64 0]) (by simp only [results, Try.results24]; go_simp) rfl (.inr ⟨by unfold telB; rw [if_pos hok, if_pos he, anB_1 hk], _, rfl, by unfold telL; rw [if_pos he, anL_1 hk]; exact hS.pick [0]⟩)
theorem tell_10 {a : An} {v : Av} (hok : telK a) (he : a.er = 0) (hk : a.k = 10) (hle : lenA a) (w : World) (h : AnR a v w) :
  Calls Try.prog 24 #[.agg (anF a v)] w fun e w' => (telB a = true ∧ Ret (.tuple #[.slice none 0 0, .int .i64 2]) w w' e) ∨ (telB a = false ∧ ∃ u, e = .returned (.tuple #[u, .int .i64 0]) ∧ SH [] w w' [.o u (telL a)]) := by
 obtain ⟨⟨hk0, hk9⟩, he0, he9⟩ := id hok
 have hS := SH.nil [] w
 obtain ⟨hfv, hfs, hlat, hus, huu, hen, hmks, hmi, hbun, hsu⟩ := h
 have hhd : ([u8 a.k.toNat, u8 a.er.toNat]).length ≤ 2 := Nat.le_refl _
 go_enter Try.func24, Try.ntmps24
 go_upto_region 0 with fail
 refine RL hS ?_
 clear hS
 refine MN (z := agF (.c (.int .i64 a.k) :: .c (.int .i64 a.er) :: .c (.int .i64 a.ep) :: .c (.int .i64 a.f.ep) :: .a 32 a.f.ix :: .a 80 a.f.vr :: .c (.bool a.f.pre) :: .c (.int .i64 a.f.ver) :: .c v.fv :: .a 32 a.f.bo :: .a 32 a.f.op :: .c v.fs :: .c (.bool a.f.th) :: .a 32 a.f.a :: .a 32 a.f.x :: .a 32 a.f.ro :: .a 32 a.f.li :: .a 32 a.f.ah :: .c (.int .i64 a.f.rd) :: .a 32 a.pub :: .c v.lat :: .c v.us :: .c (.bool a.u.th) :: .a 32 a.u.a :: .a 32 a.u.x :: .c (.int .i64 a.u.ep) :: .a 32 a.u.ro :: .a 64 a.u.sig :: .a 32 a.u.lo :: .c v.uu :: .c v.en :: .c v.mks :: .c v.mi :: .c (.bool a.m.gone) :: .c (.int .i64 a.m.ep) :: .a 32 a.m.li :: .c v.bun :: .a 32 a.lo :: .c v.su :: [])) (t := 85) ?_
 intro p1_1
 refine MV ?_
 refine MW ?_ (v := .int .i64 0)
 refine MZ fun W hS => ?_
 go_upto_region 1 with fail
 refine RL hS ?_
 clear hS
 refine MV ?_
 refine MG 0 ?_ (v := .int .i64 a.k) (hj := (agF_cel (off := 0) 0))
 refine MW ?_ (v := .bool false) (hv := by intro W; go_simp; first | done | omega)
 refine MW ?_ (v := .bool false)
 refine MV ?_
 refine MG 0 ?_ (v := .int .i64 a.k) (hj := (agF_cel (off := 0) 0))
 refine MW ?_ (v := .bool false) (hv := by intro W; go_simp; first | done | omega)
 refine MW ?_ (v := .bool false)
 refine MW ?_ (v := .bool false)
 refine MV ?_
 refine MG 0 ?_ (v := .int .i64 a.er) (hj := (agF_cel (off := 1) 1))
 refine MW ?_ (v := .bool false) (hv := by intro W; go_simp; first | done | omega)
 refine MW ?_ (v := .bool false)
 refine MW ?_ (v := .bool false)
 refine MV ?_
 refine MG 0 ?_ (v := .int .i64 a.er) (hj := (agF_cel (off := 1) 1))
 refine MW ?_ (v := .bool false) (hv := by intro W; go_simp; first | done | omega)
 refine MW ?_ (v := .bool false)
 refine MZ fun W hS => ?_
 go_upto_region 3 with fail
 refine RL hS ?_
 clear hS
 refine MW ?_ (v := .agg #[.slice none 0 0, .bool false, .bool false]) (hv := by intro W; first | rfl | kernel_rfl)
 refine MN (z := #[.slice none 0 0, .bool false, .bool false]) (t := 96) ?_
 intro p24_2
 refine MT (fun W hS => hS.onil rfl) ?_
 refine MV ?_
 refine MZ fun W hS => ?_
 go_upto_region 4 with fail
 refine RTp [2] (.q 0 (.q 1 (.q 2 (.q 3 (.q 4 (.e 5 .z)))))) hS ?_
 clear hS
 refine TV ?_
 refine TV ?_
 refine TV ?_
 refine TV ?_
 refine TG 0 ?_ (v := .int .i64 a.k) (hj := (agF_cel (off := 0) 0))
 refine TE (fun _ h => h.pick [2]) ?_
 refine ME (V := fun _ => .tuple #[]) (fun W hS => callX [1, 0] [2] hS (fun hT => wr_call hT (fun hw => wbyte_i (n := a.k) (l := []) (by omega) hw (by first | omega | decide))) (fun _ => ⟨.inr ⟨rfl, rfl⟩, .inr ⟨rfl, rfl⟩, trivial⟩)) ?_
 intro w3
 have hb_4 : ([] ++ [u8 a.k.toNat]).length ≤ 1 := (by rw [List.length_append]; simp only [List.length_cons, List.length_nil, lb_length, be8_len, eI_len, tB_len]; omega)
 refine TNp [2] [0] ?_
 refine TZ (fun _ h => h.pick [2]) fun W hS => ?_
 go_upto_region 5 with fail
 refine RTp [2] (.q 0 (.q 1 (.q 2 (.q 3 (.q 4 (.e 5 .z)))))) hS ?_
 clear hS
 refine TV ?_
 refine TV ?_
 refine TV ?_
 refine TV ?_
 refine TG 0 ?_ (v := .int .i64 a.er) (hj := (agF_cel (off := 1) 1))
 refine TE (fun _ h => h.pick [2]) ?_
 refine ME (V := fun _ => .tuple #[]) (fun W hS => callX [0, 1] [2] hS (fun hT => wr_call hT (fun hw => wbyte_i (n := a.er) (l := [] ++ [u8 a.k.toNat]) (by omega) hw (by first | omega | decide))) (fun _ => ⟨.inr ⟨rfl, rfl⟩, .inr ⟨rfl, rfl⟩, trivial⟩)) ?_
 intro w5
 have hb_6 : (([] ++ [u8 a.k.toNat]) ++ [u8 a.er.toNat]).length ≤ 2 := (by rw [List.length_append]; simp only [List.length_cons, List.length_nil, lb_length, be8_len, eI_len, tB_len]; omega)
 refine MT (H' := [.b p24_2 #[w5, .bool false, .bool false] 96, .o w5 [u8 a.k.toNat, u8 a.er.toNat], .b p1_1 (anF a v) 85]) (fun W hS => hS) ?_
 refine TNp [2] [0] ?_
 refine TZ (fun _ h => h.pick [2]) fun W hS => ?_
 go_upto_region 6 with fail
 refine RL hS ?_
 clear hS
 refine MV ?_
 refine MG 2 ?_ (v := .int .i64 a.er) (hj := (agF_cel (off := 1) 1))
 refine MW ?_ (v := .bool false) (hv := by intro W; go_simp; first | done | omega)
 refine MZ fun W hS => ?_
 go_upto_region 8 with fail
 refine RL hS ?_
 clear hS
 refine MV ?_
 refine MG 2 ?_ (v := .int .i64 a.k) (hj := (agF_cel (off := 0) 0))
 refine MZ fun W hS => ?_
 go_upto_region 9 with fail
 refine RL hS ?_
 clear hS
 refine MW ?_ (v := .bool false) (hv := by intro W; go_simp; first | done | omega | decide)
 refine MW ?_ (v := .bool false)
 refine MZ fun W hS => ?_
 go_upto_region 10 with fail
 refine RL hS ?_
 clear hS
 refine MW ?_ (v := .bool true) (hv := by intro W; go_simp; first | done | omega | decide)
 refine MW ?_ (v := .bool true)
 refine MZ fun W hS => ?_
 go_upto_region 11 with fail
 refine RTp [2] (.q 0 (.q 1 (.q 2 (.q 3 (.q 4 (.e 5 .z)))))) hS ?_
 clear hS
 refine TV ?_
 refine TV ?_
 refine TV ?_
 refine TV ?_
 refine TG 0 ?_ (v := .int .i64 a.ep) (hj := (agF_cel (off := 2) 2))
 refine TE (fun _ h => h.pick [2]) ?_
 refine ME (V := fun _ => .tuple #[]) (fun W hS => callX [0, 1] [2] hS (fun hT => wr_call hT (fun hw => wnum_i a.ep p24_2 w5 [u8 a.k.toNat, u8 a.er.toNat] false W hw (by first | omega | decide))) (fun _ => ⟨.inr ⟨rfl, rfl⟩, .inr ⟨rfl, rfl⟩, trivial⟩)) ?_
 intro w7
 have hb_8 : ([u8 a.k.toNat, u8 a.er.toNat] ++ (eI a.ep)).length ≤ 10 := (by rw [List.length_append]; simp only [List.length_cons, List.length_nil, lb_length, be8_len, eI_len, tB_len]; omega)
 refine TNp [2] [0] ?_
 refine TZ (fun _ h => h.pick [2]) fun W hS => ?_
 go_upto_region 29 with fail
 refine RL hS ?_
 clear hS
 refine MV ?_
 refine ME (V := fun u => .tuple #[u, .int .i64 0]) (fun W hS => ncallW hS (done_ok p24_2 w7 ([u8 a.k.toNat, u8 a.er.toNat] ++ (eI a.ep)) W (hS.blk (i := 0) rfl) (hS.own (i := 1) rfl) (by omega))) ?_
 intro u
 refine MV ?_
 refine MW ?_ (v := .int .i64 0)
 refine MV ?_
 refine MW ?_ (v := .int .i64 0)
 refine MZ fun W hS => ?_
 go_wp2
 exact bodyPost_ret (v := .tuple #[u, .int .i64 0]) (by simp only [results, Try.results24]; go_simp) rfl (.inr ⟨by unfold telB; rw [if_pos hok, if_pos he, anB_10 hk], _, rfl, by unfold telL; rw [if_pos he, anL_10 hk]; exact hS.pick [0]⟩)
theorem tell_6 {a : An} {v : Av} (hok : telK a) (he : a.er = 0) (hk : a.k = 6) (hle : lenA a) (w : World) (h : AnR a v w) :
  Calls Try.prog 24 #[.agg (anF a v)] w fun e w' => (telB a = true ∧ Ret (.tuple #[.slice none 0 0, .int .i64 2]) w w' e) ∨ (telB a = false ∧ ∃ u, e = .returned (.tuple #[u, .int .i64 0]) ∧ SH [] w w' [.o u (telL a)]) := by
 obtain ⟨⟨hk0, hk9⟩, he0, he9⟩ := id hok
 have hS := SH.nil [] w
 obtain ⟨hfv, hfs, hlat, hus, huu, hen, hmks, hmi, hbun, hsu⟩ := h
 have hhd : ([u8 a.k.toNat, u8 a.er.toNat]).length ≤ 2 := Nat.le_refl _
 go_enter Try.func24, Try.ntmps24
 go_upto_region 0 with fail
 refine RL hS ?_
 clear hS
 refine MN (z := agF (.c (.int .i64 a.k) :: .c (.int .i64 a.er) :: .c (.int .i64 a.ep) :: .c (.int .i64 a.f.ep) :: .a 32 a.f.ix :: .a 80 a.f.vr :: .c (.bool a.f.pre) :: .c (.int .i64 a.f.ver) :: .c v.fv :: .a 32 a.f.bo :: .a 32 a.f.op :: .c v.fs :: .c (.bool a.f.th) :: .a 32 a.f.a :: .a 32 a.f.x :: .a 32 a.f.ro :: .a 32 a.f.li :: .a 32 a.f.ah :: .c (.int .i64 a.f.rd) :: .a 32 a.pub :: .c v.lat :: .c v.us :: .c (.bool a.u.th) :: .a 32 a.u.a :: .a 32 a.u.x :: .c (.int .i64 a.u.ep) :: .a 32 a.u.ro :: .a 64 a.u.sig :: .a 32 a.u.lo :: .c v.uu :: .c v.en :: .c v.mks :: .c v.mi :: .c (.bool a.m.gone) :: .c (.int .i64 a.m.ep) :: .a 32 a.m.li :: .c v.bun :: .a 32 a.lo :: .c v.su :: [])) (t := 85) ?_
 intro p1_1
 refine MV ?_
 refine MW ?_ (v := .int .i64 0)
 refine MZ fun W hS => ?_
 go_upto_region 1 with fail
 refine RL hS ?_
 clear hS
 refine MV ?_
 refine MG 0 ?_ (v := .int .i64 a.k) (hj := (agF_cel (off := 0) 0))
 refine MW ?_ (v := .bool false) (hv := by intro W; go_simp; first | done | omega)
 refine MW ?_ (v := .bool false)
 refine MV ?_
 refine MG 0 ?_ (v := .int .i64 a.k) (hj := (agF_cel (off := 0) 0))
 refine MW ?_ (v := .bool false) (hv := by intro W; go_simp; first | done | omega)
 refine MW ?_ (v := .bool false)
 refine MW ?_ (v := .bool false)
 refine MV ?_
 refine MG 0 ?_ (v := .int .i64 a.er) (hj := (agF_cel (off := 1) 1))
 refine MW ?_ (v := .bool false) (hv := by intro W; go_simp; first | done | omega)
 refine MW ?_ (v := .bool false)
 refine MW ?_ (v := .bool false)
 refine MV ?_
 refine MG 0 ?_ (v := .int .i64 a.er) (hj := (agF_cel (off := 1) 1))
 refine MW ?_ (v := .bool false) (hv := by intro W; go_simp; first | done | omega)
 refine MW ?_ (v := .bool false)
 refine MZ fun W hS => ?_
 go_upto_region 3 with fail
 refine RL hS ?_
 clear hS
 refine MW ?_ (v := .agg #[.slice none 0 0, .bool false, .bool false]) (hv := by intro W; first | rfl | kernel_rfl)
 refine MN (z := #[.slice none 0 0, .bool false, .bool false]) (t := 96) ?_
 intro p24_2
 refine MT (fun W hS => hS.onil rfl) ?_
 refine MV ?_
 refine MZ fun W hS => ?_
 go_upto_region 4 with fail
 refine RTp [2] (.q 0 (.q 1 (.q 2 (.q 3 (.q 4 (.e 5 .z)))))) hS ?_
 clear hS
 refine TV ?_
 refine TV ?_
 refine TV ?_
 refine TV ?_
 refine TG 0 ?_ (v := .int .i64 a.k) (hj := (agF_cel (off := 0) 0))
 refine TE (fun _ h => h.pick [2]) ?_
 refine ME (V := fun _ => .tuple #[]) (fun W hS => callX [1, 0] [2] hS (fun hT => wr_call hT (fun hw => wbyte_i (n := a.k) (l := []) (by omega) hw (by first | omega | decide))) (fun _ => ⟨.inr ⟨rfl, rfl⟩, .inr ⟨rfl, rfl⟩, trivial⟩)) ?_
 intro w3
 have hb_4 : ([] ++ [u8 a.k.toNat]).length ≤ 1 := (by rw [List.length_append]; simp only [List.length_cons, List.length_nil, lb_length, be8_len, eI_len, tB_len]; omega)
 refine TNp [2] [0] ?_
 refine TZ (fun _ h => h.pick [2]) fun W hS => ?_
 go_upto_region 5 with fail
 refine RTp [2] (.q 0 (.q 1 (.q 2 (.q 3 (.q 4 (.e 5 .z)))))) hS ?_
 clear hS
 refine TV ?_
 refine TV ?_
 refine TV ?_
 refine TV ?_
 refine TG 0 ?_ (v := .int .i64 a.er) (hj := (agF_cel (off := 1) 1))
 refine TE (fun _ h => h.pick [2]) ?_
 refine ME (V := fun _ => .tuple #[]) (fun W hS => callX [0, 1] [2] hS (fun hT => wr_call hT (fun hw => wbyte_i (n := a.er) (l := [] ++ [u8 a.k.toNat]) (by omega) hw (by first | omega | decide))) (fun _ => ⟨.inr ⟨rfl, rfl⟩, .inr ⟨rfl, rfl⟩, trivial⟩)) ?_
 intro w5
 have hb_6 : (([] ++ [u8 a.k.toNat]) ++ [u8 a.er.toNat]).length ≤ 2 := (by rw [List.length_append]; simp only [List.length_cons, List.length_nil, lb_length, be8_len, eI_len, tB_len]; omega)
 refine MT (H' := [.b p24_2 #[w5, .bool false, .bool false] 96, .o w5 [u8 a.k.toNat, u8 a.er.toNat], .b p1_1 (anF a v) 85]) (fun W hS => hS) ?_
 refine TNp [2] [0] ?_
 refine TZ (fun _ h => h.pick [2]) fun W hS => ?_
 go_upto_region 6 with fail
 refine RL hS ?_
 clear hS
 refine MV ?_
 refine MG 2 ?_ (v := .int .i64 a.er) (hj := (agF_cel (off := 1) 1))
 refine MW ?_ (v := .bool false) (hv := by intro W; go_simp; first | done | omega)
 refine MZ fun W hS => ?_
 go_upto_region 8 with fail
 refine RL hS ?_
 clear hS
 refine MV ?_
 refine MG 2 ?_ (v := .int .i64 a.k) (hj := (agF_cel (off := 0) 0))
 refine MZ fun W hS => ?_
 go_upto_region 9 with fail
 refine RL hS ?_
 clear hS
 refine MW ?_ (v := .bool false) (hv := by intro W; go_simp; first | done | omega | decide)
 refine MW ?_ (v := .bool false)
 refine MZ fun W hS => ?_
 go_upto_region 10 with fail
 refine RL hS ?_
 clear hS
 refine MW ?_ (v := .bool false) (hv := by intro W; go_simp; first | done | omega | decide)
 refine MW ?_ (v := .bool false)
 refine MZ fun W hS => ?_
 go_upto_region 12 with fail
 refine RL hS ?_
 clear hS
 refine MW ?_ (v := .bool true) (hv := by intro W; go_simp; first | done | omega | decide)
 refine MW ?_ (v := .bool true)
 refine MZ fun W hS => ?_
 go_upto_region 13 with fail
 refine RL hS ?_
 clear hS
 refine MV ?_
 refine MV ?_
 refine Mk 2 ?_ (sub := agF [.c (.int .i64 a.f.ep), .a 32 a.f.ix, .a 80 a.f.vr, .c (.bool a.f.pre), .c (.int .i64 a.f.ver), .c v.fv, .a 32 a.f.bo, .a 32 a.f.op, .c v.fs, .c (.bool a.f.th), .a 32 a.f.a, .a 32 a.f.x, .a 32 a.f.ro, .a 32 a.f.li, .a 32 a.f.ah, .c (.int .i64 a.f.rd)]) (hs := (agF_part (off := 3) 3 16))
 refine MT (fun W hS => hS.ent hfv) ?_
 refine MT (fun W hS => hS.entp (RR.pholds (by decide) b32l_len hfs)) ?_
 refine ME (V := fun _ => .tuple #[]) (fun W hS => callX [2, 3, 1, 0] [4] hS (fun hT => wfound_n (f := a.f) (vv := v.fv) (sv := v.fs) hle.fs (p := p24_2) (v := w5) (l := [u8 a.k.toNat, u8 a.er.toNat]) (bad := false) (by first | omega | decide) W hT) (fun _ => ⟨.inr ⟨rfl, rfl⟩, .inr ⟨rfl, rfl⟩, .inl (by simp), .inl (by simp), trivial⟩)) ?_
 intro w7
 refine MT (H' := [.b p24_2 #[w7, .bool false, .bool (foB a.f false)] 96, .o w7 (foL a.f [u8 a.k.toNat, u8 a.er.toNat]), .s v.fv a.f.val, smT v.fs a.f.ss, .b p1_1 (anF a v) 85]) (fun W hS => hS) ?_
 have hb_8 : (foL a.f [u8 a.k.toNat, u8 a.er.toNat]).length ≤ 8802 := Nat.le_trans foL_le (by omega)
 refine MZ fun W hS => ?_
 go_upto_region 14 with fail
 refine RTp [2, 3, 4] (.q 0 (.q 1 (.q 2 (.q 3 (.q 4 (.e 5 .z)))))) hS ?_
 clear hS
 refine TV ?_
 refine TV ?_
 refine TV ?_
 refine TV ?_
 refine Tk 2 ?_ (sub := arrK .u8 32 (byt a.pub)) (hs := (agF_arr (off := 346) 19))
 refine TE (fun _ h => h.pick [2, 3, 4]) ?_
 refine ME (V := fun _ => .tuple #[]) (fun W hS => callX [0, 1] [2, 3, 4] hS (fun hT => wr_call hT (fun hw => wsum_n a.pub p24_2 w7 (foL a.f [u8 a.k.toNat, u8 a.er.toNat]) false W hw (by first | omega | decide))) (fun _ => ⟨.inr ⟨rfl, rfl⟩, .inr ⟨rfl, rfl⟩, trivial⟩)) ?_
 intro w9
 have hb_10 : ((foL a.f [u8 a.k.toNat, u8 a.er.toNat]) ++ (lb 32 a.pub)).length ≤ 8834 := (by rw [List.length_append]; simp only [List.length_cons, List.length_nil, lb_length, be8_len, eI_len, tB_len]; omega)
 refine TNp [2, 3, 4] [0, 1, 2] ?_
 refine TZ (fun _ h => h.pick [2, 3, 4]) fun W hS => ?_
 go_upto_region 15 with fail
 refine RL hS ?_
 clear hS
 refine MV ?_
 refine MV ?_
 refine MG 4 ?_ (v := v.lat) (hj := (agF_cel (off := 378) 20))
 refine MT (fun W hS => hS.entp (RR.pholds (by decide) b32l_len hlat)) ?_
 refine ME (V := fun _ => .tuple #[]) (fun W hS => callX [1, 2, 0] [3, 4, 5] hS (fun hT => wsums_n (ss := a.lat) (sv := v.lat) hle.lat (p := p24_2) (v := w9) (l := (foL a.f [u8 a.k.toNat, u8 a.er.toNat]) ++ (lb 32 a.pub)) (bad := (foB a.f false)) (by first | omega | decide) W hT) (fun _ => ⟨.inr ⟨rfl, rfl⟩, .inr ⟨rfl, rfl⟩, .inl (by simp), trivial⟩)) ?_
 intro w11
 refine MT (H' := [.b p24_2 #[w11, .bool false, .bool (smB a.lat (foB a.f false))] 96, .o w11 (smL a.lat ((foL a.f [u8 a.k.toNat, u8 a.er.toNat]) ++ (lb 32 a.pub))), smT v.lat a.lat, .s v.fv a.f.val, smT v.fs a.f.ss, .b p1_1 (anF a v) 85]) (fun W hS => hS) ?_
 have hb_12 : (smL a.lat ((foL a.f [u8 a.k.toNat, u8 a.er.toNat]) ++ (lb 32 a.pub))).length ≤ 17034 := Nat.le_trans smL_le (by omega)
 refine MZ fun W hS => ?_
 go_upto_region 16 with fail
 refine RL hS ?_
 clear hS
 refine MV ?_
 refine MV ?_
 refine Mk 5 ?_ (sub := agF [.c v.us, .c (.bool a.u.th), .a 32 a.u.a, .a 32 a.u.x, .c (.int .i64 a.u.ep), .a 32 a.u.ro, .a 64 a.u.sig, .a 32 a.u.lo, .c v.uu]) (hs := (agF_part (off := 379) 21 9))
 refine MT (fun W hS => hS.entp (RR.pholds (by decide) b32l_len hus)) ?_
 refine MT (fun W hS => hS.entp (RR.pholds (by decide) b32l_len huu)) ?_
 refine ME (V := fun _ => .tuple #[]) (fun W hS => callX [2, 3, 1, 0] [4, 5, 6, 7] hS (fun hT => wunder_n (u := a.u) (sv := v.us) (uv := v.uu) hle.us hle.uu (p := p24_2) (v := w11) (l := smL a.lat ((foL a.f [u8 a.k.toNat, u8 a.er.toNat]) ++ (lb 32 a.pub))) (bad := (smB a.lat (foB a.f false))) (by first | omega | decide) W hT) (fun _ => ⟨.inr ⟨rfl, rfl⟩, .inr ⟨rfl, rfl⟩, .inl (by simp), .inl (by simp), trivial⟩)) ?_
 intro w13
 refine MT (H' := [.b p24_2 #[w13, .bool false, .bool (unB a.u (smB a.lat (foB a.f false)))] 96, .o w13 (unL a.u (smL a.lat ((foL a.f [u8 a.k.toNat, u8 a.er.toNat]) ++ (lb 32 a.pub)))), smT v.us a.u.ss, smT v.uu a.u.us, smT v.lat a.lat, .s v.fv a.f.val, smT v.fs a.f.ss, .b p1_1 (anF a v) 85]) (fun W hS => hS) ?_
 have hb_14 : (unL a.u (smL a.lat ((foL a.f [u8 a.k.toNat, u8 a.er.toNat]) ++ (lb 32 a.pub)))).length ≤ 33734 := Nat.le_trans unL_le (by omega)
 refine MZ fun W hS => ?_
 rcases bool_or (unB a.u (smB a.lat (foB a.f false))) with hb | hb
 ·
  have _f := True.intro
  go_upto_region 29 with fail
  refine RL hS ?_
  clear hS
  refine MV ?_
  refine MT (fun W hS => by rw [hb] at hS; exact hS) ?_
  refine MC (v := .tuple #[.slice none 0 0, .int .i64 2]) (fun W hS => done_bad p24_2 w13 (unL a.u (smL a.lat ((foL a.f [u8 a.k.toNat, u8 a.er.toNat]) ++ (lb 32 a.pub)))) W (hS.blk (i := 0) rfl) (hS.own (i := 1) rfl) (by omega)) ?_
  refine MV ?_
  refine MW ?_ (v := .int .i64 2)
  refine MV ?_
  refine MW ?_ (v := .int .i64 2)
  refine MZ fun W hS => ?_
  go_wp2
  exact bodyPost_ret (v := .tuple #[.slice none 0 0, .int .i64 2]) (by simp only [results, Try.results24]; go_simp) rfl (.inl ⟨by unfold telB; rw [if_pos hok, if_pos he, anB_6 hk]; exact hb, rfl, hS.ext⟩)
 ·
  have _f := True.intro
  go_upto_region 29 with fail
  refine RL hS ?_
  clear hS
  refine MV ?_
  refine MT (fun W hS => by rw [hb] at hS; exact hS) ?_
  refine ME (V := fun u => .tuple #[u, .int .i64 0]) (fun W hS => ncallW hS (done_ok p24_2 w13 (unL a.u (smL a.lat ((foL a.f [u8 a.k.toNat, u8 a.er.toNat]) ++ (lb 32 a.pub)))) W (hS.blk (i := 0) rfl) (hS.own (i := 1) rfl) (by omega))) ?_
  intro u
  refine MV ?_
  refine MW ?_ (v := .int .i64 0)
  refine MV ?_
  refine MW ?_ (v := .int .i64 0)
  refine MZ fun W hS => ?_
  go_wp2
  exact bodyPost_ret (v := .tuple #[u, .int .i64 0]) (by simp only [results, Try.results24]; go_simp) rfl (.inr ⟨by unfold telB; rw [if_pos hok, if_pos he, anB_6 hk]; exact hb, _, rfl, by unfold telL; rw [if_pos he, anL_6 hk]; exact hS.pick [0]⟩)
theorem tell_7 {a : An} {v : Av} (hok : telK a) (he : a.er = 0) (hk : a.k = 7) (hle : lenA a) (w : World) (h : AnR a v w) :
  Calls Try.prog 24 #[.agg (anF a v)] w fun e w' => (telB a = true ∧ Ret (.tuple #[.slice none 0 0, .int .i64 2]) w w' e) ∨ (telB a = false ∧ ∃ u, e = .returned (.tuple #[u, .int .i64 0]) ∧ SH [] w w' [.o u (telL a)]) := by
 obtain ⟨⟨hk0, hk9⟩, he0, he9⟩ := id hok
 have hS := SH.nil [] w
 obtain ⟨hfv, hfs, hlat, hus, huu, hen, hmks, hmi, hbun, hsu⟩ := h
 have hhd : ([u8 a.k.toNat, u8 a.er.toNat]).length ≤ 2 := Nat.le_refl _
 go_enter Try.func24, Try.ntmps24
 go_upto_region 0 with fail
 refine RL hS ?_
 clear hS
 refine MN (z := agF (.c (.int .i64 a.k) :: .c (.int .i64 a.er) :: .c (.int .i64 a.ep) :: .c (.int .i64 a.f.ep) :: .a 32 a.f.ix :: .a 80 a.f.vr :: .c (.bool a.f.pre) :: .c (.int .i64 a.f.ver) :: .c v.fv :: .a 32 a.f.bo :: .a 32 a.f.op :: .c v.fs :: .c (.bool a.f.th) :: .a 32 a.f.a :: .a 32 a.f.x :: .a 32 a.f.ro :: .a 32 a.f.li :: .a 32 a.f.ah :: .c (.int .i64 a.f.rd) :: .a 32 a.pub :: .c v.lat :: .c v.us :: .c (.bool a.u.th) :: .a 32 a.u.a :: .a 32 a.u.x :: .c (.int .i64 a.u.ep) :: .a 32 a.u.ro :: .a 64 a.u.sig :: .a 32 a.u.lo :: .c v.uu :: .c v.en :: .c v.mks :: .c v.mi :: .c (.bool a.m.gone) :: .c (.int .i64 a.m.ep) :: .a 32 a.m.li :: .c v.bun :: .a 32 a.lo :: .c v.su :: [])) (t := 85) ?_
 intro p1_1
 refine MV ?_
 refine MW ?_ (v := .int .i64 0)
 refine MZ fun W hS => ?_
 go_upto_region 1 with fail
 refine RL hS ?_
 clear hS
 refine MV ?_
 refine MG 0 ?_ (v := .int .i64 a.k) (hj := (agF_cel (off := 0) 0))
 refine MW ?_ (v := .bool false) (hv := by intro W; go_simp; first | done | omega)
 refine MW ?_ (v := .bool false)
 refine MV ?_
 refine MG 0 ?_ (v := .int .i64 a.k) (hj := (agF_cel (off := 0) 0))
 refine MW ?_ (v := .bool false) (hv := by intro W; go_simp; first | done | omega)
 refine MW ?_ (v := .bool false)
 refine MW ?_ (v := .bool false)
 refine MV ?_
 refine MG 0 ?_ (v := .int .i64 a.er) (hj := (agF_cel (off := 1) 1))
 refine MW ?_ (v := .bool false) (hv := by intro W; go_simp; first | done | omega)
 refine MW ?_ (v := .bool false)
 refine MW ?_ (v := .bool false)
 refine MV ?_
 refine MG 0 ?_ (v := .int .i64 a.er) (hj := (agF_cel (off := 1) 1))
 refine MW ?_ (v := .bool false) (hv := by intro W; go_simp; first | done | omega)
 refine MW ?_ (v := .bool false)
 refine MZ fun W hS => ?_
 go_upto_region 3 with fail
 refine RL hS ?_
 clear hS
 refine MW ?_ (v := .agg #[.slice none 0 0, .bool false, .bool false]) (hv := by intro W; first | rfl | kernel_rfl)
 refine MN (z := #[.slice none 0 0, .bool false, .bool false]) (t := 96) ?_
 intro p24_2
 refine MT (fun W hS => hS.onil rfl) ?_
 refine MV ?_
 refine MZ fun W hS => ?_
 go_upto_region 4 with fail
 refine RTp [2] (.q 0 (.q 1 (.q 2 (.q 3 (.q 4 (.e 5 .z)))))) hS ?_
 clear hS
 refine TV ?_
 refine TV ?_
 refine TV ?_
 refine TV ?_
 refine TG 0 ?_ (v := .int .i64 a.k) (hj := (agF_cel (off := 0) 0))
 refine TE (fun _ h => h.pick [2]) ?_
 refine ME (V := fun _ => .tuple #[]) (fun W hS => callX [1, 0] [2] hS (fun hT => wr_call hT (fun hw => wbyte_i (n := a.k) (l := []) (by omega) hw (by first | omega | decide))) (fun _ => ⟨.inr ⟨rfl, rfl⟩, .inr ⟨rfl, rfl⟩, trivial⟩)) ?_
 intro w3
 have hb_4 : ([] ++ [u8 a.k.toNat]).length ≤ 1 := (by rw [List.length_append]; simp only [List.length_cons, List.length_nil, lb_length, be8_len, eI_len, tB_len]; omega)
 refine TNp [2] [0] ?_
 refine TZ (fun _ h => h.pick [2]) fun W hS => ?_
 go_upto_region 5 with fail
 refine RTp [2] (.q 0 (.q 1 (.q 2 (.q 3 (.q 4 (.e 5 .z)))))) hS ?_
 clear hS
 refine TV ?_
 refine TV ?_
 refine TV ?_
 refine TV ?_
 refine TG 0 ?_ (v := .int .i64 a.er) (hj := (agF_cel (off := 1) 1))
 refine TE (fun _ h => h.pick [2]) ?_
 refine ME (V := fun _ => .tuple #[]) (fun W hS => callX [0, 1] [2] hS (fun hT => wr_call hT (fun hw => wbyte_i (n := a.er) (l := [] ++ [u8 a.k.toNat]) (by omega) hw (by first | omega | decide))) (fun _ => ⟨.inr ⟨rfl, rfl⟩, .inr ⟨rfl, rfl⟩, trivial⟩)) ?_
 intro w5
 have hb_6 : (([] ++ [u8 a.k.toNat]) ++ [u8 a.er.toNat]).length ≤ 2 := (by rw [List.length_append]; simp only [List.length_cons, List.length_nil, lb_length, be8_len, eI_len, tB_len]; omega)
 refine MT (H' := [.b p24_2 #[w5, .bool false, .bool false] 96, .o w5 [u8 a.k.toNat, u8 a.er.toNat], .b p1_1 (anF a v) 85]) (fun W hS => hS) ?_
 refine TNp [2] [0] ?_
 refine TZ (fun _ h => h.pick [2]) fun W hS => ?_
 go_upto_region 6 with fail
 refine RL hS ?_
 clear hS
 refine MV ?_
 refine MG 2 ?_ (v := .int .i64 a.er) (hj := (agF_cel (off := 1) 1))
 refine MW ?_ (v := .bool false) (hv := by intro W; go_simp; first | done | omega)
 refine MZ fun W hS => ?_
 go_upto_region 8 with fail
 refine RL hS ?_
 clear hS
 refine MV ?_
 refine MG 2 ?_ (v := .int .i64 a.k) (hj := (agF_cel (off := 0) 0))
 refine MZ fun W hS => ?_
 go_upto_region 9 with fail
 refine RL hS ?_
 clear hS
 refine MW ?_ (v := .bool false) (hv := by intro W; go_simp; first | done | omega | decide)
 refine MW ?_ (v := .bool false)
 refine MZ fun W hS => ?_
 go_upto_region 10 with fail
 refine RL hS ?_
 clear hS
 refine MW ?_ (v := .bool false) (hv := by intro W; go_simp; first | done | omega | decide)
 refine MW ?_ (v := .bool false)
 refine MZ fun W hS => ?_
 go_upto_region 12 with fail
 refine RL hS ?_
 clear hS
 refine MW ?_ (v := .bool false) (hv := by intro W; go_simp; first | done | omega | decide)
 refine MW ?_ (v := .bool false)
 refine MZ fun W hS => ?_
 go_upto_region 17 with fail
 refine RL hS ?_
 clear hS
 refine MW ?_ (v := .bool true) (hv := by intro W; go_simp; first | done | omega | decide)
 refine MW ?_ (v := .bool true)
 refine MZ fun W hS => ?_
 go_upto_region 18 with fail
 refine RL hS ?_
 clear hS
 refine MV ?_
 refine MV ?_
 refine MG 2 ?_ (v := v.en) (hj := (agF_cel (off := 575) 30))
 refine MT (fun W hS => hS.entp (enT_holds hen)) ?_
 refine ME (V := fun _ => .tuple #[]) (fun W hS => callX [1, 2, 0] [3] hS (fun hT => wentries_n (q := a.en) (ev := v.en) hle.en (p := p24_2) (v := w5) (l := [u8 a.k.toNat, u8 a.er.toNat]) (bad := false) (by first | omega | decide) W hT) (fun _ => ⟨.inr ⟨rfl, rfl⟩, .inr ⟨rfl, rfl⟩, .inl (by simp), trivial⟩)) ?_
 intro w7
 refine MT (H' := [.b p24_2 #[w7, .bool false, .bool (esB a.en false)] 96, .o w7 (esL a.en [u8 a.k.toNat, u8 a.er.toNat]), enT v.en a.en, .b p1_1 (anF a v) 85]) (fun W hS => hS) ?_
 have hb_8 : (esL a.en [u8 a.k.toNat, u8 a.er.toNat]).length ≤ 84002 := Nat.le_trans esL_le (by omega)
 refine MZ fun W hS => ?_
 rcases bool_or (esB a.en false) with hb | hb
 ·
  have _f := True.intro
  go_upto_region 29 with fail
  refine RL hS ?_
  clear hS
  refine MV ?_
  refine MT (fun W hS => by rw [hb] at hS; exact hS) ?_
  refine MC (v := .tuple #[.slice none 0 0, .int .i64 2]) (fun W hS => done_bad p24_2 w7 (esL a.en [u8 a.k.toNat, u8 a.er.toNat]) W (hS.blk (i := 0) rfl) (hS.own (i := 1) rfl) (by omega)) ?_
  refine MV ?_
  refine MW ?_ (v := .int .i64 2)
  refine MV ?_
  refine MW ?_ (v := .int .i64 2)
  refine MZ fun W hS => ?_
  go_wp2
  exact bodyPost_ret (v := .tuple #[.slice none 0 0, .int .i64 2]) (by simp only [results, Try.results24]; go_simp) rfl (.inl ⟨by unfold telB; rw [if_pos hok, if_pos he, anB_7 hk]; exact hb, rfl, hS.ext⟩)
 ·
  have _f := True.intro
  go_upto_region 29 with fail
  refine RL hS ?_
  clear hS
  refine MV ?_
  refine MT (fun W hS => by rw [hb] at hS; exact hS) ?_
  refine ME (V := fun u => .tuple #[u, .int .i64 0]) (fun W hS => ncallW hS (done_ok p24_2 w7 (esL a.en [u8 a.k.toNat, u8 a.er.toNat]) W (hS.blk (i := 0) rfl) (hS.own (i := 1) rfl) (by omega))) ?_
  intro u
  refine MV ?_
  refine MW ?_ (v := .int .i64 0)
  refine MV ?_
  refine MW ?_ (v := .int .i64 0)
  refine MZ fun W hS => ?_
  go_wp2
  exact bodyPost_ret (v := .tuple #[u, .int .i64 0]) (by simp only [results, Try.results24]; go_simp) rfl (.inr ⟨by unfold telB; rw [if_pos hok, if_pos he, anB_7 hk]; exact hb, _, rfl, by unfold telL; rw [if_pos he, anL_7 hk]; exact hS.pick [0]⟩)
theorem tell_8 {a : An} {v : Av} (hok : telK a) (he : a.er = 0) (hk : a.k = 8) (hle : lenA a) (w : World) (h : AnR a v w) :
  Calls Try.prog 24 #[.agg (anF a v)] w fun e w' => (telB a = true ∧ Ret (.tuple #[.slice none 0 0, .int .i64 2]) w w' e) ∨ (telB a = false ∧ ∃ u, e = .returned (.tuple #[u, .int .i64 0]) ∧ SH [] w w' [.o u (telL a)]) := by
 obtain ⟨⟨hk0, hk9⟩, he0, he9⟩ := id hok
 have hS := SH.nil [] w
 obtain ⟨hfv, hfs, hlat, hus, huu, hen, hmks, hmi, hbun, hsu⟩ := h
 have hhd : ([u8 a.k.toNat, u8 a.er.toNat]).length ≤ 2 := Nat.le_refl _
 go_enter Try.func24, Try.ntmps24
 go_upto_region 0 with fail
 refine RL hS ?_
 clear hS
 refine MN (z := agF (.c (.int .i64 a.k) :: .c (.int .i64 a.er) :: .c (.int .i64 a.ep) :: .c (.int .i64 a.f.ep) :: .a 32 a.f.ix :: .a 80 a.f.vr :: .c (.bool a.f.pre) :: .c (.int .i64 a.f.ver) :: .c v.fv :: .a 32 a.f.bo :: .a 32 a.f.op :: .c v.fs :: .c (.bool a.f.th) :: .a 32 a.f.a :: .a 32 a.f.x :: .a 32 a.f.ro :: .a 32 a.f.li :: .a 32 a.f.ah :: .c (.int .i64 a.f.rd) :: .a 32 a.pub :: .c v.lat :: .c v.us :: .c (.bool a.u.th) :: .a 32 a.u.a :: .a 32 a.u.x :: .c (.int .i64 a.u.ep) :: .a 32 a.u.ro :: .a 64 a.u.sig :: .a 32 a.u.lo :: .c v.uu :: .c v.en :: .c v.mks :: .c v.mi :: .c (.bool a.m.gone) :: .c (.int .i64 a.m.ep) :: .a 32 a.m.li :: .c v.bun :: .a 32 a.lo :: .c v.su :: [])) (t := 85) ?_
 intro p1_1
 refine MV ?_
 refine MW ?_ (v := .int .i64 0)
 refine MZ fun W hS => ?_
 go_upto_region 1 with fail
 refine RL hS ?_
 clear hS
 refine MV ?_
 refine MG 0 ?_ (v := .int .i64 a.k) (hj := (agF_cel (off := 0) 0))
 refine MW ?_ (v := .bool false) (hv := by intro W; go_simp; first | done | omega)
 refine MW ?_ (v := .bool false)
 refine MV ?_
 refine MG 0 ?_ (v := .int .i64 a.k) (hj := (agF_cel (off := 0) 0))
 refine MW ?_ (v := .bool false) (hv := by intro W; go_simp; first | done | omega)
 refine MW ?_ (v := .bool false)
 refine MW ?_ (v := .bool false)
 refine MV ?_
 refine MG 0 ?_ (v := .int .i64 a.er) (hj := (agF_cel (off := 1) 1))
 refine MW ?_ (v := .bool false) (hv := by intro W; go_simp; first | done | omega)
 refine MW ?_ (v := .bool false)
 refine MW ?_ (v := .bool false)
 refine MV ?_
 refine MG 0 ?_ (v := .int .i64 a.er) (hj := (agF_cel (off := 1) 1))
 refine MW ?_ (v := .bool false) (hv := by intro W; go_simp; first | done | omega)
 refine MW ?_ (v := .bool false)
 refine MZ fun W hS => ?_
 go_upto_region 3 with fail
 refine RL hS ?_
 clear hS
 refine MW ?_ (v := .agg #[.slice none 0 0, .bool false, .bool false]) (hv := by intro W; first | rfl | kernel_rfl)
 refine MN (z := #[.slice none 0 0, .bool false, .bool false]) (t := 96) ?_
 intro p24_2
 refine MT (fun W hS => hS.onil rfl) ?_
 refine MV ?_
 refine MZ fun W hS => ?_
 go_upto_region 4 with fail
 refine RTp [2] (.q 0 (.q 1 (.q 2 (.q 3 (.q 4 (.e 5 .z)))))) hS ?_
 clear hS
 refine TV ?_
 refine TV ?_
 refine TV ?_
 refine TV ?_
 refine TG 0 ?_ (v := .int .i64 a.k) (hj := (agF_cel (off := 0) 0))
 refine TE (fun _ h => h.pick [2]) ?_
 refine ME (V := fun _ => .tuple #[]) (fun W hS => callX [1, 0] [2] hS (fun hT => wr_call hT (fun hw => wbyte_i (n := a.k) (l := []) (by omega) hw (by first | omega | decide))) (fun _ => ⟨.inr ⟨rfl, rfl⟩, .inr ⟨rfl, rfl⟩, trivial⟩)) ?_
 intro w3
 have hb_4 : ([] ++ [u8 a.k.toNat]).length ≤ 1 := (by rw [List.length_append]; simp only [List.length_cons, List.length_nil, lb_length, be8_len, eI_len, tB_len]; omega)
 refine TNp [2] [0] ?_
 refine TZ (fun _ h => h.pick [2]) fun W hS => ?_
 go_upto_region 5 with fail
 refine RTp [2] (.q 0 (.q 1 (.q 2 (.q 3 (.q 4 (.e 5 .z)))))) hS ?_
 clear hS
 refine TV ?_
 refine TV ?_
 refine TV ?_
 refine TV ?_
 refine TG 0 ?_ (v := .int .i64 a.er) (hj := (agF_cel (off := 1) 1))
 refine TE (fun _ h => h.pick [2]) ?_
 refine ME (V := fun _ => .tuple #[]) (fun W hS => callX [0, 1] [2] hS (fun hT => wr_call hT (fun hw => wbyte_i (n := a.er) (l := [] ++ [u8 a.k.toNat]) (by omega) hw (by first | omega | decide))) (fun _ => ⟨.inr ⟨rfl, rfl⟩, .inr ⟨rfl, rfl⟩, trivial⟩)) ?_
 intro w5
 have hb_6 : (([] ++ [u8 a.k.toNat]) ++ [u8 a.er.toNat]).length ≤ 2 := (by rw [List.length_append]; simp only [List.length_cons, List.length_nil, lb_length, be8_len, eI_len, tB_len]; omega)
 refine MT (H' := [.b p24_2 #[w5, .bool false, .bool false] 96, .o w5 [u8 a.k.toNat, u8 a.er.toNat], .b p1_1 (anF a v) 85]) (fun W hS => hS) ?_
 refine TNp [2] [0] ?_
 refine TZ (fun _ h => h.pick [2]) fun W hS => ?_
 go_upto_region 6 with fail
 refine RL hS ?_
 clear hS
 refine MV ?_
 refine MG 2 ?_ (v := .int .i64 a.er) (hj := (agF_cel (off := 1) 1))
 refine MW ?_ (v := .bool false) (hv := by intro W; go_simp; first | done | omega)
 refine MZ fun W hS => ?_
 go_upto_region 8 with fail
 refine RL hS ?_
 clear hS
 refine MV ?_
 refine MG 2 ?_ (v := .int .i64 a.k) (hj := (agF_cel (off := 0) 0))
 refine MZ fun W hS => ?_
 go_upto_region 9 with fail
 refine RL hS ?_
 clear hS
 refine MW ?_ (v := .bool false) (hv := by intro W; go_simp; first | done | omega | decide)
 refine MW ?_ (v := .bool false)
 refine MZ fun W hS => ?_
 go_upto_region 10 with fail
 refine RL hS ?_
 clear hS
 refine MW ?_ (v := .bool false) (hv := by intro W; go_simp; first | done | omega | decide)
 refine MW ?_ (v := .bool false)
 refine MZ fun W hS => ?_
 go_upto_region 12 with fail
 refine RL hS ?_
 clear hS
 refine MW ?_ (v := .bool false) (hv := by intro W; go_simp; first | done | omega | decide)
 refine MW ?_ (v := .bool false)
 refine MZ fun W hS => ?_
 go_upto_region 17 with fail
 refine RL hS ?_
 clear hS
 refine MW ?_ (v := .bool false) (hv := by intro W; go_simp; first | done | omega | decide)
 refine MW ?_ (v := .bool false)
 refine MZ fun W hS => ?_
 go_upto_region 19 with fail
 refine RL hS ?_
 clear hS
 refine MW ?_ (v := .bool true) (hv := by intro W; go_simp; first | done | omega | decide)
 refine MW ?_ (v := .bool true)
 refine MZ fun W hS => ?_
 go_upto_region 20 with fail
 refine RL hS ?_
 clear hS
 refine MV ?_
 refine MV ?_
 refine MG 2 ?_ (v := v.mks) (hj := (agF_cel (off := 576) 31))
 refine MT (fun W hS => hS.entp (RR.pholds (by decide) mkC_len hmks)) ?_
 refine ME (V := fun _ => .tuple #[]) (fun W hS => callX [1, 2, 0] [3] hS (fun hT => wmarks_n (ms := a.mks) (mv := v.mks) hle.mks (p := p24_2) (v := w5) (l := [u8 a.k.toNat, u8 a.er.toNat]) (bad := false) (by first | omega | decide) W hT) (fun _ => ⟨.inr ⟨rfl, rfl⟩, .inr ⟨rfl, rfl⟩, .inl (by simp), trivial⟩)) ?_
 intro w7
 refine MT (H' := [.b p24_2 #[w7, .bool false, .bool (mksB a.mks false)] 96, .o w7 (mksL a.mks [u8 a.k.toNat, u8 a.er.toNat]), mkT v.mks a.mks, .b p1_1 (anF a v) 85]) (fun W hS => hS) ?_
 have hb_8 : (mksL a.mks [u8 a.k.toNat, u8 a.er.toNat]).length ≤ 73802 := Nat.le_trans mksL_le (by omega)
 refine MZ fun W hS => ?_
 rcases bool_or (mksB a.mks false) with hb | hb
 ·
  have _f := True.intro
  go_upto_region 29 with fail
  refine RL hS ?_
  clear hS
  refine MV ?_
  refine MT (fun W hS => by rw [hb] at hS; exact hS) ?_
  refine MC (v := .tuple #[.slice none 0 0, .int .i64 2]) (fun W hS => done_bad p24_2 w7 (mksL a.mks [u8 a.k.toNat, u8 a.er.toNat]) W (hS.blk (i := 0) rfl) (hS.own (i := 1) rfl) (by omega)) ?_
  refine MV ?_
  refine MW ?_ (v := .int .i64 2)
  refine MV ?_
  refine MW ?_ (v := .int .i64 2)
  refine MZ fun W hS => ?_
  go_wp2
  exact bodyPost_ret (v := .tuple #[.slice none 0 0, .int .i64 2]) (by simp only [results, Try.results24]; go_simp) rfl (.inl ⟨by unfold telB; rw [if_pos hok, if_pos he, anB_8 hk]; exact hb, rfl, hS.ext⟩)
 ·
  have _f := True.intro
  go_upto_region 29 with fail
  refine RL hS ?_
  clear hS
  refine MV ?_
  refine MT (fun W hS => by rw [hb] at hS; exact hS) ?_
  refine ME (V := fun u => .tuple #[u, .int .i64 0]) (fun W hS => ncallW hS (done_ok p24_2 w7 (mksL a.mks [u8 a.k.toNat, u8 a.er.toNat]) W (hS.blk (i := 0) rfl) (hS.own (i := 1) rfl) (by omega))) ?_
  intro u
  refine MV ?_
  refine MW ?_ (v := .int .i64 0)
  refine MV ?_
  refine MW ?_ (v := .int .i64 0)
  refine MZ fun W hS => ?_
  go_wp2
  exact bodyPost_ret (v := .tuple #[u, .int .i64 0]) (by simp only [results, Try.results24]; go_simp) rfl (.inr ⟨by unfold telB; rw [if_pos hok, if_pos he, anB_8 hk]; exact hb, _, rfl, by unfold telL; rw [if_pos he, anL_8 hk]; exact hS.pick [0]⟩)
theorem tell_9 {a : An} {v : Av} (hok : telK a) (he : a.er = 0) (hk : a.k = 9) (hle : lenA a) (w : World) (h : AnR a v w) :
  Calls Try.prog 24 #[.agg (anF a v)] w fun e w' => (telB a = true ∧ Ret (.tuple #[.slice none 0 0, .int .i64 2]) w w' e) ∨ (telB a = false ∧ ∃ u, e = .returned (.tuple #[u, .int .i64 0]) ∧ SH [] w w' [.o u (telL a)]) := by
 obtain ⟨⟨hk0, hk9⟩, he0, he9⟩ := id hok
 have hS := SH.nil [] w
 obtain ⟨hfv, hfs, hlat, hus, huu, hen, hmks, hmi, hbun, hsu⟩ := h
 have hhd : ([u8 a.k.toNat, u8 a.er.toNat]).length ≤ 2 := Nat.le_refl _
 go_enter Try.func24, Try.ntmps24
 go_upto_region 0 with fail
 refine RL hS ?_
 clear hS
 refine MN (z := agF (.c (.int .i64 a.k) :: .c (.int .i64 a.er) :: .c (.int .i64 a.ep) :: .c (.int .i64 a.f.ep) :: .a 32 a.f.ix :: .a 80 a.f.vr :: .c (.bool a.f.pre) :: .c (.int .i64 a.f.ver) :: .c v.fv :: .a 32 a.f.bo :: .a 32 a.f.op :: .c v.fs :: .c (.bool a.f.th) :: .a 32 a.f.a :: .a 32 a.f.x :: .a 32 a.f.ro :: .a 32 a.f.li :: .a 32 a.f.ah :: .c (.int .i64 a.f.rd) :: .a 32 a.pub :: .c v.lat :: .c v.us :: .c (.bool a.u.th) :: .a 32 a.u.a :: .a 32 a.u.x :: .c (.int .i64 a.u.ep) :: .a 32 a.u.ro :: .a 64 a.u.sig :: .a 32 a.u.lo :: .c v.uu :: .c v.en :: .c v.mks :: .c v.mi :: .c (.bool a.m.gone) :: .c (.int .i64 a.m.ep) :: .a 32 a.m.li :: .c v.bun :: .a 32 a.lo :: .c v.su :: [])) (t := 85) ?_
 intro p1_1
 refine MV ?_
 refine MW ?_ (v := .int .i64 0)
 refine MZ fun W hS => ?_
 go_upto_region 1 with fail
 refine RL hS ?_
 clear hS
 refine MV ?_
 refine MG 0 ?_ (v := .int .i64 a.k) (hj := (agF_cel (off := 0) 0))
 refine MW ?_ (v := .bool false) (hv := by intro W; go_simp; first | done | omega)
 refine MW ?_ (v := .bool false)
 refine MV ?_
 refine MG 0 ?_ (v := .int .i64 a.k) (hj := (agF_cel (off := 0) 0))
 refine MW ?_ (v := .bool false) (hv := by intro W; go_simp; first | done | omega)
 refine MW ?_ (v := .bool false)
 refine MW ?_ (v := .bool false)
 refine MV ?_
 refine MG 0 ?_ (v := .int .i64 a.er) (hj := (agF_cel (off := 1) 1))
 refine MW ?_ (v := .bool false) (hv := by intro W; go_simp; first | done | omega)
 refine MW ?_ (v := .bool false)
 refine MW ?_ (v := .bool false)
 refine MV ?_
 refine MG 0 ?_ (v := .int .i64 a.er) (hj := (agF_cel (off := 1) 1))
 refine MW ?_ (v := .bool false) (hv := by intro W; go_simp; first | done | omega)
 refine MW ?_ (v := .bool false)
 refine MZ fun W hS => ?_
 go_upto_region 3 with fail
 refine RL hS ?_
 clear hS
 refine MW ?_ (v := .agg #[.slice none 0 0, .bool false, .bool false]) (hv := by intro W; first | rfl | kernel_rfl)
 refine MN (z := #[.slice none 0 0, .bool false, .bool false]) (t := 96) ?_
 intro p24_2
 refine MT (fun W hS => hS.onil rfl) ?_
 refine MV ?_
 refine MZ fun W hS => ?_
 go_upto_region 4 with fail
 refine RTp [2] (.q 0 (.q 1 (.q 2 (.q 3 (.q 4 (.e 5 .z)))))) hS ?_
 clear hS
 refine TV ?_
 refine TV ?_
 refine TV ?_
 refine TV ?_
 refine TG 0 ?_ (v := .int .i64 a.k) (hj := (agF_cel (off := 0) 0))
 refine TE (fun _ h => h.pick [2]) ?_
 refine ME (V := fun _ => .tuple #[]) (fun W hS => callX [1, 0] [2] hS (fun hT => wr_call hT (fun hw => wbyte_i (n := a.k) (l := []) (by omega) hw (by first | omega | decide))) (fun _ => ⟨.inr ⟨rfl, rfl⟩, .inr ⟨rfl, rfl⟩, trivial⟩)) ?_
 intro w3
 have hb_4 : ([] ++ [u8 a.k.toNat]).length ≤ 1 := (by rw [List.length_append]; simp only [List.length_cons, List.length_nil, lb_length, be8_len, eI_len, tB_len]; omega)
 refine TNp [2] [0] ?_
 refine TZ (fun _ h => h.pick [2]) fun W hS => ?_
 go_upto_region 5 with fail
 refine RTp [2] (.q 0 (.q 1 (.q 2 (.q 3 (.q 4 (.e 5 .z)))))) hS ?_
 clear hS
 refine TV ?_
 refine TV ?_
 refine TV ?_
 refine TV ?_
 refine TG 0 ?_ (v := .int .i64 a.er) (hj := (agF_cel (off := 1) 1))
 refine TE (fun _ h => h.pick [2]) ?_
 refine ME (V := fun _ => .tuple #[]) (fun W hS => callX [0, 1] [2] hS (fun hT => wr_call hT (fun hw => wbyte_i (n := a.er) (l := [] ++ [u8 a.k.toNat]) (by omega) hw (by first | omega | decide))) (fun _ => ⟨.inr ⟨rfl, rfl⟩, .inr ⟨rfl, rfl⟩, trivial⟩)) ?_
 intro w5
 have hb_6 : (([] ++ [u8 a.k.toNat]) ++ [u8 a.er.toNat]).length ≤ 2 := (by rw [List.length_append]; simp only [List.length_cons, List.length_nil, lb_length, be8_len, eI_len, tB_len]; omega)
 refine MT (H' := [.b p24_2 #[w5, .bool false, .bool false] 96, .o w5 [u8 a.k.toNat, u8 a.er.toNat], .b p1_1 (anF a v) 85]) (fun W hS => hS) ?_
 refine TNp [2] [0] ?_
 refine TZ (fun _ h => h.pick [2]) fun W hS => ?_
 go_upto_region 6 with fail
 refine RL hS ?_
 clear hS
 refine MV ?_
 refine MG 2 ?_ (v := .int .i64 a.er) (hj := (agF_cel (off := 1) 1))
 refine MW ?_ (v := .bool false) (hv := by intro W; go_simp; first | done | omega)
 refine MZ fun W hS => ?_
 go_upto_region 8 with fail
 refine RL hS ?_
 clear hS
 refine MV ?_
 refine MG 2 ?_ (v := .int .i64 a.k) (hj := (agF_cel (off := 0) 0))
 refine MZ fun W hS => ?_
 go_upto_region 9 with fail
 refine RL hS ?_
 clear hS
 refine MW ?_ (v := .bool false) (hv := by intro W; go_simp; first | done | omega | decide)
 refine MW ?_ (v := .bool false)
 refine MZ fun W hS => ?_
 go_upto_region 10 with fail
 refine RL hS ?_
 clear hS
 refine MW ?_ (v := .bool false) (hv := by intro W; go_simp; first | done | omega | decide)
 refine MW ?_ (v := .bool false)
 refine MZ fun W hS => ?_
 go_upto_region 12 with fail
 refine RL hS ?_
 clear hS
 refine MW ?_ (v := .bool false) (hv := by intro W; go_simp; first | done | omega | decide)
 refine MW ?_ (v := .bool false)
 refine MZ fun W hS => ?_
 go_upto_region 17 with fail
 refine RL hS ?_
 clear hS
 refine MW ?_ (v := .bool false) (hv := by intro W; go_simp; first | done | omega | decide)
 refine MW ?_ (v := .bool false)
 refine MZ fun W hS => ?_
 go_upto_region 19 with fail
 refine RL hS ?_
 clear hS
 refine MW ?_ (v := .bool false) (hv := by intro W; go_simp; first | done | omega | decide)
 refine MW ?_ (v := .bool false)
 refine MZ fun W hS => ?_
 go_upto_region 21 with fail
 refine RL hS ?_
 clear hS
 refine MW ?_ (v := .bool true) (hv := by intro W; go_simp; first | done | omega | decide)
 refine MW ?_ (v := .bool true)
 refine MZ fun W hS => ?_
 go_upto_region 22 with fail
 refine RL hS ?_
 clear hS
 refine MV ?_
 refine MV ?_
 refine MG 2 ?_ (v := v.bun) (hj := (agF_cel (off := 612) 36))
 refine MT (fun W hS => hS.ent hbun) ?_
 refine ME (V := fun _ => .tuple #[]) (fun W hS => callX [1, 2, 0] [3] hS (fun hT => wtext_n (p := p24_2) (v := w5) (l := [u8 a.k.toNat, u8 a.er.toNat]) (bad := false) (u := v.bun) (t := a.bun) 65535 (by decide) (by first | omega | decide) W hT) (fun _ => ⟨.inr ⟨rfl, rfl⟩, .inr ⟨rfl, rfl⟩, .inl (by simp), trivial⟩)) ?_
 intro w7
 have hb_8 : (txL 65535 a.bun [u8 a.k.toNat, u8 a.er.toNat]).length ≤ 65539 := Nat.le_trans (txL_le (m := 65535) rfl) (by omega)
 refine MZ fun W hS => ?_
 rcases bool_or (txB 65535 a.bun false) with hb | hb
 ·
  have _f := True.intro
  go_upto_region 29 with fail
  refine RL hS ?_
  clear hS
  refine MV ?_
  refine MT (fun W hS => by rw [hb] at hS; exact hS) ?_
  refine MC (v := .tuple #[.slice none 0 0, .int .i64 2]) (fun W hS => done_bad p24_2 w7 (txL 65535 a.bun [u8 a.k.toNat, u8 a.er.toNat]) W (hS.blk (i := 0) rfl) (hS.own (i := 1) rfl) (by omega)) ?_
  refine MV ?_
  refine MW ?_ (v := .int .i64 2)
  refine MV ?_
  refine MW ?_ (v := .int .i64 2)
  refine MZ fun W hS => ?_
  go_wp2
  exact bodyPost_ret (v := .tuple #[.slice none 0 0, .int .i64 2]) (by simp only [results, Try.results24]; go_simp) rfl (.inl ⟨by unfold telB; rw [if_pos hok, if_pos he, anB_9 hk]; exact hb, rfl, hS.ext⟩)
 ·
  have _f := True.intro
  go_upto_region 29 with fail
  refine RL hS ?_
  clear hS
  refine MV ?_
  refine MT (fun W hS => by rw [hb] at hS; exact hS) ?_
  refine ME (V := fun u => .tuple #[u, .int .i64 0]) (fun W hS => ncallW hS (done_ok p24_2 w7 (txL 65535 a.bun [u8 a.k.toNat, u8 a.er.toNat]) W (hS.blk (i := 0) rfl) (hS.own (i := 1) rfl) (by omega))) ?_
  intro u
  refine MV ?_
  refine MW ?_ (v := .int .i64 0)
  refine MV ?_
  refine MW ?_ (v := .int .i64 0)
  refine MZ fun W hS => ?_
  go_wp2
  exact bodyPost_ret (v := .tuple #[u, .int .i64 0]) (by simp only [results, Try.results24]; go_simp) rfl (.inr ⟨by unfold telB; rw [if_pos hok, if_pos he, anB_9 hk]; exact hb, _, rfl, by unfold telL; rw [if_pos he, anL_9 hk]; exact hS.pick [0]⟩)
theorem tell_11 {a : An} {v : Av} (hok : telK a) (he : a.er = 0) (hk : a.k = 11) (hle : lenA a) (w : World) (h : AnR a v w) :
  Calls Try.prog 24 #[.agg (anF a v)] w fun e w' => (telB a = true ∧ Ret (.tuple #[.slice none 0 0, .int .i64 2]) w w' e) ∨ (telB a = false ∧ ∃ u, e = .returned (.tuple #[u, .int .i64 0]) ∧ SH [] w w' [.o u (telL a)]) := by
 obtain ⟨⟨hk0, hk9⟩, he0, he9⟩ := id hok
 have hS := SH.nil [] w
 obtain ⟨hfv, hfs, hlat, hus, huu, hen, hmks, hmi, hbun, hsu⟩ := h
 have hhd : ([u8 a.k.toNat, u8 a.er.toNat]).length ≤ 2 := Nat.le_refl _
 go_enter Try.func24, Try.ntmps24
 go_upto_region 0 with fail
 refine RL hS ?_
 clear hS
 refine MN (z := agF (.c (.int .i64 a.k) :: .c (.int .i64 a.er) :: .c (.int .i64 a.ep) :: .c (.int .i64 a.f.ep) :: .a 32 a.f.ix :: .a 80 a.f.vr :: .c (.bool a.f.pre) :: .c (.int .i64 a.f.ver) :: .c v.fv :: .a 32 a.f.bo :: .a 32 a.f.op :: .c v.fs :: .c (.bool a.f.th) :: .a 32 a.f.a :: .a 32 a.f.x :: .a 32 a.f.ro :: .a 32 a.f.li :: .a 32 a.f.ah :: .c (.int .i64 a.f.rd) :: .a 32 a.pub :: .c v.lat :: .c v.us :: .c (.bool a.u.th) :: .a 32 a.u.a :: .a 32 a.u.x :: .c (.int .i64 a.u.ep) :: .a 32 a.u.ro :: .a 64 a.u.sig :: .a 32 a.u.lo :: .c v.uu :: .c v.en :: .c v.mks :: .c v.mi :: .c (.bool a.m.gone) :: .c (.int .i64 a.m.ep) :: .a 32 a.m.li :: .c v.bun :: .a 32 a.lo :: .c v.su :: [])) (t := 85) ?_
 intro p1_1
 refine MV ?_
 refine MW ?_ (v := .int .i64 0)
 refine MZ fun W hS => ?_
 go_upto_region 1 with fail
 refine RL hS ?_
 clear hS
 refine MV ?_
 refine MG 0 ?_ (v := .int .i64 a.k) (hj := (agF_cel (off := 0) 0))
 refine MW ?_ (v := .bool false) (hv := by intro W; go_simp; first | done | omega)
 refine MW ?_ (v := .bool false)
 refine MV ?_
 refine MG 0 ?_ (v := .int .i64 a.k) (hj := (agF_cel (off := 0) 0))
 refine MW ?_ (v := .bool false) (hv := by intro W; go_simp; first | done | omega)
 refine MW ?_ (v := .bool false)
 refine MW ?_ (v := .bool false)
 refine MV ?_
 refine MG 0 ?_ (v := .int .i64 a.er) (hj := (agF_cel (off := 1) 1))
 refine MW ?_ (v := .bool false) (hv := by intro W; go_simp; first | done | omega)
 refine MW ?_ (v := .bool false)
 refine MW ?_ (v := .bool false)
 refine MV ?_
 refine MG 0 ?_ (v := .int .i64 a.er) (hj := (agF_cel (off := 1) 1))
 refine MW ?_ (v := .bool false) (hv := by intro W; go_simp; first | done | omega)
 refine MW ?_ (v := .bool false)
 refine MZ fun W hS => ?_
 go_upto_region 3 with fail
 refine RL hS ?_
 clear hS
 refine MW ?_ (v := .agg #[.slice none 0 0, .bool false, .bool false]) (hv := by intro W; first | rfl | kernel_rfl)
 refine MN (z := #[.slice none 0 0, .bool false, .bool false]) (t := 96) ?_
 intro p24_2
 refine MT (fun W hS => hS.onil rfl) ?_
 refine MV ?_
 refine MZ fun W hS => ?_
 go_upto_region 4 with fail
 refine RTp [2] (.q 0 (.q 1 (.q 2 (.q 3 (.q 4 (.e 5 .z)))))) hS ?_
 clear hS
 refine TV ?_
 refine TV ?_
 refine TV ?_
 refine TV ?_
 refine TG 0 ?_ (v := .int .i64 a.k) (hj := (agF_cel (off := 0) 0))
 refine TE (fun _ h => h.pick [2]) ?_
 refine ME (V := fun _ => .tuple #[]) (fun W hS => callX [1, 0] [2] hS (fun hT => wr_call hT (fun hw => wbyte_i (n := a.k) (l := []) (by omega) hw (by first | omega | decide))) (fun _ => ⟨.inr ⟨rfl, rfl⟩, .inr ⟨rfl, rfl⟩, trivial⟩)) ?_
 intro w3
 have hb_4 : ([] ++ [u8 a.k.toNat]).length ≤ 1 := (by rw [List.length_append]; simp only [List.length_cons, List.length_nil, lb_length, be8_len, eI_len, tB_len]; omega)
 refine TNp [2] [0] ?_
 refine TZ (fun _ h => h.pick [2]) fun W hS => ?_
 go_upto_region 5 with fail
 refine RTp [2] (.q 0 (.q 1 (.q 2 (.q 3 (.q 4 (.e 5 .z)))))) hS ?_
 clear hS
 refine TV ?_
 refine TV ?_
 refine TV ?_
 refine TV ?_
 refine TG 0 ?_ (v := .int .i64 a.er) (hj := (agF_cel (off := 1) 1))
 refine TE (fun _ h => h.pick [2]) ?_
 refine ME (V := fun _ => .tuple #[]) (fun W hS => callX [0, 1] [2] hS (fun hT => wr_call hT (fun hw => wbyte_i (n := a.er) (l := [] ++ [u8 a.k.toNat]) (by omega) hw (by first | omega | decide))) (fun _ => ⟨.inr ⟨rfl, rfl⟩, .inr ⟨rfl, rfl⟩, trivial⟩)) ?_
 intro w5
 have hb_6 : (([] ++ [u8 a.k.toNat]) ++ [u8 a.er.toNat]).length ≤ 2 := (by rw [List.length_append]; simp only [List.length_cons, List.length_nil, lb_length, be8_len, eI_len, tB_len]; omega)
 refine MT (H' := [.b p24_2 #[w5, .bool false, .bool false] 96, .o w5 [u8 a.k.toNat, u8 a.er.toNat], .b p1_1 (anF a v) 85]) (fun W hS => hS) ?_
 refine TNp [2] [0] ?_
 refine TZ (fun _ h => h.pick [2]) fun W hS => ?_
 go_upto_region 6 with fail
 refine RL hS ?_
 clear hS
 refine MV ?_
 refine MG 2 ?_ (v := .int .i64 a.er) (hj := (agF_cel (off := 1) 1))
 refine MW ?_ (v := .bool false) (hv := by intro W; go_simp; first | done | omega)
 refine MZ fun W hS => ?_
 go_upto_region 8 with fail
 refine RL hS ?_
 clear hS
 refine MV ?_
 refine MG 2 ?_ (v := .int .i64 a.k) (hj := (agF_cel (off := 0) 0))
 refine MZ fun W hS => ?_
 go_upto_region 9 with fail
 refine RL hS ?_
 clear hS
 refine MW ?_ (v := .bool false) (hv := by intro W; go_simp; first | done | omega | decide)
 refine MW ?_ (v := .bool false)
 refine MZ fun W hS => ?_
 go_upto_region 10 with fail
 refine RL hS ?_
 clear hS
 refine MW ?_ (v := .bool false) (hv := by intro W; go_simp; first | done | omega | decide)
 refine MW ?_ (v := .bool false)
 refine MZ fun W hS => ?_
 go_upto_region 12 with fail
 refine RL hS ?_
 clear hS
 refine MW ?_ (v := .bool false) (hv := by intro W; go_simp; first | done | omega | decide)
 refine MW ?_ (v := .bool false)
 refine MZ fun W hS => ?_
 go_upto_region 17 with fail
 refine RL hS ?_
 clear hS
 refine MW ?_ (v := .bool false) (hv := by intro W; go_simp; first | done | omega | decide)
 refine MW ?_ (v := .bool false)
 refine MZ fun W hS => ?_
 go_upto_region 19 with fail
 refine RL hS ?_
 clear hS
 refine MW ?_ (v := .bool false) (hv := by intro W; go_simp; first | done | omega | decide)
 refine MW ?_ (v := .bool false)
 refine MZ fun W hS => ?_
 go_upto_region 21 with fail
 refine RL hS ?_
 clear hS
 refine MW ?_ (v := .bool false) (hv := by intro W; go_simp; first | done | omega | decide)
 refine MW ?_ (v := .bool false)
 refine MZ fun W hS => ?_
 go_upto_region 23 with fail
 refine RL hS ?_
 clear hS
 refine MW ?_ (v := .bool true) (hv := by intro W; go_simp; first | done | omega | decide)
 refine MW ?_ (v := .bool true)
 refine MZ fun W hS => ?_
 go_upto_region 24 with fail
 refine RL hS ?_
 clear hS
 refine MV ?_
 refine MV ?_
 refine Mk 2 ?_ (sub := agF [.c v.mi, .c (.bool a.m.gone), .c (.int .i64 a.m.ep), .a 32 a.m.li]) (hs := (agF_part (off := 577) 32 4))
 refine MT (fun W hS => hS.ent hmi) ?_
 refine ME (V := fun _ => .tuple #[]) (fun W hS => callX [1, 2, 0] [3] hS (fun hT => wmember_n (m := a.m) (iv := v.mi) (p := p24_2) (v := w5) (l := [u8 a.k.toNat, u8 a.er.toNat]) (bad := false) (by first | omega | decide) W hT) (fun _ => ⟨.inr ⟨rfl, rfl⟩, .inr ⟨rfl, rfl⟩, .inl (by simp), trivial⟩)) ?_
 intro w7
 refine MT (H' := [.b p24_2 #[w7, .bool false, .bool (mbB a.m false)] 96, .o w7 (mbL a.m [u8 a.k.toNat, u8 a.er.toNat]), .s v.mi a.m.id, .b p1_1 (anF a v) 85]) (fun W hS => hS) ?_
 have hb_8 : (mbL a.m [u8 a.k.toNat, u8 a.er.toNat]).length ≤ 61 := Nat.le_trans mbL_le (by omega)
 refine MZ fun W hS => ?_
 go_upto_region 25 with fail
 refine RL hS ?_
 clear hS
 refine MV ?_
 refine MV ?_
 refine Mk 3 ?_ (sub := agF [.c v.us, .c (.bool a.u.th), .a 32 a.u.a, .a 32 a.u.x, .c (.int .i64 a.u.ep), .a 32 a.u.ro, .a 64 a.u.sig, .a 32 a.u.lo, .c v.uu]) (hs := (agF_part (off := 379) 21 9))
 refine MT (fun W hS => hS.entp (RR.pholds (by decide) b32l_len hus)) ?_
 refine MT (fun W hS => hS.entp (RR.pholds (by decide) b32l_len huu)) ?_
 refine ME (V := fun _ => .tuple #[]) (fun W hS => callX [2, 3, 1, 0] [4, 5] hS (fun hT => wunder_n (u := a.u) (sv := v.us) (uv := v.uu) hle.us hle.uu (p := p24_2) (v := w7) (l := mbL a.m [u8 a.k.toNat, u8 a.er.toNat]) (bad := (mbB a.m false)) (by first | omega | decide) W hT) (fun _ => ⟨.inr ⟨rfl, rfl⟩, .inr ⟨rfl, rfl⟩, .inl (by simp), .inl (by simp), trivial⟩)) ?_
 intro w9
 refine MT (H' := [.b p24_2 #[w9, .bool false, .bool (unB a.u (mbB a.m false))] 96, .o w9 (unL a.u (mbL a.m [u8 a.k.toNat, u8 a.er.toNat])), smT v.us a.u.ss, smT v.uu a.u.us, .s v.mi a.m.id, .b p1_1 (anF a v) 85]) (fun W hS => hS) ?_
 have hb_10 : (unL a.u (mbL a.m [u8 a.k.toNat, u8 a.er.toNat])).length ≤ 16761 := Nat.le_trans unL_le (by omega)
 refine MZ fun W hS => ?_
 rcases bool_or (unB a.u (mbB a.m false)) with hb | hb
 ·
  have _f := True.intro
  go_upto_region 29 with fail
  refine RL hS ?_
  clear hS
  refine MV ?_
  refine MT (fun W hS => by rw [hb] at hS; exact hS) ?_
  refine MC (v := .tuple #[.slice none 0 0, .int .i64 2]) (fun W hS => done_bad p24_2 w9 (unL a.u (mbL a.m [u8 a.k.toNat, u8 a.er.toNat])) W (hS.blk (i := 0) rfl) (hS.own (i := 1) rfl) (by omega)) ?_
  refine MV ?_
  refine MW ?_ (v := .int .i64 2)
  refine MV ?_
  refine MW ?_ (v := .int .i64 2)
  refine MZ fun W hS => ?_
  go_wp2
  exact bodyPost_ret (v := .tuple #[.slice none 0 0, .int .i64 2]) (by simp only [results, Try.results24]; go_simp) rfl (.inl ⟨by unfold telB; rw [if_pos hok, if_pos he, anB_11 hk]; exact hb, rfl, hS.ext⟩)
 ·
  have _f := True.intro
  go_upto_region 29 with fail
  refine RL hS ?_
  clear hS
  refine MV ?_
  refine MT (fun W hS => by rw [hb] at hS; exact hS) ?_
  refine ME (V := fun u => .tuple #[u, .int .i64 0]) (fun W hS => ncallW hS (done_ok p24_2 w9 (unL a.u (mbL a.m [u8 a.k.toNat, u8 a.er.toNat])) W (hS.blk (i := 0) rfl) (hS.own (i := 1) rfl) (by omega))) ?_
  intro u
  refine MV ?_
  refine MW ?_ (v := .int .i64 0)
  refine MV ?_
  refine MW ?_ (v := .int .i64 0)
  refine MZ fun W hS => ?_
  go_wp2
  exact bodyPost_ret (v := .tuple #[u, .int .i64 0]) (by simp only [results, Try.results24]; go_simp) rfl (.inr ⟨by unfold telB; rw [if_pos hok, if_pos he, anB_11 hk]; exact hb, _, rfl, by unfold telL; rw [if_pos he, anL_11 hk]; exact hS.pick [0]⟩)
theorem tell_12 {a : An} {v : Av} (hok : telK a) (he : a.er = 0) (hk : a.k = 12) (hle : lenA a) (w : World) (h : AnR a v w) :
  Calls Try.prog 24 #[.agg (anF a v)] w fun e w' => (telB a = true ∧ Ret (.tuple #[.slice none 0 0, .int .i64 2]) w w' e) ∨ (telB a = false ∧ ∃ u, e = .returned (.tuple #[u, .int .i64 0]) ∧ SH [] w w' [.o u (telL a)]) := by
 obtain ⟨⟨hk0, hk9⟩, he0, he9⟩ := id hok
 have hS := SH.nil [] w
 obtain ⟨hfv, hfs, hlat, hus, huu, hen, hmks, hmi, hbun, hsu⟩ := h
 have hhd : ([u8 a.k.toNat, u8 a.er.toNat]).length ≤ 2 := Nat.le_refl _
 go_enter Try.func24, Try.ntmps24
 go_upto_region 0 with fail
 refine RL hS ?_
 clear hS
 refine MN (z := agF (.c (.int .i64 a.k) :: .c (.int .i64 a.er) :: .c (.int .i64 a.ep) :: .c (.int .i64 a.f.ep) :: .a 32 a.f.ix :: .a 80 a.f.vr :: .c (.bool a.f.pre) :: .c (.int .i64 a.f.ver) :: .c v.fv :: .a 32 a.f.bo :: .a 32 a.f.op :: .c v.fs :: .c (.bool a.f.th) :: .a 32 a.f.a :: .a 32 a.f.x :: .a 32 a.f.ro :: .a 32 a.f.li :: .a 32 a.f.ah :: .c (.int .i64 a.f.rd) :: .a 32 a.pub :: .c v.lat :: .c v.us :: .c (.bool a.u.th) :: .a 32 a.u.a :: .a 32 a.u.x :: .c (.int .i64 a.u.ep) :: .a 32 a.u.ro :: .a 64 a.u.sig :: .a 32 a.u.lo :: .c v.uu :: .c v.en :: .c v.mks :: .c v.mi :: .c (.bool a.m.gone) :: .c (.int .i64 a.m.ep) :: .a 32 a.m.li :: .c v.bun :: .a 32 a.lo :: .c v.su :: [])) (t := 85) ?_
 intro p1_1
 refine MV ?_
 refine MW ?_ (v := .int .i64 0)
 refine MZ fun W hS => ?_
 go_upto_region 1 with fail
 refine RL hS ?_
 clear hS
 refine MV ?_
 refine MG 0 ?_ (v := .int .i64 a.k) (hj := (agF_cel (off := 0) 0))
 refine MW ?_ (v := .bool false) (hv := by intro W; go_simp; first | done | omega)
 refine MW ?_ (v := .bool false)
 refine MV ?_
 refine MG 0 ?_ (v := .int .i64 a.k) (hj := (agF_cel (off := 0) 0))
 refine MW ?_ (v := .bool false) (hv := by intro W; go_simp; first | done | omega)
 refine MW ?_ (v := .bool false)
 refine MW ?_ (v := .bool false)
 refine MV ?_
 refine MG 0 ?_ (v := .int .i64 a.er) (hj := (agF_cel (off := 1) 1))
 refine MW ?_ (v := .bool false) (hv := by intro W; go_simp; first | done | omega)
 refine MW ?_ (v := .bool false)
 refine MW ?_ (v := .bool false)
 refine MV ?_
 refine MG 0 ?_ (v := .int .i64 a.er) (hj := (agF_cel (off := 1) 1))
 refine MW ?_ (v := .bool false) (hv := by intro W; go_simp; first | done | omega)
 refine MW ?_ (v := .bool false)
 refine MZ fun W hS => ?_
 go_upto_region 3 with fail
 refine RL hS ?_
 clear hS
 refine MW ?_ (v := .agg #[.slice none 0 0, .bool false, .bool false]) (hv := by intro W; first | rfl | kernel_rfl)
 refine MN (z := #[.slice none 0 0, .bool false, .bool false]) (t := 96) ?_
 intro p24_2
 refine MT (fun W hS => hS.onil rfl) ?_
 refine MV ?_
 refine MZ fun W hS => ?_
 go_upto_region 4 with fail
 refine RTp [2] (.q 0 (.q 1 (.q 2 (.q 3 (.q 4 (.e 5 .z)))))) hS ?_
 clear hS
 refine TV ?_
 refine TV ?_
 refine TV ?_
 refine TV ?_
 refine TG 0 ?_ (v := .int .i64 a.k) (hj := (agF_cel (off := 0) 0))
 refine TE (fun _ h => h.pick [2]) ?_
 refine ME (V := fun _ => .tuple #[]) (fun W hS => callX [1, 0] [2] hS (fun hT => wr_call hT (fun hw => wbyte_i (n := a.k) (l := []) (by omega) hw (by first | omega | decide))) (fun _ => ⟨.inr ⟨rfl, rfl⟩, .inr ⟨rfl, rfl⟩, trivial⟩)) ?_
 intro w3
 have hb_4 : ([] ++ [u8 a.k.toNat]).length ≤ 1 := (by rw [List.length_append]; simp only [List.length_cons, List.length_nil, lb_length, be8_len, eI_len, tB_len]; omega)
 refine TNp [2] [0] ?_
 refine TZ (fun _ h => h.pick [2]) fun W hS => ?_
 go_upto_region 5 with fail
 refine RTp [2] (.q 0 (.q 1 (.q 2 (.q 3 (.q 4 (.e 5 .z)))))) hS ?_
 clear hS
 refine TV ?_
 refine TV ?_
 refine TV ?_
 refine TV ?_
 refine TG 0 ?_ (v := .int .i64 a.er) (hj := (agF_cel (off := 1) 1))
 refine TE (fun _ h => h.pick [2]) ?_
 refine ME (V := fun _ => .tuple #[]) (fun W hS => callX [0, 1] [2] hS (fun hT => wr_call hT (fun hw => wbyte_i (n := a.er) (l := [] ++ [u8 a.k.toNat]) (by omega) hw (by first | omega | decide))) (fun _ => ⟨.inr ⟨rfl, rfl⟩, .inr ⟨rfl, rfl⟩, trivial⟩)) ?_
 intro w5
 have hb_6 : (([] ++ [u8 a.k.toNat]) ++ [u8 a.er.toNat]).length ≤ 2 := (by rw [List.length_append]; simp only [List.length_cons, List.length_nil, lb_length, be8_len, eI_len, tB_len]; omega)
 refine MT (H' := [.b p24_2 #[w5, .bool false, .bool false] 96, .o w5 [u8 a.k.toNat, u8 a.er.toNat], .b p1_1 (anF a v) 85]) (fun W hS => hS) ?_
 refine TNp [2] [0] ?_
 refine TZ (fun _ h => h.pick [2]) fun W hS => ?_
 go_upto_region 6 with fail
 refine RL hS ?_
 clear hS
 refine MV ?_
 refine MG 2 ?_ (v := .int .i64 a.er) (hj := (agF_cel (off := 1) 1))
 refine MW ?_ (v := .bool false) (hv := by intro W; go_simp; first | done | omega)
 refine MZ fun W hS => ?_
 go_upto_region 8 with fail
 refine RL hS ?_
 clear hS
 refine MV ?_
 refine MG 2 ?_ (v := .int .i64 a.k) (hj := (agF_cel (off := 0) 0))
 refine MZ fun W hS => ?_
 go_upto_region 9 with fail
 refine RL hS ?_
 clear hS
 refine MW ?_ (v := .bool false) (hv := by intro W; go_simp; first | done | omega | decide)
 refine MW ?_ (v := .bool false)
 refine MZ fun W hS => ?_
 go_upto_region 10 with fail
 refine RL hS ?_
 clear hS
 refine MW ?_ (v := .bool false) (hv := by intro W; go_simp; first | done | omega | decide)
 refine MW ?_ (v := .bool false)
 refine MZ fun W hS => ?_
 go_upto_region 12 with fail
 refine RL hS ?_
 clear hS
 refine MW ?_ (v := .bool false) (hv := by intro W; go_simp; first | done | omega | decide)
 refine MW ?_ (v := .bool false)
 refine MZ fun W hS => ?_
 go_upto_region 17 with fail
 refine RL hS ?_
 clear hS
 refine MW ?_ (v := .bool false) (hv := by intro W; go_simp; first | done | omega | decide)
 refine MW ?_ (v := .bool false)
 refine MZ fun W hS => ?_
 go_upto_region 19 with fail
 refine RL hS ?_
 clear hS
 refine MW ?_ (v := .bool false) (hv := by intro W; go_simp; first | done | omega | decide)
 refine MW ?_ (v := .bool false)
 refine MZ fun W hS => ?_
 go_upto_region 21 with fail
 refine RL hS ?_
 clear hS
 refine MW ?_ (v := .bool false) (hv := by intro W; go_simp; first | done | omega | decide)
 refine MW ?_ (v := .bool false)
 refine MZ fun W hS => ?_
 go_upto_region 23 with fail
 refine RL hS ?_
 clear hS
 refine MW ?_ (v := .bool false) (hv := by intro W; go_simp; first | done | omega | decide)
 refine MW ?_ (v := .bool false)
 refine MZ fun W hS => ?_
 go_upto_region 26 with fail
 refine RL hS ?_
 clear hS
 refine MW ?_ (v := .bool true) (hv := by intro W; go_simp; first | done | omega | decide)
 refine MW ?_ (v := .bool true)
 refine MZ fun W hS => ?_
 go_upto_region 27 with fail
 refine RTp [2] (.q 0 (.q 1 (.q 2 (.q 3 (.q 4 (.e 5 .z)))))) hS ?_
 clear hS
 refine TV ?_
 refine TV ?_
 refine TV ?_
 refine TV ?_
 refine Tk 0 ?_ (sub := arrK .u8 32 (byt a.lo)) (hs := (agF_arr (off := 613) 37))
 refine TE (fun _ h => h.pick [2]) ?_
 refine ME (V := fun _ => .tuple #[]) (fun W hS => callX [0, 1] [2] hS (fun hT => wr_call hT (fun hw => wsum_n a.lo p24_2 w5 [u8 a.k.toNat, u8 a.er.toNat] false W hw (by first | omega | decide))) (fun _ => ⟨.inr ⟨rfl, rfl⟩, .inr ⟨rfl, rfl⟩, trivial⟩)) ?_
 intro w7
 have hb_8 : ([u8 a.k.toNat, u8 a.er.toNat] ++ (lb 32 a.lo)).length ≤ 34 := (by rw [List.length_append]; simp only [List.length_cons, List.length_nil, lb_length, be8_len, eI_len, tB_len]; omega)
 refine TNp [2] [0] ?_
 refine TZ (fun _ h => h.pick [2]) fun W hS => ?_
 go_upto_region 28 with fail
 refine RL hS ?_
 clear hS
 refine MV ?_
 refine MV ?_
 refine MG 2 ?_ (v := v.su) (hj := (agF_cel (off := 645) 38))
 refine MT (fun W hS => hS.entp (RR.pholds (by decide) b32l_len hsu)) ?_
 refine ME (V := fun _ => .tuple #[]) (fun W hS => callX [1, 2, 0] [3] hS (fun hT => wsums_n (ss := a.su) (sv := v.su) hle.su (p := p24_2) (v := w7) (l := [u8 a.k.toNat, u8 a.er.toNat] ++ (lb 32 a.lo)) (bad := false) (by first | omega | decide) W hT) (fun _ => ⟨.inr ⟨rfl, rfl⟩, .inr ⟨rfl, rfl⟩, .inl (by simp), trivial⟩)) ?_
 intro w9
 refine MT (H' := [.b p24_2 #[w9, .bool false, .bool (smB a.su false)] 96, .o w9 (smL a.su ([u8 a.k.toNat, u8 a.er.toNat] ++ (lb 32 a.lo))), smT v.su a.su, .b p1_1 (anF a v) 85]) (fun W hS => hS) ?_
 have hb_10 : (smL a.su ([u8 a.k.toNat, u8 a.er.toNat] ++ (lb 32 a.lo))).length ≤ 8234 := Nat.le_trans smL_le (by omega)
 refine MZ fun W hS => ?_
 rcases bool_or (smB a.su false) with hb | hb
 ·
  have _f := True.intro
  go_upto_region 29 with fail
  refine RL hS ?_
  clear hS
  refine MV ?_
  refine MT (fun W hS => by rw [hb] at hS; exact hS) ?_
  refine MC (v := .tuple #[.slice none 0 0, .int .i64 2]) (fun W hS => done_bad p24_2 w9 (smL a.su ([u8 a.k.toNat, u8 a.er.toNat] ++ (lb 32 a.lo))) W (hS.blk (i := 0) rfl) (hS.own (i := 1) rfl) (by omega)) ?_
  refine MV ?_
  refine MW ?_ (v := .int .i64 2)
  refine MV ?_
  refine MW ?_ (v := .int .i64 2)
  refine MZ fun W hS => ?_
  go_wp2
  exact bodyPost_ret (v := .tuple #[.slice none 0 0, .int .i64 2]) (by simp only [results, Try.results24]; go_simp) rfl (.inl ⟨by unfold telB; rw [if_pos hok, if_pos he, anB_12 hk]; exact hb, rfl, hS.ext⟩)
 ·
  have _f := True.intro
  go_upto_region 29 with fail
  refine RL hS ?_
  clear hS
  refine MV ?_
  refine MT (fun W hS => by rw [hb] at hS; exact hS) ?_
  refine ME (V := fun u => .tuple #[u, .int .i64 0]) (fun W hS => ncallW hS (done_ok p24_2 w9 (smL a.su ([u8 a.k.toNat, u8 a.er.toNat] ++ (lb 32 a.lo))) W (hS.blk (i := 0) rfl) (hS.own (i := 1) rfl) (by omega))) ?_
  intro u
  refine MV ?_
  refine MW ?_ (v := .int .i64 0)
  refine MV ?_
  refine MW ?_ (v := .int .i64 0)
  refine MZ fun W hS => ?_
  go_wp2
  exact bodyPost_ret (v := .tuple #[u, .int .i64 0]) (by simp only [results, Try.results24]; go_simp) rfl (.inr ⟨by unfold telB; rw [if_pos hok, if_pos he, anB_12 hk]; exact hb, _, rfl, by unfold telL; rw [if_pos he, anL_12 hk]; exact hS.pick [0]⟩)
theorem tell_o {a : An} {v : Av} (hok : telK a) (he : a.er = 0) (hk : a.k ≠ 1 ∧ a.k ≠ 10 ∧ a.k ≠ 6 ∧ a.k ≠ 7 ∧ a.k ≠ 8 ∧ a.k ≠ 9 ∧ a.k ≠ 11 ∧ a.k ≠ 12) (hle : lenA a) (w : World) (h : AnR a v w) :
  Calls Try.prog 24 #[.agg (anF a v)] w fun e w' => (telB a = true ∧ Ret (.tuple #[.slice none 0 0, .int .i64 2]) w w' e) ∨ (telB a = false ∧ ∃ u, e = .returned (.tuple #[u, .int .i64 0]) ∧ SH [] w w' [.o u (telL a)]) := by
 obtain ⟨⟨hk0, hk9⟩, he0, he9⟩ := id hok
 have hS := SH.nil [] w
 obtain ⟨hfv, hfs, hlat, hus, huu, hen, hmks, hmi, hbun, hsu⟩ := h
 have hhd : ([u8 a.k.toNat, u8 a.er.toNat]).length ≤ 2 := Nat.le_refl _
 go_enter Try.func24, Try.ntmps24
 go_upto_region 0 with fail
 refine RL hS ?_
 clear hS
 refine MN (z := agF (.c (.int .i64 a.k) :: .c (.int .i64 a.er) :: .c (.int .i64 a.ep) :: .c (.int .i64 a.f.ep) :: .a 32 a.f.ix :: .a 80 a.f.vr :: .c (.bool a.f.pre) :: .c (.int .i64 a.f.ver) :: .c v.fv :: .a 32 a.f.bo :: .a 32 a.f.op :: .c v.fs :: .c (.bool a.f.th) :: .a 32 a.f.a :: .a 32 a.f.x :: .a 32 a.f.ro :: .a 32 a.f.li :: .a 32 a.f.ah :: .c (.int .i64 a.f.rd) :: .a 32 a.pub :: .c v.lat :: .c v.us :: .c (.bool a.u.th) :: .a 32 a.u.a :: .a 32 a.u.x :: .c (.int .i64 a.u.ep) :: .a 32 a.u.ro :: .a 64 a.u.sig :: .a 32 a.u.lo :: .c v.uu :: .c v.en :: .c v.mks :: .c v.mi :: .c (.bool a.m.gone) :: .c (.int .i64 a.m.ep) :: .a 32 a.m.li :: .c v.bun :: .a 32 a.lo :: .c v.su :: [])) (t := 85) ?_
 intro p1_1
 refine MV ?_
 refine MW ?_ (v := .int .i64 0)
 refine MZ fun W hS => ?_
 go_upto_region 1 with fail
 refine RL hS ?_
 clear hS
 refine MV ?_
 refine MG 0 ?_ (v := .int .i64 a.k) (hj := (agF_cel (off := 0) 0))
 refine MW ?_ (v := .bool false) (hv := by intro W; go_simp; first | done | omega)
 refine MW ?_ (v := .bool false)
 refine MV ?_
 refine MG 0 ?_ (v := .int .i64 a.k) (hj := (agF_cel (off := 0) 0))
 refine MW ?_ (v := .bool false) (hv := by intro W; go_simp; first | done | omega)
 refine MW ?_ (v := .bool false)
 refine MW ?_ (v := .bool false)
 refine MV ?_
 refine MG 0 ?_ (v := .int .i64 a.er) (hj := (agF_cel (off := 1) 1))
 refine MW ?_ (v := .bool false) (hv := by intro W; go_simp; first | done | omega)
 refine MW ?_ (v := .bool false)
 refine MW ?_ (v := .bool false)
 refine MV ?_
 refine MG 0 ?_ (v := .int .i64 a.er) (hj := (agF_cel (off := 1) 1))
 refine MW ?_ (v := .bool false) (hv := by intro W; go_simp; first | done | omega)
 refine MW ?_ (v := .bool false)
 refine MZ fun W hS => ?_
 go_upto_region 3 with fail
 refine RL hS ?_
 clear hS
 refine MW ?_ (v := .agg #[.slice none 0 0, .bool false, .bool false]) (hv := by intro W; first | rfl | kernel_rfl)
 refine MN (z := #[.slice none 0 0, .bool false, .bool false]) (t := 96) ?_
 intro p24_2
 refine MT (fun W hS => hS.onil rfl) ?_
 refine MV ?_
 refine MZ fun W hS => ?_
 go_upto_region 4 with fail
 refine RTp [2] (.q 0 (.q 1 (.q 2 (.q 3 (.q 4 (.e 5 .z)))))) hS ?_
 clear hS
 refine TV ?_
 refine TV ?_
 refine TV ?_
 refine TV ?_
 refine TG 0 ?_ (v := .int .i64 a.k) (hj := (agF_cel (off := 0) 0))
 refine TE (fun _ h => h.pick [2]) ?_
 refine ME (V := fun _ => .tuple #[]) (fun W hS => callX [1, 0] [2] hS (fun hT => wr_call hT (fun hw => wbyte_i (n := a.k) (l := []) (by omega) hw (by first | omega | decide))) (fun _ => ⟨.inr ⟨rfl, rfl⟩, .inr ⟨rfl, rfl⟩, trivial⟩)) ?_
 intro w3
 have hb_4 : ([] ++ [u8 a.k.toNat]).length ≤ 1 := (by rw [List.length_append]; simp only [List.length_cons, List.length_nil, lb_length, be8_len, eI_len, tB_len]; omega)
 refine TNp [2] [0] ?_
 refine TZ (fun _ h => h.pick [2]) fun W hS => ?_
 go_upto_region 5 with fail
 refine RTp [2] (.q 0 (.q 1 (.q 2 (.q 3 (.q 4 (.e 5 .z)))))) hS ?_
 clear hS
 refine TV ?_
 refine TV ?_
 refine TV ?_
 refine TV ?_
 refine TG 0 ?_ (v := .int .i64 a.er) (hj := (agF_cel (off := 1) 1))
 refine TE (fun _ h => h.pick [2]) ?_
 refine ME (V := fun _ => .tuple #[]) (fun W hS => callX [0, 1] [2] hS (fun hT => wr_call hT (fun hw => wbyte_i (n := a.er) (l := [] ++ [u8 a.k.toNat]) (by omega) hw (by first | omega | decide))) (fun _ => ⟨.inr ⟨rfl, rfl⟩, .inr ⟨rfl, rfl⟩, trivial⟩)) ?_
 intro w5
 have hb_6 : (([] ++ [u8 a.k.toNat]) ++ [u8 a.er.toNat]).length ≤ 2 := (by rw [List.length_append]; simp only [List.length_cons, List.length_nil, lb_length, be8_len, eI_len, tB_len]; omega)
 refine MT (H' := [.b p24_2 #[w5, .bool false, .bool false] 96, .o w5 [u8 a.k.toNat, u8 a.er.toNat], .b p1_1 (anF a v) 85]) (fun W hS => hS) ?_
 refine TNp [2] [0] ?_
 refine TZ (fun _ h => h.pick [2]) fun W hS => ?_
 go_upto_region 6 with fail
 refine RL hS ?_
 clear hS
 refine MV ?_
 refine MG 2 ?_ (v := .int .i64 a.er) (hj := (agF_cel (off := 1) 1))
 refine MW ?_ (v := .bool false) (hv := by intro W; go_simp; first | done | omega)
 refine MZ fun W hS => ?_
 go_upto_region 8 with fail
 refine RL hS ?_
 clear hS
 refine MV ?_
 refine MG 2 ?_ (v := .int .i64 a.k) (hj := (agF_cel (off := 0) 0))
 refine MZ fun W hS => ?_
 go_upto_region 9 with fail
 refine RL hS ?_
 clear hS
 refine MW ?_ (v := .bool false) (hv := by intro W; go_simp; first | done | omega | decide)
 refine MW ?_ (v := .bool false)
 refine MZ fun W hS => ?_
 go_upto_region 10 with fail
 refine RL hS ?_
 clear hS
 refine MW ?_ (v := .bool false) (hv := by intro W; go_simp; first | done | omega | decide)
 refine MW ?_ (v := .bool false)
 refine MZ fun W hS => ?_
 go_upto_region 12 with fail
 refine RL hS ?_
 clear hS
 refine MW ?_ (v := .bool false) (hv := by intro W; go_simp; first | done | omega | decide)
 refine MW ?_ (v := .bool false)
 refine MZ fun W hS => ?_
 go_upto_region 17 with fail
 refine RL hS ?_
 clear hS
 refine MW ?_ (v := .bool false) (hv := by intro W; go_simp; first | done | omega | decide)
 refine MW ?_ (v := .bool false)
 refine MZ fun W hS => ?_
 go_upto_region 19 with fail
 refine RL hS ?_
 clear hS
 refine MW ?_ (v := .bool false) (hv := by intro W; go_simp; first | done | omega | decide)
 refine MW ?_ (v := .bool false)
 refine MZ fun W hS => ?_
 go_upto_region 21 with fail
 refine RL hS ?_
 clear hS
 refine MW ?_ (v := .bool false) (hv := by intro W; go_simp; first | done | omega | decide)
 refine MW ?_ (v := .bool false)
 refine MZ fun W hS => ?_
 go_upto_region 23 with fail
 refine RL hS ?_
 clear hS
 refine MW ?_ (v := .bool false) (hv := by intro W; go_simp; first | done | omega | decide)
 refine MW ?_ (v := .bool false)
 refine MZ fun W hS => ?_
 go_upto_region 26 with fail
 refine RL hS ?_
 clear hS
 refine MW ?_ (v := .bool false) (hv := by intro W; go_simp; first | done | omega | decide)
 refine MW ?_ (v := .bool false)
 refine MZ fun W hS => ?_
 go_upto_region 29 with fail
 refine RL hS ?_
 clear hS
 refine MV ?_
 refine ME (V := fun u => .tuple #[u, .int .i64 0]) (fun W hS => ncallW hS (done_ok p24_2 w5 [u8 a.k.toNat, u8 a.er.toNat] W (hS.blk (i := 0) rfl) (hS.own (i := 1) rfl) (by omega))) ?_
 intro u
 refine MV ?_
 refine MW ?_ (v := .int .i64 0)
 refine MV ?_
 refine MW ?_ (v := .int .i64 0)
 refine MZ fun W hS => ?_
 go_wp2
 exact bodyPost_ret (v := .tuple #[u, .int .i64 0]) (by simp only [results, Try.results24]; go_simp) rfl (.inr ⟨by unfold telB; rw [if_pos hok, if_pos he, anB_o hk], _, rfl, by unfold telL; rw [if_pos he, anL_o hk]; exact hS.pick [0]⟩)
theorem tell_none {a : An} {v : Av} (hk : ¬ telK a) (hle : lenA a) (w : World) (h : AnR a v w) :
  Calls Try.prog 24 #[.agg (anF a v)] w fun e w' => Ret (.tuple #[.slice none 0 0, .int .i64 2]) w w' e := by
 have hS := SH.nil [] w
 obtain ⟨hfv, hfs, hlat, hus, huu, hen, hmks, hmi, hbun, hsu⟩ := h
 have hhd : ([u8 a.k.toNat, u8 a.er.toNat]).length ≤ 2 := Nat.le_refl _
 go_enter Try.func24, Try.ntmps24
 go_upto_region 0 with fail
 refine RL hS ?_
 clear hS
 refine MN (z := agF (.c (.int .i64 a.k) :: .c (.int .i64 a.er) :: .c (.int .i64 a.ep) :: .c (.int .i64 a.f.ep) :: .a 32 a.f.ix :: .a 80 a.f.vr :: .c (.bool a.f.pre) :: .c (.int .i64 a.f.ver) :: .c v.fv :: .a 32 a.f.bo :: .a 32 a.f.op :: .c v.fs :: .c (.bool a.f.th) :: .a 32 a.f.a :: .a 32 a.f.x :: .a 32 a.f.ro :: .a 32 a.f.li :: .a 32 a.f.ah :: .c (.int .i64 a.f.rd) :: .a 32 a.pub :: .c v.lat :: .c v.us :: .c (.bool a.u.th) :: .a 32 a.u.a :: .a 32 a.u.x :: .c (.int .i64 a.u.ep) :: .a 32 a.u.ro :: .a 64 a.u.sig :: .a 32 a.u.lo :: .c v.uu :: .c v.en :: .c v.mks :: .c v.mi :: .c (.bool a.m.gone) :: .c (.int .i64 a.m.ep) :: .a 32 a.m.li :: .c v.bun :: .a 32 a.lo :: .c v.su :: [])) (t := 85) ?_
 intro p1_1
 refine MV ?_
 refine MW ?_ (v := .int .i64 0)
 refine MZ fun W hS => ?_
 by_cases h1 : a.k < 0
 ·
  have _f := h1
  by_cases h2 : 12 < a.k
  ·
   have _f := h2
   by_cases h3 : a.er < 0
   ·
    have _f := h3
    go_upto_region 1 with fail
    refine RL hS ?_
    clear hS
    refine MV ?_
    refine MG 0 ?_ (v := .int .i64 a.k) (hj := (agF_cel (off := 0) 0))
    refine MW ?_ (v := .bool true) (hv := by intro W; go_simp; first | done | omega)
    refine MW ?_ (v := .bool true)
    refine MS ?_
    refine MS ?_
    refine MS ?_
    refine MW ?_ (v := .bool true)
    refine MW ?_ (v := .bool true)
    refine MS ?_
    refine MS ?_
    refine MS ?_
    refine MW ?_ (v := .bool true)
    refine MW ?_ (v := .bool true)
    refine MS ?_
    refine MS ?_
    refine MS ?_
    refine MW ?_ (v := .bool true)
    refine MZ fun W hS => ?_
    go_wp2
    exact bodyPost_ret (v := .tuple #[.slice none 0 0, .int .i64 2]) (by simp only [results, Try.results24]; go_simp) rfl ⟨rfl, hS.ext⟩
   ·
    have _f := h3
    go_upto_region 1 with fail
    refine RL hS ?_
    clear hS
    refine MV ?_
    refine MG 0 ?_ (v := .int .i64 a.k) (hj := (agF_cel (off := 0) 0))
    refine MW ?_ (v := .bool true) (hv := by intro W; go_simp; first | done | omega)
    refine MW ?_ (v := .bool true)
    refine MS ?_
    refine MS ?_
    refine MS ?_
    refine MW ?_ (v := .bool true)
    refine MW ?_ (v := .bool true)
    refine MS ?_
    refine MS ?_
    refine MS ?_
    refine MW ?_ (v := .bool true)
    refine MW ?_ (v := .bool true)
    refine MS ?_
    refine MS ?_
    refine MS ?_
    refine MW ?_ (v := .bool true)
    refine MZ fun W hS => ?_
    go_wp2
    exact bodyPost_ret (v := .tuple #[.slice none 0 0, .int .i64 2]) (by simp only [results, Try.results24]; go_simp) rfl ⟨rfl, hS.ext⟩
  ·
   have _f := h2
   by_cases h3 : a.er < 0
   ·
    have _f := h3
    go_upto_region 1 with fail
    refine RL hS ?_
    clear hS
    refine MV ?_
    refine MG 0 ?_ (v := .int .i64 a.k) (hj := (agF_cel (off := 0) 0))
    refine MW ?_ (v := .bool true) (hv := by intro W; go_simp; first | done | omega)
    refine MW ?_ (v := .bool true)
    refine MS ?_
    refine MS ?_
    refine MS ?_
    refine MW ?_ (v := .bool true)
    refine MW ?_ (v := .bool true)
    refine MS ?_
    refine MS ?_
    refine MS ?_
    refine MW ?_ (v := .bool true)
    refine MW ?_ (v := .bool true)
    refine MS ?_
    refine MS ?_
    refine MS ?_
    refine MW ?_ (v := .bool true)
    refine MZ fun W hS => ?_
    go_wp2
    exact bodyPost_ret (v := .tuple #[.slice none 0 0, .int .i64 2]) (by simp only [results, Try.results24]; go_simp) rfl ⟨rfl, hS.ext⟩
   ·
    have _f := h3
    go_upto_region 1 with fail
    refine RL hS ?_
    clear hS
    refine MV ?_
    refine MG 0 ?_ (v := .int .i64 a.k) (hj := (agF_cel (off := 0) 0))
    refine MW ?_ (v := .bool true) (hv := by intro W; go_simp; first | done | omega)
    refine MW ?_ (v := .bool true)
    refine MS ?_
    refine MS ?_
    refine MS ?_
    refine MW ?_ (v := .bool true)
    refine MW ?_ (v := .bool true)
    refine MS ?_
    refine MS ?_
    refine MS ?_
    refine MW ?_ (v := .bool true)
    refine MW ?_ (v := .bool true)
    refine MS ?_
    refine MS ?_
    refine MS ?_
    refine MW ?_ (v := .bool true)
    refine MZ fun W hS => ?_
    go_wp2
    exact bodyPost_ret (v := .tuple #[.slice none 0 0, .int .i64 2]) (by simp only [results, Try.results24]; go_simp) rfl ⟨rfl, hS.ext⟩
 ·
  have _f := h1
  by_cases h2 : 12 < a.k
  ·
   have _f := h2
   by_cases h3 : a.er < 0
   ·
    have _f := h3
    go_upto_region 1 with fail
    refine RL hS ?_
    clear hS
    refine MV ?_
    refine MG 0 ?_ (v := .int .i64 a.k) (hj := (agF_cel (off := 0) 0))
    refine MW ?_ (v := .bool false) (hv := by intro W; go_simp; first | done | omega)
    refine MW ?_ (v := .bool false)
    refine MV ?_
    refine MG 0 ?_ (v := .int .i64 a.k) (hj := (agF_cel (off := 0) 0))
    refine MW ?_ (v := .bool true) (hv := by intro W; go_simp; first | done | omega)
    refine MW ?_ (v := .bool true)
    refine MW ?_ (v := .bool true)
    refine MS ?_
    refine MS ?_
    refine MS ?_
    refine MW ?_ (v := .bool true)
    refine MW ?_ (v := .bool true)
    refine MS ?_
    refine MS ?_
    refine MS ?_
    refine MW ?_ (v := .bool true)
    refine MZ fun W hS => ?_
    go_wp2
    exact bodyPost_ret (v := .tuple #[.slice none 0 0, .int .i64 2]) (by simp only [results, Try.results24]; go_simp) rfl ⟨rfl, hS.ext⟩
   ·
    have _f := h3
    go_upto_region 1 with fail
    refine RL hS ?_
    clear hS
    refine MV ?_
    refine MG 0 ?_ (v := .int .i64 a.k) (hj := (agF_cel (off := 0) 0))
    refine MW ?_ (v := .bool false) (hv := by intro W; go_simp; first | done | omega)
    refine MW ?_ (v := .bool false)
    refine MV ?_
    refine MG 0 ?_ (v := .int .i64 a.k) (hj := (agF_cel (off := 0) 0))
    refine MW ?_ (v := .bool true) (hv := by intro W; go_simp; first | done | omega)
    refine MW ?_ (v := .bool true)
    refine MW ?_ (v := .bool true)
    refine MS ?_
    refine MS ?_
    refine MS ?_
    refine MW ?_ (v := .bool true)
    refine MW ?_ (v := .bool true)
    refine MS ?_
    refine MS ?_
    refine MS ?_
    refine MW ?_ (v := .bool true)
    refine MZ fun W hS => ?_
    go_wp2
    exact bodyPost_ret (v := .tuple #[.slice none 0 0, .int .i64 2]) (by simp only [results, Try.results24]; go_simp) rfl ⟨rfl, hS.ext⟩
  ·
   have _f := h2
   by_cases h3 : a.er < 0
   ·
    have _f := h3
    go_upto_region 1 with fail
    refine RL hS ?_
    clear hS
    refine MV ?_
    refine MG 0 ?_ (v := .int .i64 a.k) (hj := (agF_cel (off := 0) 0))
    refine MW ?_ (v := .bool false) (hv := by intro W; go_simp; first | done | omega)
    refine MW ?_ (v := .bool false)
    refine MV ?_
    refine MG 0 ?_ (v := .int .i64 a.k) (hj := (agF_cel (off := 0) 0))
    refine MW ?_ (v := .bool false) (hv := by intro W; go_simp; first | done | omega)
    refine MW ?_ (v := .bool false)
    refine MW ?_ (v := .bool false)
    refine MV ?_
    refine MG 0 ?_ (v := .int .i64 a.er) (hj := (agF_cel (off := 1) 1))
    refine MW ?_ (v := .bool true) (hv := by intro W; go_simp; first | done | omega)
    refine MW ?_ (v := .bool true)
    refine MW ?_ (v := .bool true)
    refine MS ?_
    refine MS ?_
    refine MS ?_
    refine MW ?_ (v := .bool true)
    refine MZ fun W hS => ?_
    go_wp2
    exact bodyPost_ret (v := .tuple #[.slice none 0 0, .int .i64 2]) (by simp only [results, Try.results24]; go_simp) rfl ⟨rfl, hS.ext⟩
   ·
    have _f := h3
    go_upto_region 1 with fail
    refine RL hS ?_
    clear hS
    refine MV ?_
    refine MG 0 ?_ (v := .int .i64 a.k) (hj := (agF_cel (off := 0) 0))
    refine MW ?_ (v := .bool false) (hv := by intro W; go_simp; first | done | omega)
    refine MW ?_ (v := .bool false)
    refine MV ?_
    refine MG 0 ?_ (v := .int .i64 a.k) (hj := (agF_cel (off := 0) 0))
    refine MW ?_ (v := .bool false) (hv := by intro W; go_simp; first | done | omega)
    refine MW ?_ (v := .bool false)
    refine MW ?_ (v := .bool false)
    refine MV ?_
    refine MG 0 ?_ (v := .int .i64 a.er) (hj := (agF_cel (off := 1) 1))
    refine MW ?_ (v := .bool false) (hv := by intro W; go_simp; first | done | omega)
    refine MW ?_ (v := .bool false)
    refine MW ?_ (v := .bool false)
    refine MV ?_
    refine MG 0 ?_ (v := .int .i64 a.er) (hj := (agF_cel (off := 1) 1))
    refine MW ?_ (v := .bool true) (hv := by intro W; go_simp; first | done | omega)
    refine MW ?_ (v := .bool true)
    refine MZ fun W hS => ?_
    go_wp2
    exact bodyPost_ret (v := .tuple #[.slice none 0 0, .int .i64 2]) (by simp only [results, Try.results24]; go_simp) rfl ⟨rfl, hS.ext⟩
end Go.Proofs.Ytlbgelbhhibikaa.Ww

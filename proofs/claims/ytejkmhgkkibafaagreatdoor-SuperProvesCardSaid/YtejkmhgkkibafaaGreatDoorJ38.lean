/- The laws of layer 23: supers, from; SuperTexts. Conditions: the tables hold their numbers. The law SuperTexts. Conditions: the tables hold their numbers. Things that may turn, joined and parted; calls that only read what may turn. No conditions. The laws of layer 23: tame; the document's Leaves; Prove. Conditions: the tables hold their numbers. -/
import Derived.Test.YtejkmhgkkibafaaGreatDoorUc
import Derived.Test.YtejkmhgkkibafaaGreatDoorJ37
set_option linter.unusedSimpArgs false
set_option linter.unusedVariables false
namespace Go.Proofs.YtejkmhgkkibafaaGreatDoor
section
set_option maxHeartbeats 3000000
set_option maxRecDepth 100000
open Go.RowKit
attribute [local irreducible] wpList J0k wpX
open S8 (Kn GA kP sig vfy)
def rmC (m : Mb) : List Value := fcs [.c (str m.id), .c (.bool m.gone), .c (.int .i64 m.ep), .c (str (lb 32 m.link))]
theorem kP_lt (S : Nat) : kP S < 2 ^ 256 := S8.kP_lt S
theorem sig_lt (S : Nat) (L : List UInt8) : sig S L < 2 ^ (256 + 256) := S8.sig_lt S L
theorem Y16 {V S X : Nat} {L : List UInt8} (hV : V = kP S) (hX : X = sig S L) : vfy V L X = 0 := by rw [hV, hX]; exact S8.sign_back S L
theorem MbR.nil (W : World) : MbR nSl [] W := ⟨Z7m 35 W, fun y hy => by cases hy⟩
theorem Y17 {p S : Nat} {vt vl vs : Value} (w : World) (h_ : SH (SH.feet (suL p S .nil [] [] vt vl vs ++ [gx, mbT nSl []])) w w (suL p S .nil [] [] vt vl vs ++ [gx, mbT nSl []])) :
  Calls Tryz.prog 20 #[.pointer (some ⟨p, 0, none⟩), nSl] w fun e w' => ∃ y : Value × Value × Value, e = .returned (.agg (sgF ⟨0, sE, sig S (sTx 0 sE)⟩)) ∧ SH (SH.feet (suL p S .nil [] [] vt vl vs ++ [gx, mbT nSl []])) w w' (suL p S .nil [⟨0, sE, sig S (sTx 0 sE)⟩] [eS (sTx 0 sE)] y.1 y.2.1 y.2.2 ++ [gx, mbT nSl []]) :=
 Z4h (ms := []) (by simp) (by simp) (by simp) w h_
attribute [local irreducible] eI be8 hs4 lb kTx vTx sTx eS rs ofT sE sL sN S8.sig S8.vfy S8.kP S8.kN S8.kD

theorem J7a : zer Tryz.prog 27 = some (some (agF [.c (str []), .c (.bool false), .c (.int .i64 0), .c (str [])])) := by kernel_rfl
theorem J7b : plc Tryz.prog 27 = some [(0, 1), (1, 1), (2, 1), (3, 1)] := by kernel_rfl
theorem Q5b (w : World) (hX : GX w) :
  Calls Tryz.prog 10 #[] w fun e w' => Ret (.bool true) w w' e := by
 have hS := SH.nil [] w
 have hS := hS.entp (Z0m hX)
 go_enter Tryz.func10, Tryz.ntmps10
 go_upto_region 1 with fail
 refine RL hS ?_
 clear hS
 refine MW ?_ (v := .agg (J0 .u8 32 (Q5 1))) (hv := by intro W; kernel_rfl)
 refine ME (V := fun p => .pointer (some ⟨p, 0, none⟩)) (fun W hS => J33 hS (Z4g 1 W) (fun _ => ⟨rfl, rfl⟩)) ?_
 intro p1
 refine MT (fun W hS => ((hS.rnil 23 32 rfl).rnil 47 97 rfl).fact (TA.holds (show TA _ .nil nlp from rfl)) rfl) ?_
 refine MV ?_
 refine MZ fun W hS => ?_
 go_upto_region 2 with fail
 refine RL hS ?_
 clear hS
 refine MV ?_
 refine MT (fun W hS => hS.addp (Q6o (MbR.nil W)) (fun k hk => by cases hk)) ?_
 refine ME (V := fun _ => .agg (sgF ⟨0, sE, sig 1 (sTx 0 sE)⟩)) (fun W hS => Y6s [4, 2, 3, 1, 5, 0] [] hS (fun hT => Y17 W hT) (fun _ => ⟨.inr (.inl ⟨rfl, rfl⟩), .inr (.inl ⟨rfl, rfl⟩), .inr (.inl ⟨rfl, rfl⟩), .inr (.inr ⟨_, _, rfl, rfl⟩), .inl (by simp), .inl (by simp), trivial⟩)) ?_
 rintro ⟨vt2, vl2, vs2⟩
 dsimp only
 refine J3r (fun W hS => Row.form (ls := [⟨0, sE, sig 1 (sTx 0 sE)⟩]) (f := sgC) (hS.row (i := 1) rfl)) ?_
 rintro ⟨A_3, c_3, rfl⟩
 refine MN (z := agF [.c (.int .i64 0), .a 32 0, .a 64 0]) (t := 47) ?_
 intro V8i
 refine MR 0 ?_ (hz := by rw [Q3]; kernel_rfl) (hs := by first | (rw [Q3, Q3]; simp only [fsz_a, fsz_c, fsz_n]; done) | (rw [Q3, Q3]; rfl) | rfl) (h1 := by exact (J27 ⟨rfl, trivial⟩))
 refine MZ fun W hS => ?_
 go_upto_region 3 with fail
 refine RTh (.q 0 (.q 1 (.q 2 (.q 3 (.q 4 (.q 5 (.e 6 (.q 7 (.q 8 (.q 9 (.q 10 (.q 12 (.e 11 (.e 13 (.q 14 (.q 15 (.q 16 (.q 17 (.e 18 (.q 19 (.q 20 (.q 21 .z)))))))))))))))))))))) hS ?_
 clear hS
 refine TV ?_
 refine TG 0 ?_ (v := .int .i64 0) (hj := (J00 (off := 0) 0))
 refine TW ?_ (v := .bool true)
 refine TW ?_ (v := .bool true)
 refine TV ?_
 refine Tk 0 ?_ (sub := J0 .u8 32 (Q5 sE)) (hs := (J3x (off := 1) 1))
 refine TE (fun _ h => h) ?_
 refine MC (v := .agg (J0 .u8 32 (Q5 sE))) (fun W hS => Z43 W (hS.pp (i := 5) rfl : GX W).gt) ?_
 refine TNh (fun W hS => hS) ?_
 refine TW ?_ (v := .bool true) (hv := fun _ => J3q ((fun w => Q9e rfl w) _) (by kernel_rfl) rfl rfl rfl)
 refine TW ?_ (v := .bool true)
 refine TW ?_ (v := .bool true)
 refine TV ?_
 refine TL 0 ?_ (hs := by rw [Q3]; kernel_rfl)
 refine TE (fun _ h => h) ?_
 refine MC (v := .agg (J0 .u8 32 (Q5 (kP 1)))) (fun W hS => Z6e W (hS.blk (i := 1) rfl) (hS.pp (i := 5) rfl : GX W)) ?_
 refine TNh (fun W hS => hS) ?_
 refine TE (fun _ h => h) ?_
 refine MC (v := .int .i64 ((0 : Nat) : Int)) (fun W hS => (by have h_ := Y14 (V := kP 1) (x := ⟨0, sE, sig 1 (sTx 0 sE)⟩) (kP_lt _) (sig_lt _ _) W (hS.pp (i := 5) rfl : GX W); rw [Y16 rfl rfl] at h_; exact h_)) ?_
 refine TNh (fun W hS => hS) ?_
 refine TW ?_ (v := .bool true)
 refine TW ?_ (v := .bool true)
 refine TW ?_ (v := .bool true)
 refine TV ?_
 refine TE (fun _ h => h) ?_
 refine MC (v := .int .i64 ([⟨0, sE, sig 1 (sTx 0 sE)⟩].length : Int)) (fun W hS => Z6f W (hS.blk (i := 1) rfl)) ?_
 refine TNh (fun W hS => hS) ?_
 refine TV ?_
 refine TV ?_
 refine TV ?_
 refine TZ (fun _ h => h) fun W hS => ?_
 go_wp2
 exact bodyPost_ret (v := .bool true) (by simp only [results, Tryz.results10]; go_simp) rfl ⟨rfl, hS.ext⟩
theorem Q6p {α β : Type} {l : List α} {i : Nat} {x : α} (h : l[i]? = some x) (f : α → β) : List.map f (l.take (i + 1)) = List.map f (l.take i) ++ [f x] := by rw [List.take_add_one, h, List.map_append]; rfl
theorem Y18 {ms : List Mb} {v : Value} (hn : ms.length ≤ 1000) (w : World) (hp : RR 35 w v (ms.map mbC)) (hk : mbK ms w) :
  Calls Tryz.prog 7 #[v] w fun e w' => ∃ u, e = .returned u ∧ SH [] w w' [.r 27 4 u (ms.map rmC)] := by
 obtain ⟨Ap, cp, rfl, hlc_p, HRp⟩ := RR.opf hp
 have hS := SH.nil [] w
 go_enter Tryz.func7, Tryz.ntmps7
 have hS := hS.rnil 27 4 rfl
 go_wp2_with fail
 go_loopw [3, 4] (fun uv ii wr => ∃ (i : Nat) (sv : Value), (i ≤ ms.length) ∧ (sv = uv) ∧ (ii = .int .i64 (i : Int)) ∧ SH [] w wr [.r 27 4 sv (List.map rmC (List.take i ms))])
  (fun uv ii _ => ms.length - (intOf ii).toNat)
 case atStart => exact ⟨0, _, Nat.zero_le _, rfl, rfl, hS⟩
 clear hS
 case round =>
  obtain ⟨i, sv, hi, rfl, rfl, hS⟩ := hrel
  by_cases hlt : i < ms.length
  ·
   have _f := hlt
   obtain ⟨y, yh⟩ : ∃ x, ms[i]? = some x := ⟨_, List.getElem?_eq_getElem hlt⟩
   obtain ⟨gp, op, A0p, _⟩ := HRp.out i y yh
   have HAp := Lib.hid A0p
   clear A0p
   have hid := (hk y (List.mem_of_getElem? yh)).1
   have hidl := (hk y (List.mem_of_getElem? yh)).2
   have huc := V3 hid
   go_upto_region 3 with fail
   refine RL hS ?_
   clear hS
   refine MV ?_
   refine MV ?_
   refine MV ?_
   refine MW ?_ (v := .bool true)
   refine MZ fun W hS => ?_
   go_upto_region 5 with fail
   refine RTp [] (.q 0 (.q 1 (.q 2 (.q 3 (.q 4 (.q 5 (.q 6 (.q 7 (.q 8 (.q 9 (.q 10 (.q 11 (.q 12 (.q 13 (.q 14 (.q 15 (.q 16 (.q 17 (.q 18 (.q 19 (.q 20 (.q 21 (.q 22 (.q 23 (.e 24 (.e 25 (.q 26 .z))))))))))))))))))))))))))) hS ?_
   clear hS
   refine TV ?_
   refine TV ?_
   refine TV ?_
   refine TW ?_ (v := .pointer (some ⟨gp, op + i * 35, none⟩)) (hv := fun _ => V0 HAp.out hlt rfl rfl rfl Tryz.underlying30 (by kernel_rfl))
   refine TW ?_ (v := .pointer (some ⟨gp, op + i * 35, none⟩))
   refine TF (v := y.u) rfl (fun W hS => V2 rfl rfl ((Q5a (hp.ext hS.ext) yh HAp.out) 0 y.u (show (agF [.c y.u, .c (.bool y.gone), .c (.int .i64 y.ep), .a 32 y.link])[0]? = some y.u from (J00 (off := 0) 0))) (by kernel_rfl)) ?_
   refine TF (v := str y.id) rfl (fun W hS => J6u (Q22 hid hS.ext) rfl rfl) ?_
   refine TV ?_
   refine TV ?_
   refine TW ?_ (v := .pointer (some ⟨gp, op + i * 35, none⟩)) (hv := fun _ => V0 HAp.out hlt rfl rfl rfl Tryz.underlying30 (by kernel_rfl))
   refine TW ?_ (v := .pointer (some ⟨gp, op + i * 35 + 1, none⟩))
   refine TF (v := .bool y.gone) rfl (fun W hS => V2 rfl rfl ((Q5a (hp.ext hS.ext) yh HAp.out) 1 (.bool y.gone) (show (agF [.c y.u, .c (.bool y.gone), .c (.int .i64 y.ep), .a 32 y.link])[1]? = some (.bool y.gone) from (J00 (off := 1) 1))) (by kernel_rfl)) ?_
   refine TV ?_
   refine TV ?_
   refine TW ?_ (v := .pointer (some ⟨gp, op + i * 35, none⟩)) (hv := fun _ => V0 HAp.out hlt rfl rfl rfl Tryz.underlying30 (by kernel_rfl))
   refine TW ?_ (v := .pointer (some ⟨gp, op + i * 35 + 2, none⟩))
   refine TF (v := .int .i64 y.ep) rfl (fun W hS => V2 rfl rfl ((Q5a (hp.ext hS.ext) yh HAp.out) 2 (.int .i64 y.ep) (show (agF [.c y.u, .c (.bool y.gone), .c (.int .i64 y.ep), .a 32 y.link])[2]? = some (.int .i64 y.ep) from (J00 (off := 2) 2))) (by kernel_rfl)) ?_
   refine TV ?_
   refine TV ?_
   refine TW ?_ (v := .pointer (some ⟨gp, op + i * 35, none⟩)) (hv := fun _ => V0 HAp.out hlt rfl rfl rfl Tryz.underlying30 (by kernel_rfl))
   refine TW ?_ (v := .pointer (some ⟨gp, op + i * 35 + 3, none⟩))
   refine TW ?_ (v := .slice (some ⟨gp, op + i * 35 + 3, none⟩) 32 32)
   refine TF (v := str (lb 32 y.link)) rfl (fun W hS => J6u (Y7p (fun i_ v_ h_ => by rw [Nat.add_assoc]; exact (Q5a (hp.ext hS.ext) yh HAp.out) (3 + i_) v_ ((show ∀ j v, (J0 .u8 32 (Q5 y.link))[j]? = some v → (agF [.c y.u, .c (.bool y.gone), .c (.int .i64 y.ep), .a 32 y.link])[3 + j]? = some v from (J3x (off := 3) 3)) i_ v_ (by rw [← Array.getElem?_toList]; exact h_)))) rfl rfl) ?_
   refine TF (v := .agg (agF [.c (str y.id), .c (.bool y.gone), .c (.int .i64 y.ep), .c (str (lb 32 y.link))])) rfl (fun W hS => Q3a rfl rfl J7a J7b (J8a (J8a (J8a (J8a Q7c (l' := [.c (str y.id), .c (.bool y.gone), .c (.int .i64 y.ep), .c (str (lb 32 y.link))]) (m := [.c (str (lb 32 y.link))]) (hv := rfl) (hs := J32 (off := 3) 3 1) (hp := rfl) (hn := rfl) (hb := by show 3 + 1 ≤ 4; decide)) (l' := [.c (str y.id), .c (.bool y.gone), .c (.int .i64 y.ep), .c (str [])]) (m := [.c (.int .i64 y.ep)]) (hv := rfl) (hs := J32 (off := 2) 2 1) (hp := rfl) (hn := rfl) (hb := by show 2 + 1 ≤ 4; decide)) (l' := [.c (str y.id), .c (.bool y.gone), .c (.int .i64 0), .c (str [])]) (m := [.c (.bool y.gone)]) (hv := rfl) (hs := J32 (off := 1) 1 1) (hp := rfl) (hn := rfl) (hb := by show 1 + 1 ≤ 4; decide)) (l' := [.c (str y.id), .c (.bool false), .c (.int .i64 0), .c (str [])]) (m := [.c (str y.id)]) (hv := rfl) (hs := J32 (off := 0) 0 1) (hp := rfl) (hn := rfl) (hb := by show 0 + 1 ≤ 4; decide))) ?_
   refine TE (fun _ h => h.pick []) ?_
   refine MB (z := (agF [.c (str y.id), .c (.bool y.gone), .c (.int .i64 y.ep), .c (str (lb 32 y.link))])) (t := 27) (n := 1) (c := 1) ?_ (hr := fun W _ => J1r rfl rfl rfl Tryz.underlying28 (by rw [Q3]; kernel_rfl) (by rw [Q3]; kernel_rfl) (by rw [Q3]; exact Nat.le_of_ble_eq_true (by kernel_rfl)) (by rw [Q3]; exact Nat.le_of_ble_eq_true (by kernel_rfl)))
   intro V7o
   refine TNp [0] [] ?_
   refine TE (fun _ h => h.pick [0]) ?_
   refine MAr 1 0 (tS := 28) (bytes := 48) (es := (List.map rmC (List.take i ms))) (by first | omega | (simp only [lA, lM, lT, lD, lC, lN, Q2, V4, Y4, Y5]; omega)) (e := rmC y) (hk := by rw [Q3]; kernel_rfl) (h1 := by exact (J27 ⟨rfl, rfl, rfl, rfl, trivial⟩)) (cs := (agF [.c (str y.id), .c (.bool y.gone), .c (.int .i64 y.ep), .c (str (lb 32 y.link))])) ?_
   intro V4z
   refine TNp [0, 1] [0] ?_
   refine TV ?_
   refine TZ (fun _ h => h) fun W hS => ?_
   go_wp2
   go_roundw
   case rel => exact ⟨i + 1, V4z, by omega, rfl, by go_num, (by rw [Q6p yh rmC]; exact (hS.pick [1]))⟩
   case measure => simp [intOf]; omega
  have _f := hlt
  obtain rfl : i = ms.length := by omega
  rw [List.take_length] at hS
  go_upto_region 3 with fail
  refine RL hS ?_
  clear hS
  refine MV ?_
  refine MV ?_
  refine MV ?_
  refine MW ?_ (v := .bool false)
  refine MZ fun W hS => ?_
  go_wp2
  exact bodyPost_ret (v := sv) (by simp only [results, Tryz.results7]; go_simp) rfl ⟨_, rfl, hS.pick [0]⟩
end

section
set_option maxHeartbeats 3000000
set_option maxRecDepth 100000
open Go.RowKit
attribute [local irreducible] wpList J0k wpX
open S8 (Kn GA kP sig vfy)
attribute [local irreducible] eI be8 hs4 lb kTx vTx sTx eS rs ofT sE sL sN S8.sig S8.vfy S8.kP S8.kN S8.kD

end

section
open Go.RowKit
def InF (N : List As) (f : List Nat) : Prop := ∀ k ∈ f, ∃ x ∈ N, (∀ T K, x ≠ .t T K) ∧ k ∈ x.foot
theorem Y2b {N : List As} {f g : List Nat} (h1 : InF N f) (h2 : InF N g) : InF N (f ++ g) := fun k hk => (List.mem_append.1 hk).elim (h1 k) (h2 k)
theorem V1t {N : List As} {T : Option TypeId} {g f : List Nat} {K : World → Prop} (i : Nat) (h : N[i]? = some (.m T g K)) (hf : ∀ k ∈ f, k ∈ g) : InF N f := fun k hk => ⟨_, SH.mem h, fun T K e => (by cases e), hf k hk⟩
theorem V1u {N : List As} {t : TypeId} {n : Nat} {v : Value} {es : List (List Value)} {f : List Nat} (i : Nat) (h : N[i]? = some (.r t n v es)) (hf : ∀ k ∈ f, k ∈ v.ownBlock.toList) : InF N f := fun k hk => ⟨_, SH.mem h, fun T K e => (by cases e), hf k hk⟩
namespace SH
variable {F : List Nat} {w W W' : World} {H H' L L' N R : List As} {x y : As} {i j : Nat} {f : List Nat} {K : World → Prop} {T : Option TypeId}
theorem Z2t {z : As} (hx : x.mv = true) (h : x.apart z) (hy : y.mv = true) (ht : y.ty = x.ty) (hf : ∀ k ∈ y.foot, k ∈ x.foot) : y.apart z := by
  refine ⟨fun _ => ?_, fun hm => ?_⟩
  · have h1 := h.1 hx
    cases z with
    | t T K => exact fun e => h1 (ht ▸ e)
    | _ => exact fun k hk => h1 k (hf k hk)
  have h2 := h.2 hm
  have h3 : ∀ k ∈ z.foot, k ∉ x.foot := by
    cases x with
    | t T K => cases hx
    | _ => exact h2
  cases y with
  | t T K => cases hy
  | _ => exact fun k hk hk' => h3 k hk (hf k hk')
theorem Y2c {u z : As} (hx : x.mv = true) (hy : y.mv = true) (h : x.apart z) (h' : y.apart z) (hu : u.mv = true) (tx : x.ty = u.ty) (hf : ∀ k ∈ u.foot, k ∈ x.foot ∨ k ∈ y.foot) : u.apart z := by
  refine ⟨fun _ => ?_, fun hm => ?_⟩
  · have h1 := h.1 hx
    have h1' := h'.1 hy
    cases z with
    | t T K => exact fun e => h1 (tx ▸ e)
    | _ => exact fun k hk => (hf k hk).elim (h1 k) (h1' k)
  have h2 := h.2 hm
  have h2' := h'.2 hm
  have h3 : ∀ k ∈ z.foot, k ∉ x.foot := by
    cases x with
    | t T K => cases hx
    | _ => exact h2
  have h3' : ∀ k ∈ z.foot, k ∉ y.foot := by
    cases y with
    | t T K => cases hy
    | _ => exact h2'
  cases u with
  | t T K => cases hu
  | _ => exact fun k hk hk' => (hf k hk').elim (h3 k hk) (h3' k hk)
theorem merge (h : SH F w W (x :: y :: H)) (hx : x.mv = true) (hy : y.mv = true) (tx : x.ty = T) (hz : (As.m T f K).holds W) (hf : ∀ k ∈ f, k ∈ x.foot ∨ k ∈ y.foot) : SH F w W (.m T f K :: H) := by
  have hp := List.pairwise_cons.1 h.ap
  have hp2 := List.pairwise_cons.1 hp.2
  refine ⟨h.off, fun z hz' => ?_, List.pairwise_cons.2 ⟨fun z hz' => Y2c hx hy (hp.1 z (List.mem_cons_of_mem _ hz')) (hp2.1 z hz') rfl tx hf, hp2.2⟩, fun z hz' hm k hk hlt => ?_⟩
  · rcases List.mem_cons.1 hz' with rfl | hz'
    · exact hz
    exact h.all z (List.mem_cons_of_mem _ (List.mem_cons_of_mem _ hz'))
  rcases List.mem_cons.1 hz' with rfl | hz'
  · rcases hf k hk with hk | hk
    · exact h.old x (List.mem_cons_self ..) hx k hk hlt
    exact h.old y (by simp) hy k hk hlt
  exact h.old z (by simp [hz']) hm k hk hlt
theorem split {u : As} (h : SH F w W (u :: H)) (hu : u.mv = true) (hx : x.holds W) (hy : y.holds W) (mx : x.mv = true) (my : y.mv = true) (tx : x.ty = u.ty) (ty : y.ty = u.ty) (fx : ∀ k ∈ x.foot, k ∈ u.foot) (fy : ∀ k ∈ y.foot, k ∈ u.foot) (dj : ∀ k ∈ x.foot, k ∉ y.foot) : SH F w W (x :: y :: H) := by
  have hp := List.pairwise_cons.1 h.ap
  refine ⟨h.off, fun z hz' => ?_, List.pairwise_cons.2 ⟨fun z hz' => ?_, List.pairwise_cons.2 ⟨fun z hz' => Z2t hu (hp.1 z hz') my ty fy, hp.2⟩⟩, fun z hz' hm k hk hlt => ?_⟩
  · rcases List.mem_cons.1 hz' with rfl | hz'
    · exact hx
    rcases List.mem_cons.1 hz' with rfl | hz'
    · exact hy
    exact h.all z (List.mem_cons_of_mem _ hz')
  · rcases List.mem_cons.1 hz' with rfl | hz'
    · refine ⟨fun _ => ?_, fun _ => ?_⟩
      · cases z with
        | t T K => cases my
        | _ => exact dj
      cases x with
      | t T K => cases mx
      | _ => exact fun k hk hk' => dj k hk' hk
    exact Z2t hu (hp.1 z hz') mx tx fx
  rcases List.mem_cons.1 hz' with rfl | hz'
  · exact h.old u (List.mem_cons_self ..) hu k (fx k hk) hlt
  rcases List.mem_cons.1 hz' with rfl | hz'
  · exact h.old u (List.mem_cons_self ..) hu k (fy k hk) hlt
  exact h.old z (List.mem_cons_of_mem _ hz') hm k hk hlt
theorem mnil (T : Option TypeId) (h : SH F w W H) (hz : (As.m T [] K).holds W) (ht : H.all (fun y => tyOk (.m T [] K) y) = true) : SH F w W (.m T [] K :: H) := h.new (Off.refl _ _) hz (fun k hk => by cases hk) rfl ht
theorem foldF (h : SH F w W (N ++ R)) (hz : (As.p f K).holds W) (hf : InF N f) : SH F w W (.p f K :: R) := by
  have hp := List.pairwise_append.1 h.ap
  refine ⟨h.off, fun z hz' => ?_, List.pairwise_cons.2 ⟨fun z hz' => ⟨fun e => (by cases e), fun hm k hk hk' => ?_⟩, hp.2.1⟩, fun z hz' hm k hk hlt => ?_⟩
  · rcases List.mem_cons.1 hz' with rfl | hz'
    · exact hz
    exact h.all z (by simp [hz'])
  · obtain ⟨x, hx, ht, hkx⟩ := hf k hk'
    have h2 := (hp.2.2 x hx z hz').2 hm
    cases x with
    | t T K => exact ht T K rfl
    | _ => exact h2 k hk hkx
  rcases List.mem_cons.1 hz' with rfl | hz'
  · cases hm
  exact h.old z (by simp [hz']) hm k hk hlt
theorem partP {u : Value} {l : List UInt8} (h : SH F w W H) (hi : H[i]? = some (.p f K)) (hs : Sl W u l) (hf : ∀ k, sb u l = some k → k ∈ f) : SH F w W (.s u l :: H) := by
  refine ⟨h.off, fun z hz' => ?_, List.pairwise_cons.2 ⟨fun z hz' => ⟨fun e => (by cases e), fun hm k hk hk' => ?_⟩, h.ap⟩, fun z hz' hm k hk hlt => ?_⟩
  · rcases List.mem_cons.1 hz' with rfl | hz'
    · exact hs
    exact h.all z hz'
  · obtain ⟨j, hj, e⟩ := List.mem_iff_getElem.1 hz'
    have hj' : H[j]? = some z := by rw [List.getElem?_eq_getElem hj, e]
    by_cases hn : i = j
    · subst hn; rw [hi] at hj'; obtain rfl := Option.some.inj hj'; cases hm
    exact (h.ap2 hi hj' hn).2 hm k hk (hf k (As.mem_toList hk'))
  rcases List.mem_cons.1 hz' with rfl | hz'
  · cases hm
  exact h.old z hz' hm k hk hlt
end SH
section
variable {P : Program} {g : FuncId} {args : Array Value} {F : List Nat} {w W : World} {H L N R : List As}
end
end

section
set_option maxHeartbeats 3000000
set_option maxRecDepth 100000
open Go.RowKit
attribute [local irreducible] wpList J0k wpX
open S8 (Kn GA kP sig vfy)
theorem Y19 {w W : World} {v : Value} {l : List UInt8} (h : Own w v l) (e : ∀ b, v.ownBlock = some b → W.heap[b]? = w.heap[b]?) : Own W v l := by
 obtain ⟨h1, h2⟩ := h
 refine ⟨h1, h2.imp id ?_⟩
 rintro ⟨g, cap, cur, rfl, hb, hh, r⟩
 exact ⟨g, cap, cur, rfl, hb, by rw [e g rfl]; exact hh, r⟩
def idF (q : List Mb) : List Nat := q.flatMap fun y => y.u.ownBlock.toList
def idK (q : List Mb) (W : World) : Prop := (∀ y ∈ q, Own W y.u y.id) ∧ q.Pairwise fun a b => ∀ k ∈ a.u.ownBlock.toList, k ∉ b.u.ownBlock.toList
abbrev idT (q : List Mb) : As := .m (some 5) (idF q) (idK q)
theorem Q6q {q : List Mb} {w : World} (h : idK q w) : (idT q).holds w := by
 refine ⟨h, fun k hk => ?_, fun k hk => ?_, fun W' _ e => ⟨fun y hy => Y19 (h.1 y hy) fun b hb => e b (List.mem_flatMap.2 ⟨y, hy, by rw [hb]; simp⟩), h.2⟩⟩
 ·
  obtain ⟨y, hy, h1⟩ := List.mem_flatMap.1 hk
  exact As.lt (x := .o y.u y.id) (h.1 y hy) k h1
 obtain ⟨y, hy, h1⟩ := List.mem_flatMap.1 hk
 exact As.tyOf (x := .o y.u y.id) (h.1 y hy) rfl k h1
theorem SH.idnil {F : List Nat} {w W : World} {H : List As} (h : SH F w W H) (ht : H.all (fun y => SH.tyOk (idT []) y) = true) : SH F w W (idT [] :: H) := h.mnil (some 5) (Q6q (q := []) ⟨fun y hy => (by cases hy), .nil⟩) ht
theorem SH.idadd {F : List Nat} {w W : World} {H : List As} {q : List Mb} {y : Mb} (h : SH F w W (.o y.u y.id :: idT q :: H)) : SH F w W (idT (q ++ [y]) :: H) := by
 have h1 := h.own (i := 0) rfl
 have h2 : idK q W := (h.at_ (i := 1) rfl).1
 have ha := (h.ap2 (i := 0) (j := 1) rfl rfl (by decide)).1 rfl
 have hk : idK (q ++ [y]) W := by
  refine ⟨fun z hz => ?_, List.pairwise_append.2 ⟨h2.2, List.pairwise_singleton .., fun a ha' b hb k hka hkb => ?_⟩⟩
  ·
   rcases List.mem_append.1 hz with hz | hz
   ·
    exact h2.1 z hz
   rw [List.mem_singleton.1 hz]; exact h1
  rw [List.mem_singleton.1 hb] at hkb
  exact ha k hkb (List.mem_flatMap.2 ⟨a, ha', hka⟩)
 refine h.merge rfl rfl rfl (Q6q hk) fun k hk' => ?_
 obtain ⟨z, hz, h3⟩ := List.mem_flatMap.1 hk'
 rcases List.mem_append.1 hz with hz | hz
 ·
  exact .inr (List.mem_flatMap.2 ⟨z, hz, h3⟩)
 rw [List.mem_singleton.1 hz] at h3; exact .inl h3
theorem Y4o {q : List Mb} {W : World} (h : idK q W) : ∀ k ∈ Y4n q, k ∈ idF q := fun k hk => by
 obtain ⟨y, hy, h1⟩ := List.mem_flatMap.1 hk
 exact List.mem_flatMap.2 ⟨y, hy, by rw [Q0i (As.mem_toList h1)]; simp⟩
abbrev mbO (v : Value) (q : List Mb) : List As := [.r 25 35 v (q.map mbC), idT q]
theorem V52 {q : List Mb} {v : Value} {F : List Nat} {w W : World} {H : List As} (hl : ∀ y ∈ q, y.id.length ≤ 100000000) (h : SH F w W (mbO v q ++ H)) : MbR v q W :=
 ⟨(h.row (i := 0) rfl).rr, fun y hy => ⟨((h.at_ (i := 1) rfl).1.1 y hy).sl, hl y hy⟩⟩
theorem V53 {q : List Mb} {v : Value} {F : List Nat} {w W : World} {H : List As} (h : SH F w W (mbO v q ++ H)) : InF (mbO v q) (fbR v (q.map mbC) ++ Y4n q) :=
 Y2b (V1u 0 rfl (Z2q (h.row (i := 0) rfl))) (V1t 1 rfl (Y4o (h.at_ (i := 1) rfl).1))
abbrev TM : Type := { x : Value × List Mb // x.2.length ≤ 6 ∧ ∀ y ∈ x.2, y.id.length ≤ 20 }
theorem Y6t {W : World} {A : Option Addr} {n c i g o : Nat} {ms : List Mb} {y : Mb} (h : RR 4 W (.slice A n c) (ms.map rmC)) (yh : ms[i]? = some y) (hA : A = some ⟨g, o, none⟩) : ∀ (j : Nat) (v : Value), (agF [.c (str y.id), .c (.bool y.gone), .c (.int .i64 y.ep), .c (str (lb 32 y.link))])[j]? = some v → W.cell? ⟨g, o + i * 4 + j, none⟩ = some v := fun j v hv =>
 RR.cellat h (by rw [List.getElem?_map, yh]; rfl) hA j v (by unfold rmC; rw [← Q42, Array.getElem?_toList]; exact hv)
theorem V0w (k v : Nat) : agF [.a 32 k, .a 32 v] = lf k v := by
 apply Array.toList_inj.1
 show (J0 .u8 32 (Q5 k)).toList ++ ((J0 .u8 32 (Q5 v)).toList ++ []) = _
 unfold lf; rw [List.append_nil, Array.toList_append]
theorem Y4p {ms : List Mb} {i : Nat} {y : Mb} {u : Value} (h : ms[i]? = some y) (hn : ms.length ≤ 1000) (w : World) (hl : RR 64 w u ((J2j (List.take i (ms.map mkL))).map lfl)) :
  Calls Tryz.prog 60 #[u, .agg (lf (hs4 (kTx y.id)) (hs4 (vTx y)))] w fun e w' => Y0w 60 (J2j (List.take (i + 1) (ms.map mkL))) w w' e := by
 have hl2 : (List.take i (ms.map mkL)).length ≤ 1000 := by rw [List.length_take, List.length_map]; omega
 rw [Z1z (Y6q h)]
 exact V0j (J3n _) (J6d (Y4i i (Q6n ms))).1 (V4l hl2) w hl
attribute [local irreducible] eI be8 hs4 lb kTx vTx sTx eS rs ofT sE sL sN S8.sig S8.vfy S8.kP S8.kN S8.kD

theorem V0x (i n : Nat) : (i < n ∧ i < 6) ∨ ¬ i < n ∨ (i < n ∧ ¬ i < 6) := by omega
theorem V0y {ms : List Mb} {v : Value} (w : World) (hp : RR 35 w v (ms.map mbC)) (hk : ∀ y ∈ ms, Sl w y.u y.id) :
  Calls Tryz.prog 18 #[v] w fun e w' => ∃ x : TM, e = .returned x.1.1 ∧ SH [] w w' (mbO x.1.1 x.1.2) := by
 obtain ⟨Ap, cp, rfl, hlc_p, HRp⟩ := RR.opf hp
 have hS := SH.nil [] w
 go_enter Tryz.func18, Tryz.ntmps18
 have hS := hS.idnil rfl
 have hS := hS.rnil 25 35 rfl
 go_wp2_with fail
 go_loopw [3, 4] (fun uv ii wr => ∃ (q : List Mb) (sv : Value), (q.length ≤ ms.length) ∧ (q.length ≤ 6) ∧ (∀ y ∈ q, y.id.length ≤ 20) ∧ (sv = uv) ∧ (ii = .int .i64 (q.length : Int)) ∧ SH [] w wr [.r 25 35 sv (List.map mbC q), idT q])
  (fun uv ii _ => ms.length - (intOf ii).toNat)
 case atStart => exact ⟨[], _, Nat.zero_le _, Nat.zero_le _, (fun y hy => by cases hy), rfl, rfl, hS⟩
 clear hS
 case round =>
  obtain ⟨q, sv, hi, hi6, hq, rfl, rfl, hS⟩ := hrel
  rcases V0x q.length ms.length with hlt2 | hlt2 | hlt2
  ·
   have _f := True.intro
   have hlt := hlt2.1
   have hlt6 := hlt2.2
   obtain ⟨y, yh⟩ : ∃ x, ms[q.length]? = some x := ⟨_, List.getElem?_eq_getElem hlt⟩
   obtain ⟨gp, op, A0p, _⟩ := HRp.out q.length y yh
   have HAp := Lib.hid A0p
   clear A0p
   have hid := (hk y (List.mem_of_getElem? yh))
   have huc := V3 hid
   go_upto_region 3 with fail
   refine RL hS ?_
   clear hS
   refine MV ?_
   refine MV ?_
   refine MV ?_
   refine MW ?_ (v := .bool true) (hv := by intro W; go_simp; first | done | omega)
   refine MW ?_ (v := .bool true)
   refine MV ?_
   refine MW ?_ (v := .bool true) (hv := by intro W; go_simp; first | done | omega)
   refine MW ?_ (v := .bool true)
   refine MZ fun W hS => ?_
   go_upto_region 5 with fail
   refine RL hS ?_
   clear hS
   refine MV ?_
   refine MV ?_
   refine MW ?_ (v := .pointer (some ⟨gp, op + q.length * 35, none⟩)) (hv := fun _ => V0 HAp.out hlt rfl rfl rfl Tryz.underlying30 (by kernel_rfl))
   refine MF (v := .agg (agF [.c y.u, .c (.bool y.gone), .c (.int .i64 y.ep), .a 32 y.link])) (fun W hS => K4 rfl rfl (fun i_ v hv => (Q5a (hp.ext hS.ext) yh HAp.out) i_ v (by simpa using hv)) (by kernel_rfl) (by rw [Q3]; kernel_rfl)) ?_
   refine MN (z := agF [.c (.slice none 0 0), .c (.bool false), .c (.int .i64 0), .a 32 0]) (t := 25) ?_
   intro J5m
   refine MR 0 ?_ (hz := by rw [Q3]; kernel_rfl) (hs := by first | (rw [Q3, Q3]; simp only [fsz_a, fsz_c, fsz_n]; done) | (rw [Q3, Q3]; rfl) | rfl) (h1 := by exact (J27 ⟨huc.2, rfl, rfl, trivial⟩))
   refine MZ fun W hS => ?_
   go_upto_region 6 with fail
   refine RL hS ?_
   clear hS
   refine MO (m := []) (n := 0) (z := #[]) ?_
   intro V7q
   refine MV ?_
   refine MG 1 ?_ (v := y.u) (hj := (J00 (off := 0) 0))
   refine MV ?_
   refine MG 1 ?_ (v := y.u) (hj := (J00 (off := 0) 0))
   refine MF (v := .int .i64 (y.id.length : Int)) (fun W hS => J12 (Q22 hid hS.ext) rfl rfl) ?_
   refine MW ?_ (v := .int .i64 ((min y.id.length 20 : Nat) : Int))
   refine MT (fun W hS => hS.ent hid) ?_
   refine MH 0 (min y.id.length 20) (m := y.id) (m' := (List.take (min y.id.length 20) y.id)) (by exact Nat.min_le_left _ _) ?_
   intro V7r
   refine MA 2 (xs := []) (ys := (List.take (min y.id.length 20) y.id)) (fun W hS => (hS.sl (i := 0) rfl)) (by first | omega | (simp only [lA, lM, lT, lD, lC, lN, Q2, V4, Y4, Y5]; omega)) ?_
   intro Q5c
   refine MV ?_
   refine J3r (fun W hS => (V3 (hS.osl (i := 2) rfl)).2) ?_
   intro oc_a285
   refine MP 3 (v := Q5c) (cs' := agF [.c Q5c, .c (.bool y.gone), .c (.int .i64 y.ep), .a 32 y.link]) ?_ (hs := by rw [Q3]; exact Nat.le_of_ble_eq_true (by kernel_rfl)) (hc := J4g (off := 0) 0) (hv := fun W hS => V3 (hS.osl (i := 2) rfl))
   refine MZ fun W hS => ?_
   go_upto_region 7 with fail
   refine RL hS ?_
   clear hS
   refine MV ?_
   refine ML 3 ?_ (hs := by rw [Q3]; kernel_rfl)
   refine MB (z := (agF [.c Q5c, .c (.bool y.gone), .c (.int .i64 y.ep), .a 32 y.link])) (t := 25) (n := 1) (c := 1) ?_ (hr := fun W _ => J1r rfl rfl rfl Tryz.underlying30 (by rw [Q3]; kernel_rfl) (by rw [Q3]; kernel_rfl) (by rw [Q3]; exact Nat.le_of_ble_eq_true (by kernel_rfl)) (by rw [Q3]; exact Nat.le_of_ble_eq_true (by kernel_rfl)))
   intro V7s
   refine MAr 5 0 (tS := 30) (bytes := 72) (es := (List.map mbC q)) (by first | omega | (simp only [lA, lM, lT, lD, lC, lN, Q2, V4, Y4, Y5]; omega)) (e := mbC ⟨Q5c, List.take (min y.id.length 20) y.id, y.gone, y.ep, y.link⟩) (hk := by rw [Q3]; kernel_rfl) (h1 := by exact (J27 ⟨oc_a285, rfl, rfl, trivial⟩)) (cs := (agF [.c Q5c, .c (.bool y.gone), .c (.int .i64 y.ep), .a 32 y.link])) ?_
   intro V54
   refine MV ?_
   refine MZ fun W hS => ?_
   have hS := SH.idadd (y := ⟨Q5c, List.take (min y.id.length 20) y.id, y.gone, y.ep, y.link⟩) (hS.pick [3, 6, 5])
   go_wp2
   go_roundw
   case rel => exact ⟨q ++ [⟨Q5c, List.take (min y.id.length 20) y.id, y.gone, y.ep, y.link⟩], V54, by rw [List.length_append]; simp only [List.length_cons, List.length_nil]; omega, by rw [List.length_append]; simp only [List.length_cons, List.length_nil]; omega, (fun z hz => (List.mem_append.1 hz).elim (hq z) fun h => by rw [List.mem_singleton.1 h]; show (List.take _ _).length ≤ 20; rw [List.length_take]; omega), rfl, by rw [List.length_append]; go_num, (by rw [List.map_append]; exact (hS.pick [1, 0]))⟩
   case measure => (try rw [List.length_append]); simp [intOf]; omega
  ·
   have _f := True.intro
   go_upto_region 3 with fail
   refine RL hS ?_
   clear hS
   refine MV ?_
   refine MV ?_
   refine MV ?_
   refine MW ?_ (v := .bool false) (hv := by intro W; go_simp; first | done | omega)
   refine MW ?_ (v := .bool false)
   refine MS ?_
   refine MS ?_
   refine MW ?_ (v := .bool false)
   refine MZ fun W hS => ?_
   go_wp2
   exact bodyPost_ret (v := sv) (by simp only [results, Tryz.results18]; go_simp) rfl ⟨⟨(sv, q), hi6, hq⟩, rfl, hS.pick [0, 1]⟩
  have _f := True.intro
  go_upto_region 3 with fail
  refine RL hS ?_
  clear hS
  refine MV ?_
  refine MV ?_
  refine MV ?_
  refine MW ?_ (v := .bool true) (hv := by intro W; go_simp; first | done | omega)
  refine MW ?_ (v := .bool true)
  refine MV ?_
  refine MW ?_ (v := .bool false) (hv := by intro W; go_simp; first | done | omega)
  refine MW ?_ (v := .bool false)
  refine MZ fun W hS => ?_
  go_wp2
  exact bodyPost_ret (v := sv) (by simp only [results, Tryz.results18]; go_simp) rfl ⟨⟨(sv, q), hi6, hq⟩, rfl, hS.pick [0, 1]⟩
theorem Y4q {ms : List Mb} {v : Value} (w : World) (hp : RR 35 w v (ms.map mbC)) (hk : ∀ y ∈ ms, Sl w y.u y.id) :
  Calls Tryz.prog 18 #[v] w fun e w' => ∃ x : TM, e = .returned x.1.1 ∧ SH [] w w' [mbT x.1.1 x.1.2] ∧ ∀ y ∈ [mbT x.1.1 x.1.2], y.mv = false → ∀ k ∈ y.foot, w.heap.size ≤ k :=
 (V0y w hp hk).mono fun e w' ⟨x, h1, h2⟩ => by
  have h3 : SH [] w w' (mbO x.1.1 x.1.2 ++ []) := h2
  have hf := V53 h3
  refine ⟨x, h1, SH.foldF h3 (Q6o (V52 (fun y hy => Nat.le_trans (x.2.2 y hy) (by decide)) h3)) hf, fun y hy _ k hk => ?_⟩
  rw [List.mem_singleton.1 hy] at hk
  obtain ⟨z, hz, _, hkz⟩ := hf k hk
  have hm : z.mv = true := by
   rcases List.mem_cons.1 hz with rfl | hz
   ·
    rfl
   ·
    rw [List.mem_singleton.1 hz]; rfl
  rcases Nat.lt_or_ge k w.heap.size with hlt | hge
  ·
   cases h2.old z hz hm k hkz hlt
  exact hge
theorem Q2f {q : Prop} (hr : q) {ms : List Mb} {v : Value} (hn : ms.length ≤ 1000) (w : World) (hG : GT q w) (hp : RR 4 w v (ms.map rmC)) (hk : ∀ y ∈ ms, y.id.length ≤ 100000000) :
  Calls Tryz.prog 24 #[v] w fun e w' => Y0w 60 (J2j (ms.map mkL)) w w' e := by
 obtain ⟨Ap, cp, rfl, hlc_p, HRp⟩ := RR.opf hp
 have hS := SH.nil [] w
 go_enter Tryz.func24, Tryz.ntmps24
 go_upto_region 1 with fail
 refine RL hS ?_
 clear hS
 refine MB0 (t := 60) (n := 64) ?_
 intro V8j
 refine MV ?_
 refine MZ fun W hS => ?_
 go_wp2_with fail
 go_loopw [3, 4] (fun uv ii wr => ∃ (i : Nat) (sv : Value), (i ≤ ms.length) ∧ (sv = uv) ∧ (ii = .int .i64 (i : Int)) ∧ SH [] w wr [.r 60 64 sv (List.map lfl (J2j (List.take i (ms.map mkL))))])
  (fun uv ii _ => ms.length - (intOf ii).toNat)
 case atStart => exact ⟨0, _, Nat.zero_le _, rfl, rfl, hS⟩
 clear hS
 case round =>
  obtain ⟨i, sv, hi, rfl, rfl, hS⟩ := hrel
  by_cases hlt : i < ms.length
  ·
   have _f := hlt
   obtain ⟨y, yh⟩ : ∃ x, ms[i]? = some x := ⟨_, List.getElem?_eq_getElem hlt⟩
   obtain ⟨gp, op, A0p, _⟩ := HRp.out i y yh
   have HAp := Lib.hid A0p
   clear A0p
   have hidl := hk y (List.mem_of_getElem? yh)
   go_upto_region 3 with fail
   refine RL hS ?_
   clear hS
   refine MV ?_
   refine MV ?_
   refine MV ?_
   refine MW ?_ (v := .bool true) (hv := by intro W; go_simp; first | done | omega)
   refine MZ fun W hS => ?_
   go_upto_region 5 with fail
   refine RL hS ?_
   clear hS
   refine MN (z := agF [.a 32 0, .a 32 0]) (t := 60) ?_
   intro J37
   refine MZ fun W hS => ?_
   go_upto_region 6 with fail
   refine RTp [1] (.q 0 (.q 1 (.q 2 (.q 3 (.q 4 (.q 5 (.q 6 (.e 7 (.e 8 .z))))))))) hS ?_
   clear hS
   refine TV ?_
   refine TW ?_ (v := .slice (some ⟨J37, 0, none⟩) 32 32)
   refine TV ?_
   refine TV ?_
   refine TW ?_ (v := .pointer (some ⟨gp, op + i * 4, none⟩)) (hv := fun _ => V0 HAp.out hlt rfl rfl rfl Tryz.underlying28 (by kernel_rfl))
   refine TW ?_ (v := .pointer (some ⟨gp, op + i * 4, none⟩))
   refine TF (v := str y.id) rfl (fun W hS => V2 rfl rfl ((Y6t (hp.ext hS.ext) yh HAp.out) 0 (str y.id) (show (agF [.c (str y.id), .c (.bool y.gone), .c (.int .i64 y.ep), .c (str (lb 32 y.link))])[0]? = some (str y.id) from (J00 (off := 0) 0))) (by kernel_rfl)) ?_
   refine TE (fun _ h => h.pick [1]) ?_
   refine MC (v := str (lb 32 (hs4 (kTx y.id)))) (fun W hS => Y10 hr hidl W (V6 hG hS.ext)) ?_
   refine TNp [1] [0] ?_
   refine TE (fun _ h => h.pick [1]) ?_
   refine MCq 0 (l := (lb 32 (hs4 (kTx y.id)))) (N := 32) (cs := agF [.a 32 0, .a 32 0]) (new := agF [.a 32 (hs4 (kTx y.id)), .a 32 0]) (off := 0) (V1s 0 rfl rfl (by kernel_rfl)) ?_
   refine TNp [1] [0] ?_
   refine TZ (fun _ h => h.pick [1]) fun W hS => ?_
   go_upto_region 7 with fail
   refine RTp [1] (.q 0 (.q 1 (.q 2 (.q 3 (.q 4 (.q 5 (.e 6 (.e 7 (.e 8 .z))))))))) hS ?_
   clear hS
   refine TV ?_
   refine TW ?_ (v := .slice (some ⟨J37, 32, none⟩) 32 32)
   refine TV ?_
   refine TV ?_
   refine TW ?_ (v := .pointer (some ⟨gp, op + i * 4, none⟩)) (hv := fun _ => V0 HAp.out hlt rfl rfl rfl Tryz.underlying28 (by kernel_rfl))
   refine TF (v := .agg (agF [.c (str y.id), .c (.bool y.gone), .c (.int .i64 y.ep), .c (str (lb 32 y.link))])) rfl (fun W hS => K4 rfl rfl (fun i_ v hv => (Y6t (hp.ext hS.ext) yh HAp.out) i_ v (by simpa using hv)) (by kernel_rfl) (by rw [Q3]; kernel_rfl)) ?_
   refine TE (fun _ h => h.pick [1]) ?_
   refine MC (v := str (vTx y)) (fun W hS => Q8p (m := y) W) ?_
   refine TNp [1] [0] ?_
   refine TE (fun _ h => h.pick [1]) ?_
   refine MC (v := str (lb 32 (hs4 (vTx y)))) (fun W hS => J9j (l := vTx y) rfl (by have h_ := Z4f y; omega) W ((V6 hG hS.ext).2 hr)) ?_
   refine TNp [1] [0] ?_
   refine TE (fun _ h => h.pick [1]) ?_
   refine MCq 0 (l := (lb 32 (hs4 (vTx y)))) (N := 32) (cs := agF [.a 32 (hs4 (kTx y.id)), .a 32 0]) (new := agF [.a 32 (hs4 (kTx y.id)), .a 32 (hs4 (vTx y))]) (off := 32) (V1s 1 rfl rfl (by kernel_rfl)) ?_
   refine TNp [1] [0] ?_
   refine TZ (fun _ h => h.pick [1]) fun W hS => ?_
   rw [V0w] at hS
   go_upto_region 8 with fail
   refine RL hS ?_
   clear hS
   refine MV ?_
   refine ML 0 ?_ (hs := by rw [Q8]; kernel_rfl)
   refine ME (fun W hS => Q0d (ls := J2j (List.take (i + 1) (ms.map mkL))) hS (Y4p yh hn W (hS.row (i := 1) rfl).rr) rfl) ?_
   intro u_rp3
   refine MV ?_
   refine MZ fun W hS => ?_
   go_wp2
   go_roundw
   case rel => exact ⟨i + 1, u_rp3, by omega, rfl, by go_num, (hS.pick [0])⟩
   case measure => simp [intOf]; omega
  have _f := hlt
  obtain rfl : i = ms.length := by omega
  rw [List.take_of_length_le (Nat.le_of_eq (List.length_map _))] at hS
  go_upto_region 3 with fail
  refine RL hS ?_
  clear hS
  refine MV ?_
  refine MV ?_
  refine MV ?_
  refine MW ?_ (v := .bool false) (hv := by intro W; go_simp; first | done | omega)
  refine MZ fun W hS => ?_
  go_wp2
  exact bodyPost_ret (v := sv) (by simp only [results, Tryz.results24]; go_simp) rfl ⟨_, rfl, hS.pick [0]⟩
theorem Y1a {p S : Nat} {T : TR} {vt vl vs v : Value} {l : List UInt8} (hzT : tsz T ≤ 1099511627775) (hl : l.length ≤ 100000000) (w : World) (hX : GX w) (hb : Blk w p (suF S vt vl vs) 107) (ht : TA w T vt) (hid : Sl w v l) :
  Calls Tryz.prog 21 #[.pointer (some ⟨p, 0, none⟩), v] w fun e w' => Y7t (bsd T (hs4 (kTx l)) 0) (J2i (J0g T (hs4 (kTx l)) 0)).2.2 (J2i (J0g T (hs4 (kTx l)) 0)).1 (J2i (J0g T (hs4 (kTx l)) 0)).2.1 w w' e := by
 have hS := SH.nil [] w
 go_enter Tryz.func21, Tryz.ntmps21
 go_upto_region 0 with fail
 refine RL hS ?_
 clear hS
 refine MN (z := pfc (.slice none 0 0) false 0 0) (t := 53) ?_
 intro Q5p
 refine MZ fun W hS => ?_
 go_upto_region 3 with fail
 refine RTp [] (.q 0 (.q 1 (.q 2 (.q 3 (.q 4 (.e 5 (.e 6 (.e 7 .z)))))))) hS ?_
 clear hS
 refine TV ?_
 refine TV ?_
 refine TV ?_
 refine TF (v := vt) rfl (fun W hS => V2 rfl rfl (by rw [Q6 (J1 hb hS.ext)]; exact (J00 (off := 32) 1)) (by kernel_rfl)) ?_
 refine TV ?_
 refine TE (fun _ h => h.pick []) ?_
 refine MC (v := .agg (J0 .u8 32 (Q5 (hs4 (kTx l))))) (fun W hS => Q8m W (GX.ext hX hS.ext).gt (Q22 hid hS.ext) (by first | omega | (simp only [lA, lM, lT, lD, lC, lN, Q2, V4, Y4, Y5]; omega))) ?_
 refine TNp [] [] ?_
 refine TE (fun _ h => h.pick []) ?_
 refine ME (V := fun v => .agg (pfc v (J2i (J0g T (hs4 (kTx l)) 0)).2.2 ((J2i (J0g T (hs4 (kTx l)) 0)).1) ((J2i (J0g T (hs4 (kTx l)) 0)).2.1))) (fun W hS => Y57 (ss := (bsd T (hs4 (kTx l)) 0)) hS (Y2h (k := hs4 (kTx l)) hzT W (GX.ext hX hS.ext).gt (TA.ext ht hS.ext)) rfl) ?_
 intro pv_2
 refine J3r (fun W hS => Row.form (ls := bsd T (hs4 (kTx l)) 0) (f := J1e) (hS.row (i := 0) rfl)) ?_
 rintro ⟨A_3, c_3, rfl⟩
 refine TNp [0] [] ?_
 refine TE (fun _ h => h.pick [0]) ?_
 refine MR 1 ?_ (hz := by rw [J01]; kernel_rfl) (hs := by first | rw [J01, J01] | rw [J01] | kernel_rfl) (h1 := (Q48 rfl))
 refine TNp [0] [0] ?_
 refine TZ (fun _ h => h.pick [0]) fun W hS => ?_
 go_wp2
 exact bodyPost_ret (Y0 rfl rfl (hS.blk (i := 1) rfl) (by kernel_rfl) (by rw [J01]; kernel_rfl)) rfl ⟨_, rfl, hS.pick [0]⟩
end
end Go.Proofs.YtejkmhgkkibafaaGreatDoor

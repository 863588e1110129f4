/- The document's Spread, Sign, Verify. Conditions: the cells of the sums' tables hold their numbers. -/
import Derived.Test.YtefpoollmbmkfaaDoorGc
import Derived.Test.YtefpoollmbmkfaaDoorSgC
import Derived.Test.YtefpoollmbmkfaaDoorShE
import Derived.Test.YtefpoollmbmkfaaDoorRe
import Derived.Test.YtefpoollmbmkfaaDoorRf
import Derived.Test.YtefpoollmbmkfaaDoorEdQ
import Derived.Test.YtefpoollmbmkfaaDoorEdT
import Derived.Test.YtefpoollmbmkfaaDoorEdU
import Derived.Test.YtefpoollmbmkfaaDoorEdV
set_option linter.unusedSimpArgs false
set_option linter.unusedVariables false
namespace Go.Proofs.YtefpoollmbmkfaaDoor
set_option maxHeartbeats 1000000
set_option maxRecDepth 100000
open Go.RowKit
attribute [local irreducible] wpList
open Sc (LL clampF)
variable {kn : Kn}
section
variable {w : World} {o : Oper} {a : Act} {x y : Operand} {t : TypeId}
theorem run_stail {l : List UInt8} {n : Nat} (hn : n ≤ l.length) (ho : o.op = .slice t x (some y) none none) (ht : Tryd.prog.underlying t = some .string) (hx : a.eval x = str l) (hy : a.eval y = .int .i64 (n : Int)) : (execOp a.eval o).run Tryd.prog w = .ok (.value (str (l.drop n))) w := by
  have h1 := ba_size l
  have h2 := ba_extract l n l.length
  rw [List.take_length] at h2
  unfold execOp
  simp only [ho, hx, hy, str, Option.map]
  simp [Instr.sliceAt, Instr.slice, Instr.sliceBounds, Instr.sliceBound, asIntOf, run_underlying ht, Sem.run_bind, h1, h2, hn]
theorem run_slo {V : Nat} (ho : o.op = .slice t x none (some y) none) (ht : Tryd.prog.underlying t = some .string) (hx : a.eval x = str (lb 64 V)) (hy : a.eval y = .int .i64 32) : (execOp a.eval o).run Tryd.prog w = .ok (.value (str (lb 32 (lo V)))) w := by
  have h := run_shead (w := w) (n := 32) (by rw [lb_length]; decide) ho ht hx hy
  rw [lb_64, List.take_left' (lb_length _ _)] at h
  exact h
theorem run_shi {V : Nat} (ho : o.op = .slice t x (some y) none none) (ht : Tryd.prog.underlying t = some .string) (hx : a.eval x = str (lb 64 V)) (hy : a.eval y = .int .i64 32) : (execOp a.eval o).run Tryd.prog w = .ok (.value (str (lb 32 (hi V)))) w := by
  have h := run_stail (w := w) (n := 32) (by rw [lb_length]; decide) ho ht hx hy
  rw [lb_64, List.drop_left' (lb_length _ _)] at h
  exact h
end
theorem rsumN_c {H : Nat} {l : List UInt8} (hH : H = hs l) (hlen : l.length ≤ 70368744177664) (w : World) (hG : GR w) : Calls Tryd.prog 43 #[str l] w fun e w' => Ret (str (lb 64 H)) w w' e := by
  rw [hH, ← smb_hs]; exact rsum_c l hlen w hG
theorem rofN_c {X n T : Nat} (hX : X = T % LL) (hT : T < 2 ^ (8 * n)) (hn : n ≤ 700) (w : World) : Calls Tryd.prog 51 #[str (lb n T)] w fun e w' => Ret (A16 X) w w' e := by
  rw [hX, ← strN_lb]; exact Sc.rof_c n T hT hn w
theorem rclampN_c {X V : Nat} (hX : X = clN V) (w : World) : Calls Tryd.prog 44 #[str (lb 32 V)] w fun e w' => Ret (str (lb 32 X)) w w' e := by
  rw [hX, ← strN_lb, ← strN_lb, ← strN_congr 32 (clampF (byt V)) (byt (clN V)) fun j hj => (byt_bval _ (clamp_ok V) 32 j hj).symm]; exact Sc.rclamp_c (byt V) (byt_ok V) w
theorem rbytesN_c (X : Nat) (w : World) : Calls Tryd.prog 52 #[A16 X] w fun e w' => Ret (str (lb 32 X)) w w' e := by
  rw [← strN_lb]; exact Sc.rbytes_c X w
theorem rmulN_c {Z X Y : Nat} (hZ : Z = X * Y % LL) (hX : X < LL) (hY : Y < LL) (w : World) : Calls Tryd.prog 54 #[A16 X, A16 Y] w fun e w' => Ret (A16 Z) w w' e := hZ ▸ Sc.rmul_c X Y hX (Nat.lt_trans hY LL_256) w
theorem raddN_c {Z X Y : Nat} (hZ : Z = (X + Y) % LL) (hX : X < LL) (hY : Y < LL) (w : World) : Calls Tryd.prog 53 #[A16 X, A16 Y] w fun e w' => Ret (A16 Z) w w' e := hZ ▸ Sc.radd_c X Y hX hY w
theorem rencN_c {X X1 Y1 Z1 : Nat} {p1 : Pr} (h1 : RD X1 Y1 Z1 p1) (hX : X = enc p1) (w : World) : Calls Tryd.prog 45 #[.agg (p3 X1 Y1 Z1)] w fun e w' => Ret (str (lb 32 X)) w w' e := hX ▸ rEnc_c h1 w

theorem rspread_c_ (S : Nat) :
  ∀ w, GR w → Calls Tryd.prog 16 #[str (lb 32 S)] w fun e w' => Ret (.agg #[str (lb 32 (kN S)), str (lb 32 (kD S)), str (lb 32 (kP S))]) w w' e := by
 obtain ⟨U1, hU1⟩ := exn (hs (lb 32 S))
 have HU1 := Lib.hid hU1
 clear hU1
 obtain ⟨U2, hU2⟩ := exn (clN (lo U1))
 have bU2 : U2 < 2 ^ 256 := by rw [hU2]; exact clN_lt _
 have HU2 := Lib.hid hU2
 clear hU2
 obtain ⟨x1, y2, z3, r4, c5⟩ := rTimes_c rd_base (lb 32 U2) (by rw [lb_length]; decide)
 rw [le_lb 32 U2 bU2] at r4
 obtain ⟨U3, hU3⟩ := exn (enc (pm BP U2))
 have bU3 : U3 < 2 ^ 256 := by rw [hU3]; exact enc_lt _
 have HU3 := Lib.hid hU3
 clear hU3
 intro w hG
 have off0 : Off [] w w := Off.refl _ _
 go_enter Tryd.func16, Tryd.ntmps16
 go_upto_region 0 with fail
 refine wp_region_lit ?_
 refine Ln ?_ (z := #[str [], str [], str []]) (t := 28)
 intro p2_1 W1 n_t2 hO h_
 have fb_t2 := fbn off0 n_t2
 replace off0 := off0.o hO
 have k_t2 := h_
 clear hO h_ n_t2
 refine wpL_nil ?_
 go_upto_region 1 with fail
 refine wp_region_lit ?_
 refine Lv ?_
 refine Lr ?_ (rsumN_c HU1.out (by first | omega | (simp only [List.length_append, List.length_cons, List.length_nil, lb_length]; omega)) W1 (GR_ext hG off0.ext))
 intro W2 hO
 replace k_t2 := k_t2.o hO
 replace off0 := off0.o hO
 clear hO
 refine Lv ?_
 refine wpL_nil ?_
 go_upto_region 2 with fail
 refine wp_region_lit ?_
 refine Lv ?_
 refine Lw ?_ (v := str (lb 32 (lo U1))) (hv := by exact run_slo rfl Tryd.underlying9 rfl rfl)
 refine Lr ?_ (rclampN_c HU2.out W2)
 intro W3 hO
 replace k_t2 := k_t2.o hO
 replace off0 := off0.o hO
 clear hO
 refine Lv ?_
 refine wpL_nil ?_
 go_upto_region 3 with fail
 refine Rx 8 ?_
 refine Xv ?_
 refine Xv ?_
 refine Xw ?_ (v := str (lb 32 (hi U1))) (hv := fun _ _ => by exact run_shi rfl Tryd.underlying9 rfl rfl)
 refine Xf ?_ (fun W hW => rBase_c W)
 refine Xv ?_
 refine Xf ?_ (fun W hW => c5 W)
 refine Xf ?_ (fun W hW => rencN_c r4 HU3.out W)
 refine Xw ?_ (v := .agg #[str (lb 32 U2), str (lb 32 (hi U1)), str (lb 32 U3)]) (hv := fun _ _ => by kernel_rfl)
 refine wpX_nil fun W4 hE => ?_
 have hO := off_ext hE
 replace k_t2 := k_t2.o hO
 replace off0 := off0.o hO
 clear hO hE
 refine Lp ?_ k_t2 (cells := #[str (lb 32 U2), str (lb 32 (hi U1)), str (lb 32 U3)])
 intro W5 hO h_
 replace k_t2 : Blk W5 p2_1 #[str (lb 32 U2), str (lb 32 (hi U1)), str (lb 32 U3)] 28 := h_
 clear h_
 replace off0 := off0.p hO fb_t2
 clear hO
 refine LN ?_
 go_wp2
 rw [show #[str (lb 32 U2), str (lb 32 (hi U1)), str (lb 32 U3)] = #[str (lb 32 (kN S)), str (lb 32 (kD S)), str (lb 32 (kP S))] by rw [HU3.out, HU2.out, HU1.out]; rfl] at k_t2
 exact bodyPost_ret (res_row rfl rfl k_t2 (by kernel_rfl) (by kernel_rfl)) rfl ⟨rfl, off0.ext⟩
theorem rspreadN_c {N D P S : Nat} (hN : N = kN S) (hD : D = kD S) (hP : P = kP S) (w : World) (hG : GR w) :
    Calls Tryd.prog 16 #[str (lb 32 S)] w fun e w' => Ret (.agg #[str (lb 32 N), str (lb 32 D), str (lb 32 P)]) w w' e := by
  rw [hN, hD, hP]; exact rspread_c_ S w hG
end Go.Proofs.YtefpoollmbmkfaaDoor

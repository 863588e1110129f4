/- The document's sum. Conditions: the text is no longer than 2^46 bytes; the tables hold their numbers. custumalref06.L, less and Add. Conditions: the parts are parts of 16 bits. custumalref06.Add. Conditions: both numbers are below the order. custumalref06.Raw: four words as 32 bytes. No conditions. custumalref06.Bytes: 16 parts as 32 bytes. No conditions. custumalref06.Of: a text's bytes, the lowest first, modulo the order. Conditions: the text is the bytes of a number. custumalref06.Of, the walk. Conditions: the text is the bytes of a number. custumalref06.Mul. Conditions: the first number is below the order, the second below 2^256. custumalref06.Neg. Conditions: the number is below the order. custumalref06.Clamp, over a text of 32 bytes. Conditions: they are bytes. The document's points: D, Base, Zero, Neg, Add, Eight, Same. No conditions. The document's Encode and Decode. No conditions. The document's Times: of a text of any length. No conditions. The document's Decode. No conditions. The document's Decode, where there is a point. No conditions. The document's Spread, Sign, Verify. Conditions: the cells of the sums' tables hold their numbers. custumallaw08: seeds, SignMakes, SignChecks, SignBack. Conditions: the cells of the variables hold their numbers. Words of 32 bits as the model reckons with them; arrays by a place that varies. No conditions. sha2.turn, small, big: a word of 32 bits turned to the right, mixed. No conditions. -/
import Derived.Test.YtejkmhgkkibafaaGreatDoorGc
import Derived.Test.YtejkmhgkkibafaaGreatDoorJ8
import Derived.Test.YtejkmhgkkibafaaGreatDoorOz
import Derived.Test.YtejkmhgkkibafaaGreatDoorJ11
import Derived.Test.YtejkmhgkkibafaaGreatDoorS8Hd
import Derived.Test.YtejkmhgkkibafaaGreatDoorS8Na
import Derived.Test.YtejkmhgkkibafaaGreatDoorGa
import Derived.Deep.AppendLies
import Derived.Deep.RegionHeld3
import Derived.Test.YtejkmhgkkibafaaGreatDoorJ20
import Derived.Test.YtejkmhgkkibafaaGreatDoorJ21
import Derived.Test.YtejkmhgkkibafaaGreatDoorJ23
import Derived.Test.YtejkmhgkkibafaaGreatDoorS8EdE
import Derived.Test.YtejkmhgkkibafaaGreatDoorS8Ei
import Derived.Test.YtejkmhgkkibafaaGreatDoorS8SgC
import Derived.Laws.BitsLemmas
set_option linter.unusedSimpArgs false
set_option linter.unusedVariables false
namespace Go.Proofs.YtejkmhgkkibafaaGreatDoor.S8
set_option maxHeartbeats 1500000
set_option maxRecDepth 100000
open Go.RowKit
attribute [local irreducible] wpList

end Go.Proofs.YtejkmhgkkibafaaGreatDoor.S8

set_option linter.unusedSimpArgs false
set_option linter.unusedVariables false
namespace Go.Proofs.YtejkmhgkkibafaaGreatDoor.S8.Sc
set_option maxHeartbeats 4000000
set_option maxRecDepth 100000
open Go.RowKit

end Go.Proofs.YtejkmhgkkibafaaGreatDoor.S8.Sc

namespace Go.Proofs.YtejkmhgkkibafaaGreatDoor.S8.Sc
set_option maxHeartbeats 4000000
set_option maxRecDepth 100000
open Go.RowKit

end Go.Proofs.YtejkmhgkkibafaaGreatDoor.S8.Sc

set_option linter.unusedSimpArgs false
set_option linter.unusedVariables false
namespace Go.Proofs.YtejkmhgkkibafaaGreatDoor.S8.Sc
set_option maxHeartbeats 1000000
set_option maxRecDepth 100000
open Go.RowKit

end Go.Proofs.YtejkmhgkkibafaaGreatDoor.S8.Sc

namespace Go.Proofs.YtejkmhgkkibafaaGreatDoor.S8.Sc
set_option maxHeartbeats 1000000
set_option maxRecDepth 100000
open Go.RowKit

end Go.Proofs.YtejkmhgkkibafaaGreatDoor.S8.Sc

namespace Go.Proofs.YtejkmhgkkibafaaGreatDoor.S8.Sc
set_option maxHeartbeats 1000000
set_option maxRecDepth 100000
open Go.RowKit

end Go.Proofs.YtejkmhgkkibafaaGreatDoor.S8.Sc

set_option linter.unusedSimpArgs false
set_option linter.unusedVariables false
namespace Go.Proofs.YtejkmhgkkibafaaGreatDoor.S8.Sc
set_option maxHeartbeats 4000000
set_option maxRecDepth 100000
open Go.RowKit

end Go.Proofs.YtejkmhgkkibafaaGreatDoor.S8.Sc

set_option linter.unusedSimpArgs false
set_option linter.unusedVariables false
namespace Go.Proofs.YtejkmhgkkibafaaGreatDoor.S8.Sc
set_option maxHeartbeats 4000000
set_option maxRecDepth 100000
open Go.RowKit

end Go.Proofs.YtejkmhgkkibafaaGreatDoor.S8.Sc

namespace Go.Proofs.YtejkmhgkkibafaaGreatDoor.S8.Sc
set_option maxHeartbeats 4000000
set_option maxRecDepth 100000
open Go.RowKit

end Go.Proofs.YtejkmhgkkibafaaGreatDoor.S8.Sc

set_option linter.unusedSimpArgs false
set_option linter.unusedVariables false
namespace Go.Proofs.YtejkmhgkkibafaaGreatDoor.S8.Sc
set_option maxHeartbeats 2000000
set_option maxRecDepth 100000
open Go.RowKit

end Go.Proofs.YtejkmhgkkibafaaGreatDoor.S8.Sc

set_option linter.unusedSimpArgs false
set_option linter.unusedVariables false
namespace Go.Proofs.YtejkmhgkkibafaaGreatDoor.S8
set_option maxHeartbeats 1500000
set_option maxRecDepth 100000
open Go.RowKit
attribute [local irreducible] wpList
end Go.Proofs.YtejkmhgkkibafaaGreatDoor.S8

set_option linter.unusedSimpArgs false
set_option linter.unusedVariables false
namespace Go.Proofs.YtejkmhgkkibafaaGreatDoor.S8
set_option maxHeartbeats 1500000
set_option maxRecDepth 100000
open Go.RowKit
attribute [local irreducible] wpList
end Go.Proofs.YtejkmhgkkibafaaGreatDoor.S8

set_option linter.unusedSimpArgs false
set_option linter.unusedVariables false
namespace Go.Proofs.YtejkmhgkkibafaaGreatDoor.S8
set_option maxHeartbeats 1500000
set_option maxRecDepth 100000
open Go.RowKit
attribute [local irreducible] wpList
abbrev T3 := Nat × Nat × Nat
def qc (s : T3) : Array Value := p3 s.1 s.2.1 s.2.2
end Go.Proofs.YtejkmhgkkibafaaGreatDoor.S8

set_option linter.unusedSimpArgs false
set_option linter.unusedVariables false
namespace Go.Proofs.YtejkmhgkkibafaaGreatDoor.S8
set_option maxHeartbeats 1500000
set_option maxRecDepth 100000
open Go.RowKit
attribute [local irreducible] wpList

end Go.Proofs.YtejkmhgkkibafaaGreatDoor.S8

set_option linter.unusedSimpArgs false
set_option linter.unusedVariables false
namespace Go.Proofs.YtejkmhgkkibafaaGreatDoor.S8
set_option maxHeartbeats 1500000
set_option maxRecDepth 100000
open Go.RowKit
attribute [local irreducible] wpList

end Go.Proofs.YtejkmhgkkibafaaGreatDoor.S8

set_option linter.unusedSimpArgs false
set_option linter.unusedVariables false
namespace Go.Proofs.YtejkmhgkkibafaaGreatDoor.S8
set_option maxHeartbeats 1000000
set_option maxRecDepth 100000
open Go.RowKit
attribute [local irreducible] wpList
open Sc (LL clampF)
variable {kn : Kn}
section
variable {w : World} {o : Oper} {a : Act} {x y : Operand} {t : TypeId}
end
end Go.Proofs.YtejkmhgkkibafaaGreatDoor.S8

set_option linter.unusedSimpArgs false
set_option linter.unusedVariables false
namespace Go.Proofs.YtejkmhgkkibafaaGreatDoor.S8
open Go.RowKit
attribute [local irreducible] wpList
variable {kn : Kn}
open Sc (LL clampF)
theorem sig_lt (S : Nat) (L : List UInt8) : sig S L < 2 ^ (256 + 256) := by
  have h1 := sA_lt S L
  have h2 : sT S L < 2 ^ 256 := Nat.lt_trans (sT_lt S L) LL_256
  refine Nat.lt_of_lt_of_eq ?_ (Nat.pow_add 2 256 256).symm
  unfold sig
  generalize (2 : Nat) ^ 256 = T at *
  have : T * (sT S L + 1) ≤ T * T := Nat.mul_le_mul_left T h2
  rw [Nat.mul_add] at this
  omega
theorem signN_c (hd : kn.d) (hb : kn.b) {X S : Nat} {L : List UInt8} (hX : X = sig S L) (v : Value) (L' : List UInt8) (hL : L.length ≤ 1099511627776) (w : World) (hG : GA kn w) (hs : Sl w v L) :
    Calls Tryz.prog 52 #[.agg (arrK .u8 32 (byt S)), v] w fun e w' => Ret (.agg (arrK .u8 64 (byt X))) w w' e := hX ▸ sign_c hd hb S v L hL w hG hs
theorem verifyN_c (hd : kn.d) (hb : kn.b) (hc : kn.c) {X V G : Nat} {L : List UInt8} (hX : X = vfy V L G) (hV : V < 2 ^ 256) (hG2 : G < 2 ^ (256 + 256)) (v : Value) (L' : List UInt8) (hL : L.length ≤ 1099511627776) (w : World) (hG : GA kn w) (hs : Sl w v L) :
    Calls Tryz.prog 61 #[.agg (arrK .u8 32 (byt V)), v, .agg (arrK .u8 64 (byt G))] w fun e w' => Ret (.int .i64 (X : Int)) w w' e := hX ▸ verify_c hd hb hc hV hG2 v L hL w hG hs
/-- what is signed is verified -/
theorem sign_back (S : Nat) (L : List UInt8) : vfy (kP S) L (sig S L) = 0 := by
  have hN := pm_on BP_on (kN S)
  have hd : dOk (kP S) = true ∧ dPt (kP S) = pm BP (kN S) := dec_enc hN
  have hk : vK (kP S) L (sig S L) = sK S L := by unfold vK; rw [sig_lo]; rfl
  have e1 : pm BP (sT S L) = padd (pm BP (sR S L)) (pm (pm BP (kN S)) (sK S L)) := by
    unfold sT
    rw [pm_mod, pm_add BP_on, pm_mod, Nat.mul_comm, pm_mul BP_on, pm_mod]
  have hp : vP (kP S) L (sig S L) = pm BP (sR S L) := by
    unfold vP
    rw [hk, sig_hi, hd.2, e1, pm_pneg, padd_assoc (pm_on BP_on _) (pm_on hN _) (pneg_on (pm_on hN _)), padd_neg (pm_on hN _), padd_p0]
  unfold vfy
  rw [sig_hi, if_neg (Nat.not_le.2 (sT_lt S L)), hd.1, if_neg (by decide), hp, sig_lo, if_pos (by rfl)]

end Go.Proofs.YtejkmhgkkibafaaGreatDoor.S8

set_option linter.unusedSimpArgs false
set_option linter.unusedVariables false
namespace Go.Proofs.YtejkmhgkkibafaaGreatDoor
open Go.RowKit

def xo4 (p q : Int) : Int := bits .xor .u32 p q
def an4 (p q : Int) : Int := bits .and .u32 p q
def oo4 (p q : Int) : Int := bits .or .u32 p q
def nt4 (p : Int) : Int := bits .xor .u32 4294967295 p
def ad4 (p q : Int) : Int := IntKind.wrap .u32 (p + q)
def sl4 (p : Int) (n : Nat) : Int := IntKind.wrap .u32 (p * 2 ^ n)
def sr4 (p : Int) (n : Nat) : Int := p / 2 ^ n
/-- turned to the right -/
def rt4 (p : Int) (n : Nat) : Int := oo4 (sr4 p n) (sl4 p (32 - n))
theorem oo_comm4 (p q : Int) : oo4 p q = oo4 q p := by unfold oo4; simp only [bits, BitVec.or_comm]
section
variable {P : Program} {w : World} {o : Oper} {a : Act} {x y : Operand} {t t' : TypeId} {p q : Int}
theorem run_xor4 (ho : o.op = .binOp .xor t x y t') (hx : a.eval x = .int .u32 p) (hy : a.eval y = .int .u32 q) : (execOp a.eval o).run P w = .ok (.value (.int .u32 (xo4 p q))) w := by
  simp only [execOp, ho, hx, hy]; rfl
theorem run_and4 (ho : o.op = .binOp .and t x y t') (hx : a.eval x = .int .u32 p) (hy : a.eval y = .int .u32 q) : (execOp a.eval o).run P w = .ok (.value (.int .u32 (an4 p q))) w := by
  simp only [execOp, ho, hx, hy]; rfl
theorem run_or4 (ho : o.op = .binOp .or t x y t') (hx : a.eval x = .int .u32 p) (hy : a.eval y = .int .u32 q) : (execOp a.eval o).run P w = .ok (.value (.int .u32 (oo4 p q))) w := by
  simp only [execOp, ho, hx, hy]; rfl
theorem run_add4 (ho : o.op = .binOp .add t x y t') (hx : a.eval x = .int .u32 p) (hy : a.eval y = .int .u32 q) : (execOp a.eval o).run P w = .ok (.value (.int .u32 (ad4 p q))) w := by
  simp only [execOp, ho, hx, hy]; rfl
theorem run_not4 (ho : o.op = .unOp .xor t x) (hx : a.eval x = .int .u32 p) : (execOp a.eval o).run P w = .ok (.value (.int .u32 (nt4 p))) w := by
  simp only [execOp, ho, hx]; rfl
theorem run_shl4 {k : IntKind} {n : Nat} (hn : n ≤ 32) (ho : o.op = .binOp .shl t x y t') (hx : a.eval x = .int .u32 p) (hy : a.eval y = .int k (n : Int)) : (execOp a.eval o).run P w = .ok (.value (.int .u32 (sl4 p n))) w := by
  have h : min ((n : Int)).toNat IntKind.u32.bits = n := by rw [Int.toNat_natCast]; exact Nat.min_eq_left hn
  simp only [execOp, ho, hx, hy, eqGuard, binOp, Sem.run_bind]
  simp [Op.shift, h, sl4, go_sem, Sem.run_bind]
theorem run_shr4 {k : IntKind} {n : Nat} (hn : n ≤ 32) (ho : o.op = .binOp .shr t x y t') (hx : a.eval x = .int .u32 p) (hy : a.eval y = .int k (n : Int)) : (execOp a.eval o).run P w = .ok (.value (.int .u32 (sr4 p n))) w := by
  have h : min ((n : Int)).toNat IntKind.u32.bits = n := by rw [Int.toNat_natCast]; exact Nat.min_eq_left hn
  simp only [execOp, ho, hx, hy, eqGuard, binOp, Sem.run_bind]
  simp [Op.shift, h, sr4, go_sem, Sem.run_bind]
end
end Go.Proofs.YtejkmhgkkibafaaGreatDoor

set_option linter.unusedSimpArgs false
set_option linter.unusedVariables false
namespace Go.Proofs.YtejkmhgkkibafaaGreatDoor
set_option maxHeartbeats 1500000
set_option maxRecDepth 100000
open Go.RowKit
attribute [local irreducible] wpList

theorem and31 (n : Nat) (h1 : 1 ≤ n) (h2 : n ≤ 31) : bits .and .u64 (18446744073709551616 - (n : Int)) 31 = ((32 - n : Nat) : Int) := by
  obtain ⟨m, hm⟩ : ∃ m : Nat, m = 18446744073709551616 - n := ⟨_, rfl⟩
  have e : (18446744073709551616 - (n : Int)) = (m : Int) := by omega
  have h63 : (BitVec.ofInt 64 31).toNat = 2 ^ 5 - 1 := by decide
  have key : (BitVec.ofInt 64 (m : Int) &&& BitVec.ofInt 64 31).toNat = m % 2 ^ 5 := by
    rw [BitVec.toNat_and, BitVec.toNat_ofInt, h63, Nat.and_two_pow_sub_one_eq_mod]
    omega
  rw [e]
  show IntKind.u64.wrap ((BitVec.ofInt 64 (m : Int) &&& BitVec.ofInt 64 31).toNat : Nat) = _
  rw [key, IntKind.wrap_u64]
  omega
def small4 (p : Int) (a b c : Nat) : Int := xo4 (xo4 (rt4 p a) (rt4 p b)) (sr4 p c)
def big4 (p : Int) (a b c : Nat) : Int := xo4 (xo4 (rt4 p a) (rt4 p b)) (rt4 p c)

theorem rotl4_c (p : Int) (n : Nat) (h1 : 1 ≤ n) (h2 : n ≤ 31) (w : World) :
  Calls Tryz.prog 184 #[.int .u32 p, .int .i64 (-(n : Int))] w fun e w' => Ret (.int .u32 (rt4 p n)) w w' e := by
 have n0 : (1 : Int) ≤ (n : Int) := by omega
 have n1 : (n : Int) ≤ 31 := by omega
 have ha := and31 n h1 h2
 have off0 : Off [] w w := Off.refl _ _
 go_enter Tryz.func184, Tryz.ntmps184
 go_upto_region 1 with fail
 refine wp_region_lit ?_
 refine Lv ?_
 refine Lw ?_ (v := .int .u64 (18446744073709551616 - (n : Int))) (hv := by go_simp; (try simp only [IntKind.wrap_u64, IntKind.wrap_i64]); (try omega))
 refine Lw ?_ (v := .int .u64 (((32 - n : Nat) : Int))) (hv := by first | (go_simp; done) | (go_simp; (try rw [ha]); (try omega)))
 refine Lv ?_
 refine wpL_nil ?_
 go_upto_region 2 with fail
 refine wp_region_lit ?_
 refine Lv ?_
 refine Lv ?_
 refine Lw ?_ (v := .int .u32 (sl4 p (32 - n))) (hv := run_shl4 (n := (32 - n)) (by omega) rfl rfl rfl)
 refine Lv ?_
 refine Lv ?_
 refine Lw ?_ (v := .int .u64 ((n : Int))) (hv := by go_simp; (try simp only [IntKind.wrap_u64, IntKind.wrap_i64]); (try omega))
 refine Lw ?_ (v := .int .u32 (sr4 p n)) (hv := run_shr4 (n := n) (by omega) rfl rfl rfl)
 refine Lw ?_ (v := .int .u32 (oo4 (sl4 p (32 - n)) (sr4 p n))) (hv := run_or4 rfl rfl rfl)
 refine Lv ?_
 refine wpL_nil ?_
 go_wp2
 exact bodyPost_ret (v := .int .u32 (oo4 (sl4 p (32 - n)) (sr4 p n))) (by simp only [results, Tryz.results184]; go_simp) rfl ⟨congrArg (fun z => Ending.returned (.int .u32 z)) (oo_comm4 _ _), off0.ext⟩
theorem turn4_c (p : Int) (n : Nat) (h1 : 1 ≤ n) (h2 : n ≤ 31) (w : World) :
  Calls Tryz.prog 178 #[.int .u32 p, .int .i64 (n : Int)] w fun e w' => Ret (.int .u32 (rt4 p n)) w w' e := by
 have n0 : (1 : Int) ≤ (n : Int) := by omega
 have n1 : (n : Int) ≤ 31 := by omega
 have off0 : Off [] w w := Off.refl _ _
 go_enter Tryz.func178, Tryz.ntmps178
 go_upto_region 1 with fail
 refine wp_region_lit ?_
 refine Lv ?_
 refine Lv ?_
 refine Lw ?_ (v := .int .i64 (-(n : Int))) (hv := by go_simp; (try simp only [IntKind.wrap_u64, IntKind.wrap_i64]); (try omega))
 refine Lr ?_ (rotl4_c p n h1 h2 w)
 intro W1 hO
 replace off0 := off0.o hO
 clear hO
 refine Lv ?_
 refine wpL_nil ?_
 go_wp2
 exact bodyPost_ret (v := .int .u32 (rt4 p n)) (by simp only [results, Tryz.results178]; go_simp) rfl ⟨rfl, off0.ext⟩
theorem big4_c (p : Int) (a b c : Nat) (ha : 1 ≤ a ∧ a ≤ 31) (hb : 1 ≤ b ∧ b ≤ 31) (hc : 1 ≤ c ∧ c ≤ 31) (w : World) :
  Calls Tryz.prog 160 #[.int .u32 p, .int .i64 (a : Int), .int .i64 (b : Int), .int .i64 (c : Int)] w fun e w' => Ret (.int .u32 (big4 p a b c)) w w' e := by
 have off0 : Off [] w w := Off.refl _ _
 go_enter Tryz.func160, Tryz.ntmps160
 go_upto_region 1 with fail
 refine wp_region_lit ?_
 refine Lv ?_
 refine Lv ?_
 refine Lr ?_ (turn4_c p a (by omega) (by omega) w)
 intro W1 hO
 replace off0 := off0.o hO
 clear hO
 refine Lv ?_
 refine Lv ?_
 refine Lr ?_ (turn4_c p b (by omega) (by omega) W1)
 intro W2 hO
 replace off0 := off0.o hO
 clear hO
 refine Lw ?_ (v := .int .u32 (xo4 (rt4 p a) (rt4 p b))) (hv := run_xor4 rfl rfl rfl)
 refine Lv ?_
 refine Lv ?_
 refine Lr ?_ (turn4_c p c (by omega) (by omega) W2)
 intro W3 hO
 replace off0 := off0.o hO
 clear hO
 refine Lw ?_ (v := .int .u32 (xo4 (xo4 (rt4 p a) (rt4 p b)) (rt4 p c))) (hv := run_xor4 rfl rfl rfl)
 refine Lv ?_
 refine wpL_nil ?_
 go_wp2
 exact bodyPost_ret (v := .int .u32 (xo4 (xo4 (rt4 p a) (rt4 p b)) (rt4 p c))) (by simp only [results, Tryz.results160]; go_simp) rfl ⟨rfl, off0.ext⟩
theorem small4_c (p : Int) (a b c : Nat) (ha : 1 ≤ a ∧ a ≤ 31) (hb : 1 ≤ b ∧ b ≤ 31) (hc : 1 ≤ c ∧ c ≤ 31) (w : World) :
  Calls Tryz.prog 177 #[.int .u32 p, .int .i64 (a : Int), .int .i64 (b : Int), .int .i64 (c : Int)] w fun e w' => Ret (.int .u32 (small4 p a b c)) w w' e := by
 have off0 : Off [] w w := Off.refl _ _
 go_enter Tryz.func177, Tryz.ntmps177
 go_upto_region 1 with fail
 refine Rx 12 ?_
 refine Xv ?_
 refine Xv ?_
 refine Xf ?_ (fun W hW => turn4_c p a (by omega) (by omega) W)
 refine Xv ?_
 refine Xv ?_
 refine Xf ?_ (fun W hW => turn4_c p b (by omega) (by omega) W)
 refine Xw ?_ (v := .int .u32 (xo4 (rt4 p a) (rt4 p b))) (hv := fun _ _ => run_xor4 rfl rfl rfl)
 refine Xv ?_
 refine Xv ?_
 refine Xw ?_ (v := .int .u32 (sr4 p c)) (hv := fun _ _ => run_shr4 (n := c) (by omega) rfl rfl rfl)
 refine Xw ?_ (v := .int .u32 (xo4 (xo4 (rt4 p a) (rt4 p b)) (sr4 p c))) (hv := fun _ _ => run_xor4 rfl rfl rfl)
 refine Xv ?_
 refine wpX_nil fun W1 hE => ?_
 have hO := off_ext hE
 replace off0 := off0.o hO
 clear hO hE
 refine LN ?_
 go_wp2
 exact bodyPost_ret (v := .int .u32 (xo4 (xo4 (rt4 p a) (rt4 p b)) (sr4 p c))) (by simp only [results, Tryz.results177]; go_simp) rfl ⟨rfl, off0.ext⟩
end Go.Proofs.YtejkmhgkkibafaaGreatDoor

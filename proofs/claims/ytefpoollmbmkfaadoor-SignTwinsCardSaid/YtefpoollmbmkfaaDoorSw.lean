/- The first seed of RFC 8032: its public bytes and a signature. No conditions. -/
import Derived.Test.YtefpoollmbmkfaaDoorSv
namespace Go.Proofs.YtefpoollmbmkfaaDoor
set_option linter.unusedSimpArgs false
set_option linter.unusedVariables false
open Sc (LL clampF)
theorem pt_lit {s : Q4} {a : Pr} {x y : Nat} (h : RQ4 s a) (ex : x * s.2.2.1 % PP = s.1) (ey : y * s.2.2.1 % PP = s.2.1) : a = (fp x, fp y) := by
  obtain ⟨hz, hx, hy, _⟩ := h.rc
  rw [← ex, fp_mod, fp_mul] at hx
  rw [← ey, fp_mod, fp_mul] at hy
  have hi := finv_mul hz
  have e1 : a.1 = fp x := by grind
  have e2 : a.2 = fp y := by grind
  exact Prod.ext e1 e2
theorem enc_lit {x y : Nat} (hx : x < PP) (hy : y < PP) : enc (fp x, fp y) = y + 2 ^ 255 * (x % 2) := by
  show (fp y).val + 2 ^ 255 * ((fp x).val % 2) = _
  rw [fp_val, fp_val, Nat.mod_eq_of_lt hx, Nat.mod_eq_of_lt hy]
/-- so many times the base, encoded -/
theorem enc_base {n x y e : Nat} (hn : n < 2 ^ 256) (hx : x < PP) (hy : y < PP) (h : (x * (tmN BQ n 256).2.2.1 % PP = (tmN BQ n 256).1 ∧ y * (tmN BQ n 256).2.2.1 % PP = (tmN BQ n 256).2.1)) (he : y + 2 ^ 255 * (x % 2) = e) : enc (pm BP n) = e := by
  rw [pt_lit (rq_all rq_base hn) h.1 h.2, enc_lit hx hy, he]
theorem hs_lit {F : List UInt8} {h : Nat} (e : shaN F = h) : hs F = h := (hs_sha F).trans e
set_option maxRecDepth 100000
def SD : Nat := 43647624700350065415986689228612485845309737963740022737531181108678917972381
theorem SD_lt : SD < 2 ^ 256 := by decide
theorem mk_sig {S h1 N D P h2 r A h3 k n G : Nat} {L : List UInt8} (eh : hs (lb 32 S) = h1) (eN : clN (lo h1) = N) (eD : hi h1 = D) (eP : enc (pm BP N) = P) (er : hs (lb 32 D ++ L) = h2) (er2 : h2 % LL = r) (eA : enc (pm BP r) = A)
    (ek : hs (lb 32 A ++ lb 32 P ++ L) = h3) (ek2 : h3 % LL = k) (en : (r + k * (N % LL) % LL) % LL = n) (eG : A + 2 ^ 256 * n = G) : kP S = P ∧ sig S L = G := by
  subst eh eN eD eP er er2 eA ek ek2 en eG
  exact ⟨rfl, rfl⟩
theorem sd_all : kP SD = 11903303657706407974989296177215005343713679411332034699907763981919547054807 ∧ sig SD [] = 579488080156766215249739962176400057674288061147964324404111256169078651336588898642120458533972652238312526671324459760923016998024714157205975099201253 :=
  mk_sig (h1 := 7496039341941261757086370812145144201687131300977448198326011492468381147072957380151816307945363008053352834963924500125734224656659236037903842577447989) (N := 36144925721603087658594284515452164870581325872720374094707712194495455132720) (D := 64737059252623978071104362028976657683353137450516199718874906053307798278043) (h2 := 2367685864793918820760658281706469898440682783741725977504635972868015130552574255946297729751531955922668158411754362626067829855208980039009695126303158) (r := 2015312323900227545039973048451112962192803170366412514267238242679089760755) (A := 38448863731492799660668882834560725606410712239157980760146247592118262650597) (h3 := 8330418374318453877305593039963243118404516881534716497174855478949682536611872763612979590919748364595573691387620693640258212958029701128430630950301991) (k := 1958233733501237659471134851339390337284068724042047466985993338226439154310) (n := 5004556735901913393272427758925840403246877222315506387332009764265656498271) (hs_lit (by decide +kernel)) (by decide +kernel) (by decide +kernel) (enc_base (x := 38815646466658113194383306759739515082307681141926459231621296960732224964046) (y := 11903303657706407974989296177215005343713679411332034699907763981919547054807) (by decide) (by decide) (by decide) (by decide +kernel) (by decide +kernel))
    (hs_lit (by decide +kernel)) (by decide +kernel) (enc_base (x := 44370630452101398467924320556439323233869374150616132215183787387252341590058) (y := 38448863731492799660668882834560725606410712239157980760146247592118262650597) (by decide) (by decide) (by decide) (by decide +kernel) (by decide +kernel)) (hs_lit (by decide +kernel)) (by decide +kernel) (by decide +kernel) (by decide +kernel)
theorem sd_0 : byt (kP SD) 0 = 215 := by rw [sd_all.1]; decide +kernel
theorem sd_31 : byt (kP SD) 31 = 26 := by rw [sd_all.1]; decide +kernel
theorem sd_g0 : byt (sig SD []) 0 = 229 := by rw [sd_all.2]; decide +kernel
theorem sd_g1 : byt (sig SD []) 1 = 86 := by rw [sd_all.2]; decide +kernel
theorem sd_g63 : byt (sig SD []) 63 = 11 := by rw [sd_all.2]; decide +kernel
end Go.Proofs.YtefpoollmbmkfaaDoor

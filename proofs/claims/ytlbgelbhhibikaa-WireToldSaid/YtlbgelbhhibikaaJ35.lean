/- WireSaw. Conditions: numbers have 64 bits, sums 256. WireTold. Conditions: none. -/
import Derived.Test.YtlbgelbhhibikaaJ33
import Derived.Test.YtlbgelbhhibikaaJ34
set_option linter.unusedSimpArgs false
set_option linter.unusedVariables false
namespace Go.Proofs.Ytlbgelbhhibikaa.Ww
set_option maxHeartbeats 6000000
set_option maxRecDepth 100000
open Go.RowKit
attribute [local irreducible] wpList wpTr wpX
set_option linter.unusedSimpArgs false
attribute [local irreducible] lb be8 eI tB txL txB dtx dok pB foL foB rFo rok szD dfL

end Go.Proofs.Ytlbgelbhhibikaa.Ww

set_option linter.unusedSimpArgs false
set_option linter.unusedVariables false
namespace Go.Proofs.Ytlbgelbhhibikaa.Ww
set_option maxHeartbeats 6000000
set_option maxRecDepth 100000
open Go.RowKit
attribute [local irreducible] wpList wpTr wpX
set_option linter.unusedSimpArgs false
attribute [local irreducible] lb be8 eI tB txL txB dtx dok pB telL telB toldA toldO

theorem wireTold_L {u : Value} {bs : List UInt8} (w : World) (hs : Sl w u bs) :
  Calls Try.prog 7 #[u] w fun e w' => Ret (.bool true) w w' e := by
 obtain ⟨l, hl⟩ : ∃ l, List.take (min bs.length 3000) bs = l := ⟨_, rfl⟩
 have hll : l.length ≤ 3000 := by rw [← hl, List.length_take]; omega
 have HL := Lib.hid hl
 clear hl
 have hS := SH.nil [] w
 go_enter Try.func7, Try.ntmps7
 go_upto_region 1 with fail
 refine RL hS ?_
 clear hS
 refine MV ?_
 refine MV ?_
 refine MF (v := .int .i64 (bs.length : Int)) (fun W hS => run_lenA (sl_e hs hS.ext) rfl rfl) ?_
 refine MW ?_ (v := .int .i64 ((min bs.length 3000 : Nat) : Int))
 refine MT (fun W hS => hS.ent hs) ?_
 refine MH 0 (min bs.length 3000) (m := bs) (m' := l) (by omega) ?_ (hm := HL.out)
 intro u11_1
 refine MV ?_
 refine MZ fun W hS => ?_
 rcases bool_or (toldO l) with hO | hO
 ·
  have _f := True.intro
  have HO := Lib.hid hO
  clear hO
  go_upto_region 2 with fail
  refine RL hS ?_
  clear hS
  refine MV ?_
  refine ME (V := fun x : TX l => .tuple #[.agg (anF (toldA l x.1.2) x.1.1), .int .i64 0]) (fun W hS => ncallL hS (told_yes HO.out (by omega) W (hS.sl (i := 0) rfl)) (fun _ => rfl)) ?_
  rintro ⟨⟨av2, us2⟩, hcu2⟩
  dsimp only
  refine MFact (fun W hS => anF_one (hS.pp (i := 0) rfl)) ?_
  intro hone2
  obtain ⟨tb2, tl2, tw2, tk2, te2⟩ := told_inv (us := us2) HO.out hcu2
  have ln2 := told_len hcu2
  refine MV ?_
  refine MV ?_
  refine MW ?_ (v := .int .i64 0)
  refine MN (z := agF (.c (.int .i64 0) :: .c (.int .i64 0) :: .c (.int .i64 0) :: .c (.int .i64 0) :: .a 32 0 :: .a 80 0 :: .c (.bool false) :: .c (.int .i64 0) :: .c (.slice none 0 0) :: .a 32 0 :: .a 32 0 :: .c (.slice none 0 0) :: .c (.bool false) :: .a 32 0 :: .a 32 0 :: .a 32 0 :: .a 32 0 :: .a 32 0 :: .c (.int .i64 0) :: .a 32 0 :: .c (.slice none 0 0) :: .c (.slice none 0 0) :: .c (.bool false) :: .a 32 0 :: .a 32 0 :: .c (.int .i64 0) :: .a 32 0 :: .a 64 0 :: .a 32 0 :: .c (.slice none 0 0) :: .c (.slice none 0 0) :: .c (.slice none 0 0) :: .c (.slice none 0 0) :: .c (.bool false) :: .c (.int .i64 0) :: .a 32 0 :: .c (.slice none 0 0) :: .a 32 0 :: .c (.slice none 0 0) :: [])) (t := 85) ?_
  intro p3_3
  refine MR 0 ?_ (hz := by rw [agF_size]; kernel_rfl) (hs := by rw [agF_size, agF_size]; rfl) (h1 := by exact hone2)
  refine MW ?_ (v := .int .i64 0)
  refine MZ fun W hS => ?_
  go_upto_region 3 with fail
  refine RL hS ?_
  clear hS
  refine MC (v := .bool true) (fun W hS => wires_c W) ?_
  refine MW ?_ (v := .bool false)
  refine MW ?_ (v := .bool false)
  refine MW ?_ (v := .int .i64 0)
  refine MW ?_ (v := .bool false)
  refine MW ?_ (v := .bool false)
  refine MZ fun W hS => ?_
  go_upto_region 5 with fail
  refine RL hS ?_
  clear hS
  refine ML 0 ?_ (hs := by rw [agF_size]; kernel_rfl)
  refine ME (V := fun v => .tuple #[v, .int .i64 0]) (fun W hS => ncall hS (tell_yes (a := (toldA l us2)) (v := av2) tb2 ln2 W (hS.pp (i := 1) rfl)) (fun _ => ⟨rfl, rfl⟩)) ?_
  intro vb40
  rw [tl2]
  refine MV ?_
  refine MV ?_
  refine MW ?_ (v := .int .i64 0)
  refine MV ?_
  refine MW ?_ (v := .int .i64 0)
  refine MZ fun W hS => ?_
  go_upto_region 6 with fail
  refine RL hS ?_
  clear hS
  refine MW ?_ (v := .int .i64 0)
  refine MW ?_ (v := .bool true)
  refine MW ?_ (v := .bool true)
  refine MV ?_
  refine MF (v := str l) (fun W hS => run_cvs (hS.osl (i := 0) rfl) rfl rfl) ?_
  refine MV ?_
  refine MF (v := str l) (fun W hS => run_cvs (hS.sl (i := 3) rfl) rfl rfl) ?_
  refine MW ?_ (v := .bool true) (hv := fun _ => run_streqb (l := l) (m := l) (b := true) (decide_eq_true rfl) rfl rfl rfl)
  refine MW ?_ (v := .bool true)
  refine MW ?_ (v := .bool true)
  refine MZ fun W hS => ?_
  go_wp2
  first | exact bodyPost_ret (v := .bool true) (by simp only [results, Try.results7]; go_simp) rfl ⟨rfl, hS.ext⟩ | exact bodyPost_end (v := .bool true) (by simp only [results, Try.results7]; go_simp) rfl ⟨rfl, hS.ext⟩
 ·
  have _f := True.intro
  have HO := Lib.hid hO
  clear hO
  go_upto_region 2 with fail
  refine RL hS ?_
  clear hS
  refine MV ?_
  refine MC (v := .tuple #[.agg (anF (zA 0 0) zV), .int .i64 2]) (fun W hS => told_no HO.out (by omega) W (hS.sl (i := 0) rfl)) ?_
  refine MV ?_
  refine MV ?_
  refine MW ?_ (v := .int .i64 2)
  refine MN (z := agF (.c (.int .i64 0) :: .c (.int .i64 0) :: .c (.int .i64 0) :: .c (.int .i64 0) :: .a 32 0 :: .a 80 0 :: .c (.bool false) :: .c (.int .i64 0) :: .c (.slice none 0 0) :: .a 32 0 :: .a 32 0 :: .c (.slice none 0 0) :: .c (.bool false) :: .a 32 0 :: .a 32 0 :: .a 32 0 :: .a 32 0 :: .a 32 0 :: .c (.int .i64 0) :: .a 32 0 :: .c (.slice none 0 0) :: .c (.slice none 0 0) :: .c (.bool false) :: .a 32 0 :: .a 32 0 :: .c (.int .i64 0) :: .a 32 0 :: .a 64 0 :: .a 32 0 :: .c (.slice none 0 0) :: .c (.slice none 0 0) :: .c (.slice none 0 0) :: .c (.slice none 0 0) :: .c (.bool false) :: .c (.int .i64 0) :: .a 32 0 :: .c (.slice none 0 0) :: .a 32 0 :: .c (.slice none 0 0) :: [])) (t := 85) ?_
  intro p3_4
  refine MR 0 ?_ (hz := by rw [agF_size]; kernel_rfl) (hs := by first | (rw [agF_size, agF_size]; rfl) | rfl) (h1 := by exact (agF_one ⟨rfl, rfl, rfl, rfl, rfl, rfl, rfl, rfl, rfl, rfl, rfl, rfl, rfl, rfl, rfl, rfl, rfl, rfl, rfl, rfl, rfl, rfl, trivial⟩))
  refine MW ?_ (v := .int .i64 2)
  refine MZ fun W hS => ?_
  go_upto_region 3 with fail
  refine RL hS ?_
  clear hS
  refine MC (v := .bool true) (fun W hS => wires_c W) ?_
  refine MW ?_ (v := .bool false)
  refine MW ?_ (v := .bool false)
  refine MW ?_ (v := .int .i64 2)
  refine MW ?_ (v := .bool true)
  refine MW ?_ (v := .bool true)
  refine MZ fun W hS => ?_
  go_upto_region 4 with fail
  refine RL hS ?_
  clear hS
  refine MC (v := .bool true) (fun W hS => wires_c W) ?_
  refine MW ?_ (v := .bool true)
  refine MW ?_ (v := .int .i64 2)
  refine MW ?_ (v := .bool true)
  refine MW ?_ (v := .bool true)
  refine MW ?_ (v := .bool true)
  refine MV ?_
  refine MG 0 ?_ (v := .int .i64 0) (hj := (agF_cel (off := 0) 0))
  refine MW ?_ (v := .bool true)
  refine MW ?_ (v := .bool true)
  refine MW ?_ (v := .bool true)
  refine MV ?_
  refine MG 0 ?_ (v := .int .i64 0) (hj := (agF_cel (off := 1) 1))
  refine MW ?_ (v := .bool true)
  refine MW ?_ (v := .bool true)
  refine MW ?_ (v := .bool true)
  refine MZ fun W hS => ?_
  go_wp2
  first | exact bodyPost_ret (v := .bool true) (by simp only [results, Try.results7]; go_simp) rfl ⟨rfl, hS.ext⟩ | exact bodyPost_end (v := .bool true) (by simp only [results, Try.results7]; go_simp) rfl ⟨rfl, hS.ext⟩
end Go.Proofs.Ytlbgelbhhibikaa.Ww

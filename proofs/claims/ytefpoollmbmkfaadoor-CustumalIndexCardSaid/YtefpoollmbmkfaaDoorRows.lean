/-
  NARROWER THAN 'FOR EVERY INPUT', by the rows' own cells (each row's printed sentence says how): SignMakes: laid · SignChecks: laid · SignBack: laid · SignBent: laid · SignTwins: laid · VrfProves: laid · VrfBack: laid · VrfBent: laid · VrfNeutral: laid · VrfChecks: laid · CustumalSigns: laid · CustumalIndex: laid.
  DERIVED. THE GIVEN ROWS OF THIS SEAT. 12 by the template 'for every input the law returns true; each argument reads behind the call as it read before'; 0 by the template 'total and deterministic' (their statements: YtefpoollmbmkfaaDoorTotals.lean).
  GIVEN WITH THE SEED: the statements are not yours to turn. If you find one false, say at which input.
  Laid BY PROGRAM, IN A SANDBOX (cutbox-rows.mjs): the forced cells as the released guide's own fill.sh prints them over the translation dac46127ab4b4a08… (all of the seat's roots in one cut). By AI agents, Wed Nov 11 2026. No macro, syntax, notation, axiom, sorry.
-/
import Derived.Test.YtefpoollmbmkfaaDoorChecked
import GoSem.Claim
import GoSem.ClaimJoined
import GoSem.ClaimMapViews
import Derived.JoinedTies
import Derived.KernelRfl
namespace Go.Proofs.YtefpoollmbmkfaaDoor
/- THE CELL 'sum', in the pinned program and in every row, IS THE sha256 OF THE DUMP (.gsa) THAT YtefpoollmbmkfaaDoorProg.lean LOADS. Nothing in Lean hashes anything: it is a label: what it is worth is what the hold of that sum in a sandbox is worth. -/
noncomputable def Tryd.pinned : Pinned := { name := "ytefpoollmbmkfaadoor", sum := "dac46127ab4b4a082c8879c25feae82828ee1e140bc9877b9a4a7eb1f731232c", checked := Tryd.checked }
namespace Rows
def none {H : Type} : Left H := { results := [], args := [] }

/- WHAT THE LISTED PACKAGE-LEVEL VARIABLES READ AS WHEN THE CALL BEGINS. Each datum BY PROGRAM (the guide's laid-datum.mjs) off the statement by which the dump's own 'gosem.cut.vars' lays the variable. In a bare row this is a premise. The card (YtefpoollmbmkfaaDoorCards.lean) ties it to the program's text. -/
def laid_custumal_custumalref02_K {H : Type} : DataW H := .agg [.lit (.int .u64 4794697086780616226), .lit (.int .u64 8158064640168781261), .lit (.int .u64 13096744586834688815), .lit (.int .u64 16840607885511220156), .lit (.int .u64 4131703408338449720), .lit (.int .u64 6480981068601479193), .lit (.int .u64 10538285296894168987), .lit (.int .u64 12329834152419229976), .lit (.int .u64 15566598209576043074), .lit (.int .u64 1334009975649890238), .lit (.int .u64 2608012711638119052), .lit (.int .u64 6128411473006802146), .lit (.int .u64 8268148722764581231), .lit (.int .u64 9286055187155687089), .lit (.int .u64 11230858885718282805), .lit (.int .u64 13951009754708518548), .lit (.int .u64 16472876342353939154), .lit (.int .u64 17275323862435702243), .lit (.int .u64 1135362057144423861), .lit (.int .u64 2597628984639134821), .lit (.int .u64 3308224258029322869), .lit (.int .u64 5365058923640841347), .lit (.int .u64 6679025012923562964), .lit (.int .u64 8573033837759648693), .lit (.int .u64 10970295158949994411), .lit (.int .u64 12119686244451234320), .lit (.int .u64 12683024718118986047), .lit (.int .u64 13788192230050041572), .lit (.int .u64 14330467153632333762), .lit (.int .u64 15395433587784984357), .lit (.int .u64 489312712824947311), .lit (.int .u64 1452737877330783856), .lit (.int .u64 2861767655752347644), .lit (.int .u64 3322285676063803686), .lit (.int .u64 5560940570517711597), .lit (.int .u64 5996557281743188959), .lit (.int .u64 7280758554555802590), .lit (.int .u64 8532644243296465576), .lit (.int .u64 9350256976987008742), .lit (.int .u64 10552545826968843579), .lit (.int .u64 11727347734174303076), .lit (.int .u64 12113106623233404929), .lit (.int .u64 14000437183269869457), .lit (.int .u64 14369950271660146224), .lit (.int .u64 15101387698204529176), .lit (.int .u64 15463397548674623760), .lit (.int .u64 17586052441742319658), .lit (.int .u64 1182934255886127544), .lit (.int .u64 1847814050463011016), .lit (.int .u64 2177327727835720531), .lit (.int .u64 2830643537854262169), .lit (.int .u64 3796741975233480872), .lit (.int .u64 4115178125766777443), .lit (.int .u64 5681478168544905931), .lit (.int .u64 6601373596472566643), .lit (.int .u64 7507060721942968483), .lit (.int .u64 8399075790359081724), .lit (.int .u64 8693463985226723168), .lit (.int .u64 9568029438360202098), .lit (.int .u64 10144078919501101548), .lit (.int .u64 10430055236837252648), .lit (.int .u64 11840083180663258601), .lit (.int .u64 13761210420658862357), .lit (.int .u64 14299343276471374635), .lit (.int .u64 14566680578165727644), .lit (.int .u64 15097957966210449927), .lit (.int .u64 16922976911328602910), .lit (.int .u64 17689382322260857208), .lit (.int .u64 500013540394364858), .lit (.int .u64 748580250866718886), .lit (.int .u64 1242879168328830382), .lit (.int .u64 1977374033974150939), .lit (.int .u64 2944078676154940804), .lit (.int .u64 3659926193048069267), .lit (.int .u64 4368137639120453308), .lit (.int .u64 4836135668995329356), .lit (.int .u64 5532061633213252278), .lit (.int .u64 6448918945643986474), .lit (.int .u64 6902733635092675308), .lit (.int .u64 7801388544844847127)]
def laid_custumal_custumalref02_H {H : Type} : DataW H := .agg [.lit (.int .u64 7640891576956012808), .lit (.int .u64 13503953896175478587), .lit (.int .u64 4354685564936845355), .lit (.int .u64 11912009170470909681), .lit (.int .u64 5840696475078001361), .lit (.int .u64 11170449401992604703), .lit (.int .u64 2270897969802886507), .lit (.int .u64 6620516959819538809)]
def laid_custumal_field_modulus {H : Type} : DataW H := .agg [.lit (.int .u64 18446744073709551597), .lit (.int .u64 18446744073709551615), .lit (.int .u64 18446744073709551615), .lit (.int .u64 9223372036854775807)]
def laid_custumal_edwards_double {H : Type} : DataW H := .agg [.lit (.int .u64 16993941304535871833), .lit (.int .u64 63073048630374742), .lit (.int .u64 1841551078520508720), .lit (.int .u64 2596001775599221991)]
def laid_custumal_edwards_baseX {H : Type} : DataW H := .agg [.lit (.int .u64 14507833142362363162), .lit (.int .u64 7578651490590762930), .lit (.int .u64 13881468655802702940), .lit (.int .u64 2407515759118799870)]
def laid_custumal_edwards_baseY {H : Type} : DataW H := .agg [.lit (.int .u64 7378697629483820632), .lit (.int .u64 7378697629483820646), .lit (.int .u64 7378697629483820646), .lit (.int .u64 7378697629483820646)]
def laid_custumal_scalar_order {H : Type} : DataW H := .agg [.lit (.int .u64 6346243789798364141), .lit (.int .u64 1503914060200516822), .lit (.int .u64 0), .lit (.int .u64 1152921504606846976)]
def laid_custumal_sha5_start {H : Type} : DataW H := .agg [.lit (.int .u64 7640891576956012808), .lit (.int .u64 13503953896175478587), .lit (.int .u64 4354685564936845355), .lit (.int .u64 11912009170470909681), .lit (.int .u64 5840696475078001361), .lit (.int .u64 11170449401992604703), .lit (.int .u64 2270897969802886507), .lit (.int .u64 6620516959819538809)]
def laid_custumal_sha5_rounds {H : Type} : DataW H := .agg [.lit (.int .u64 4794697086780616226), .lit (.int .u64 8158064640168781261), .lit (.int .u64 13096744586834688815), .lit (.int .u64 16840607885511220156), .lit (.int .u64 4131703408338449720), .lit (.int .u64 6480981068601479193), .lit (.int .u64 10538285296894168987), .lit (.int .u64 12329834152419229976), .lit (.int .u64 15566598209576043074), .lit (.int .u64 1334009975649890238), .lit (.int .u64 2608012711638119052), .lit (.int .u64 6128411473006802146), .lit (.int .u64 8268148722764581231), .lit (.int .u64 9286055187155687089), .lit (.int .u64 11230858885718282805), .lit (.int .u64 13951009754708518548), .lit (.int .u64 16472876342353939154), .lit (.int .u64 17275323862435702243), .lit (.int .u64 1135362057144423861), .lit (.int .u64 2597628984639134821), .lit (.int .u64 3308224258029322869), .lit (.int .u64 5365058923640841347), .lit (.int .u64 6679025012923562964), .lit (.int .u64 8573033837759648693), .lit (.int .u64 10970295158949994411), .lit (.int .u64 12119686244451234320), .lit (.int .u64 12683024718118986047), .lit (.int .u64 13788192230050041572), .lit (.int .u64 14330467153632333762), .lit (.int .u64 15395433587784984357), .lit (.int .u64 489312712824947311), .lit (.int .u64 1452737877330783856), .lit (.int .u64 2861767655752347644), .lit (.int .u64 3322285676063803686), .lit (.int .u64 5560940570517711597), .lit (.int .u64 5996557281743188959), .lit (.int .u64 7280758554555802590), .lit (.int .u64 8532644243296465576), .lit (.int .u64 9350256976987008742), .lit (.int .u64 10552545826968843579), .lit (.int .u64 11727347734174303076), .lit (.int .u64 12113106623233404929), .lit (.int .u64 14000437183269869457), .lit (.int .u64 14369950271660146224), .lit (.int .u64 15101387698204529176), .lit (.int .u64 15463397548674623760), .lit (.int .u64 17586052441742319658), .lit (.int .u64 1182934255886127544), .lit (.int .u64 1847814050463011016), .lit (.int .u64 2177327727835720531), .lit (.int .u64 2830643537854262169), .lit (.int .u64 3796741975233480872), .lit (.int .u64 4115178125766777443), .lit (.int .u64 5681478168544905931), .lit (.int .u64 6601373596472566643), .lit (.int .u64 7507060721942968483), .lit (.int .u64 8399075790359081724), .lit (.int .u64 8693463985226723168), .lit (.int .u64 9568029438360202098), .lit (.int .u64 10144078919501101548), .lit (.int .u64 10430055236837252648), .lit (.int .u64 11840083180663258601), .lit (.int .u64 13761210420658862357), .lit (.int .u64 14299343276471374635), .lit (.int .u64 14566680578165727644), .lit (.int .u64 15097957966210449927), .lit (.int .u64 16922976911328602910), .lit (.int .u64 17689382322260857208), .lit (.int .u64 500013540394364858), .lit (.int .u64 748580250866718886), .lit (.int .u64 1242879168328830382), .lit (.int .u64 1977374033974150939), .lit (.int .u64 2944078676154940804), .lit (.int .u64 3659926193048069267), .lit (.int .u64 4368137639120453308), .lit (.int .u64 4836135668995329356), .lit (.int .u64 5532061633213252278), .lit (.int .u64 6448918945643986474), .lit (.int .u64 6902733635092675308), .lit (.int .u64 7801388544844847127)]
def laid_custumal_field_imaginary {H : Type} : DataW H := .agg [.lit (.int .u64 14190309331451158704), .lit (.int .u64 3405592160176694392), .lit (.int .u64 3120150775007532967), .lit (.int .u64 3135389899092516619)]
def laid_custumal_edwards_curve {H : Type} : DataW H := .agg [.lit (.int .u64 8496970652267935907), .lit (.int .u64 31536524315187371), .lit (.int .u64 10144147576115030168), .lit (.int .u64 5909686906226998899)]
def laid_custumal_sha2_start {H : Type} : DataW H := .agg [.lit (.int .u32 1779033703), .lit (.int .u32 3144134277), .lit (.int .u32 1013904242), .lit (.int .u32 2773480762), .lit (.int .u32 1359893119), .lit (.int .u32 2600822924), .lit (.int .u32 528734635), .lit (.int .u32 1541459225)]
def laid_custumal_sha2_rounds {H : Type} : DataW H := .agg [.lit (.int .u32 1116352408), .lit (.int .u32 1899447441), .lit (.int .u32 3049323471), .lit (.int .u32 3921009573), .lit (.int .u32 961987163), .lit (.int .u32 1508970993), .lit (.int .u32 2453635748), .lit (.int .u32 2870763221), .lit (.int .u32 3624381080), .lit (.int .u32 310598401), .lit (.int .u32 607225278), .lit (.int .u32 1426881987), .lit (.int .u32 1925078388), .lit (.int .u32 2162078206), .lit (.int .u32 2614888103), .lit (.int .u32 3248222580), .lit (.int .u32 3835390401), .lit (.int .u32 4022224774), .lit (.int .u32 264347078), .lit (.int .u32 604807628), .lit (.int .u32 770255983), .lit (.int .u32 1249150122), .lit (.int .u32 1555081692), .lit (.int .u32 1996064986), .lit (.int .u32 2554220882), .lit (.int .u32 2821834349), .lit (.int .u32 2952996808), .lit (.int .u32 3210313671), .lit (.int .u32 3336571891), .lit (.int .u32 3584528711), .lit (.int .u32 113926993), .lit (.int .u32 338241895), .lit (.int .u32 666307205), .lit (.int .u32 773529912), .lit (.int .u32 1294757372), .lit (.int .u32 1396182291), .lit (.int .u32 1695183700), .lit (.int .u32 1986661051), .lit (.int .u32 2177026350), .lit (.int .u32 2456956037), .lit (.int .u32 2730485921), .lit (.int .u32 2820302411), .lit (.int .u32 3259730800), .lit (.int .u32 3345764771), .lit (.int .u32 3516065817), .lit (.int .u32 3600352804), .lit (.int .u32 4094571909), .lit (.int .u32 275423344), .lit (.int .u32 430227734), .lit (.int .u32 506948616), .lit (.int .u32 659060556), .lit (.int .u32 883997877), .lit (.int .u32 958139571), .lit (.int .u32 1322822218), .lit (.int .u32 1537002063), .lit (.int .u32 1747873779), .lit (.int .u32 1955562222), .lit (.int .u32 2024104815), .lit (.int .u32 2227730452), .lit (.int .u32 2361852424), .lit (.int .u32 2428436474), .lit (.int .u32 2756734187), .lit (.int .u32 3204031479), .lit (.int .u32 3329325298)]

/-- 'custumallaw08.SignMakes': WHATEVER THE INPUT: true; the input reads as it did. -/
def signMakesSpec : ChangeSpec := { name := "signMakes", fn := fun _ => fun
  | [d1, d2] => { results := [.lit (.bool true)], args := [d1, d2] }
  | _ => none }
def signMakesRow : OpenClaim := { program := "ytefpoollmbmkfaadoor", sum := "dac46127ab4b4a082c8879c25feae82828ee1e140bc9877b9a4a7eb1f731232c", func := "custumal/custumallaw08.SignMakes", spec := "signMakes", inPlace := ["math/bits.Add64", "math/bits.Sub64"], named := ["custumal/sha5.start", "custumal/sha5.rounds", "custumal/edwards.baseX", "custumal/edwards.baseY", "custumal/field.modulus", "custumal/edwards.double", "custumal/custumalref02.H", "custumal/custumalref02.K", "custumal/scalar.order"], apart := false, laid := [("custumal/custumalref02.K", laid_custumal_custumalref02_K), ("custumal/custumalref02.H", laid_custumal_custumalref02_H), ("custumal/field.modulus", laid_custumal_field_modulus), ("custumal/edwards.double", laid_custumal_edwards_double), ("custumal/edwards.baseX", laid_custumal_edwards_baseX), ("custumal/edwards.baseY", laid_custumal_edwards_baseY), ("custumal/scalar.order", laid_custumal_scalar_order), ("custumal/sha5.start", laid_custumal_sha5_start), ("custumal/sha5.rounds", laid_custumal_sha5_rounds)] }
def SignMakesSaid : Prop := signMakesRow.holds Tryd.pinned (OpenSpec.ofChange signMakesSpec)

/-- ITS FALSE NEIGHBOUR: 'it returns false'. Refute it at one input. -/
def signMakesWrong : ChangeSpec := { name := "signMakes", fn := fun _ => fun
  | [d1, d2] => { results := [.lit (.bool false)], args := [d1, d2] }
  | _ => none }
def SignMakesWrongFalsely : Prop := signMakesRow.holds Tryd.pinned (OpenSpec.ofChange signMakesWrong)

/-- 'custumallaw08.SignChecks': WHATEVER THE INPUT: true; the input reads as it did. -/
def signChecksSpec : ChangeSpec := { name := "signChecks", fn := fun _ => fun
  | [d1, d2, d3] => { results := [.lit (.bool true)], args := [d1, d2, d3] }
  | _ => none }
def signChecksRow : OpenClaim := { program := "ytefpoollmbmkfaadoor", sum := "dac46127ab4b4a082c8879c25feae82828ee1e140bc9877b9a4a7eb1f731232c", func := "custumal/custumallaw08.SignChecks", spec := "signChecks", inPlace := ["math/bits.Add64", "math/bits.Sub64"], named := ["custumal/sha5.start", "custumal/sha5.rounds", "custumal/edwards.baseX", "custumal/edwards.baseY", "custumal/field.modulus", "custumal/edwards.double", "custumal/scalar.order", "custumal/edwards.curve", "custumal/field.imaginary", "custumal/custumalref02.H", "custumal/custumalref02.K"], apart := false, laid := [("custumal/custumalref02.K", laid_custumal_custumalref02_K), ("custumal/custumalref02.H", laid_custumal_custumalref02_H), ("custumal/field.modulus", laid_custumal_field_modulus), ("custumal/field.imaginary", laid_custumal_field_imaginary), ("custumal/edwards.curve", laid_custumal_edwards_curve), ("custumal/edwards.double", laid_custumal_edwards_double), ("custumal/edwards.baseX", laid_custumal_edwards_baseX), ("custumal/edwards.baseY", laid_custumal_edwards_baseY), ("custumal/scalar.order", laid_custumal_scalar_order), ("custumal/sha5.start", laid_custumal_sha5_start), ("custumal/sha5.rounds", laid_custumal_sha5_rounds)] }
def SignChecksSaid : Prop := signChecksRow.holds Tryd.pinned (OpenSpec.ofChange signChecksSpec)

/-- ITS FALSE NEIGHBOUR: 'it returns false'. Refute it at one input. -/
def signChecksWrong : ChangeSpec := { name := "signChecks", fn := fun _ => fun
  | [d1, d2, d3] => { results := [.lit (.bool false)], args := [d1, d2, d3] }
  | _ => none }
def SignChecksWrongFalsely : Prop := signChecksRow.holds Tryd.pinned (OpenSpec.ofChange signChecksWrong)

/-- 'custumallaw08.SignBack': WHATEVER THE INPUT: true; the input reads as it did. -/
def signBackSpec : ChangeSpec := { name := "signBack", fn := fun _ => fun
  | [d1, d2] => { results := [.lit (.bool true)], args := [d1, d2] }
  | _ => none }
def signBackRow : OpenClaim := { program := "ytefpoollmbmkfaadoor", sum := "dac46127ab4b4a082c8879c25feae82828ee1e140bc9877b9a4a7eb1f731232c", func := "custumal/custumallaw08.SignBack", spec := "signBack", inPlace := ["math/bits.Add64", "math/bits.Sub64"], named := ["custumal/sha5.start", "custumal/sha5.rounds", "custumal/edwards.baseX", "custumal/edwards.baseY", "custumal/field.modulus", "custumal/edwards.double", "custumal/scalar.order", "custumal/edwards.curve", "custumal/field.imaginary"], apart := false, laid := [("custumal/field.modulus", laid_custumal_field_modulus), ("custumal/field.imaginary", laid_custumal_field_imaginary), ("custumal/edwards.curve", laid_custumal_edwards_curve), ("custumal/edwards.double", laid_custumal_edwards_double), ("custumal/edwards.baseX", laid_custumal_edwards_baseX), ("custumal/edwards.baseY", laid_custumal_edwards_baseY), ("custumal/scalar.order", laid_custumal_scalar_order), ("custumal/sha5.start", laid_custumal_sha5_start), ("custumal/sha5.rounds", laid_custumal_sha5_rounds)] }
def SignBackSaid : Prop := signBackRow.holds Tryd.pinned (OpenSpec.ofChange signBackSpec)

/-- ITS FALSE NEIGHBOUR: 'it returns false'. Refute it at one input. -/
def signBackWrong : ChangeSpec := { name := "signBack", fn := fun _ => fun
  | [d1, d2] => { results := [.lit (.bool false)], args := [d1, d2] }
  | _ => none }
def SignBackWrongFalsely : Prop := signBackRow.holds Tryd.pinned (OpenSpec.ofChange signBackWrong)

/-- 'custumallaw08.SignBent': WHATEVER THE INPUT: true; the input reads as it did. -/
def signBentSpec : ChangeSpec := { name := "signBent", fn := fun _ => fun
  | [d1, d2, d3] => { results := [.lit (.bool true)], args := [d1, d2, d3] }
  | _ => none }
def signBentRow : OpenClaim := { program := "ytefpoollmbmkfaadoor", sum := "dac46127ab4b4a082c8879c25feae82828ee1e140bc9877b9a4a7eb1f731232c", func := "custumal/custumallaw08.SignBent", spec := "signBent", inPlace := ["math/bits.Add64", "math/bits.Sub64"], named := ["custumal/sha5.start", "custumal/sha5.rounds", "custumal/edwards.baseX", "custumal/edwards.baseY", "custumal/field.modulus", "custumal/edwards.double", "custumal/scalar.order", "custumal/edwards.curve", "custumal/field.imaginary", "custumal/custumalref02.H", "custumal/custumalref02.K"], apart := false, laid := [("custumal/custumalref02.K", laid_custumal_custumalref02_K), ("custumal/custumalref02.H", laid_custumal_custumalref02_H), ("custumal/field.modulus", laid_custumal_field_modulus), ("custumal/field.imaginary", laid_custumal_field_imaginary), ("custumal/edwards.curve", laid_custumal_edwards_curve), ("custumal/edwards.double", laid_custumal_edwards_double), ("custumal/edwards.baseX", laid_custumal_edwards_baseX), ("custumal/edwards.baseY", laid_custumal_edwards_baseY), ("custumal/scalar.order", laid_custumal_scalar_order), ("custumal/sha5.start", laid_custumal_sha5_start), ("custumal/sha5.rounds", laid_custumal_sha5_rounds)] }
def SignBentSaid : Prop := signBentRow.holds Tryd.pinned (OpenSpec.ofChange signBentSpec)

/-- ITS FALSE NEIGHBOUR: 'it returns false'. Refute it at one input. -/
def signBentWrong : ChangeSpec := { name := "signBent", fn := fun _ => fun
  | [d1, d2, d3] => { results := [.lit (.bool false)], args := [d1, d2, d3] }
  | _ => none }
def SignBentWrongFalsely : Prop := signBentRow.holds Tryd.pinned (OpenSpec.ofChange signBentWrong)

/-- 'custumallaw08.SignTwins': WHATEVER THE INPUT: true; the input reads as it did. -/
def signTwinsSpec : ChangeSpec := { name := "signTwins", fn := fun _ => fun
  | [d1, d2] => { results := [.lit (.bool true)], args := [d1, d2] }
  | _ => none }
def signTwinsRow : OpenClaim := { program := "ytefpoollmbmkfaadoor", sum := "dac46127ab4b4a082c8879c25feae82828ee1e140bc9877b9a4a7eb1f731232c", func := "custumal/custumallaw08.SignTwins", spec := "signTwins", inPlace := ["math/bits.Add64", "math/bits.Sub64"], named := ["custumal/sha5.start", "custumal/sha5.rounds", "custumal/edwards.baseX", "custumal/edwards.baseY", "custumal/field.modulus", "custumal/edwards.double", "custumal/scalar.order", "custumal/edwards.curve", "custumal/field.imaginary"], apart := false, laid := [("custumal/field.modulus", laid_custumal_field_modulus), ("custumal/field.imaginary", laid_custumal_field_imaginary), ("custumal/edwards.curve", laid_custumal_edwards_curve), ("custumal/edwards.double", laid_custumal_edwards_double), ("custumal/edwards.baseX", laid_custumal_edwards_baseX), ("custumal/edwards.baseY", laid_custumal_edwards_baseY), ("custumal/scalar.order", laid_custumal_scalar_order), ("custumal/sha5.start", laid_custumal_sha5_start), ("custumal/sha5.rounds", laid_custumal_sha5_rounds)] }
def SignTwinsSaid : Prop := signTwinsRow.holds Tryd.pinned (OpenSpec.ofChange signTwinsSpec)

/-- ITS FALSE NEIGHBOUR: 'it returns false'. Refute it at one input. -/
def signTwinsWrong : ChangeSpec := { name := "signTwins", fn := fun _ => fun
  | [d1, d2] => { results := [.lit (.bool false)], args := [d1, d2] }
  | _ => none }
def SignTwinsWrongFalsely : Prop := signTwinsRow.holds Tryd.pinned (OpenSpec.ofChange signTwinsWrong)

/-- 'custumallaw09.VrfProves': WHATEVER THE INPUT: true; the input reads as it did. -/
def vrfProvesSpec : ChangeSpec := { name := "vrfProves", fn := fun _ => fun
  | [d1, d2] => { results := [.lit (.bool true)], args := [d1, d2] }
  | _ => none }
def vrfProvesRow : OpenClaim := { program := "ytefpoollmbmkfaadoor", sum := "dac46127ab4b4a082c8879c25feae82828ee1e140bc9877b9a4a7eb1f731232c", func := "custumal/custumallaw09.VrfProves", spec := "vrfProves", inPlace := ["math/bits.Add64", "math/bits.Sub64"], named := ["custumal/sha5.start", "custumal/sha5.rounds", "custumal/edwards.baseX", "custumal/edwards.baseY", "custumal/field.modulus", "custumal/edwards.double", "custumal/edwards.curve", "custumal/field.imaginary", "custumal/scalar.order", "custumal/custumalref02.H", "custumal/custumalref02.K"], apart := false, laid := [("custumal/custumalref02.K", laid_custumal_custumalref02_K), ("custumal/custumalref02.H", laid_custumal_custumalref02_H), ("custumal/field.modulus", laid_custumal_field_modulus), ("custumal/field.imaginary", laid_custumal_field_imaginary), ("custumal/edwards.curve", laid_custumal_edwards_curve), ("custumal/edwards.double", laid_custumal_edwards_double), ("custumal/edwards.baseX", laid_custumal_edwards_baseX), ("custumal/edwards.baseY", laid_custumal_edwards_baseY), ("custumal/scalar.order", laid_custumal_scalar_order), ("custumal/sha5.start", laid_custumal_sha5_start), ("custumal/sha5.rounds", laid_custumal_sha5_rounds)] }
def VrfProvesSaid : Prop := vrfProvesRow.holds Tryd.pinned (OpenSpec.ofChange vrfProvesSpec)

/-- ITS FALSE NEIGHBOUR: 'it returns false'. Refute it at one input. -/
def vrfProvesWrong : ChangeSpec := { name := "vrfProves", fn := fun _ => fun
  | [d1, d2] => { results := [.lit (.bool false)], args := [d1, d2] }
  | _ => none }
def VrfProvesWrongFalsely : Prop := vrfProvesRow.holds Tryd.pinned (OpenSpec.ofChange vrfProvesWrong)

/-- 'custumallaw09.VrfBack': WHATEVER THE INPUT: true; the input reads as it did. -/
def vrfBackSpec : ChangeSpec := { name := "vrfBack", fn := fun _ => fun
  | [d1, d2] => { results := [.lit (.bool true)], args := [d1, d2] }
  | _ => none }
def vrfBackRow : OpenClaim := { program := "ytefpoollmbmkfaadoor", sum := "dac46127ab4b4a082c8879c25feae82828ee1e140bc9877b9a4a7eb1f731232c", func := "custumal/custumallaw09.VrfBack", spec := "vrfBack", inPlace := ["math/bits.Add64", "math/bits.Sub64"], named := ["custumal/sha5.start", "custumal/sha5.rounds", "custumal/edwards.baseX", "custumal/edwards.baseY", "custumal/field.modulus", "custumal/edwards.double", "custumal/edwards.curve", "custumal/field.imaginary", "custumal/scalar.order"], apart := false, laid := [("custumal/field.modulus", laid_custumal_field_modulus), ("custumal/field.imaginary", laid_custumal_field_imaginary), ("custumal/edwards.curve", laid_custumal_edwards_curve), ("custumal/edwards.double", laid_custumal_edwards_double), ("custumal/edwards.baseX", laid_custumal_edwards_baseX), ("custumal/edwards.baseY", laid_custumal_edwards_baseY), ("custumal/scalar.order", laid_custumal_scalar_order), ("custumal/sha5.start", laid_custumal_sha5_start), ("custumal/sha5.rounds", laid_custumal_sha5_rounds)] }
def VrfBackSaid : Prop := vrfBackRow.holds Tryd.pinned (OpenSpec.ofChange vrfBackSpec)

/-- ITS FALSE NEIGHBOUR: 'it returns false'. Refute it at one input. -/
def vrfBackWrong : ChangeSpec := { name := "vrfBack", fn := fun _ => fun
  | [d1, d2] => { results := [.lit (.bool false)], args := [d1, d2] }
  | _ => none }
def VrfBackWrongFalsely : Prop := vrfBackRow.holds Tryd.pinned (OpenSpec.ofChange vrfBackWrong)

/-- 'custumallaw09.VrfBent': WHATEVER THE INPUT: true; the input reads as it did. -/
def vrfBentSpec : ChangeSpec := { name := "vrfBent", fn := fun _ => fun
  | [d1, d2, d3] => { results := [.lit (.bool true)], args := [d1, d2, d3] }
  | _ => none }
def vrfBentRow : OpenClaim := { program := "ytefpoollmbmkfaadoor", sum := "dac46127ab4b4a082c8879c25feae82828ee1e140bc9877b9a4a7eb1f731232c", func := "custumal/custumallaw09.VrfBent", spec := "vrfBent", inPlace := ["math/bits.Add64", "math/bits.Sub64"], named := ["custumal/sha5.start", "custumal/sha5.rounds", "custumal/edwards.baseX", "custumal/edwards.baseY", "custumal/field.modulus", "custumal/edwards.double", "custumal/edwards.curve", "custumal/field.imaginary", "custumal/scalar.order", "custumal/custumalref02.H", "custumal/custumalref02.K"], apart := false, laid := [("custumal/custumalref02.K", laid_custumal_custumalref02_K), ("custumal/custumalref02.H", laid_custumal_custumalref02_H), ("custumal/field.modulus", laid_custumal_field_modulus), ("custumal/field.imaginary", laid_custumal_field_imaginary), ("custumal/edwards.curve", laid_custumal_edwards_curve), ("custumal/edwards.double", laid_custumal_edwards_double), ("custumal/edwards.baseX", laid_custumal_edwards_baseX), ("custumal/edwards.baseY", laid_custumal_edwards_baseY), ("custumal/scalar.order", laid_custumal_scalar_order), ("custumal/sha5.start", laid_custumal_sha5_start), ("custumal/sha5.rounds", laid_custumal_sha5_rounds)] }
def VrfBentSaid : Prop := vrfBentRow.holds Tryd.pinned (OpenSpec.ofChange vrfBentSpec)

/-- ITS FALSE NEIGHBOUR: 'it returns false'. Refute it at one input. -/
def vrfBentWrong : ChangeSpec := { name := "vrfBent", fn := fun _ => fun
  | [d1, d2, d3] => { results := [.lit (.bool false)], args := [d1, d2, d3] }
  | _ => none }
def VrfBentWrongFalsely : Prop := vrfBentRow.holds Tryd.pinned (OpenSpec.ofChange vrfBentWrong)

/-- 'custumallaw09.VrfNeutral': WHATEVER THE INPUT: true; the input reads as it did. -/
def vrfNeutralSpec : ChangeSpec := { name := "vrfNeutral", fn := fun _ => fun
  | [d1, d2] => { results := [.lit (.bool true)], args := [d1, d2] }
  | _ => none }
def vrfNeutralRow : OpenClaim := { program := "ytefpoollmbmkfaadoor", sum := "dac46127ab4b4a082c8879c25feae82828ee1e140bc9877b9a4a7eb1f731232c", func := "custumal/custumallaw09.VrfNeutral", spec := "vrfNeutral", inPlace := ["math/bits.Sub64", "math/bits.Add64"], named := ["custumal/edwards.curve", "custumal/field.modulus", "custumal/field.imaginary", "custumal/scalar.order", "custumal/sha5.start", "custumal/sha5.rounds", "custumal/edwards.baseX", "custumal/edwards.baseY", "custumal/edwards.double"], apart := false, laid := [("custumal/field.modulus", laid_custumal_field_modulus), ("custumal/field.imaginary", laid_custumal_field_imaginary), ("custumal/edwards.curve", laid_custumal_edwards_curve), ("custumal/edwards.double", laid_custumal_edwards_double), ("custumal/edwards.baseX", laid_custumal_edwards_baseX), ("custumal/edwards.baseY", laid_custumal_edwards_baseY), ("custumal/scalar.order", laid_custumal_scalar_order), ("custumal/sha5.start", laid_custumal_sha5_start), ("custumal/sha5.rounds", laid_custumal_sha5_rounds)] }
def VrfNeutralSaid : Prop := vrfNeutralRow.holds Tryd.pinned (OpenSpec.ofChange vrfNeutralSpec)

/-- ITS FALSE NEIGHBOUR: 'it returns false'. Refute it at one input. -/
def vrfNeutralWrong : ChangeSpec := { name := "vrfNeutral", fn := fun _ => fun
  | [d1, d2] => { results := [.lit (.bool false)], args := [d1, d2] }
  | _ => none }
def VrfNeutralWrongFalsely : Prop := vrfNeutralRow.holds Tryd.pinned (OpenSpec.ofChange vrfNeutralWrong)

/-- 'custumallaw09.VrfChecks': WHATEVER THE INPUT: true; the input reads as it did. -/
def vrfChecksSpec : ChangeSpec := { name := "vrfChecks", fn := fun _ => fun
  | [d1, d2, d3] => { results := [.lit (.bool true)], args := [d1, d2, d3] }
  | _ => none }
def vrfChecksRow : OpenClaim := { program := "ytefpoollmbmkfaadoor", sum := "dac46127ab4b4a082c8879c25feae82828ee1e140bc9877b9a4a7eb1f731232c", func := "custumal/custumallaw09.VrfChecks", spec := "vrfChecks", inPlace := ["math/bits.Sub64", "math/bits.Add64"], named := ["custumal/edwards.curve", "custumal/field.modulus", "custumal/field.imaginary", "custumal/scalar.order", "custumal/sha5.start", "custumal/sha5.rounds", "custumal/edwards.baseX", "custumal/edwards.baseY", "custumal/edwards.double", "custumal/custumalref02.H", "custumal/custumalref02.K"], apart := false, laid := [("custumal/custumalref02.K", laid_custumal_custumalref02_K), ("custumal/custumalref02.H", laid_custumal_custumalref02_H), ("custumal/field.modulus", laid_custumal_field_modulus), ("custumal/field.imaginary", laid_custumal_field_imaginary), ("custumal/edwards.curve", laid_custumal_edwards_curve), ("custumal/edwards.double", laid_custumal_edwards_double), ("custumal/edwards.baseX", laid_custumal_edwards_baseX), ("custumal/edwards.baseY", laid_custumal_edwards_baseY), ("custumal/scalar.order", laid_custumal_scalar_order), ("custumal/sha5.start", laid_custumal_sha5_start), ("custumal/sha5.rounds", laid_custumal_sha5_rounds)] }
def VrfChecksSaid : Prop := vrfChecksRow.holds Tryd.pinned (OpenSpec.ofChange vrfChecksSpec)

/-- ITS FALSE NEIGHBOUR: 'it returns false'. Refute it at one input. -/
def vrfChecksWrong : ChangeSpec := { name := "vrfChecks", fn := fun _ => fun
  | [d1, d2, d3] => { results := [.lit (.bool false)], args := [d1, d2, d3] }
  | _ => none }
def VrfChecksWrongFalsely : Prop := vrfChecksRow.holds Tryd.pinned (OpenSpec.ofChange vrfChecksWrong)

/-- 'custumaltop.CustumalSigns': WHATEVER THE INPUT: true; the input reads as it did. -/
def custumalSignsSpec : ChangeSpec := { name := "custumalSigns", fn := fun _ => fun
  | [d1, d2] => { results := [.lit (.bool true)], args := [d1, d2] }
  | _ => none }
def custumalSignsRow : OpenClaim := { program := "ytefpoollmbmkfaadoor", sum := "dac46127ab4b4a082c8879c25feae82828ee1e140bc9877b9a4a7eb1f731232c", func := "custumal/custumaltop.CustumalSigns", spec := "custumalSigns", inPlace := ["math/bits.Add64", "math/bits.Sub64"], recurses := true, named := ["custumal/sha5.start", "custumal/sha5.rounds", "custumal/edwards.baseX", "custumal/edwards.baseY", "custumal/field.modulus", "custumal/edwards.double", "custumal/scalar.order", "custumal/edwards.curve", "custumal/field.imaginary", "custumal/sha2.start", "custumal/sha2.rounds"], apart := false, laid := [("custumal/field.modulus", laid_custumal_field_modulus), ("custumal/field.imaginary", laid_custumal_field_imaginary), ("custumal/edwards.curve", laid_custumal_edwards_curve), ("custumal/edwards.double", laid_custumal_edwards_double), ("custumal/edwards.baseX", laid_custumal_edwards_baseX), ("custumal/edwards.baseY", laid_custumal_edwards_baseY), ("custumal/scalar.order", laid_custumal_scalar_order), ("custumal/sha2.start", laid_custumal_sha2_start), ("custumal/sha2.rounds", laid_custumal_sha2_rounds), ("custumal/sha5.start", laid_custumal_sha5_start), ("custumal/sha5.rounds", laid_custumal_sha5_rounds)] }
def CustumalSignsSaid : Prop := custumalSignsRow.holds Tryd.pinned (OpenSpec.ofChange custumalSignsSpec)

/-- ITS FALSE NEIGHBOUR: 'it returns false'. Refute it at one input. -/
def custumalSignsWrong : ChangeSpec := { name := "custumalSigns", fn := fun _ => fun
  | [d1, d2] => { results := [.lit (.bool false)], args := [d1, d2] }
  | _ => none }
def CustumalSignsWrongFalsely : Prop := custumalSignsRow.holds Tryd.pinned (OpenSpec.ofChange custumalSignsWrong)

/-- 'custumaltop.CustumalIndex': WHATEVER THE INPUT: true; the input reads as it did. -/
def custumalIndexSpec : ChangeSpec := { name := "custumalIndex", fn := fun _ => fun
  | [d1, d2, d3] => { results := [.lit (.bool true)], args := [d1, d2, d3] }
  | _ => none }
def custumalIndexRow : OpenClaim := { program := "ytefpoollmbmkfaadoor", sum := "dac46127ab4b4a082c8879c25feae82828ee1e140bc9877b9a4a7eb1f731232c", func := "custumal/custumaltop.CustumalIndex", spec := "custumalIndex", inPlace := ["math/bits.Add64", "math/bits.Sub64"], recurses := true, named := ["custumal/sha5.start", "custumal/sha5.rounds", "custumal/edwards.baseX", "custumal/edwards.baseY", "custumal/field.modulus", "custumal/edwards.double", "custumal/edwards.curve", "custumal/field.imaginary", "custumal/scalar.order", "custumal/sha2.start", "custumal/sha2.rounds"], apart := false, laid := [("custumal/field.modulus", laid_custumal_field_modulus), ("custumal/field.imaginary", laid_custumal_field_imaginary), ("custumal/edwards.curve", laid_custumal_edwards_curve), ("custumal/edwards.double", laid_custumal_edwards_double), ("custumal/edwards.baseX", laid_custumal_edwards_baseX), ("custumal/edwards.baseY", laid_custumal_edwards_baseY), ("custumal/scalar.order", laid_custumal_scalar_order), ("custumal/sha2.start", laid_custumal_sha2_start), ("custumal/sha2.rounds", laid_custumal_sha2_rounds), ("custumal/sha5.start", laid_custumal_sha5_start), ("custumal/sha5.rounds", laid_custumal_sha5_rounds)] }
def CustumalIndexSaid : Prop := custumalIndexRow.holds Tryd.pinned (OpenSpec.ofChange custumalIndexSpec)

/-- ITS FALSE NEIGHBOUR: 'it returns false'. Refute it at one input. -/
def custumalIndexWrong : ChangeSpec := { name := "custumalIndex", fn := fun _ => fun
  | [d1, d2, d3] => { results := [.lit (.bool false)], args := [d1, d2, d3] }
  | _ => none }
def CustumalIndexWrongFalsely : Prop := custumalIndexRow.holds Tryd.pinned (OpenSpec.ofChange custumalIndexWrong)

/- THE SECOND FORM. 'bulk': how many values and letters a reading holds, each counted each time it is reached (what is shared counts as often as it is met; a slice's spare places count too). A statement '..UptoSaid' is the law's where the arguments, and the package variables that the reading takes, are together of bulk at most 1048576: NARROWER than '..Said'. Prove '..Said' where nothing that the law and all that it calls make is longer than what came in: it says more and counts as full. Else prove '..UptoSaid'. A law counts once. -/
mutual
def uptoBulk {H : Type} : DataW H → Nat
  | .lit (.string bytes) => bytes.length + 1
  | .lit _ => 1
  | .nil => 1
  | .ptr d => uptoBulk d + 1
  | .slice elems spare => uptoBulkAll elems + uptoBulkAll spare + 1
  | .agg parts => uptoBulkAll parts + 1
  | .iface _ d => uptoBulk d + 1
  | .map entries => uptoBulkEntries entries + 1
  | .held _ => 1
def uptoBulkAll {H : Type} : List (DataW H) → Nat
  | [] => 0
  | d :: r => uptoBulk d + uptoBulkAll r
def uptoBulkEntries {H : Type} : List (Lit × DataW H) → Nat
  | [] => 0
  | x :: r => uptoBulkEntry x + uptoBulkEntries r
def uptoBulkEntry {H : Type} : Lit × DataW H → Nat
  | (.string bytes, d) => bytes.length + uptoBulk d + 1
  | (_, d) => uptoBulk d + 1
 end
def uptoSmall : (H : Type) → List (DataW H) → Bool := fun _ ds => decide (uptoBulkAll ds ≤ 1048576)
def OpenSpec.upto (s : _root_.Go.ChangeSpec) : _root_.Go.OpenSpec := { _root_.Go.OpenSpec.ofChange s with cond := some uptoSmall }

/-- 'custumallaw08.SignMakes', WHERE WHAT IT READS IS OF BULK AT MOST 1048576: true; the input reads as it did. -/
def signMakesUptoRow : OpenClaim := { program := "ytefpoollmbmkfaadoor", sum := "dac46127ab4b4a082c8879c25feae82828ee1e140bc9877b9a4a7eb1f731232c", func := "custumal/custumallaw08.SignMakes", spec := "signMakes", inPlace := ["math/bits.Add64", "math/bits.Sub64"], named := ["custumal/sha5.start", "custumal/sha5.rounds", "custumal/edwards.baseX", "custumal/edwards.baseY", "custumal/field.modulus", "custumal/edwards.double", "custumal/custumalref02.H", "custumal/custumalref02.K", "custumal/scalar.order"], apart := false, laid := [("custumal/custumalref02.K", laid_custumal_custumalref02_K), ("custumal/custumalref02.H", laid_custumal_custumalref02_H), ("custumal/field.modulus", laid_custumal_field_modulus), ("custumal/edwards.double", laid_custumal_edwards_double), ("custumal/edwards.baseX", laid_custumal_edwards_baseX), ("custumal/edwards.baseY", laid_custumal_edwards_baseY), ("custumal/scalar.order", laid_custumal_scalar_order), ("custumal/sha5.start", laid_custumal_sha5_start), ("custumal/sha5.rounds", laid_custumal_sha5_rounds)], narrowed := true }
def SignMakesUptoSaid : Prop := signMakesUptoRow.holds Tryd.pinned (OpenSpec.upto signMakesSpec)

/-- 'custumallaw08.SignChecks', WHERE WHAT IT READS IS OF BULK AT MOST 1048576: true; the input reads as it did. -/
def signChecksUptoRow : OpenClaim := { program := "ytefpoollmbmkfaadoor", sum := "dac46127ab4b4a082c8879c25feae82828ee1e140bc9877b9a4a7eb1f731232c", func := "custumal/custumallaw08.SignChecks", spec := "signChecks", inPlace := ["math/bits.Add64", "math/bits.Sub64"], named := ["custumal/sha5.start", "custumal/sha5.rounds", "custumal/edwards.baseX", "custumal/edwards.baseY", "custumal/field.modulus", "custumal/edwards.double", "custumal/scalar.order", "custumal/edwards.curve", "custumal/field.imaginary", "custumal/custumalref02.H", "custumal/custumalref02.K"], apart := false, laid := [("custumal/custumalref02.K", laid_custumal_custumalref02_K), ("custumal/custumalref02.H", laid_custumal_custumalref02_H), ("custumal/field.modulus", laid_custumal_field_modulus), ("custumal/field.imaginary", laid_custumal_field_imaginary), ("custumal/edwards.curve", laid_custumal_edwards_curve), ("custumal/edwards.double", laid_custumal_edwards_double), ("custumal/edwards.baseX", laid_custumal_edwards_baseX), ("custumal/edwards.baseY", laid_custumal_edwards_baseY), ("custumal/scalar.order", laid_custumal_scalar_order), ("custumal/sha5.start", laid_custumal_sha5_start), ("custumal/sha5.rounds", laid_custumal_sha5_rounds)], narrowed := true }
def SignChecksUptoSaid : Prop := signChecksUptoRow.holds Tryd.pinned (OpenSpec.upto signChecksSpec)

/-- 'custumallaw08.SignBack', WHERE WHAT IT READS IS OF BULK AT MOST 1048576: true; the input reads as it did. -/
def signBackUptoRow : OpenClaim := { program := "ytefpoollmbmkfaadoor", sum := "dac46127ab4b4a082c8879c25feae82828ee1e140bc9877b9a4a7eb1f731232c", func := "custumal/custumallaw08.SignBack", spec := "signBack", inPlace := ["math/bits.Add64", "math/bits.Sub64"], named := ["custumal/sha5.start", "custumal/sha5.rounds", "custumal/edwards.baseX", "custumal/edwards.baseY", "custumal/field.modulus", "custumal/edwards.double", "custumal/scalar.order", "custumal/edwards.curve", "custumal/field.imaginary"], apart := false, laid := [("custumal/field.modulus", laid_custumal_field_modulus), ("custumal/field.imaginary", laid_custumal_field_imaginary), ("custumal/edwards.curve", laid_custumal_edwards_curve), ("custumal/edwards.double", laid_custumal_edwards_double), ("custumal/edwards.baseX", laid_custumal_edwards_baseX), ("custumal/edwards.baseY", laid_custumal_edwards_baseY), ("custumal/scalar.order", laid_custumal_scalar_order), ("custumal/sha5.start", laid_custumal_sha5_start), ("custumal/sha5.rounds", laid_custumal_sha5_rounds)], narrowed := true }
def SignBackUptoSaid : Prop := signBackUptoRow.holds Tryd.pinned (OpenSpec.upto signBackSpec)

/-- 'custumallaw08.SignBent', WHERE WHAT IT READS IS OF BULK AT MOST 1048576: true; the input reads as it did. -/
def signBentUptoRow : OpenClaim := { program := "ytefpoollmbmkfaadoor", sum := "dac46127ab4b4a082c8879c25feae82828ee1e140bc9877b9a4a7eb1f731232c", func := "custumal/custumallaw08.SignBent", spec := "signBent", inPlace := ["math/bits.Add64", "math/bits.Sub64"], named := ["custumal/sha5.start", "custumal/sha5.rounds", "custumal/edwards.baseX", "custumal/edwards.baseY", "custumal/field.modulus", "custumal/edwards.double", "custumal/scalar.order", "custumal/edwards.curve", "custumal/field.imaginary", "custumal/custumalref02.H", "custumal/custumalref02.K"], apart := false, laid := [("custumal/custumalref02.K", laid_custumal_custumalref02_K), ("custumal/custumalref02.H", laid_custumal_custumalref02_H), ("custumal/field.modulus", laid_custumal_field_modulus), ("custumal/field.imaginary", laid_custumal_field_imaginary), ("custumal/edwards.curve", laid_custumal_edwards_curve), ("custumal/edwards.double", laid_custumal_edwards_double), ("custumal/edwards.baseX", laid_custumal_edwards_baseX), ("custumal/edwards.baseY", laid_custumal_edwards_baseY), ("custumal/scalar.order", laid_custumal_scalar_order), ("custumal/sha5.start", laid_custumal_sha5_start), ("custumal/sha5.rounds", laid_custumal_sha5_rounds)], narrowed := true }
def SignBentUptoSaid : Prop := signBentUptoRow.holds Tryd.pinned (OpenSpec.upto signBentSpec)

/-- 'custumallaw08.SignTwins', WHERE WHAT IT READS IS OF BULK AT MOST 1048576: true; the input reads as it did. -/
def signTwinsUptoRow : OpenClaim := { program := "ytefpoollmbmkfaadoor", sum := "dac46127ab4b4a082c8879c25feae82828ee1e140bc9877b9a4a7eb1f731232c", func := "custumal/custumallaw08.SignTwins", spec := "signTwins", inPlace := ["math/bits.Add64", "math/bits.Sub64"], named := ["custumal/sha5.start", "custumal/sha5.rounds", "custumal/edwards.baseX", "custumal/edwards.baseY", "custumal/field.modulus", "custumal/edwards.double", "custumal/scalar.order", "custumal/edwards.curve", "custumal/field.imaginary"], apart := false, laid := [("custumal/field.modulus", laid_custumal_field_modulus), ("custumal/field.imaginary", laid_custumal_field_imaginary), ("custumal/edwards.curve", laid_custumal_edwards_curve), ("custumal/edwards.double", laid_custumal_edwards_double), ("custumal/edwards.baseX", laid_custumal_edwards_baseX), ("custumal/edwards.baseY", laid_custumal_edwards_baseY), ("custumal/scalar.order", laid_custumal_scalar_order), ("custumal/sha5.start", laid_custumal_sha5_start), ("custumal/sha5.rounds", laid_custumal_sha5_rounds)], narrowed := true }
def SignTwinsUptoSaid : Prop := signTwinsUptoRow.holds Tryd.pinned (OpenSpec.upto signTwinsSpec)

/-- 'custumallaw09.VrfProves', WHERE WHAT IT READS IS OF BULK AT MOST 1048576: true; the input reads as it did. -/
def vrfProvesUptoRow : OpenClaim := { program := "ytefpoollmbmkfaadoor", sum := "dac46127ab4b4a082c8879c25feae82828ee1e140bc9877b9a4a7eb1f731232c", func := "custumal/custumallaw09.VrfProves", spec := "vrfProves", inPlace := ["math/bits.Add64", "math/bits.Sub64"], named := ["custumal/sha5.start", "custumal/sha5.rounds", "custumal/edwards.baseX", "custumal/edwards.baseY", "custumal/field.modulus", "custumal/edwards.double", "custumal/edwards.curve", "custumal/field.imaginary", "custumal/scalar.order", "custumal/custumalref02.H", "custumal/custumalref02.K"], apart := false, laid := [("custumal/custumalref02.K", laid_custumal_custumalref02_K), ("custumal/custumalref02.H", laid_custumal_custumalref02_H), ("custumal/field.modulus", laid_custumal_field_modulus), ("custumal/field.imaginary", laid_custumal_field_imaginary), ("custumal/edwards.curve", laid_custumal_edwards_curve), ("custumal/edwards.double", laid_custumal_edwards_double), ("custumal/edwards.baseX", laid_custumal_edwards_baseX), ("custumal/edwards.baseY", laid_custumal_edwards_baseY), ("custumal/scalar.order", laid_custumal_scalar_order), ("custumal/sha5.start", laid_custumal_sha5_start), ("custumal/sha5.rounds", laid_custumal_sha5_rounds)], narrowed := true }
def VrfProvesUptoSaid : Prop := vrfProvesUptoRow.holds Tryd.pinned (OpenSpec.upto vrfProvesSpec)

/-- 'custumallaw09.VrfBack', WHERE WHAT IT READS IS OF BULK AT MOST 1048576: true; the input reads as it did. -/
def vrfBackUptoRow : OpenClaim := { program := "ytefpoollmbmkfaadoor", sum := "dac46127ab4b4a082c8879c25feae82828ee1e140bc9877b9a4a7eb1f731232c", func := "custumal/custumallaw09.VrfBack", spec := "vrfBack", inPlace := ["math/bits.Add64", "math/bits.Sub64"], named := ["custumal/sha5.start", "custumal/sha5.rounds", "custumal/edwards.baseX", "custumal/edwards.baseY", "custumal/field.modulus", "custumal/edwards.double", "custumal/edwards.curve", "custumal/field.imaginary", "custumal/scalar.order"], apart := false, laid := [("custumal/field.modulus", laid_custumal_field_modulus), ("custumal/field.imaginary", laid_custumal_field_imaginary), ("custumal/edwards.curve", laid_custumal_edwards_curve), ("custumal/edwards.double", laid_custumal_edwards_double), ("custumal/edwards.baseX", laid_custumal_edwards_baseX), ("custumal/edwards.baseY", laid_custumal_edwards_baseY), ("custumal/scalar.order", laid_custumal_scalar_order), ("custumal/sha5.start", laid_custumal_sha5_start), ("custumal/sha5.rounds", laid_custumal_sha5_rounds)], narrowed := true }
def VrfBackUptoSaid : Prop := vrfBackUptoRow.holds Tryd.pinned (OpenSpec.upto vrfBackSpec)

/-- 'custumallaw09.VrfBent', WHERE WHAT IT READS IS OF BULK AT MOST 1048576: true; the input reads as it did. -/
def vrfBentUptoRow : OpenClaim := { program := "ytefpoollmbmkfaadoor", sum := "dac46127ab4b4a082c8879c25feae82828ee1e140bc9877b9a4a7eb1f731232c", func := "custumal/custumallaw09.VrfBent", spec := "vrfBent", inPlace := ["math/bits.Add64", "math/bits.Sub64"], named := ["custumal/sha5.start", "custumal/sha5.rounds", "custumal/edwards.baseX", "custumal/edwards.baseY", "custumal/field.modulus", "custumal/edwards.double", "custumal/edwards.curve", "custumal/field.imaginary", "custumal/scalar.order", "custumal/custumalref02.H", "custumal/custumalref02.K"], apart := false, laid := [("custumal/custumalref02.K", laid_custumal_custumalref02_K), ("custumal/custumalref02.H", laid_custumal_custumalref02_H), ("custumal/field.modulus", laid_custumal_field_modulus), ("custumal/field.imaginary", laid_custumal_field_imaginary), ("custumal/edwards.curve", laid_custumal_edwards_curve), ("custumal/edwards.double", laid_custumal_edwards_double), ("custumal/edwards.baseX", laid_custumal_edwards_baseX), ("custumal/edwards.baseY", laid_custumal_edwards_baseY), ("custumal/scalar.order", laid_custumal_scalar_order), ("custumal/sha5.start", laid_custumal_sha5_start), ("custumal/sha5.rounds", laid_custumal_sha5_rounds)], narrowed := true }
def VrfBentUptoSaid : Prop := vrfBentUptoRow.holds Tryd.pinned (OpenSpec.upto vrfBentSpec)

/-- 'custumallaw09.VrfNeutral', WHERE WHAT IT READS IS OF BULK AT MOST 1048576: true; the input reads as it did. -/
def vrfNeutralUptoRow : OpenClaim := { program := "ytefpoollmbmkfaadoor", sum := "dac46127ab4b4a082c8879c25feae82828ee1e140bc9877b9a4a7eb1f731232c", func := "custumal/custumallaw09.VrfNeutral", spec := "vrfNeutral", inPlace := ["math/bits.Sub64", "math/bits.Add64"], named := ["custumal/edwards.curve", "custumal/field.modulus", "custumal/field.imaginary", "custumal/scalar.order", "custumal/sha5.start", "custumal/sha5.rounds", "custumal/edwards.baseX", "custumal/edwards.baseY", "custumal/edwards.double"], apart := false, laid := [("custumal/field.modulus", laid_custumal_field_modulus), ("custumal/field.imaginary", laid_custumal_field_imaginary), ("custumal/edwards.curve", laid_custumal_edwards_curve), ("custumal/edwards.double", laid_custumal_edwards_double), ("custumal/edwards.baseX", laid_custumal_edwards_baseX), ("custumal/edwards.baseY", laid_custumal_edwards_baseY), ("custumal/scalar.order", laid_custumal_scalar_order), ("custumal/sha5.start", laid_custumal_sha5_start), ("custumal/sha5.rounds", laid_custumal_sha5_rounds)], narrowed := true }
def VrfNeutralUptoSaid : Prop := vrfNeutralUptoRow.holds Tryd.pinned (OpenSpec.upto vrfNeutralSpec)

/-- 'custumallaw09.VrfChecks', WHERE WHAT IT READS IS OF BULK AT MOST 1048576: true; the input reads as it did. -/
def vrfChecksUptoRow : OpenClaim := { program := "ytefpoollmbmkfaadoor", sum := "dac46127ab4b4a082c8879c25feae82828ee1e140bc9877b9a4a7eb1f731232c", func := "custumal/custumallaw09.VrfChecks", spec := "vrfChecks", inPlace := ["math/bits.Sub64", "math/bits.Add64"], named := ["custumal/edwards.curve", "custumal/field.modulus", "custumal/field.imaginary", "custumal/scalar.order", "custumal/sha5.start", "custumal/sha5.rounds", "custumal/edwards.baseX", "custumal/edwards.baseY", "custumal/edwards.double", "custumal/custumalref02.H", "custumal/custumalref02.K"], apart := false, laid := [("custumal/custumalref02.K", laid_custumal_custumalref02_K), ("custumal/custumalref02.H", laid_custumal_custumalref02_H), ("custumal/field.modulus", laid_custumal_field_modulus), ("custumal/field.imaginary", laid_custumal_field_imaginary), ("custumal/edwards.curve", laid_custumal_edwards_curve), ("custumal/edwards.double", laid_custumal_edwards_double), ("custumal/edwards.baseX", laid_custumal_edwards_baseX), ("custumal/edwards.baseY", laid_custumal_edwards_baseY), ("custumal/scalar.order", laid_custumal_scalar_order), ("custumal/sha5.start", laid_custumal_sha5_start), ("custumal/sha5.rounds", laid_custumal_sha5_rounds)], narrowed := true }
def VrfChecksUptoSaid : Prop := vrfChecksUptoRow.holds Tryd.pinned (OpenSpec.upto vrfChecksSpec)

/-- 'custumaltop.CustumalSigns', WHERE WHAT IT READS IS OF BULK AT MOST 1048576: true; the input reads as it did. -/
def custumalSignsUptoRow : OpenClaim := { program := "ytefpoollmbmkfaadoor", sum := "dac46127ab4b4a082c8879c25feae82828ee1e140bc9877b9a4a7eb1f731232c", func := "custumal/custumaltop.CustumalSigns", spec := "custumalSigns", inPlace := ["math/bits.Add64", "math/bits.Sub64"], recurses := true, named := ["custumal/sha5.start", "custumal/sha5.rounds", "custumal/edwards.baseX", "custumal/edwards.baseY", "custumal/field.modulus", "custumal/edwards.double", "custumal/scalar.order", "custumal/edwards.curve", "custumal/field.imaginary", "custumal/sha2.start", "custumal/sha2.rounds"], apart := false, laid := [("custumal/field.modulus", laid_custumal_field_modulus), ("custumal/field.imaginary", laid_custumal_field_imaginary), ("custumal/edwards.curve", laid_custumal_edwards_curve), ("custumal/edwards.double", laid_custumal_edwards_double), ("custumal/edwards.baseX", laid_custumal_edwards_baseX), ("custumal/edwards.baseY", laid_custumal_edwards_baseY), ("custumal/scalar.order", laid_custumal_scalar_order), ("custumal/sha2.start", laid_custumal_sha2_start), ("custumal/sha2.rounds", laid_custumal_sha2_rounds), ("custumal/sha5.start", laid_custumal_sha5_start), ("custumal/sha5.rounds", laid_custumal_sha5_rounds)], narrowed := true }
def CustumalSignsUptoSaid : Prop := custumalSignsUptoRow.holds Tryd.pinned (OpenSpec.upto custumalSignsSpec)

/-- 'custumaltop.CustumalIndex', WHERE WHAT IT READS IS OF BULK AT MOST 1048576: true; the input reads as it did. -/
def custumalIndexUptoRow : OpenClaim := { program := "ytefpoollmbmkfaadoor", sum := "dac46127ab4b4a082c8879c25feae82828ee1e140bc9877b9a4a7eb1f731232c", func := "custumal/custumaltop.CustumalIndex", spec := "custumalIndex", inPlace := ["math/bits.Add64", "math/bits.Sub64"], recurses := true, named := ["custumal/sha5.start", "custumal/sha5.rounds", "custumal/edwards.baseX", "custumal/edwards.baseY", "custumal/field.modulus", "custumal/edwards.double", "custumal/edwards.curve", "custumal/field.imaginary", "custumal/scalar.order", "custumal/sha2.start", "custumal/sha2.rounds"], apart := false, laid := [("custumal/field.modulus", laid_custumal_field_modulus), ("custumal/field.imaginary", laid_custumal_field_imaginary), ("custumal/edwards.curve", laid_custumal_edwards_curve), ("custumal/edwards.double", laid_custumal_edwards_double), ("custumal/edwards.baseX", laid_custumal_edwards_baseX), ("custumal/edwards.baseY", laid_custumal_edwards_baseY), ("custumal/scalar.order", laid_custumal_scalar_order), ("custumal/sha2.start", laid_custumal_sha2_start), ("custumal/sha2.rounds", laid_custumal_sha2_rounds), ("custumal/sha5.start", laid_custumal_sha5_start), ("custumal/sha5.rounds", laid_custumal_sha5_rounds)], narrowed := true }
def CustumalIndexUptoSaid : Prop := custumalIndexUptoRow.holds Tryd.pinned (OpenSpec.upto custumalIndexSpec)

end Rows
end Go.Proofs.YtefpoollmbmkfaaDoor

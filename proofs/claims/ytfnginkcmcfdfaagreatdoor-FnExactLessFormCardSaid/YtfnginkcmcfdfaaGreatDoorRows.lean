/-
  NARROWER THAN 'FOR EVERY INPUT', by the rows' own cells (each row's printed sentence says how): FnExactFitsNumber: laid · FnExactNumberForm: laid · FnExactIsWhole: laid · FnExactLessForm: laid · FnExactNumberOf: laid · FnExactSimplestFor: laid · FnExactStarOf: laid · FnExactUpsForm: laid · FnExactSwitchForm: laid · FnExactTinyForm: laid · FnExactSwitchOf: laid · FnExactLeftStop: laid.
  DERIVED. THE GIVEN ROWS OF THIS SEAT. 12 by the template 'for every input the law returns true; each argument reads behind the call as it read before'; 0 by the template 'total and deterministic' (their statements: YtfnginkcmcfdfaaGreatDoorTotals.lean).
  GIVEN WITH THE SEED: the statements are not yours to turn. If you find one false, say at which input.
  Laid BY PROGRAM, IN A SANDBOX (cutbox-rows.mjs): the forced cells as the released guide's own fill.sh prints them over the translation 1b607e2e0dbdbbd9… (all of the seat's roots in one cut). By AI agents, Wed Nov 11 2026. No macro, syntax, notation, axiom, sorry.
-/
import Derived.Test.YtfnginkcmcfdfaaGreatDoorChecked
import GoSem.Claim
import GoSem.ClaimJoined
import GoSem.ClaimMapViews
import Derived.JoinedTies
import Derived.KernelRfl
namespace Go.Proofs.YtfnginkcmcfdfaaGreatDoor
/- THE CELL 'sum', in the pinned program and in every row, IS THE sha256 OF THE DUMP (.gsa) THAT YtfnginkcmcfdfaaGreatDoorProg.lean LOADS. Nothing in Lean hashes anything: it is a label: what it is worth is what the hold of that sum in a sandbox is worth. -/
noncomputable def Tryz.pinned : Pinned := { name := "ytfnginkcmcfdfaagreatdoor", sum := "1b607e2e0dbdbbd9db7b0250694b6a7f8541c5fb7bf1bc407081908da65e3822", checked := Tryz.checked }
namespace Rows
def none {H : Type} : Left H := { results := [], args := [] }

/- WHAT THE LISTED PACKAGE-LEVEL VARIABLES READ AS WHEN THE CALL BEGINS. Each datum BY PROGRAM (the guide's laid-datum.mjs) off the statement by which the dump's own 'gosem.cut.vars' lays the variable. In a bare row this is a premise. The card (YtfnginkcmcfdfaaGreatDoorCards.lean) ties it to the program's text. -/
def laid_math_bits_deBruijn32tab {H : Type} : DataW H := .agg [.lit (.int .u8 0), .lit (.int .u8 1), .lit (.int .u8 28), .lit (.int .u8 2), .lit (.int .u8 29), .lit (.int .u8 14), .lit (.int .u8 24), .lit (.int .u8 3), .lit (.int .u8 30), .lit (.int .u8 22), .lit (.int .u8 20), .lit (.int .u8 15), .lit (.int .u8 25), .lit (.int .u8 17), .lit (.int .u8 4), .lit (.int .u8 8), .lit (.int .u8 31), .lit (.int .u8 27), .lit (.int .u8 13), .lit (.int .u8 23), .lit (.int .u8 21), .lit (.int .u8 19), .lit (.int .u8 16), .lit (.int .u8 7), .lit (.int .u8 26), .lit (.int .u8 12), .lit (.int .u8 18), .lit (.int .u8 6), .lit (.int .u8 11), .lit (.int .u8 5), .lit (.int .u8 10), .lit (.int .u8 9)]
def laid_math_bits_deBruijn64tab {H : Type} : DataW H := .agg [.lit (.int .u8 0), .lit (.int .u8 1), .lit (.int .u8 56), .lit (.int .u8 2), .lit (.int .u8 57), .lit (.int .u8 49), .lit (.int .u8 28), .lit (.int .u8 3), .lit (.int .u8 61), .lit (.int .u8 58), .lit (.int .u8 42), .lit (.int .u8 50), .lit (.int .u8 38), .lit (.int .u8 29), .lit (.int .u8 17), .lit (.int .u8 4), .lit (.int .u8 62), .lit (.int .u8 47), .lit (.int .u8 59), .lit (.int .u8 36), .lit (.int .u8 45), .lit (.int .u8 43), .lit (.int .u8 51), .lit (.int .u8 22), .lit (.int .u8 53), .lit (.int .u8 39), .lit (.int .u8 33), .lit (.int .u8 30), .lit (.int .u8 24), .lit (.int .u8 18), .lit (.int .u8 12), .lit (.int .u8 5), .lit (.int .u8 63), .lit (.int .u8 55), .lit (.int .u8 48), .lit (.int .u8 27), .lit (.int .u8 60), .lit (.int .u8 41), .lit (.int .u8 37), .lit (.int .u8 16), .lit (.int .u8 46), .lit (.int .u8 35), .lit (.int .u8 44), .lit (.int .u8 21), .lit (.int .u8 52), .lit (.int .u8 32), .lit (.int .u8 23), .lit (.int .u8 11), .lit (.int .u8 54), .lit (.int .u8 26), .lit (.int .u8 40), .lit (.int .u8 15), .lit (.int .u8 34), .lit (.int .u8 20), .lit (.int .u8 31), .lit (.int .u8 10), .lit (.int .u8 25), .lit (.int .u8 14), .lit (.int .u8 19), .lit (.int .u8 9), .lit (.int .u8 13), .lit (.int .u8 8), .lit (.int .u8 7), .lit (.int .u8 6)]
def laid_internal_strconv_uint64pow10 {H : Type} : DataW H := .agg [.lit (.int .u64 1), .lit (.int .u64 10), .lit (.int .u64 100), .lit (.int .u64 1000), .lit (.int .u64 10000), .lit (.int .u64 100000), .lit (.int .u64 1000000), .lit (.int .u64 10000000), .lit (.int .u64 100000000), .lit (.int .u64 1000000000), .lit (.int .u64 10000000000), .lit (.int .u64 100000000000), .lit (.int .u64 1000000000000), .lit (.int .u64 10000000000000), .lit (.int .u64 100000000000000), .lit (.int .u64 1000000000000000), .lit (.int .u64 10000000000000000), .lit (.int .u64 100000000000000000), .lit (.int .u64 1000000000000000000), .lit (.int .u64 10000000000000000000)]

/-- 'laws.FnExactFitsNumber': WHATEVER THE INPUT: true; the input reads as it did. -/
def fnExactFitsNumberSpec : ChangeSpec := { name := "fnExactFitsNumber", fn := fun _ => fun
  | [d1, d2] => { results := [.lit (.bool true)], args := [d1, d2] }
  | _ => none }
def fnExactFitsNumberRow : OpenClaim := { program := "ytfnginkcmcfdfaagreatdoor", sum := "1b607e2e0dbdbbd9db7b0250694b6a7f8541c5fb7bf1bc407081908da65e3822", func := "loop.example/g00868/laws.FnExactFitsNumber", spec := "fnExactFitsNumber", recurses := true, named := ["internal/strconv.uint64pow10", "math/bits.deBruijn32tab", "math/bits.deBruijn64tab"], plainKeys := false, apart := false, laid := [("math/bits.deBruijn32tab", laid_math_bits_deBruijn32tab), ("math/bits.deBruijn64tab", laid_math_bits_deBruijn64tab), ("internal/strconv.uint64pow10", laid_internal_strconv_uint64pow10)] }
def FnExactFitsNumberSaid : Prop := fnExactFitsNumberRow.holds Tryz.pinned (OpenSpec.ofChange fnExactFitsNumberSpec)

/-- ITS FALSE NEIGHBOUR: 'it returns false'. Refute it at one input. -/
def fnExactFitsNumberWrong : ChangeSpec := { name := "fnExactFitsNumber", fn := fun _ => fun
  | [d1, d2] => { results := [.lit (.bool false)], args := [d1, d2] }
  | _ => none }
def FnExactFitsNumberWrongFalsely : Prop := fnExactFitsNumberRow.holds Tryz.pinned (OpenSpec.ofChange fnExactFitsNumberWrong)

/-- 'laws.FnExactNumberForm': WHATEVER THE INPUT: true; the input reads as it did. -/
def fnExactNumberFormSpec : ChangeSpec := { name := "fnExactNumberForm", fn := fun _ => fun
  | [d] => { results := [.lit (.bool true)], args := [d] }
  | _ => none }
def fnExactNumberFormRow : OpenClaim := { program := "ytfnginkcmcfdfaagreatdoor", sum := "1b607e2e0dbdbbd9db7b0250694b6a7f8541c5fb7bf1bc407081908da65e3822", func := "loop.example/g00868/laws.FnExactNumberForm", spec := "fnExactNumberForm", unfollowed := true, recurses := true, named := ["internal/strconv.uint64pow10", "math/bits.deBruijn32tab", "math/bits.deBruijn64tab"], plainKeys := false, apart := false, laid := [("math/bits.deBruijn32tab", laid_math_bits_deBruijn32tab), ("math/bits.deBruijn64tab", laid_math_bits_deBruijn64tab), ("internal/strconv.uint64pow10", laid_internal_strconv_uint64pow10)] }
def FnExactNumberFormSaid : Prop := fnExactNumberFormRow.holds Tryz.pinned (OpenSpec.ofChange fnExactNumberFormSpec)

/-- ITS FALSE NEIGHBOUR: 'it returns false'. Refute it at one input. -/
def fnExactNumberFormWrong : ChangeSpec := { name := "fnExactNumberForm", fn := fun _ => fun
  | [d] => { results := [.lit (.bool false)], args := [d] }
  | _ => none }
def FnExactNumberFormWrongFalsely : Prop := fnExactNumberFormRow.holds Tryz.pinned (OpenSpec.ofChange fnExactNumberFormWrong)

/-- 'laws.FnExactIsWhole': WHATEVER THE INPUT: true; the input reads as it did. -/
def fnExactIsWholeSpec : ChangeSpec := { name := "fnExactIsWhole", fn := fun _ => fun
  | [d] => { results := [.lit (.bool true)], args := [d] }
  | _ => none }
def fnExactIsWholeRow : OpenClaim := { program := "ytfnginkcmcfdfaagreatdoor", sum := "1b607e2e0dbdbbd9db7b0250694b6a7f8541c5fb7bf1bc407081908da65e3822", func := "loop.example/g00868/laws.FnExactIsWhole", spec := "fnExactIsWhole", recurses := true, named := ["internal/strconv.uint64pow10", "math/bits.deBruijn32tab", "math/bits.deBruijn64tab"], plainKeys := false, apart := false, laid := [("math/bits.deBruijn32tab", laid_math_bits_deBruijn32tab), ("math/bits.deBruijn64tab", laid_math_bits_deBruijn64tab), ("internal/strconv.uint64pow10", laid_internal_strconv_uint64pow10)] }
def FnExactIsWholeSaid : Prop := fnExactIsWholeRow.holds Tryz.pinned (OpenSpec.ofChange fnExactIsWholeSpec)

/-- ITS FALSE NEIGHBOUR: 'it returns false'. Refute it at one input. -/
def fnExactIsWholeWrong : ChangeSpec := { name := "fnExactIsWhole", fn := fun _ => fun
  | [d] => { results := [.lit (.bool false)], args := [d] }
  | _ => none }
def FnExactIsWholeWrongFalsely : Prop := fnExactIsWholeRow.holds Tryz.pinned (OpenSpec.ofChange fnExactIsWholeWrong)

/-- 'laws.FnExactLessForm': WHATEVER THE INPUT: true; the input reads as it did. -/
def fnExactLessFormSpec : ChangeSpec := { name := "fnExactLessForm", fn := fun _ => fun
  | [d1, d2] => { results := [.lit (.bool true)], args := [d1, d2] }
  | _ => none }
def fnExactLessFormRow : OpenClaim := { program := "ytfnginkcmcfdfaagreatdoor", sum := "1b607e2e0dbdbbd9db7b0250694b6a7f8541c5fb7bf1bc407081908da65e3822", func := "loop.example/g00868/laws.FnExactLessForm", spec := "fnExactLessForm", unfollowed := true, recurses := true, named := ["internal/strconv.uint64pow10", "math/bits.deBruijn32tab", "math/bits.deBruijn64tab"], plainKeys := false, apart := false, laid := [("math/bits.deBruijn32tab", laid_math_bits_deBruijn32tab), ("math/bits.deBruijn64tab", laid_math_bits_deBruijn64tab), ("internal/strconv.uint64pow10", laid_internal_strconv_uint64pow10)] }
def FnExactLessFormSaid : Prop := fnExactLessFormRow.holds Tryz.pinned (OpenSpec.ofChange fnExactLessFormSpec)

/-- ITS FALSE NEIGHBOUR: 'it returns false'. Refute it at one input. -/
def fnExactLessFormWrong : ChangeSpec := { name := "fnExactLessForm", fn := fun _ => fun
  | [d1, d2] => { results := [.lit (.bool false)], args := [d1, d2] }
  | _ => none }
def FnExactLessFormWrongFalsely : Prop := fnExactLessFormRow.holds Tryz.pinned (OpenSpec.ofChange fnExactLessFormWrong)

/-- 'laws.FnExactNumberOf': WHATEVER THE INPUT: true; the input reads as it did. -/
def fnExactNumberOfSpec : ChangeSpec := { name := "fnExactNumberOf", fn := fun _ => fun
  | [d] => { results := [.lit (.bool true)], args := [d] }
  | _ => none }
def fnExactNumberOfRow : OpenClaim := { program := "ytfnginkcmcfdfaagreatdoor", sum := "1b607e2e0dbdbbd9db7b0250694b6a7f8541c5fb7bf1bc407081908da65e3822", func := "loop.example/g00868/laws.FnExactNumberOf", spec := "fnExactNumberOf", recurses := true, named := ["internal/strconv.uint64pow10", "math/bits.deBruijn32tab", "math/bits.deBruijn64tab"], plainKeys := false, apart := false, laid := [("math/bits.deBruijn32tab", laid_math_bits_deBruijn32tab), ("math/bits.deBruijn64tab", laid_math_bits_deBruijn64tab), ("internal/strconv.uint64pow10", laid_internal_strconv_uint64pow10)] }
def FnExactNumberOfSaid : Prop := fnExactNumberOfRow.holds Tryz.pinned (OpenSpec.ofChange fnExactNumberOfSpec)

/-- ITS FALSE NEIGHBOUR: 'it returns false'. Refute it at one input. -/
def fnExactNumberOfWrong : ChangeSpec := { name := "fnExactNumberOf", fn := fun _ => fun
  | [d] => { results := [.lit (.bool false)], args := [d] }
  | _ => none }
def FnExactNumberOfWrongFalsely : Prop := fnExactNumberOfRow.holds Tryz.pinned (OpenSpec.ofChange fnExactNumberOfWrong)

/-- 'laws.FnExactSimplestFor': WHATEVER THE INPUT: true; the input reads as it did. -/
def fnExactSimplestForSpec : ChangeSpec := { name := "fnExactSimplestFor", fn := fun _ => fun
  | [d] => { results := [.lit (.bool true)], args := [d] }
  | _ => none }
def fnExactSimplestForRow : OpenClaim := { program := "ytfnginkcmcfdfaagreatdoor", sum := "1b607e2e0dbdbbd9db7b0250694b6a7f8541c5fb7bf1bc407081908da65e3822", func := "loop.example/g00868/laws.FnExactSimplestFor", spec := "fnExactSimplestFor", recurses := true, named := ["internal/strconv.uint64pow10", "math/bits.deBruijn32tab", "math/bits.deBruijn64tab"], plainKeys := false, apart := false, laid := [("math/bits.deBruijn32tab", laid_math_bits_deBruijn32tab), ("math/bits.deBruijn64tab", laid_math_bits_deBruijn64tab), ("internal/strconv.uint64pow10", laid_internal_strconv_uint64pow10)] }
def FnExactSimplestForSaid : Prop := fnExactSimplestForRow.holds Tryz.pinned (OpenSpec.ofChange fnExactSimplestForSpec)

/-- ITS FALSE NEIGHBOUR: 'it returns false'. Refute it at one input. -/
def fnExactSimplestForWrong : ChangeSpec := { name := "fnExactSimplestFor", fn := fun _ => fun
  | [d] => { results := [.lit (.bool false)], args := [d] }
  | _ => none }
def FnExactSimplestForWrongFalsely : Prop := fnExactSimplestForRow.holds Tryz.pinned (OpenSpec.ofChange fnExactSimplestForWrong)

/-- 'laws.FnExactStarOf': WHATEVER THE INPUT: true; the input reads as it did. -/
def fnExactStarOfSpec : ChangeSpec := { name := "fnExactStarOf", fn := fun _ => fun
  | [d] => { results := [.lit (.bool true)], args := [d] }
  | _ => none }
def fnExactStarOfRow : OpenClaim := { program := "ytfnginkcmcfdfaagreatdoor", sum := "1b607e2e0dbdbbd9db7b0250694b6a7f8541c5fb7bf1bc407081908da65e3822", func := "loop.example/g00868/laws.FnExactStarOf", spec := "fnExactStarOf", recurses := true, named := ["internal/strconv.uint64pow10", "math/bits.deBruijn32tab", "math/bits.deBruijn64tab"], plainKeys := false, apart := false, laid := [("math/bits.deBruijn32tab", laid_math_bits_deBruijn32tab), ("math/bits.deBruijn64tab", laid_math_bits_deBruijn64tab), ("internal/strconv.uint64pow10", laid_internal_strconv_uint64pow10)] }
def FnExactStarOfSaid : Prop := fnExactStarOfRow.holds Tryz.pinned (OpenSpec.ofChange fnExactStarOfSpec)

/-- ITS FALSE NEIGHBOUR: 'it returns false'. Refute it at one input. -/
def fnExactStarOfWrong : ChangeSpec := { name := "fnExactStarOf", fn := fun _ => fun
  | [d] => { results := [.lit (.bool false)], args := [d] }
  | _ => none }
def FnExactStarOfWrongFalsely : Prop := fnExactStarOfRow.holds Tryz.pinned (OpenSpec.ofChange fnExactStarOfWrong)

/-- 'laws.FnExactUpsForm': WHATEVER THE INPUT: true; the input reads as it did. -/
def fnExactUpsFormSpec : ChangeSpec := { name := "fnExactUpsForm", fn := fun _ => fun
  | [d1, d2] => { results := [.lit (.bool true)], args := [d1, d2] }
  | _ => none }
def fnExactUpsFormRow : OpenClaim := { program := "ytfnginkcmcfdfaagreatdoor", sum := "1b607e2e0dbdbbd9db7b0250694b6a7f8541c5fb7bf1bc407081908da65e3822", func := "loop.example/g00868/laws.FnExactUpsForm", spec := "fnExactUpsForm", unfollowed := true, recurses := true, named := ["internal/strconv.uint64pow10", "math/bits.deBruijn32tab", "math/bits.deBruijn64tab"], plainKeys := false, apart := false, laid := [("math/bits.deBruijn32tab", laid_math_bits_deBruijn32tab), ("math/bits.deBruijn64tab", laid_math_bits_deBruijn64tab), ("internal/strconv.uint64pow10", laid_internal_strconv_uint64pow10)] }
def FnExactUpsFormSaid : Prop := fnExactUpsFormRow.holds Tryz.pinned (OpenSpec.ofChange fnExactUpsFormSpec)

/-- ITS FALSE NEIGHBOUR: 'it returns false'. Refute it at one input. -/
def fnExactUpsFormWrong : ChangeSpec := { name := "fnExactUpsForm", fn := fun _ => fun
  | [d1, d2] => { results := [.lit (.bool false)], args := [d1, d2] }
  | _ => none }
def FnExactUpsFormWrongFalsely : Prop := fnExactUpsFormRow.holds Tryz.pinned (OpenSpec.ofChange fnExactUpsFormWrong)

/-- 'laws.FnExactSwitchForm': WHATEVER THE INPUT: true; the input reads as it did. -/
def fnExactSwitchFormSpec : ChangeSpec := { name := "fnExactSwitchForm", fn := fun _ => fun
  | [d1, d2] => { results := [.lit (.bool true)], args := [d1, d2] }
  | _ => none }
def fnExactSwitchFormRow : OpenClaim := { program := "ytfnginkcmcfdfaagreatdoor", sum := "1b607e2e0dbdbbd9db7b0250694b6a7f8541c5fb7bf1bc407081908da65e3822", func := "loop.example/g00868/laws.FnExactSwitchForm", spec := "fnExactSwitchForm", unfollowed := true, recurses := true, named := ["internal/strconv.uint64pow10", "math/bits.deBruijn32tab", "math/bits.deBruijn64tab"], plainKeys := false, apart := false, laid := [("math/bits.deBruijn32tab", laid_math_bits_deBruijn32tab), ("math/bits.deBruijn64tab", laid_math_bits_deBruijn64tab), ("internal/strconv.uint64pow10", laid_internal_strconv_uint64pow10)] }
def FnExactSwitchFormSaid : Prop := fnExactSwitchFormRow.holds Tryz.pinned (OpenSpec.ofChange fnExactSwitchFormSpec)

/-- ITS FALSE NEIGHBOUR: 'it returns false'. Refute it at one input. -/
def fnExactSwitchFormWrong : ChangeSpec := { name := "fnExactSwitchForm", fn := fun _ => fun
  | [d1, d2] => { results := [.lit (.bool false)], args := [d1, d2] }
  | _ => none }
def FnExactSwitchFormWrongFalsely : Prop := fnExactSwitchFormRow.holds Tryz.pinned (OpenSpec.ofChange fnExactSwitchFormWrong)

/-- 'laws.FnExactTinyForm': WHATEVER THE INPUT: true; the input reads as it did. -/
def fnExactTinyFormSpec : ChangeSpec := { name := "fnExactTinyForm", fn := fun _ => fun
  | [d] => { results := [.lit (.bool true)], args := [d] }
  | _ => none }
def fnExactTinyFormRow : OpenClaim := { program := "ytfnginkcmcfdfaagreatdoor", sum := "1b607e2e0dbdbbd9db7b0250694b6a7f8541c5fb7bf1bc407081908da65e3822", func := "loop.example/g00868/laws.FnExactTinyForm", spec := "fnExactTinyForm", unfollowed := true, recurses := true, named := ["internal/strconv.uint64pow10", "math/bits.deBruijn32tab", "math/bits.deBruijn64tab"], plainKeys := false, apart := false, laid := [("math/bits.deBruijn32tab", laid_math_bits_deBruijn32tab), ("math/bits.deBruijn64tab", laid_math_bits_deBruijn64tab), ("internal/strconv.uint64pow10", laid_internal_strconv_uint64pow10)] }
def FnExactTinyFormSaid : Prop := fnExactTinyFormRow.holds Tryz.pinned (OpenSpec.ofChange fnExactTinyFormSpec)

/-- ITS FALSE NEIGHBOUR: 'it returns false'. Refute it at one input. -/
def fnExactTinyFormWrong : ChangeSpec := { name := "fnExactTinyForm", fn := fun _ => fun
  | [d] => { results := [.lit (.bool false)], args := [d] }
  | _ => none }
def FnExactTinyFormWrongFalsely : Prop := fnExactTinyFormRow.holds Tryz.pinned (OpenSpec.ofChange fnExactTinyFormWrong)

/-- 'laws.FnExactSwitchOf': WHATEVER THE INPUT: true; the input reads as it did. -/
def fnExactSwitchOfSpec : ChangeSpec := { name := "fnExactSwitchOf", fn := fun _ => fun
  | [d] => { results := [.lit (.bool true)], args := [d] }
  | _ => none }
def fnExactSwitchOfRow : OpenClaim := { program := "ytfnginkcmcfdfaagreatdoor", sum := "1b607e2e0dbdbbd9db7b0250694b6a7f8541c5fb7bf1bc407081908da65e3822", func := "loop.example/g00868/laws.FnExactSwitchOf", spec := "fnExactSwitchOf", recurses := true, named := ["internal/strconv.uint64pow10", "math/bits.deBruijn32tab", "math/bits.deBruijn64tab"], plainKeys := false, apart := false, laid := [("math/bits.deBruijn32tab", laid_math_bits_deBruijn32tab), ("math/bits.deBruijn64tab", laid_math_bits_deBruijn64tab), ("internal/strconv.uint64pow10", laid_internal_strconv_uint64pow10)] }
def FnExactSwitchOfSaid : Prop := fnExactSwitchOfRow.holds Tryz.pinned (OpenSpec.ofChange fnExactSwitchOfSpec)

/-- ITS FALSE NEIGHBOUR: 'it returns false'. Refute it at one input. -/
def fnExactSwitchOfWrong : ChangeSpec := { name := "fnExactSwitchOf", fn := fun _ => fun
  | [d] => { results := [.lit (.bool false)], args := [d] }
  | _ => none }
def FnExactSwitchOfWrongFalsely : Prop := fnExactSwitchOfRow.holds Tryz.pinned (OpenSpec.ofChange fnExactSwitchOfWrong)

/-- 'laws.FnExactLeftStop': WHATEVER THE INPUT: true; the input reads as it did. -/
def fnExactLeftStopSpec : ChangeSpec := { name := "fnExactLeftStop", fn := fun _ => fun
  | [d] => { results := [.lit (.bool true)], args := [d] }
  | _ => none }
def fnExactLeftStopRow : OpenClaim := { program := "ytfnginkcmcfdfaagreatdoor", sum := "1b607e2e0dbdbbd9db7b0250694b6a7f8541c5fb7bf1bc407081908da65e3822", func := "loop.example/g00868/laws.FnExactLeftStop", spec := "fnExactLeftStop", recurses := true, named := ["internal/strconv.uint64pow10", "math/bits.deBruijn32tab", "math/bits.deBruijn64tab"], plainKeys := false, apart := false, laid := [("math/bits.deBruijn32tab", laid_math_bits_deBruijn32tab), ("math/bits.deBruijn64tab", laid_math_bits_deBruijn64tab), ("internal/strconv.uint64pow10", laid_internal_strconv_uint64pow10)] }
def FnExactLeftStopSaid : Prop := fnExactLeftStopRow.holds Tryz.pinned (OpenSpec.ofChange fnExactLeftStopSpec)

/-- ITS FALSE NEIGHBOUR: 'it returns false'. Refute it at one input. -/
def fnExactLeftStopWrong : ChangeSpec := { name := "fnExactLeftStop", fn := fun _ => fun
  | [d] => { results := [.lit (.bool false)], args := [d] }
  | _ => none }
def FnExactLeftStopWrongFalsely : Prop := fnExactLeftStopRow.holds Tryz.pinned (OpenSpec.ofChange fnExactLeftStopWrong)

/- THE SECOND FORM. 'bulk': how many values and letters a reading holds, each counted each time it is reached (what is shared counts as often as it is met; a slice's spare places count too). A statement '..UptoSaid' is the law's where the arguments, and the package variables that the reading takes, are together of bulk at most 1048576: NARROWER than '..Said'. Prove '..Said' where nothing that the law and all that it calls make is longer than what came in: it says more and counts as full. Else prove '..UptoSaid'. A law counts once. -/
mutual
def uptoBulk {H : Type} : DataW H → Nat
  | .lit (.string bytes) => bytes.length + 1
  | .lit _ => 1
  | .nil => 1
  | .ptr d => uptoBulk d + 1
  | .slice elems spare => uptoBulkAll elems + uptoBulkAll spare + 1
  | .agg parts => uptoBulkAll parts + 1
  | .iface _ d => uptoBulk d + 1
  | .map entries => uptoBulkEntries entries + 1
  | .held _ => 1
def uptoBulkAll {H : Type} : List (DataW H) → Nat
  | [] => 0
  | d :: r => uptoBulk d + uptoBulkAll r
def uptoBulkEntries {H : Type} : List (Lit × DataW H) → Nat
  | [] => 0
  | x :: r => uptoBulkEntry x + uptoBulkEntries r
def uptoBulkEntry {H : Type} : Lit × DataW H → Nat
  | (.string bytes, d) => bytes.length + uptoBulk d + 1
  | (_, d) => uptoBulk d + 1
 end
def uptoSmall : (H : Type) → List (DataW H) → Bool := fun _ ds => decide (uptoBulkAll ds ≤ 1048576)
def OpenSpec.upto (s : _root_.Go.ChangeSpec) : _root_.Go.OpenSpec := { _root_.Go.OpenSpec.ofChange s with cond := some uptoSmall }

/-- 'laws.FnExactFitsNumber', WHERE WHAT IT READS IS OF BULK AT MOST 1048576: true; the input reads as it did. -/
def fnExactFitsNumberUptoRow : OpenClaim := { program := "ytfnginkcmcfdfaagreatdoor", sum := "1b607e2e0dbdbbd9db7b0250694b6a7f8541c5fb7bf1bc407081908da65e3822", func := "loop.example/g00868/laws.FnExactFitsNumber", spec := "fnExactFitsNumber", recurses := true, named := ["internal/strconv.uint64pow10", "math/bits.deBruijn32tab", "math/bits.deBruijn64tab"], plainKeys := false, apart := false, laid := [("math/bits.deBruijn32tab", laid_math_bits_deBruijn32tab), ("math/bits.deBruijn64tab", laid_math_bits_deBruijn64tab), ("internal/strconv.uint64pow10", laid_internal_strconv_uint64pow10)], narrowed := true }
def FnExactFitsNumberUptoSaid : Prop := fnExactFitsNumberUptoRow.holds Tryz.pinned (OpenSpec.upto fnExactFitsNumberSpec)

/-- 'laws.FnExactNumberForm', WHERE WHAT IT READS IS OF BULK AT MOST 1048576: true; the input reads as it did. -/
def fnExactNumberFormUptoRow : OpenClaim := { program := "ytfnginkcmcfdfaagreatdoor", sum := "1b607e2e0dbdbbd9db7b0250694b6a7f8541c5fb7bf1bc407081908da65e3822", func := "loop.example/g00868/laws.FnExactNumberForm", spec := "fnExactNumberForm", unfollowed := true, recurses := true, named := ["internal/strconv.uint64pow10", "math/bits.deBruijn32tab", "math/bits.deBruijn64tab"], plainKeys := false, apart := false, laid := [("math/bits.deBruijn32tab", laid_math_bits_deBruijn32tab), ("math/bits.deBruijn64tab", laid_math_bits_deBruijn64tab), ("internal/strconv.uint64pow10", laid_internal_strconv_uint64pow10)], narrowed := true }
def FnExactNumberFormUptoSaid : Prop := fnExactNumberFormUptoRow.holds Tryz.pinned (OpenSpec.upto fnExactNumberFormSpec)

/-- 'laws.FnExactIsWhole', WHERE WHAT IT READS IS OF BULK AT MOST 1048576: true; the input reads as it did. -/
def fnExactIsWholeUptoRow : OpenClaim := { program := "ytfnginkcmcfdfaagreatdoor", sum := "1b607e2e0dbdbbd9db7b0250694b6a7f8541c5fb7bf1bc407081908da65e3822", func := "loop.example/g00868/laws.FnExactIsWhole", spec := "fnExactIsWhole", recurses := true, named := ["internal/strconv.uint64pow10", "math/bits.deBruijn32tab", "math/bits.deBruijn64tab"], plainKeys := false, apart := false, laid := [("math/bits.deBruijn32tab", laid_math_bits_deBruijn32tab), ("math/bits.deBruijn64tab", laid_math_bits_deBruijn64tab), ("internal/strconv.uint64pow10", laid_internal_strconv_uint64pow10)], narrowed := true }
def FnExactIsWholeUptoSaid : Prop := fnExactIsWholeUptoRow.holds Tryz.pinned (OpenSpec.upto fnExactIsWholeSpec)

/-- 'laws.FnExactLessForm', WHERE WHAT IT READS IS OF BULK AT MOST 1048576: true; the input reads as it did. -/
def fnExactLessFormUptoRow : OpenClaim := { program := "ytfnginkcmcfdfaagreatdoor", sum := "1b607e2e0dbdbbd9db7b0250694b6a7f8541c5fb7bf1bc407081908da65e3822", func := "loop.example/g00868/laws.FnExactLessForm", spec := "fnExactLessForm", unfollowed := true, recurses := true, named := ["internal/strconv.uint64pow10", "math/bits.deBruijn32tab", "math/bits.deBruijn64tab"], plainKeys := false, apart := false, laid := [("math/bits.deBruijn32tab", laid_math_bits_deBruijn32tab), ("math/bits.deBruijn64tab", laid_math_bits_deBruijn64tab), ("internal/strconv.uint64pow10", laid_internal_strconv_uint64pow10)], narrowed := true }
def FnExactLessFormUptoSaid : Prop := fnExactLessFormUptoRow.holds Tryz.pinned (OpenSpec.upto fnExactLessFormSpec)

/-- 'laws.FnExactNumberOf', WHERE WHAT IT READS IS OF BULK AT MOST 1048576: true; the input reads as it did. -/
def fnExactNumberOfUptoRow : OpenClaim := { program := "ytfnginkcmcfdfaagreatdoor", sum := "1b607e2e0dbdbbd9db7b0250694b6a7f8541c5fb7bf1bc407081908da65e3822", func := "loop.example/g00868/laws.FnExactNumberOf", spec := "fnExactNumberOf", recurses := true, named := ["internal/strconv.uint64pow10", "math/bits.deBruijn32tab", "math/bits.deBruijn64tab"], plainKeys := false, apart := false, laid := [("math/bits.deBruijn32tab", laid_math_bits_deBruijn32tab), ("math/bits.deBruijn64tab", laid_math_bits_deBruijn64tab), ("internal/strconv.uint64pow10", laid_internal_strconv_uint64pow10)], narrowed := true }
def FnExactNumberOfUptoSaid : Prop := fnExactNumberOfUptoRow.holds Tryz.pinned (OpenSpec.upto fnExactNumberOfSpec)

/-- 'laws.FnExactSimplestFor', WHERE WHAT IT READS IS OF BULK AT MOST 1048576: true; the input reads as it did. -/
def fnExactSimplestForUptoRow : OpenClaim := { program := "ytfnginkcmcfdfaagreatdoor", sum := "1b607e2e0dbdbbd9db7b0250694b6a7f8541c5fb7bf1bc407081908da65e3822", func := "loop.example/g00868/laws.FnExactSimplestFor", spec := "fnExactSimplestFor", recurses := true, named := ["internal/strconv.uint64pow10", "math/bits.deBruijn32tab", "math/bits.deBruijn64tab"], plainKeys := false, apart := false, laid := [("math/bits.deBruijn32tab", laid_math_bits_deBruijn32tab), ("math/bits.deBruijn64tab", laid_math_bits_deBruijn64tab), ("internal/strconv.uint64pow10", laid_internal_strconv_uint64pow10)], narrowed := true }
def FnExactSimplestForUptoSaid : Prop := fnExactSimplestForUptoRow.holds Tryz.pinned (OpenSpec.upto fnExactSimplestForSpec)

/-- 'laws.FnExactStarOf', WHERE WHAT IT READS IS OF BULK AT MOST 1048576: true; the input reads as it did. -/
def fnExactStarOfUptoRow : OpenClaim := { program := "ytfnginkcmcfdfaagreatdoor", sum := "1b607e2e0dbdbbd9db7b0250694b6a7f8541c5fb7bf1bc407081908da65e3822", func := "loop.example/g00868/laws.FnExactStarOf", spec := "fnExactStarOf", recurses := true, named := ["internal/strconv.uint64pow10", "math/bits.deBruijn32tab", "math/bits.deBruijn64tab"], plainKeys := false, apart := false, laid := [("math/bits.deBruijn32tab", laid_math_bits_deBruijn32tab), ("math/bits.deBruijn64tab", laid_math_bits_deBruijn64tab), ("internal/strconv.uint64pow10", laid_internal_strconv_uint64pow10)], narrowed := true }
def FnExactStarOfUptoSaid : Prop := fnExactStarOfUptoRow.holds Tryz.pinned (OpenSpec.upto fnExactStarOfSpec)

/-- 'laws.FnExactUpsForm', WHERE WHAT IT READS IS OF BULK AT MOST 1048576: true; the input reads as it did. -/
def fnExactUpsFormUptoRow : OpenClaim := { program := "ytfnginkcmcfdfaagreatdoor", sum := "1b607e2e0dbdbbd9db7b0250694b6a7f8541c5fb7bf1bc407081908da65e3822", func := "loop.example/g00868/laws.FnExactUpsForm", spec := "fnExactUpsForm", unfollowed := true, recurses := true, named := ["internal/strconv.uint64pow10", "math/bits.deBruijn32tab", "math/bits.deBruijn64tab"], plainKeys := false, apart := false, laid := [("math/bits.deBruijn32tab", laid_math_bits_deBruijn32tab), ("math/bits.deBruijn64tab", laid_math_bits_deBruijn64tab), ("internal/strconv.uint64pow10", laid_internal_strconv_uint64pow10)], narrowed := true }
def FnExactUpsFormUptoSaid : Prop := fnExactUpsFormUptoRow.holds Tryz.pinned (OpenSpec.upto fnExactUpsFormSpec)

/-- 'laws.FnExactSwitchForm', WHERE WHAT IT READS IS OF BULK AT MOST 1048576: true; the input reads as it did. -/
def fnExactSwitchFormUptoRow : OpenClaim := { program := "ytfnginkcmcfdfaagreatdoor", sum := "1b607e2e0dbdbbd9db7b0250694b6a7f8541c5fb7bf1bc407081908da65e3822", func := "loop.example/g00868/laws.FnExactSwitchForm", spec := "fnExactSwitchForm", unfollowed := true, recurses := true, named := ["internal/strconv.uint64pow10", "math/bits.deBruijn32tab", "math/bits.deBruijn64tab"], plainKeys := false, apart := false, laid := [("math/bits.deBruijn32tab", laid_math_bits_deBruijn32tab), ("math/bits.deBruijn64tab", laid_math_bits_deBruijn64tab), ("internal/strconv.uint64pow10", laid_internal_strconv_uint64pow10)], narrowed := true }
def FnExactSwitchFormUptoSaid : Prop := fnExactSwitchFormUptoRow.holds Tryz.pinned (OpenSpec.upto fnExactSwitchFormSpec)

/-- 'laws.FnExactTinyForm', WHERE WHAT IT READS IS OF BULK AT MOST 1048576: true; the input reads as it did. -/
def fnExactTinyFormUptoRow : OpenClaim := { program := "ytfnginkcmcfdfaagreatdoor", sum := "1b607e2e0dbdbbd9db7b0250694b6a7f8541c5fb7bf1bc407081908da65e3822", func := "loop.example/g00868/laws.FnExactTinyForm", spec := "fnExactTinyForm", unfollowed := true, recurses := true, named := ["internal/strconv.uint64pow10", "math/bits.deBruijn32tab", "math/bits.deBruijn64tab"], plainKeys := false, apart := false, laid := [("math/bits.deBruijn32tab", laid_math_bits_deBruijn32tab), ("math/bits.deBruijn64tab", laid_math_bits_deBruijn64tab), ("internal/strconv.uint64pow10", laid_internal_strconv_uint64pow10)], narrowed := true }
def FnExactTinyFormUptoSaid : Prop := fnExactTinyFormUptoRow.holds Tryz.pinned (OpenSpec.upto fnExactTinyFormSpec)

/-- 'laws.FnExactSwitchOf', WHERE WHAT IT READS IS OF BULK AT MOST 1048576: true; the input reads as it did. -/
def fnExactSwitchOfUptoRow : OpenClaim := { program := "ytfnginkcmcfdfaagreatdoor", sum := "1b607e2e0dbdbbd9db7b0250694b6a7f8541c5fb7bf1bc407081908da65e3822", func := "loop.example/g00868/laws.FnExactSwitchOf", spec := "fnExactSwitchOf", recurses := true, named := ["internal/strconv.uint64pow10", "math/bits.deBruijn32tab", "math/bits.deBruijn64tab"], plainKeys := false, apart := false, laid := [("math/bits.deBruijn32tab", laid_math_bits_deBruijn32tab), ("math/bits.deBruijn64tab", laid_math_bits_deBruijn64tab), ("internal/strconv.uint64pow10", laid_internal_strconv_uint64pow10)], narrowed := true }
def FnExactSwitchOfUptoSaid : Prop := fnExactSwitchOfUptoRow.holds Tryz.pinned (OpenSpec.upto fnExactSwitchOfSpec)

/-- 'laws.FnExactLeftStop', WHERE WHAT IT READS IS OF BULK AT MOST 1048576: true; the input reads as it did. -/
def fnExactLeftStopUptoRow : OpenClaim := { program := "ytfnginkcmcfdfaagreatdoor", sum := "1b607e2e0dbdbbd9db7b0250694b6a7f8541c5fb7bf1bc407081908da65e3822", func := "loop.example/g00868/laws.FnExactLeftStop", spec := "fnExactLeftStop", recurses := true, named := ["internal/strconv.uint64pow10", "math/bits.deBruijn32tab", "math/bits.deBruijn64tab"], plainKeys := false, apart := false, laid := [("math/bits.deBruijn32tab", laid_math_bits_deBruijn32tab), ("math/bits.deBruijn64tab", laid_math_bits_deBruijn64tab), ("internal/strconv.uint64pow10", laid_internal_strconv_uint64pow10)], narrowed := true }
def FnExactLeftStopUptoSaid : Prop := fnExactLeftStopUptoRow.holds Tryz.pinned (OpenSpec.upto fnExactLeftStopSpec)

end Rows
end Go.Proofs.YtfnginkcmcfdfaaGreatDoor

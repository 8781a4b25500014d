/-
  NARROWER THAN 'FOR EVERY INPUT', by the rows' own cells (each row's printed sentence says how): FnThree: laid · FnBent: laid · FnAhead: laid · FnParts: laid · FnNumberOrder: laid · FnNegOrder: laid · FnOrdinal: laid.
  DERIVED. THE GIVEN ROWS OF THIS SEAT. 7 by the template 'for every input the law returns true; each argument reads behind the call as it read before'; 0 by the template 'total and deterministic' (their statements: YtkfgdhanaijddaaGreatDoorTotals.lean).
  GIVEN WITH THE SEED: the statements are not yours to turn. If you find one false, say at which input.
  Laid BY PROGRAM, IN A SANDBOX (cutbox-rows.mjs): the forced cells as the released guide's own fill.sh prints them over the translation b4e24ac458858fff… (all of the seat's roots in one cut). By AI agents, Wed Nov 11 2026. No macro, syntax, notation, axiom, sorry.
-/
import Derived.Test.YtkfgdhanaijddaaGreatDoorChecked
import GoSem.Claim
import GoSem.ClaimJoined
import GoSem.ClaimMapViews
import Derived.JoinedTies
import Derived.KernelRfl
namespace Go.Proofs.YtkfgdhanaijddaaGreatDoor
/- THE CELL 'sum', in the pinned program and in every row, IS THE sha256 OF THE DUMP (.gsa) THAT YtkfgdhanaijddaaGreatDoorProg.lean LOADS. Nothing in Lean hashes anything: it is a label: what it is worth is what the hold of that sum in a sandbox is worth. -/
noncomputable def Tryz.pinned : Pinned := { name := "ytkfgdhanaijddaagreatdoor", sum := "b4e24ac458858fff2b26f2b1f87c7548ddf2c5d4a4f0db836ba403743b4805a3", checked := Tryz.checked }
namespace Rows
def none {H : Type} : Left H := { results := [], args := [] }

/- WHAT THE LISTED PACKAGE-LEVEL VARIABLES READ AS WHEN THE CALL BEGINS. Each datum BY PROGRAM (the guide's laid-datum.mjs) off the statement by which the dump's own 'gosem.cut.vars' lays the variable. In a bare row this is a premise. The card (YtkfgdhanaijddaaGreatDoorCards.lean) ties it to the program's text. -/
def laid_math_bits_deBruijn32tab {H : Type} : DataW H := .agg [.lit (.int .u8 0), .lit (.int .u8 1), .lit (.int .u8 28), .lit (.int .u8 2), .lit (.int .u8 29), .lit (.int .u8 14), .lit (.int .u8 24), .lit (.int .u8 3), .lit (.int .u8 30), .lit (.int .u8 22), .lit (.int .u8 20), .lit (.int .u8 15), .lit (.int .u8 25), .lit (.int .u8 17), .lit (.int .u8 4), .lit (.int .u8 8), .lit (.int .u8 31), .lit (.int .u8 27), .lit (.int .u8 13), .lit (.int .u8 23), .lit (.int .u8 21), .lit (.int .u8 19), .lit (.int .u8 16), .lit (.int .u8 7), .lit (.int .u8 26), .lit (.int .u8 12), .lit (.int .u8 18), .lit (.int .u8 6), .lit (.int .u8 11), .lit (.int .u8 5), .lit (.int .u8 10), .lit (.int .u8 9)]
def laid_math_bits_deBruijn64tab {H : Type} : DataW H := .agg [.lit (.int .u8 0), .lit (.int .u8 1), .lit (.int .u8 56), .lit (.int .u8 2), .lit (.int .u8 57), .lit (.int .u8 49), .lit (.int .u8 28), .lit (.int .u8 3), .lit (.int .u8 61), .lit (.int .u8 58), .lit (.int .u8 42), .lit (.int .u8 50), .lit (.int .u8 38), .lit (.int .u8 29), .lit (.int .u8 17), .lit (.int .u8 4), .lit (.int .u8 62), .lit (.int .u8 47), .lit (.int .u8 59), .lit (.int .u8 36), .lit (.int .u8 45), .lit (.int .u8 43), .lit (.int .u8 51), .lit (.int .u8 22), .lit (.int .u8 53), .lit (.int .u8 39), .lit (.int .u8 33), .lit (.int .u8 30), .lit (.int .u8 24), .lit (.int .u8 18), .lit (.int .u8 12), .lit (.int .u8 5), .lit (.int .u8 63), .lit (.int .u8 55), .lit (.int .u8 48), .lit (.int .u8 27), .lit (.int .u8 60), .lit (.int .u8 41), .lit (.int .u8 37), .lit (.int .u8 16), .lit (.int .u8 46), .lit (.int .u8 35), .lit (.int .u8 44), .lit (.int .u8 21), .lit (.int .u8 52), .lit (.int .u8 32), .lit (.int .u8 23), .lit (.int .u8 11), .lit (.int .u8 54), .lit (.int .u8 26), .lit (.int .u8 40), .lit (.int .u8 15), .lit (.int .u8 34), .lit (.int .u8 20), .lit (.int .u8 31), .lit (.int .u8 10), .lit (.int .u8 25), .lit (.int .u8 14), .lit (.int .u8 19), .lit (.int .u8 9), .lit (.int .u8 13), .lit (.int .u8 8), .lit (.int .u8 7), .lit (.int .u8 6)]
def laid_internal_strconv_uint64pow10 {H : Type} : DataW H := .agg [.lit (.int .u64 1), .lit (.int .u64 10), .lit (.int .u64 100), .lit (.int .u64 1000), .lit (.int .u64 10000), .lit (.int .u64 100000), .lit (.int .u64 1000000), .lit (.int .u64 10000000), .lit (.int .u64 100000000), .lit (.int .u64 1000000000), .lit (.int .u64 10000000000), .lit (.int .u64 100000000000), .lit (.int .u64 1000000000000), .lit (.int .u64 10000000000000), .lit (.int .u64 100000000000000), .lit (.int .u64 1000000000000000), .lit (.int .u64 10000000000000000), .lit (.int .u64 100000000000000000), .lit (.int .u64 1000000000000000000), .lit (.int .u64 10000000000000000000)]

/-- 'laws.FnThree': WHATEVER THE INPUT: true; the input reads as it did. -/
def fnThreeSpec : ChangeSpec := { name := "fnThree", fn := fun _ => fun
  | [d] => { results := [.lit (.bool true)], args := [d] }
  | _ => none }
def fnThreeRow : OpenClaim := { program := "ytkfgdhanaijddaagreatdoor", sum := "b4e24ac458858fff2b26f2b1f87c7548ddf2c5d4a4f0db836ba403743b4805a3", func := "loop.example/g00868/laws.FnThree", spec := "fnThree", unfollowed := true, recurses := true, named := ["internal/strconv.uint64pow10", "math/bits.deBruijn32tab", "math/bits.deBruijn64tab"], plainKeys := false, apart := false, laid := [("math/bits.deBruijn32tab", laid_math_bits_deBruijn32tab), ("math/bits.deBruijn64tab", laid_math_bits_deBruijn64tab), ("internal/strconv.uint64pow10", laid_internal_strconv_uint64pow10)] }
def FnThreeSaid : Prop := fnThreeRow.holds Tryz.pinned (OpenSpec.ofChange fnThreeSpec)

/-- ITS FALSE NEIGHBOUR: 'it returns false'. Refute it at one input. -/
def fnThreeWrong : ChangeSpec := { name := "fnThree", fn := fun _ => fun
  | [d] => { results := [.lit (.bool false)], args := [d] }
  | _ => none }
def FnThreeWrongFalsely : Prop := fnThreeRow.holds Tryz.pinned (OpenSpec.ofChange fnThreeWrong)

/-- 'laws.FnBent': WHATEVER THE INPUT: true; the input reads as it did. -/
def fnBentSpec : ChangeSpec := { name := "fnBent", fn := fun _ => fun
  | [d] => { results := [.lit (.bool true)], args := [d] }
  | _ => none }
def fnBentRow : OpenClaim := { program := "ytkfgdhanaijddaagreatdoor", sum := "b4e24ac458858fff2b26f2b1f87c7548ddf2c5d4a4f0db836ba403743b4805a3", func := "loop.example/g00868/laws.FnBent", spec := "fnBent", recurses := true, named := ["internal/strconv.uint64pow10", "math/bits.deBruijn32tab", "math/bits.deBruijn64tab"], plainKeys := false, apart := false, laid := [("math/bits.deBruijn32tab", laid_math_bits_deBruijn32tab), ("math/bits.deBruijn64tab", laid_math_bits_deBruijn64tab), ("internal/strconv.uint64pow10", laid_internal_strconv_uint64pow10)] }
def FnBentSaid : Prop := fnBentRow.holds Tryz.pinned (OpenSpec.ofChange fnBentSpec)

/-- ITS FALSE NEIGHBOUR: 'it returns false'. Refute it at one input. -/
def fnBentWrong : ChangeSpec := { name := "fnBent", fn := fun _ => fun
  | [d] => { results := [.lit (.bool false)], args := [d] }
  | _ => none }
def FnBentWrongFalsely : Prop := fnBentRow.holds Tryz.pinned (OpenSpec.ofChange fnBentWrong)

/-- 'laws.FnAhead': WHATEVER THE INPUT: true; the input reads as it did. -/
def fnAheadSpec : ChangeSpec := { name := "fnAhead", fn := fun _ => fun
  | [d] => { results := [.lit (.bool true)], args := [d] }
  | _ => none }
def fnAheadRow : OpenClaim := { program := "ytkfgdhanaijddaagreatdoor", sum := "b4e24ac458858fff2b26f2b1f87c7548ddf2c5d4a4f0db836ba403743b4805a3", func := "loop.example/g00868/laws.FnAhead", spec := "fnAhead", unfollowed := true, recurses := true, named := ["internal/strconv.uint64pow10", "math/bits.deBruijn32tab", "math/bits.deBruijn64tab"], plainKeys := false, apart := false, laid := [("math/bits.deBruijn32tab", laid_math_bits_deBruijn32tab), ("math/bits.deBruijn64tab", laid_math_bits_deBruijn64tab), ("internal/strconv.uint64pow10", laid_internal_strconv_uint64pow10)] }
def FnAheadSaid : Prop := fnAheadRow.holds Tryz.pinned (OpenSpec.ofChange fnAheadSpec)

/-- ITS FALSE NEIGHBOUR: 'it returns false'. Refute it at one input. -/
def fnAheadWrong : ChangeSpec := { name := "fnAhead", fn := fun _ => fun
  | [d] => { results := [.lit (.bool false)], args := [d] }
  | _ => none }
def FnAheadWrongFalsely : Prop := fnAheadRow.holds Tryz.pinned (OpenSpec.ofChange fnAheadWrong)

/-- 'laws.FnParts': WHATEVER THE INPUT: true; the input reads as it did. -/
def fnPartsSpec : ChangeSpec := { name := "fnParts", fn := fun _ => fun
  | [d] => { results := [.lit (.bool true)], args := [d] }
  | _ => none }
def fnPartsRow : OpenClaim := { program := "ytkfgdhanaijddaagreatdoor", sum := "b4e24ac458858fff2b26f2b1f87c7548ddf2c5d4a4f0db836ba403743b4805a3", func := "loop.example/g00868/laws.FnParts", spec := "fnParts", unfollowed := true, recurses := true, named := ["internal/strconv.uint64pow10", "math/bits.deBruijn32tab", "math/bits.deBruijn64tab"], plainKeys := false, apart := false, laid := [("math/bits.deBruijn32tab", laid_math_bits_deBruijn32tab), ("math/bits.deBruijn64tab", laid_math_bits_deBruijn64tab), ("internal/strconv.uint64pow10", laid_internal_strconv_uint64pow10)] }
def FnPartsSaid : Prop := fnPartsRow.holds Tryz.pinned (OpenSpec.ofChange fnPartsSpec)

/-- ITS FALSE NEIGHBOUR: 'it returns false'. Refute it at one input. -/
def fnPartsWrong : ChangeSpec := { name := "fnParts", fn := fun _ => fun
  | [d] => { results := [.lit (.bool false)], args := [d] }
  | _ => none }
def FnPartsWrongFalsely : Prop := fnPartsRow.holds Tryz.pinned (OpenSpec.ofChange fnPartsWrong)

/-- 'laws.FnNumberOrder': WHATEVER THE INPUT: true; the input reads as it did. -/
def fnNumberOrderSpec : ChangeSpec := { name := "fnNumberOrder", fn := fun _ => fun
  | [d] => { results := [.lit (.bool true)], args := [d] }
  | _ => none }
def fnNumberOrderRow : OpenClaim := { program := "ytkfgdhanaijddaagreatdoor", sum := "b4e24ac458858fff2b26f2b1f87c7548ddf2c5d4a4f0db836ba403743b4805a3", func := "loop.example/g00868/laws.FnNumberOrder", spec := "fnNumberOrder", unfollowed := true, recurses := true, named := ["internal/strconv.uint64pow10", "math/bits.deBruijn32tab", "math/bits.deBruijn64tab"], plainKeys := false, apart := false, laid := [("math/bits.deBruijn32tab", laid_math_bits_deBruijn32tab), ("math/bits.deBruijn64tab", laid_math_bits_deBruijn64tab), ("internal/strconv.uint64pow10", laid_internal_strconv_uint64pow10)] }
def FnNumberOrderSaid : Prop := fnNumberOrderRow.holds Tryz.pinned (OpenSpec.ofChange fnNumberOrderSpec)

/-- ITS FALSE NEIGHBOUR: 'it returns false'. Refute it at one input. -/
def fnNumberOrderWrong : ChangeSpec := { name := "fnNumberOrder", fn := fun _ => fun
  | [d] => { results := [.lit (.bool false)], args := [d] }
  | _ => none }
def FnNumberOrderWrongFalsely : Prop := fnNumberOrderRow.holds Tryz.pinned (OpenSpec.ofChange fnNumberOrderWrong)

/-- 'laws.FnNegOrder': WHATEVER THE INPUT: true; the input reads as it did. -/
def fnNegOrderSpec : ChangeSpec := { name := "fnNegOrder", fn := fun _ => fun
  | [d] => { results := [.lit (.bool true)], args := [d] }
  | _ => none }
def fnNegOrderRow : OpenClaim := { program := "ytkfgdhanaijddaagreatdoor", sum := "b4e24ac458858fff2b26f2b1f87c7548ddf2c5d4a4f0db836ba403743b4805a3", func := "loop.example/g00868/laws.FnNegOrder", spec := "fnNegOrder", unfollowed := true, recurses := true, named := ["internal/strconv.uint64pow10", "math/bits.deBruijn32tab", "math/bits.deBruijn64tab"], plainKeys := false, apart := false, laid := [("math/bits.deBruijn32tab", laid_math_bits_deBruijn32tab), ("math/bits.deBruijn64tab", laid_math_bits_deBruijn64tab), ("internal/strconv.uint64pow10", laid_internal_strconv_uint64pow10)] }
def FnNegOrderSaid : Prop := fnNegOrderRow.holds Tryz.pinned (OpenSpec.ofChange fnNegOrderSpec)

/-- ITS FALSE NEIGHBOUR: 'it returns false'. Refute it at one input. -/
def fnNegOrderWrong : ChangeSpec := { name := "fnNegOrder", fn := fun _ => fun
  | [d] => { results := [.lit (.bool false)], args := [d] }
  | _ => none }
def FnNegOrderWrongFalsely : Prop := fnNegOrderRow.holds Tryz.pinned (OpenSpec.ofChange fnNegOrderWrong)

/-- 'laws.FnOrdinal': WHATEVER THE INPUT: true; the input reads as it did. -/
def fnOrdinalSpec : ChangeSpec := { name := "fnOrdinal", fn := fun _ => fun
  | [d] => { results := [.lit (.bool true)], args := [d] }
  | _ => none }
def fnOrdinalRow : OpenClaim := { program := "ytkfgdhanaijddaagreatdoor", sum := "b4e24ac458858fff2b26f2b1f87c7548ddf2c5d4a4f0db836ba403743b4805a3", func := "loop.example/g00868/laws.FnOrdinal", spec := "fnOrdinal", unfollowed := true, recurses := true, named := ["internal/strconv.uint64pow10", "math/bits.deBruijn32tab", "math/bits.deBruijn64tab"], plainKeys := false, apart := false, laid := [("math/bits.deBruijn32tab", laid_math_bits_deBruijn32tab), ("math/bits.deBruijn64tab", laid_math_bits_deBruijn64tab), ("internal/strconv.uint64pow10", laid_internal_strconv_uint64pow10)] }
def FnOrdinalSaid : Prop := fnOrdinalRow.holds Tryz.pinned (OpenSpec.ofChange fnOrdinalSpec)

/-- ITS FALSE NEIGHBOUR: 'it returns false'. Refute it at one input. -/
def fnOrdinalWrong : ChangeSpec := { name := "fnOrdinal", fn := fun _ => fun
  | [d] => { results := [.lit (.bool false)], args := [d] }
  | _ => none }
def FnOrdinalWrongFalsely : Prop := fnOrdinalRow.holds Tryz.pinned (OpenSpec.ofChange fnOrdinalWrong)

/- THE SECOND FORM. 'bulk': how many values and letters a reading holds, each counted each time it is reached (what is shared counts as often as it is met; a slice's spare places count too). A statement '..UptoSaid' is the law's where the arguments, and the package variables that the reading takes, are together of bulk at most 1048576: NARROWER than '..Said'. Prove '..Said' where nothing that the law and all that it calls make is longer than what came in: it says more and counts as full. Else prove '..UptoSaid'. A law counts once. -/
mutual
def uptoBulk {H : Type} : DataW H → Nat
  | .lit (.string bytes) => bytes.length + 1
  | .lit _ => 1
  | .nil => 1
  | .ptr d => uptoBulk d + 1
  | .slice elems spare => uptoBulkAll elems + uptoBulkAll spare + 1
  | .agg parts => uptoBulkAll parts + 1
  | .iface _ d => uptoBulk d + 1
  | .map entries => uptoBulkEntries entries + 1
  | .held _ => 1
def uptoBulkAll {H : Type} : List (DataW H) → Nat
  | [] => 0
  | d :: r => uptoBulk d + uptoBulkAll r
def uptoBulkEntries {H : Type} : List (Lit × DataW H) → Nat
  | [] => 0
  | x :: r => uptoBulkEntry x + uptoBulkEntries r
def uptoBulkEntry {H : Type} : Lit × DataW H → Nat
  | (.string bytes, d) => bytes.length + uptoBulk d + 1
  | (_, d) => uptoBulk d + 1
 end
def uptoSmall : (H : Type) → List (DataW H) → Bool := fun _ ds => decide (uptoBulkAll ds ≤ 1048576)
def OpenSpec.upto (s : _root_.Go.ChangeSpec) : _root_.Go.OpenSpec := { _root_.Go.OpenSpec.ofChange s with cond := some uptoSmall }

/-- 'laws.FnThree', WHERE WHAT IT READS IS OF BULK AT MOST 1048576: true; the input reads as it did. -/
def fnThreeUptoRow : OpenClaim := { program := "ytkfgdhanaijddaagreatdoor", sum := "b4e24ac458858fff2b26f2b1f87c7548ddf2c5d4a4f0db836ba403743b4805a3", func := "loop.example/g00868/laws.FnThree", spec := "fnThree", unfollowed := true, recurses := true, named := ["internal/strconv.uint64pow10", "math/bits.deBruijn32tab", "math/bits.deBruijn64tab"], plainKeys := false, apart := false, laid := [("math/bits.deBruijn32tab", laid_math_bits_deBruijn32tab), ("math/bits.deBruijn64tab", laid_math_bits_deBruijn64tab), ("internal/strconv.uint64pow10", laid_internal_strconv_uint64pow10)], narrowed := true }
def FnThreeUptoSaid : Prop := fnThreeUptoRow.holds Tryz.pinned (OpenSpec.upto fnThreeSpec)

/-- 'laws.FnBent', WHERE WHAT IT READS IS OF BULK AT MOST 1048576: true; the input reads as it did. -/
def fnBentUptoRow : OpenClaim := { program := "ytkfgdhanaijddaagreatdoor", sum := "b4e24ac458858fff2b26f2b1f87c7548ddf2c5d4a4f0db836ba403743b4805a3", func := "loop.example/g00868/laws.FnBent", spec := "fnBent", recurses := true, named := ["internal/strconv.uint64pow10", "math/bits.deBruijn32tab", "math/bits.deBruijn64tab"], plainKeys := false, apart := false, laid := [("math/bits.deBruijn32tab", laid_math_bits_deBruijn32tab), ("math/bits.deBruijn64tab", laid_math_bits_deBruijn64tab), ("internal/strconv.uint64pow10", laid_internal_strconv_uint64pow10)], narrowed := true }
def FnBentUptoSaid : Prop := fnBentUptoRow.holds Tryz.pinned (OpenSpec.upto fnBentSpec)

/-- 'laws.FnAhead', WHERE WHAT IT READS IS OF BULK AT MOST 1048576: true; the input reads as it did. -/
def fnAheadUptoRow : OpenClaim := { program := "ytkfgdhanaijddaagreatdoor", sum := "b4e24ac458858fff2b26f2b1f87c7548ddf2c5d4a4f0db836ba403743b4805a3", func := "loop.example/g00868/laws.FnAhead", spec := "fnAhead", unfollowed := true, recurses := true, named := ["internal/strconv.uint64pow10", "math/bits.deBruijn32tab", "math/bits.deBruijn64tab"], plainKeys := false, apart := false, laid := [("math/bits.deBruijn32tab", laid_math_bits_deBruijn32tab), ("math/bits.deBruijn64tab", laid_math_bits_deBruijn64tab), ("internal/strconv.uint64pow10", laid_internal_strconv_uint64pow10)], narrowed := true }
def FnAheadUptoSaid : Prop := fnAheadUptoRow.holds Tryz.pinned (OpenSpec.upto fnAheadSpec)

/-- 'laws.FnParts', WHERE WHAT IT READS IS OF BULK AT MOST 1048576: true; the input reads as it did. -/
def fnPartsUptoRow : OpenClaim := { program := "ytkfgdhanaijddaagreatdoor", sum := "b4e24ac458858fff2b26f2b1f87c7548ddf2c5d4a4f0db836ba403743b4805a3", func := "loop.example/g00868/laws.FnParts", spec := "fnParts", unfollowed := true, recurses := true, named := ["internal/strconv.uint64pow10", "math/bits.deBruijn32tab", "math/bits.deBruijn64tab"], plainKeys := false, apart := false, laid := [("math/bits.deBruijn32tab", laid_math_bits_deBruijn32tab), ("math/bits.deBruijn64tab", laid_math_bits_deBruijn64tab), ("internal/strconv.uint64pow10", laid_internal_strconv_uint64pow10)], narrowed := true }
def FnPartsUptoSaid : Prop := fnPartsUptoRow.holds Tryz.pinned (OpenSpec.upto fnPartsSpec)

/-- 'laws.FnNumberOrder', WHERE WHAT IT READS IS OF BULK AT MOST 1048576: true; the input reads as it did. -/
def fnNumberOrderUptoRow : OpenClaim := { program := "ytkfgdhanaijddaagreatdoor", sum := "b4e24ac458858fff2b26f2b1f87c7548ddf2c5d4a4f0db836ba403743b4805a3", func := "loop.example/g00868/laws.FnNumberOrder", spec := "fnNumberOrder", unfollowed := true, recurses := true, named := ["internal/strconv.uint64pow10", "math/bits.deBruijn32tab", "math/bits.deBruijn64tab"], plainKeys := false, apart := false, laid := [("math/bits.deBruijn32tab", laid_math_bits_deBruijn32tab), ("math/bits.deBruijn64tab", laid_math_bits_deBruijn64tab), ("internal/strconv.uint64pow10", laid_internal_strconv_uint64pow10)], narrowed := true }
def FnNumberOrderUptoSaid : Prop := fnNumberOrderUptoRow.holds Tryz.pinned (OpenSpec.upto fnNumberOrderSpec)

/-- 'laws.FnNegOrder', WHERE WHAT IT READS IS OF BULK AT MOST 1048576: true; the input reads as it did. -/
def fnNegOrderUptoRow : OpenClaim := { program := "ytkfgdhanaijddaagreatdoor", sum := "b4e24ac458858fff2b26f2b1f87c7548ddf2c5d4a4f0db836ba403743b4805a3", func := "loop.example/g00868/laws.FnNegOrder", spec := "fnNegOrder", unfollowed := true, recurses := true, named := ["internal/strconv.uint64pow10", "math/bits.deBruijn32tab", "math/bits.deBruijn64tab"], plainKeys := false, apart := false, laid := [("math/bits.deBruijn32tab", laid_math_bits_deBruijn32tab), ("math/bits.deBruijn64tab", laid_math_bits_deBruijn64tab), ("internal/strconv.uint64pow10", laid_internal_strconv_uint64pow10)], narrowed := true }
def FnNegOrderUptoSaid : Prop := fnNegOrderUptoRow.holds Tryz.pinned (OpenSpec.upto fnNegOrderSpec)

/-- 'laws.FnOrdinal', WHERE WHAT IT READS IS OF BULK AT MOST 1048576: true; the input reads as it did. -/
def fnOrdinalUptoRow : OpenClaim := { program := "ytkfgdhanaijddaagreatdoor", sum := "b4e24ac458858fff2b26f2b1f87c7548ddf2c5d4a4f0db836ba403743b4805a3", func := "loop.example/g00868/laws.FnOrdinal", spec := "fnOrdinal", unfollowed := true, recurses := true, named := ["internal/strconv.uint64pow10", "math/bits.deBruijn32tab", "math/bits.deBruijn64tab"], plainKeys := false, apart := false, laid := [("math/bits.deBruijn32tab", laid_math_bits_deBruijn32tab), ("math/bits.deBruijn64tab", laid_math_bits_deBruijn64tab), ("internal/strconv.uint64pow10", laid_internal_strconv_uint64pow10)], narrowed := true }
def FnOrdinalUptoSaid : Prop := fnOrdinalUptoRow.holds Tryz.pinned (OpenSpec.upto fnOrdinalSpec)

end Rows
end Go.Proofs.YtkfgdhanaijddaaGreatDoor

/-
  NARROWER THAN 'FOR EVERY INPUT', by the rows' own cells (each row's printed sentence says how): ProgramParses: laid · ProgramUnfolds: loops, laid · ProgramRuns: loops, laid · ProgramChecks: loops, laid · ProgramReads: loops, laid · ProgramFaults: loops, laid · ProgramNormal: loops, laid · ProgramRepeats: loops, laid.
  DERIVED. THE GIVEN ROWS OF THIS SEAT. 8 by the template 'for every input the law returns true; each argument reads behind the call as it read before'; 0 by the template 'total and deterministic' (their statements: YtgpfgnpdbmbknaaGreatDoorTotals.lean).
  GIVEN WITH THE SEED: the statements are not yours to turn. If you find one false, say at which input.
  Laid BY PROGRAM, IN A SANDBOX (cutbox-rows.mjs): the forced cells as the released guide's own fill.sh prints them over the translation 950ad18f063f3347… (all of the seat's roots in one cut). By AI agents, Wed Nov 11 2026. No macro, syntax, notation, axiom, sorry.
-/
import Derived.Test.YtgpfgnpdbmbknaaGreatDoorChecked
import GoSem.Claim
import GoSem.ClaimJoined
import GoSem.ClaimMapViews
import Derived.JoinedTies
import Derived.KernelRfl
namespace Go.Proofs.YtgpfgnpdbmbknaaGreatDoor
/- THE CELL 'sum', in the pinned program and in every row, IS THE sha256 OF THE DUMP (.gsa) THAT YtgpfgnpdbmbknaaGreatDoorProg.lean LOADS. Nothing in Lean hashes anything: it is a label: what it is worth is what the hold of that sum in a sandbox is worth. -/
noncomputable def Tryz.pinned : Pinned := { name := "ytgpfgnpdbmbknaagreatdoor", sum := "950ad18f063f3347d6998f004243080292909d00cee77662ea5536af0439f0b5", checked := Tryz.checked }
namespace Rows
def none {H : Type} : Left H := { results := [], args := [] }

/- WHAT THE LISTED PACKAGE-LEVEL VARIABLES READ AS WHEN THE CALL BEGINS. Each datum BY PROGRAM (the guide's laid-datum.mjs) off the statement by which the dump's own 'gosem.cut.vars' lays the variable. In a bare row this is a premise. The card (YtgpfgnpdbmbknaaGreatDoorCards.lean) ties it to the program's text. -/
def laid_math_bits_deBruijn32tab {H : Type} : DataW H := .agg [.lit (.int .u8 0), .lit (.int .u8 1), .lit (.int .u8 28), .lit (.int .u8 2), .lit (.int .u8 29), .lit (.int .u8 14), .lit (.int .u8 24), .lit (.int .u8 3), .lit (.int .u8 30), .lit (.int .u8 22), .lit (.int .u8 20), .lit (.int .u8 15), .lit (.int .u8 25), .lit (.int .u8 17), .lit (.int .u8 4), .lit (.int .u8 8), .lit (.int .u8 31), .lit (.int .u8 27), .lit (.int .u8 13), .lit (.int .u8 23), .lit (.int .u8 21), .lit (.int .u8 19), .lit (.int .u8 16), .lit (.int .u8 7), .lit (.int .u8 26), .lit (.int .u8 12), .lit (.int .u8 18), .lit (.int .u8 6), .lit (.int .u8 11), .lit (.int .u8 5), .lit (.int .u8 10), .lit (.int .u8 9)]
def laid_math_bits_deBruijn64tab {H : Type} : DataW H := .agg [.lit (.int .u8 0), .lit (.int .u8 1), .lit (.int .u8 56), .lit (.int .u8 2), .lit (.int .u8 57), .lit (.int .u8 49), .lit (.int .u8 28), .lit (.int .u8 3), .lit (.int .u8 61), .lit (.int .u8 58), .lit (.int .u8 42), .lit (.int .u8 50), .lit (.int .u8 38), .lit (.int .u8 29), .lit (.int .u8 17), .lit (.int .u8 4), .lit (.int .u8 62), .lit (.int .u8 47), .lit (.int .u8 59), .lit (.int .u8 36), .lit (.int .u8 45), .lit (.int .u8 43), .lit (.int .u8 51), .lit (.int .u8 22), .lit (.int .u8 53), .lit (.int .u8 39), .lit (.int .u8 33), .lit (.int .u8 30), .lit (.int .u8 24), .lit (.int .u8 18), .lit (.int .u8 12), .lit (.int .u8 5), .lit (.int .u8 63), .lit (.int .u8 55), .lit (.int .u8 48), .lit (.int .u8 27), .lit (.int .u8 60), .lit (.int .u8 41), .lit (.int .u8 37), .lit (.int .u8 16), .lit (.int .u8 46), .lit (.int .u8 35), .lit (.int .u8 44), .lit (.int .u8 21), .lit (.int .u8 52), .lit (.int .u8 32), .lit (.int .u8 23), .lit (.int .u8 11), .lit (.int .u8 54), .lit (.int .u8 26), .lit (.int .u8 40), .lit (.int .u8 15), .lit (.int .u8 34), .lit (.int .u8 20), .lit (.int .u8 31), .lit (.int .u8 10), .lit (.int .u8 25), .lit (.int .u8 14), .lit (.int .u8 19), .lit (.int .u8 9), .lit (.int .u8 13), .lit (.int .u8 8), .lit (.int .u8 7), .lit (.int .u8 6)]
def laid_internal_strconv_uint64pow10 {H : Type} : DataW H := .agg [.lit (.int .u64 1), .lit (.int .u64 10), .lit (.int .u64 100), .lit (.int .u64 1000), .lit (.int .u64 10000), .lit (.int .u64 100000), .lit (.int .u64 1000000), .lit (.int .u64 10000000), .lit (.int .u64 100000000), .lit (.int .u64 1000000000), .lit (.int .u64 10000000000), .lit (.int .u64 100000000000), .lit (.int .u64 1000000000000), .lit (.int .u64 10000000000000), .lit (.int .u64 100000000000000), .lit (.int .u64 1000000000000000), .lit (.int .u64 10000000000000000), .lit (.int .u64 100000000000000000), .lit (.int .u64 1000000000000000000), .lit (.int .u64 10000000000000000000)]
def laid_strconv_ErrRange {H : Type} : DataW H := .iface "*errors.errorString" (.ptr (.agg [.lit (.string [118, 97, 108, 117, 101, 32, 111, 117, 116, 32, 111, 102, 32, 114, 97, 110, 103, 101])]))
def laid_strconv_ErrSyntax {H : Type} : DataW H := .iface "*errors.errorString" (.ptr (.agg [.lit (.string [105, 110, 118, 97, 108, 105, 100, 32, 115, 121, 110, 116, 97, 120])]))
def laid_pneumatic_lexer_ranges {H : Type} : DataW H := .agg [.agg [.lit (.int .u8 65), .lit (.int .u8 90), .lit (.int .u8 1)], .agg [.lit (.int .u8 97), .lit (.int .u8 122), .lit (.int .u8 1)], .agg [.lit (.int .u8 48), .lit (.int .u8 57), .lit (.int .u8 2)], .agg [.lit (.int .u8 95), .lit (.int .u8 95), .lit (.int .u8 3)], .agg [.lit (.int .u8 32), .lit (.int .u8 32), .lit (.int .u8 5)], .agg [.lit (.int .u8 10), .lit (.int .u8 10), .lit (.int .u8 5)]]

/-- 'pneumaticlaw15.ProgramParses': WHATEVER THE INPUT: true; the input reads as it did. -/
def programParsesSpec : ChangeSpec := { name := "programParses", fn := fun _ => fun
  | [d] => { results := [.lit (.bool true)], args := [d] }
  | _ => none }
def programParsesRow : OpenClaim := { program := "ytgpfgnpdbmbknaagreatdoor", sum := "950ad18f063f3347d6998f004243080292909d00cee77662ea5536af0439f0b5", func := "pneumatic/pneumaticlaw15.ProgramParses", spec := "programParses", inPlace := ["internal/bytealg.IndexByteString", "internal/bytealg.IndexString", "internal/abi.NoEscape", "internal/bytealg.MakeNoZero"], unfollowed := true, recurses := true, named := ["pneumatic/lexer.ranges", "strconv.ErrSyntax", "strconv.ErrRange", "internal/strconv.uint64pow10", "math/bits.deBruijn32tab", "math/bits.deBruijn64tab", "internal/bytealg.MaxLen"], apart := false, laid := [("math/bits.deBruijn32tab", laid_math_bits_deBruijn32tab), ("math/bits.deBruijn64tab", laid_math_bits_deBruijn64tab), ("internal/strconv.uint64pow10", laid_internal_strconv_uint64pow10), ("strconv.ErrRange", laid_strconv_ErrRange), ("strconv.ErrSyntax", laid_strconv_ErrSyntax), ("pneumatic/lexer.ranges", laid_pneumatic_lexer_ranges)] }
def ProgramParsesSaid : Prop := programParsesRow.holds Tryz.pinned (OpenSpec.ofChange programParsesSpec)

/-- ITS FALSE NEIGHBOUR: 'it returns false'. Refute it at one input. -/
def programParsesWrong : ChangeSpec := { name := "programParses", fn := fun _ => fun
  | [d] => { results := [.lit (.bool false)], args := [d] }
  | _ => none }
def ProgramParsesWrongFalsely : Prop := programParsesRow.holds Tryz.pinned (OpenSpec.ofChange programParsesWrong)

/-- 'pneumaticlaw15.ProgramUnfolds': WHATEVER THE INPUT: true; the input reads as it did. -/
def programUnfoldsSpec : ChangeSpec := { name := "programUnfolds", fn := fun _ => fun
  | [d1, d2] => { results := [.lit (.bool true)], args := [d1, d2] }
  | _ => none }
def programUnfoldsRow : OpenClaim := { program := "ytgpfgnpdbmbknaagreatdoor", sum := "950ad18f063f3347d6998f004243080292909d00cee77662ea5536af0439f0b5", func := "pneumatic/pneumaticlaw15.ProgramUnfolds", spec := "programUnfolds", inPlace := ["internal/bytealg.IndexByteString", "internal/bytealg.IndexString", "internal/abi.NoEscape", "internal/bytealg.MakeNoZero"], unfollowed := true, recurses := true, named := ["pneumatic/lexer.ranges", "strconv.ErrSyntax", "strconv.ErrRange", "internal/strconv.uint64pow10", "math/bits.deBruijn32tab", "math/bits.deBruijn64tab", "internal/bytealg.MaxLen"], loops := true, apart := false, laid := [("math/bits.deBruijn32tab", laid_math_bits_deBruijn32tab), ("math/bits.deBruijn64tab", laid_math_bits_deBruijn64tab), ("internal/strconv.uint64pow10", laid_internal_strconv_uint64pow10), ("strconv.ErrRange", laid_strconv_ErrRange), ("strconv.ErrSyntax", laid_strconv_ErrSyntax), ("pneumatic/lexer.ranges", laid_pneumatic_lexer_ranges)] }
def ProgramUnfoldsSaid : Prop := programUnfoldsRow.holds Tryz.pinned (OpenSpec.ofChange programUnfoldsSpec)

/-- ITS FALSE NEIGHBOUR: 'it returns false'. Refute it at one input. -/
def programUnfoldsWrong : ChangeSpec := { name := "programUnfolds", fn := fun _ => fun
  | [d1, d2] => { results := [.lit (.bool false)], args := [d1, d2] }
  | _ => none }
def ProgramUnfoldsWrongFalsely : Prop := programUnfoldsRow.holds Tryz.pinned (OpenSpec.ofChange programUnfoldsWrong)

/-- 'pneumaticlaw15.ProgramRuns': WHATEVER THE INPUT: true; the input reads as it did. -/
def programRunsSpec : ChangeSpec := { name := "programRuns", fn := fun _ => fun
  | [d1, d2] => { results := [.lit (.bool true)], args := [d1, d2] }
  | _ => none }
def programRunsRow : OpenClaim := { program := "ytgpfgnpdbmbknaagreatdoor", sum := "950ad18f063f3347d6998f004243080292909d00cee77662ea5536af0439f0b5", func := "pneumatic/pneumaticlaw15.ProgramRuns", spec := "programRuns", inPlace := ["internal/bytealg.IndexByteString", "internal/bytealg.IndexString", "internal/abi.NoEscape", "internal/bytealg.MakeNoZero"], unfollowed := true, recurses := true, named := ["pneumatic/lexer.ranges", "strconv.ErrSyntax", "strconv.ErrRange", "internal/strconv.uint64pow10", "math/bits.deBruijn32tab", "math/bits.deBruijn64tab", "internal/bytealg.MaxLen"], loops := true, apart := false, laid := [("math/bits.deBruijn32tab", laid_math_bits_deBruijn32tab), ("math/bits.deBruijn64tab", laid_math_bits_deBruijn64tab), ("internal/strconv.uint64pow10", laid_internal_strconv_uint64pow10), ("strconv.ErrRange", laid_strconv_ErrRange), ("strconv.ErrSyntax", laid_strconv_ErrSyntax), ("pneumatic/lexer.ranges", laid_pneumatic_lexer_ranges)] }
def ProgramRunsSaid : Prop := programRunsRow.holds Tryz.pinned (OpenSpec.ofChange programRunsSpec)

/-- ITS FALSE NEIGHBOUR: 'it returns false'. Refute it at one input. -/
def programRunsWrong : ChangeSpec := { name := "programRuns", fn := fun _ => fun
  | [d1, d2] => { results := [.lit (.bool false)], args := [d1, d2] }
  | _ => none }
def ProgramRunsWrongFalsely : Prop := programRunsRow.holds Tryz.pinned (OpenSpec.ofChange programRunsWrong)

/-- 'pneumaticlaw15.ProgramChecks': WHATEVER THE INPUT: true; the input reads as it did. -/
def programChecksSpec : ChangeSpec := { name := "programChecks", fn := fun _ => fun
  | [d1, d2] => { results := [.lit (.bool true)], args := [d1, d2] }
  | _ => none }
def programChecksRow : OpenClaim := { program := "ytgpfgnpdbmbknaagreatdoor", sum := "950ad18f063f3347d6998f004243080292909d00cee77662ea5536af0439f0b5", func := "pneumatic/pneumaticlaw15.ProgramChecks", spec := "programChecks", inPlace := ["internal/bytealg.IndexByteString", "internal/bytealg.IndexString", "internal/abi.NoEscape", "internal/bytealg.MakeNoZero"], unfollowed := true, recurses := true, named := ["pneumatic/lexer.ranges", "strconv.ErrSyntax", "strconv.ErrRange", "internal/strconv.uint64pow10", "math/bits.deBruijn32tab", "math/bits.deBruijn64tab", "internal/bytealg.MaxLen"], loops := true, apart := false, laid := [("math/bits.deBruijn32tab", laid_math_bits_deBruijn32tab), ("math/bits.deBruijn64tab", laid_math_bits_deBruijn64tab), ("internal/strconv.uint64pow10", laid_internal_strconv_uint64pow10), ("strconv.ErrRange", laid_strconv_ErrRange), ("strconv.ErrSyntax", laid_strconv_ErrSyntax), ("pneumatic/lexer.ranges", laid_pneumatic_lexer_ranges)] }
def ProgramChecksSaid : Prop := programChecksRow.holds Tryz.pinned (OpenSpec.ofChange programChecksSpec)

/-- ITS FALSE NEIGHBOUR: 'it returns false'. Refute it at one input. -/
def programChecksWrong : ChangeSpec := { name := "programChecks", fn := fun _ => fun
  | [d1, d2] => { results := [.lit (.bool false)], args := [d1, d2] }
  | _ => none }
def ProgramChecksWrongFalsely : Prop := programChecksRow.holds Tryz.pinned (OpenSpec.ofChange programChecksWrong)

/-- 'pneumaticlaw15.ProgramReads': WHATEVER THE INPUT: true; the input reads as it did. -/
def programReadsSpec : ChangeSpec := { name := "programReads", fn := fun _ => fun
  | [d] => { results := [.lit (.bool true)], args := [d] }
  | _ => none }
def programReadsRow : OpenClaim := { program := "ytgpfgnpdbmbknaagreatdoor", sum := "950ad18f063f3347d6998f004243080292909d00cee77662ea5536af0439f0b5", func := "pneumatic/pneumaticlaw15.ProgramReads", spec := "programReads", inPlace := ["internal/bytealg.IndexByteString", "internal/bytealg.IndexString", "internal/abi.NoEscape", "internal/bytealg.MakeNoZero"], unfollowed := true, recurses := true, named := ["pneumatic/lexer.ranges", "strconv.ErrSyntax", "strconv.ErrRange", "internal/strconv.uint64pow10", "math/bits.deBruijn32tab", "math/bits.deBruijn64tab", "internal/bytealg.MaxLen"], loops := true, apart := false, laid := [("math/bits.deBruijn32tab", laid_math_bits_deBruijn32tab), ("math/bits.deBruijn64tab", laid_math_bits_deBruijn64tab), ("internal/strconv.uint64pow10", laid_internal_strconv_uint64pow10), ("strconv.ErrRange", laid_strconv_ErrRange), ("strconv.ErrSyntax", laid_strconv_ErrSyntax), ("pneumatic/lexer.ranges", laid_pneumatic_lexer_ranges)] }
def ProgramReadsSaid : Prop := programReadsRow.holds Tryz.pinned (OpenSpec.ofChange programReadsSpec)

/-- ITS FALSE NEIGHBOUR: 'it returns false'. Refute it at one input. -/
def programReadsWrong : ChangeSpec := { name := "programReads", fn := fun _ => fun
  | [d] => { results := [.lit (.bool false)], args := [d] }
  | _ => none }
def ProgramReadsWrongFalsely : Prop := programReadsRow.holds Tryz.pinned (OpenSpec.ofChange programReadsWrong)

/-- 'pneumaticlaw15.ProgramFaults': WHATEVER THE INPUT: true; the input reads as it did. -/
def programFaultsSpec : ChangeSpec := { name := "programFaults", fn := fun _ => fun
  | [d] => { results := [.lit (.bool true)], args := [d] }
  | _ => none }
def programFaultsRow : OpenClaim := { program := "ytgpfgnpdbmbknaagreatdoor", sum := "950ad18f063f3347d6998f004243080292909d00cee77662ea5536af0439f0b5", func := "pneumatic/pneumaticlaw15.ProgramFaults", spec := "programFaults", inPlace := ["internal/bytealg.IndexByteString", "internal/bytealg.IndexString", "internal/abi.NoEscape", "internal/bytealg.MakeNoZero"], unfollowed := true, recurses := true, named := ["pneumatic/lexer.ranges", "strconv.ErrSyntax", "strconv.ErrRange", "internal/strconv.uint64pow10", "math/bits.deBruijn32tab", "math/bits.deBruijn64tab", "internal/bytealg.MaxLen"], loops := true, apart := false, laid := [("math/bits.deBruijn32tab", laid_math_bits_deBruijn32tab), ("math/bits.deBruijn64tab", laid_math_bits_deBruijn64tab), ("internal/strconv.uint64pow10", laid_internal_strconv_uint64pow10), ("strconv.ErrRange", laid_strconv_ErrRange), ("strconv.ErrSyntax", laid_strconv_ErrSyntax), ("pneumatic/lexer.ranges", laid_pneumatic_lexer_ranges)] }
def ProgramFaultsSaid : Prop := programFaultsRow.holds Tryz.pinned (OpenSpec.ofChange programFaultsSpec)

/-- ITS FALSE NEIGHBOUR: 'it returns false'. Refute it at one input. -/
def programFaultsWrong : ChangeSpec := { name := "programFaults", fn := fun _ => fun
  | [d] => { results := [.lit (.bool false)], args := [d] }
  | _ => none }
def ProgramFaultsWrongFalsely : Prop := programFaultsRow.holds Tryz.pinned (OpenSpec.ofChange programFaultsWrong)

/-- 'pneumaticlaw15.ProgramNormal': WHATEVER THE INPUT: true; the input reads as it did. -/
def programNormalSpec : ChangeSpec := { name := "programNormal", fn := fun _ => fun
  | [d1, d2] => { results := [.lit (.bool true)], args := [d1, d2] }
  | _ => none }
def programNormalRow : OpenClaim := { program := "ytgpfgnpdbmbknaagreatdoor", sum := "950ad18f063f3347d6998f004243080292909d00cee77662ea5536af0439f0b5", func := "pneumatic/pneumaticlaw15.ProgramNormal", spec := "programNormal", inPlace := ["internal/bytealg.IndexByteString", "internal/bytealg.IndexString", "internal/abi.NoEscape", "internal/bytealg.MakeNoZero"], unfollowed := true, recurses := true, named := ["pneumatic/lexer.ranges", "strconv.ErrSyntax", "strconv.ErrRange", "internal/strconv.uint64pow10", "math/bits.deBruijn32tab", "math/bits.deBruijn64tab", "internal/bytealg.MaxLen"], loops := true, apart := false, laid := [("math/bits.deBruijn32tab", laid_math_bits_deBruijn32tab), ("math/bits.deBruijn64tab", laid_math_bits_deBruijn64tab), ("internal/strconv.uint64pow10", laid_internal_strconv_uint64pow10), ("strconv.ErrRange", laid_strconv_ErrRange), ("strconv.ErrSyntax", laid_strconv_ErrSyntax), ("pneumatic/lexer.ranges", laid_pneumatic_lexer_ranges)] }
def ProgramNormalSaid : Prop := programNormalRow.holds Tryz.pinned (OpenSpec.ofChange programNormalSpec)

/-- ITS FALSE NEIGHBOUR: 'it returns false'. Refute it at one input. -/
def programNormalWrong : ChangeSpec := { name := "programNormal", fn := fun _ => fun
  | [d1, d2] => { results := [.lit (.bool false)], args := [d1, d2] }
  | _ => none }
def ProgramNormalWrongFalsely : Prop := programNormalRow.holds Tryz.pinned (OpenSpec.ofChange programNormalWrong)

/-- 'pneumaticlaw15.ProgramRepeats': WHATEVER THE INPUT: true; the input reads as it did. -/
def programRepeatsSpec : ChangeSpec := { name := "programRepeats", fn := fun _ => fun
  | [d1, d2, d3] => { results := [.lit (.bool true)], args := [d1, d2, d3] }
  | _ => none }
def programRepeatsRow : OpenClaim := { program := "ytgpfgnpdbmbknaagreatdoor", sum := "950ad18f063f3347d6998f004243080292909d00cee77662ea5536af0439f0b5", func := "pneumatic/pneumaticlaw15.ProgramRepeats", spec := "programRepeats", inPlace := ["internal/bytealg.IndexByteString", "internal/bytealg.IndexString", "internal/abi.NoEscape", "internal/bytealg.MakeNoZero"], unfollowed := true, recurses := true, named := ["pneumatic/lexer.ranges", "strconv.ErrSyntax", "strconv.ErrRange", "internal/strconv.uint64pow10", "math/bits.deBruijn32tab", "math/bits.deBruijn64tab", "internal/bytealg.MaxLen"], loops := true, apart := false, laid := [("math/bits.deBruijn32tab", laid_math_bits_deBruijn32tab), ("math/bits.deBruijn64tab", laid_math_bits_deBruijn64tab), ("internal/strconv.uint64pow10", laid_internal_strconv_uint64pow10), ("strconv.ErrRange", laid_strconv_ErrRange), ("strconv.ErrSyntax", laid_strconv_ErrSyntax), ("pneumatic/lexer.ranges", laid_pneumatic_lexer_ranges)] }
def ProgramRepeatsSaid : Prop := programRepeatsRow.holds Tryz.pinned (OpenSpec.ofChange programRepeatsSpec)

/-- ITS FALSE NEIGHBOUR: 'it returns false'. Refute it at one input. -/
def programRepeatsWrong : ChangeSpec := { name := "programRepeats", fn := fun _ => fun
  | [d1, d2, d3] => { results := [.lit (.bool false)], args := [d1, d2, d3] }
  | _ => none }
def ProgramRepeatsWrongFalsely : Prop := programRepeatsRow.holds Tryz.pinned (OpenSpec.ofChange programRepeatsWrong)

/- THE SECOND FORM. 'bulk': how many values and letters a reading holds, each counted each time it is reached (what is shared counts as often as it is met; a slice's spare places count too). A statement '..UptoSaid' is the law's where the arguments, and the package variables that the reading takes, are together of bulk at most 1048576: NARROWER than '..Said'. Prove '..Said' where nothing that the law and all that it calls make is longer than what came in: it says more and counts as full. Else prove '..UptoSaid'. A law counts once. -/
mutual
def uptoBulk {H : Type} : DataW H → Nat
  | .lit (.string bytes) => bytes.length + 1
  | .lit _ => 1
  | .nil => 1
  | .ptr d => uptoBulk d + 1
  | .slice elems spare => uptoBulkAll elems + uptoBulkAll spare + 1
  | .agg parts => uptoBulkAll parts + 1
  | .iface _ d => uptoBulk d + 1
  | .map entries => uptoBulkEntries entries + 1
  | .held _ => 1
def uptoBulkAll {H : Type} : List (DataW H) → Nat
  | [] => 0
  | d :: r => uptoBulk d + uptoBulkAll r
def uptoBulkEntries {H : Type} : List (Lit × DataW H) → Nat
  | [] => 0
  | x :: r => uptoBulkEntry x + uptoBulkEntries r
def uptoBulkEntry {H : Type} : Lit × DataW H → Nat
  | (.string bytes, d) => bytes.length + uptoBulk d + 1
  | (_, d) => uptoBulk d + 1
 end
def uptoSmall : (H : Type) → List (DataW H) → Bool := fun _ ds => decide (uptoBulkAll ds ≤ 1048576)
def OpenSpec.upto (s : _root_.Go.ChangeSpec) : _root_.Go.OpenSpec := { _root_.Go.OpenSpec.ofChange s with cond := some uptoSmall }

/-- 'pneumaticlaw15.ProgramParses', WHERE WHAT IT READS IS OF BULK AT MOST 1048576: true; the input reads as it did. -/
def programParsesUptoRow : OpenClaim := { program := "ytgpfgnpdbmbknaagreatdoor", sum := "950ad18f063f3347d6998f004243080292909d00cee77662ea5536af0439f0b5", func := "pneumatic/pneumaticlaw15.ProgramParses", spec := "programParses", inPlace := ["internal/bytealg.IndexByteString", "internal/bytealg.IndexString", "internal/abi.NoEscape", "internal/bytealg.MakeNoZero"], unfollowed := true, recurses := true, named := ["pneumatic/lexer.ranges", "strconv.ErrSyntax", "strconv.ErrRange", "internal/strconv.uint64pow10", "math/bits.deBruijn32tab", "math/bits.deBruijn64tab", "internal/bytealg.MaxLen"], apart := false, laid := [("math/bits.deBruijn32tab", laid_math_bits_deBruijn32tab), ("math/bits.deBruijn64tab", laid_math_bits_deBruijn64tab), ("internal/strconv.uint64pow10", laid_internal_strconv_uint64pow10), ("strconv.ErrRange", laid_strconv_ErrRange), ("strconv.ErrSyntax", laid_strconv_ErrSyntax), ("pneumatic/lexer.ranges", laid_pneumatic_lexer_ranges)], narrowed := true }
def ProgramParsesUptoSaid : Prop := programParsesUptoRow.holds Tryz.pinned (OpenSpec.upto programParsesSpec)

/-- 'pneumaticlaw15.ProgramUnfolds', WHERE WHAT IT READS IS OF BULK AT MOST 1048576: true; the input reads as it did. -/
def programUnfoldsUptoRow : OpenClaim := { program := "ytgpfgnpdbmbknaagreatdoor", sum := "950ad18f063f3347d6998f004243080292909d00cee77662ea5536af0439f0b5", func := "pneumatic/pneumaticlaw15.ProgramUnfolds", spec := "programUnfolds", inPlace := ["internal/bytealg.IndexByteString", "internal/bytealg.IndexString", "internal/abi.NoEscape", "internal/bytealg.MakeNoZero"], unfollowed := true, recurses := true, named := ["pneumatic/lexer.ranges", "strconv.ErrSyntax", "strconv.ErrRange", "internal/strconv.uint64pow10", "math/bits.deBruijn32tab", "math/bits.deBruijn64tab", "internal/bytealg.MaxLen"], loops := true, apart := false, laid := [("math/bits.deBruijn32tab", laid_math_bits_deBruijn32tab), ("math/bits.deBruijn64tab", laid_math_bits_deBruijn64tab), ("internal/strconv.uint64pow10", laid_internal_strconv_uint64pow10), ("strconv.ErrRange", laid_strconv_ErrRange), ("strconv.ErrSyntax", laid_strconv_ErrSyntax), ("pneumatic/lexer.ranges", laid_pneumatic_lexer_ranges)], narrowed := true }
def ProgramUnfoldsUptoSaid : Prop := programUnfoldsUptoRow.holds Tryz.pinned (OpenSpec.upto programUnfoldsSpec)

/-- 'pneumaticlaw15.ProgramRuns', WHERE WHAT IT READS IS OF BULK AT MOST 1048576: true; the input reads as it did. -/
def programRunsUptoRow : OpenClaim := { program := "ytgpfgnpdbmbknaagreatdoor", sum := "950ad18f063f3347d6998f004243080292909d00cee77662ea5536af0439f0b5", func := "pneumatic/pneumaticlaw15.ProgramRuns", spec := "programRuns", inPlace := ["internal/bytealg.IndexByteString", "internal/bytealg.IndexString", "internal/abi.NoEscape", "internal/bytealg.MakeNoZero"], unfollowed := true, recurses := true, named := ["pneumatic/lexer.ranges", "strconv.ErrSyntax", "strconv.ErrRange", "internal/strconv.uint64pow10", "math/bits.deBruijn32tab", "math/bits.deBruijn64tab", "internal/bytealg.MaxLen"], loops := true, apart := false, laid := [("math/bits.deBruijn32tab", laid_math_bits_deBruijn32tab), ("math/bits.deBruijn64tab", laid_math_bits_deBruijn64tab), ("internal/strconv.uint64pow10", laid_internal_strconv_uint64pow10), ("strconv.ErrRange", laid_strconv_ErrRange), ("strconv.ErrSyntax", laid_strconv_ErrSyntax), ("pneumatic/lexer.ranges", laid_pneumatic_lexer_ranges)], narrowed := true }
def ProgramRunsUptoSaid : Prop := programRunsUptoRow.holds Tryz.pinned (OpenSpec.upto programRunsSpec)

/-- 'pneumaticlaw15.ProgramChecks', WHERE WHAT IT READS IS OF BULK AT MOST 1048576: true; the input reads as it did. -/
def programChecksUptoRow : OpenClaim := { program := "ytgpfgnpdbmbknaagreatdoor", sum := "950ad18f063f3347d6998f004243080292909d00cee77662ea5536af0439f0b5", func := "pneumatic/pneumaticlaw15.ProgramChecks", spec := "programChecks", inPlace := ["internal/bytealg.IndexByteString", "internal/bytealg.IndexString", "internal/abi.NoEscape", "internal/bytealg.MakeNoZero"], unfollowed := true, recurses := true, named := ["pneumatic/lexer.ranges", "strconv.ErrSyntax", "strconv.ErrRange", "internal/strconv.uint64pow10", "math/bits.deBruijn32tab", "math/bits.deBruijn64tab", "internal/bytealg.MaxLen"], loops := true, apart := false, laid := [("math/bits.deBruijn32tab", laid_math_bits_deBruijn32tab), ("math/bits.deBruijn64tab", laid_math_bits_deBruijn64tab), ("internal/strconv.uint64pow10", laid_internal_strconv_uint64pow10), ("strconv.ErrRange", laid_strconv_ErrRange), ("strconv.ErrSyntax", laid_strconv_ErrSyntax), ("pneumatic/lexer.ranges", laid_pneumatic_lexer_ranges)], narrowed := true }
def ProgramChecksUptoSaid : Prop := programChecksUptoRow.holds Tryz.pinned (OpenSpec.upto programChecksSpec)

/-- 'pneumaticlaw15.ProgramReads', WHERE WHAT IT READS IS OF BULK AT MOST 1048576: true; the input reads as it did. -/
def programReadsUptoRow : OpenClaim := { program := "ytgpfgnpdbmbknaagreatdoor", sum := "950ad18f063f3347d6998f004243080292909d00cee77662ea5536af0439f0b5", func := "pneumatic/pneumaticlaw15.ProgramReads", spec := "programReads", inPlace := ["internal/bytealg.IndexByteString", "internal/bytealg.IndexString", "internal/abi.NoEscape", "internal/bytealg.MakeNoZero"], unfollowed := true, recurses := true, named := ["pneumatic/lexer.ranges", "strconv.ErrSyntax", "strconv.ErrRange", "internal/strconv.uint64pow10", "math/bits.deBruijn32tab", "math/bits.deBruijn64tab", "internal/bytealg.MaxLen"], loops := true, apart := false, laid := [("math/bits.deBruijn32tab", laid_math_bits_deBruijn32tab), ("math/bits.deBruijn64tab", laid_math_bits_deBruijn64tab), ("internal/strconv.uint64pow10", laid_internal_strconv_uint64pow10), ("strconv.ErrRange", laid_strconv_ErrRange), ("strconv.ErrSyntax", laid_strconv_ErrSyntax), ("pneumatic/lexer.ranges", laid_pneumatic_lexer_ranges)], narrowed := true }
def ProgramReadsUptoSaid : Prop := programReadsUptoRow.holds Tryz.pinned (OpenSpec.upto programReadsSpec)

/-- 'pneumaticlaw15.ProgramFaults', WHERE WHAT IT READS IS OF BULK AT MOST 1048576: true; the input reads as it did. -/
def programFaultsUptoRow : OpenClaim := { program := "ytgpfgnpdbmbknaagreatdoor", sum := "950ad18f063f3347d6998f004243080292909d00cee77662ea5536af0439f0b5", func := "pneumatic/pneumaticlaw15.ProgramFaults", spec := "programFaults", inPlace := ["internal/bytealg.IndexByteString", "internal/bytealg.IndexString", "internal/abi.NoEscape", "internal/bytealg.MakeNoZero"], unfollowed := true, recurses := true, named := ["pneumatic/lexer.ranges", "strconv.ErrSyntax", "strconv.ErrRange", "internal/strconv.uint64pow10", "math/bits.deBruijn32tab", "math/bits.deBruijn64tab", "internal/bytealg.MaxLen"], loops := true, apart := false, laid := [("math/bits.deBruijn32tab", laid_math_bits_deBruijn32tab), ("math/bits.deBruijn64tab", laid_math_bits_deBruijn64tab), ("internal/strconv.uint64pow10", laid_internal_strconv_uint64pow10), ("strconv.ErrRange", laid_strconv_ErrRange), ("strconv.ErrSyntax", laid_strconv_ErrSyntax), ("pneumatic/lexer.ranges", laid_pneumatic_lexer_ranges)], narrowed := true }
def ProgramFaultsUptoSaid : Prop := programFaultsUptoRow.holds Tryz.pinned (OpenSpec.upto programFaultsSpec)

/-- 'pneumaticlaw15.ProgramNormal', WHERE WHAT IT READS IS OF BULK AT MOST 1048576: true; the input reads as it did. -/
def programNormalUptoRow : OpenClaim := { program := "ytgpfgnpdbmbknaagreatdoor", sum := "950ad18f063f3347d6998f004243080292909d00cee77662ea5536af0439f0b5", func := "pneumatic/pneumaticlaw15.ProgramNormal", spec := "programNormal", inPlace := ["internal/bytealg.IndexByteString", "internal/bytealg.IndexString", "internal/abi.NoEscape", "internal/bytealg.MakeNoZero"], unfollowed := true, recurses := true, named := ["pneumatic/lexer.ranges", "strconv.ErrSyntax", "strconv.ErrRange", "internal/strconv.uint64pow10", "math/bits.deBruijn32tab", "math/bits.deBruijn64tab", "internal/bytealg.MaxLen"], loops := true, apart := false, laid := [("math/bits.deBruijn32tab", laid_math_bits_deBruijn32tab), ("math/bits.deBruijn64tab", laid_math_bits_deBruijn64tab), ("internal/strconv.uint64pow10", laid_internal_strconv_uint64pow10), ("strconv.ErrRange", laid_strconv_ErrRange), ("strconv.ErrSyntax", laid_strconv_ErrSyntax), ("pneumatic/lexer.ranges", laid_pneumatic_lexer_ranges)], narrowed := true }
def ProgramNormalUptoSaid : Prop := programNormalUptoRow.holds Tryz.pinned (OpenSpec.upto programNormalSpec)

/-- 'pneumaticlaw15.ProgramRepeats', WHERE WHAT IT READS IS OF BULK AT MOST 1048576: true; the input reads as it did. -/
def programRepeatsUptoRow : OpenClaim := { program := "ytgpfgnpdbmbknaagreatdoor", sum := "950ad18f063f3347d6998f004243080292909d00cee77662ea5536af0439f0b5", func := "pneumatic/pneumaticlaw15.ProgramRepeats", spec := "programRepeats", inPlace := ["internal/bytealg.IndexByteString", "internal/bytealg.IndexString", "internal/abi.NoEscape", "internal/bytealg.MakeNoZero"], unfollowed := true, recurses := true, named := ["pneumatic/lexer.ranges", "strconv.ErrSyntax", "strconv.ErrRange", "internal/strconv.uint64pow10", "math/bits.deBruijn32tab", "math/bits.deBruijn64tab", "internal/bytealg.MaxLen"], loops := true, apart := false, laid := [("math/bits.deBruijn32tab", laid_math_bits_deBruijn32tab), ("math/bits.deBruijn64tab", laid_math_bits_deBruijn64tab), ("internal/strconv.uint64pow10", laid_internal_strconv_uint64pow10), ("strconv.ErrRange", laid_strconv_ErrRange), ("strconv.ErrSyntax", laid_strconv_ErrSyntax), ("pneumatic/lexer.ranges", laid_pneumatic_lexer_ranges)], narrowed := true }
def ProgramRepeatsUptoSaid : Prop := programRepeatsUptoRow.holds Tryz.pinned (OpenSpec.upto programRepeatsSpec)

end Rows
end Go.Proofs.YtgpfgnpdbmbknaaGreatDoor

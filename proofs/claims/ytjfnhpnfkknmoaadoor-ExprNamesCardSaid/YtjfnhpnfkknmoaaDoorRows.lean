/-
  NARROWER THAN 'FOR EVERY INPUT', by the rows' own cells (each row's printed sentence says how): ExprKnown: laid · ExprErrs: laid · ExprDeep: laid · ExprTwo: laid · ExprLaws: laid · ExprShort: loops, laid · ExprBack: loops, laid · ExprNames: loops, laid · ExprEvals: loops, laid · ExprRight: loops, laid.
  DERIVED. THE GIVEN ROWS OF THIS SEAT. 10 by the template 'for every input the law returns true; each argument reads behind the call as it read before'; 0 by the template 'total and deterministic' (their statements: YtjfnhpnfkknmoaaDoorTotals.lean).
  GIVEN WITH THE SEED: the statements are not yours to turn. If you find one false, say at which input.
  Laid BY PROGRAM, IN A SANDBOX (cutbox-rows.mjs): the forced cells as the released guide's own fill.sh prints them over the translation bf8a47a9a9b2477a… (all of the seat's roots in one cut). By AI agents, Wed Nov 11 2026. No macro, syntax, notation, axiom, sorry.
-/
import Derived.Test.YtjfnhpnfkknmoaaDoorChecked
import GoSem.Claim
import GoSem.ClaimJoined
import GoSem.ClaimMapViews
import Derived.JoinedTies
import Derived.KernelRfl
namespace Go.Proofs.YtjfnhpnfkknmoaaDoor
/- THE CELL 'sum', in the pinned program and in every row, IS THE sha256 OF THE DUMP (.gsa) THAT YtjfnhpnfkknmoaaDoorProg.lean LOADS. Nothing in Lean hashes anything: it is a label: what it is worth is what the hold of that sum in a sandbox is worth. -/
noncomputable def Tryd.pinned : Pinned := { name := "ytjfnhpnfkknmoaadoor", sum := "bf8a47a9a9b2477a67a5a721ba7380f4b3fb36caa83c747f0ddce958980eb2ce", checked := Tryd.checked }
namespace Rows
def none {H : Type} : Left H := { results := [], args := [] }

/- WHAT THE LISTED PACKAGE-LEVEL VARIABLES READ AS WHEN THE CALL BEGINS. Each datum BY PROGRAM (the guide's laid-datum.mjs) off the statement by which the dump's own 'gosem.cut.vars' lays the variable. In a bare row this is a premise. The card (YtjfnhpnfkknmoaaDoorCards.lean) ties it to the program's text. -/
def laid_math_bits_deBruijn32tab {H : Type} : DataW H := .agg [.lit (.int .u8 0), .lit (.int .u8 1), .lit (.int .u8 28), .lit (.int .u8 2), .lit (.int .u8 29), .lit (.int .u8 14), .lit (.int .u8 24), .lit (.int .u8 3), .lit (.int .u8 30), .lit (.int .u8 22), .lit (.int .u8 20), .lit (.int .u8 15), .lit (.int .u8 25), .lit (.int .u8 17), .lit (.int .u8 4), .lit (.int .u8 8), .lit (.int .u8 31), .lit (.int .u8 27), .lit (.int .u8 13), .lit (.int .u8 23), .lit (.int .u8 21), .lit (.int .u8 19), .lit (.int .u8 16), .lit (.int .u8 7), .lit (.int .u8 26), .lit (.int .u8 12), .lit (.int .u8 18), .lit (.int .u8 6), .lit (.int .u8 11), .lit (.int .u8 5), .lit (.int .u8 10), .lit (.int .u8 9)]
def laid_math_bits_deBruijn64tab {H : Type} : DataW H := .agg [.lit (.int .u8 0), .lit (.int .u8 1), .lit (.int .u8 56), .lit (.int .u8 2), .lit (.int .u8 57), .lit (.int .u8 49), .lit (.int .u8 28), .lit (.int .u8 3), .lit (.int .u8 61), .lit (.int .u8 58), .lit (.int .u8 42), .lit (.int .u8 50), .lit (.int .u8 38), .lit (.int .u8 29), .lit (.int .u8 17), .lit (.int .u8 4), .lit (.int .u8 62), .lit (.int .u8 47), .lit (.int .u8 59), .lit (.int .u8 36), .lit (.int .u8 45), .lit (.int .u8 43), .lit (.int .u8 51), .lit (.int .u8 22), .lit (.int .u8 53), .lit (.int .u8 39), .lit (.int .u8 33), .lit (.int .u8 30), .lit (.int .u8 24), .lit (.int .u8 18), .lit (.int .u8 12), .lit (.int .u8 5), .lit (.int .u8 63), .lit (.int .u8 55), .lit (.int .u8 48), .lit (.int .u8 27), .lit (.int .u8 60), .lit (.int .u8 41), .lit (.int .u8 37), .lit (.int .u8 16), .lit (.int .u8 46), .lit (.int .u8 35), .lit (.int .u8 44), .lit (.int .u8 21), .lit (.int .u8 52), .lit (.int .u8 32), .lit (.int .u8 23), .lit (.int .u8 11), .lit (.int .u8 54), .lit (.int .u8 26), .lit (.int .u8 40), .lit (.int .u8 15), .lit (.int .u8 34), .lit (.int .u8 20), .lit (.int .u8 31), .lit (.int .u8 10), .lit (.int .u8 25), .lit (.int .u8 14), .lit (.int .u8 19), .lit (.int .u8 9), .lit (.int .u8 13), .lit (.int .u8 8), .lit (.int .u8 7), .lit (.int .u8 6)]
def laid_internal_strconv_uint64pow10 {H : Type} : DataW H := .agg [.lit (.int .u64 1), .lit (.int .u64 10), .lit (.int .u64 100), .lit (.int .u64 1000), .lit (.int .u64 10000), .lit (.int .u64 100000), .lit (.int .u64 1000000), .lit (.int .u64 10000000), .lit (.int .u64 100000000), .lit (.int .u64 1000000000), .lit (.int .u64 10000000000), .lit (.int .u64 100000000000), .lit (.int .u64 1000000000000), .lit (.int .u64 10000000000000), .lit (.int .u64 100000000000000), .lit (.int .u64 1000000000000000), .lit (.int .u64 10000000000000000), .lit (.int .u64 100000000000000000), .lit (.int .u64 1000000000000000000), .lit (.int .u64 10000000000000000000)]
def laid_strconv_ErrRange {H : Type} : DataW H := .iface "*errors.errorString" (.ptr (.agg [.lit (.string [118, 97, 108, 117, 101, 32, 111, 117, 116, 32, 111, 102, 32, 114, 97, 110, 103, 101])]))
def laid_strconv_ErrSyntax {H : Type} : DataW H := .iface "*errors.errorString" (.ptr (.agg [.lit (.string [105, 110, 118, 97, 108, 105, 100, 32, 115, 121, 110, 116, 97, 120])]))

/-- 'penancelaw2.ExprKnown': WHATEVER THE INPUT: true; the input reads as it did. -/
def exprKnownSpec : ChangeSpec := { name := "exprKnown", fn := fun _ => fun
  | [d] => { results := [.lit (.bool true)], args := [d] }
  | _ => none }
def exprKnownRow : OpenClaim := { program := "ytjfnhpnfkknmoaadoor", sum := "bf8a47a9a9b2477a67a5a721ba7380f4b3fb36caa83c747f0ddce958980eb2ce", func := "penance/penancelaw2.ExprKnown", spec := "exprKnown", unfollowed := true, recurses := true, named := ["strconv.ErrSyntax", "strconv.ErrRange", "internal/strconv.uint64pow10", "math/bits.deBruijn32tab", "math/bits.deBruijn64tab"], apart := false, laid := [("math/bits.deBruijn32tab", laid_math_bits_deBruijn32tab), ("math/bits.deBruijn64tab", laid_math_bits_deBruijn64tab), ("internal/strconv.uint64pow10", laid_internal_strconv_uint64pow10), ("strconv.ErrRange", laid_strconv_ErrRange), ("strconv.ErrSyntax", laid_strconv_ErrSyntax)] }
def ExprKnownSaid : Prop := exprKnownRow.holds Tryd.pinned (OpenSpec.ofChange exprKnownSpec)

/-- ITS FALSE NEIGHBOUR: 'it returns false'. Refute it at one input. -/
def exprKnownWrong : ChangeSpec := { name := "exprKnown", fn := fun _ => fun
  | [d] => { results := [.lit (.bool false)], args := [d] }
  | _ => none }
def ExprKnownWrongFalsely : Prop := exprKnownRow.holds Tryd.pinned (OpenSpec.ofChange exprKnownWrong)

/-- 'penancelaw2.ExprErrs': WHATEVER THE INPUT: true; the input reads as it did. -/
def exprErrsSpec : ChangeSpec := { name := "exprErrs", fn := fun _ => fun
  | [d] => { results := [.lit (.bool true)], args := [d] }
  | _ => none }
def exprErrsRow : OpenClaim := { program := "ytjfnhpnfkknmoaadoor", sum := "bf8a47a9a9b2477a67a5a721ba7380f4b3fb36caa83c747f0ddce958980eb2ce", func := "penance/penancelaw2.ExprErrs", spec := "exprErrs", unfollowed := true, recurses := true, named := ["strconv.ErrSyntax", "strconv.ErrRange", "internal/strconv.uint64pow10", "math/bits.deBruijn32tab", "math/bits.deBruijn64tab"], apart := false, laid := [("math/bits.deBruijn32tab", laid_math_bits_deBruijn32tab), ("math/bits.deBruijn64tab", laid_math_bits_deBruijn64tab), ("internal/strconv.uint64pow10", laid_internal_strconv_uint64pow10), ("strconv.ErrRange", laid_strconv_ErrRange), ("strconv.ErrSyntax", laid_strconv_ErrSyntax)] }
def ExprErrsSaid : Prop := exprErrsRow.holds Tryd.pinned (OpenSpec.ofChange exprErrsSpec)

/-- ITS FALSE NEIGHBOUR: 'it returns false'. Refute it at one input. -/
def exprErrsWrong : ChangeSpec := { name := "exprErrs", fn := fun _ => fun
  | [d] => { results := [.lit (.bool false)], args := [d] }
  | _ => none }
def ExprErrsWrongFalsely : Prop := exprErrsRow.holds Tryd.pinned (OpenSpec.ofChange exprErrsWrong)

/-- 'penancelaw2.ExprDeep': WHATEVER THE INPUT: true; the input reads as it did. -/
def exprDeepSpec : ChangeSpec := { name := "exprDeep", fn := fun _ => fun
  | [d1, d2] => { results := [.lit (.bool true)], args := [d1, d2] }
  | _ => none }
def exprDeepRow : OpenClaim := { program := "ytjfnhpnfkknmoaadoor", sum := "bf8a47a9a9b2477a67a5a721ba7380f4b3fb36caa83c747f0ddce958980eb2ce", func := "penance/penancelaw2.ExprDeep", spec := "exprDeep", unfollowed := true, recurses := true, named := ["strconv.ErrSyntax", "strconv.ErrRange", "internal/strconv.uint64pow10", "math/bits.deBruijn32tab", "math/bits.deBruijn64tab"], apart := false, laid := [("math/bits.deBruijn32tab", laid_math_bits_deBruijn32tab), ("math/bits.deBruijn64tab", laid_math_bits_deBruijn64tab), ("internal/strconv.uint64pow10", laid_internal_strconv_uint64pow10), ("strconv.ErrRange", laid_strconv_ErrRange), ("strconv.ErrSyntax", laid_strconv_ErrSyntax)] }
def ExprDeepSaid : Prop := exprDeepRow.holds Tryd.pinned (OpenSpec.ofChange exprDeepSpec)

/-- ITS FALSE NEIGHBOUR: 'it returns false'. Refute it at one input. -/
def exprDeepWrong : ChangeSpec := { name := "exprDeep", fn := fun _ => fun
  | [d1, d2] => { results := [.lit (.bool false)], args := [d1, d2] }
  | _ => none }
def ExprDeepWrongFalsely : Prop := exprDeepRow.holds Tryd.pinned (OpenSpec.ofChange exprDeepWrong)

/-- 'penancelaw2.ExprTwo': WHATEVER THE INPUT: true; the input reads as it did. -/
def exprTwoSpec : ChangeSpec := { name := "exprTwo", fn := fun _ => fun
  | [d1, d2, d3, d4] => { results := [.lit (.bool true)], args := [d1, d2, d3, d4] }
  | _ => none }
def exprTwoRow : OpenClaim := { program := "ytjfnhpnfkknmoaadoor", sum := "bf8a47a9a9b2477a67a5a721ba7380f4b3fb36caa83c747f0ddce958980eb2ce", func := "penance/penancelaw2.ExprTwo", spec := "exprTwo", unfollowed := true, recurses := true, named := ["strconv.ErrSyntax", "strconv.ErrRange", "internal/strconv.uint64pow10", "math/bits.deBruijn32tab", "math/bits.deBruijn64tab"], apart := false, laid := [("math/bits.deBruijn32tab", laid_math_bits_deBruijn32tab), ("math/bits.deBruijn64tab", laid_math_bits_deBruijn64tab), ("internal/strconv.uint64pow10", laid_internal_strconv_uint64pow10), ("strconv.ErrRange", laid_strconv_ErrRange), ("strconv.ErrSyntax", laid_strconv_ErrSyntax)] }
def ExprTwoSaid : Prop := exprTwoRow.holds Tryd.pinned (OpenSpec.ofChange exprTwoSpec)

/-- ITS FALSE NEIGHBOUR: 'it returns false'. Refute it at one input. -/
def exprTwoWrong : ChangeSpec := { name := "exprTwo", fn := fun _ => fun
  | [d1, d2, d3, d4] => { results := [.lit (.bool false)], args := [d1, d2, d3, d4] }
  | _ => none }
def ExprTwoWrongFalsely : Prop := exprTwoRow.holds Tryd.pinned (OpenSpec.ofChange exprTwoWrong)

/-- 'penancelaw2.ExprLaws': WHATEVER THE INPUT: true; the input reads as it did. -/
def exprLawsSpec : ChangeSpec := { name := "exprLaws", fn := fun _ => fun
  | [d1, d2] => { results := [.lit (.bool true)], args := [d1, d2] }
  | _ => none }
def exprLawsRow : OpenClaim := { program := "ytjfnhpnfkknmoaadoor", sum := "bf8a47a9a9b2477a67a5a721ba7380f4b3fb36caa83c747f0ddce958980eb2ce", func := "penance/penancelaw2.ExprLaws", spec := "exprLaws", unfollowed := true, recurses := true, named := ["strconv.ErrSyntax", "strconv.ErrRange", "internal/strconv.uint64pow10", "math/bits.deBruijn32tab", "math/bits.deBruijn64tab"], apart := false, laid := [("math/bits.deBruijn32tab", laid_math_bits_deBruijn32tab), ("math/bits.deBruijn64tab", laid_math_bits_deBruijn64tab), ("internal/strconv.uint64pow10", laid_internal_strconv_uint64pow10), ("strconv.ErrRange", laid_strconv_ErrRange), ("strconv.ErrSyntax", laid_strconv_ErrSyntax)] }
def ExprLawsSaid : Prop := exprLawsRow.holds Tryd.pinned (OpenSpec.ofChange exprLawsSpec)

/-- ITS FALSE NEIGHBOUR: 'it returns false'. Refute it at one input. -/
def exprLawsWrong : ChangeSpec := { name := "exprLaws", fn := fun _ => fun
  | [d1, d2] => { results := [.lit (.bool false)], args := [d1, d2] }
  | _ => none }
def ExprLawsWrongFalsely : Prop := exprLawsRow.holds Tryd.pinned (OpenSpec.ofChange exprLawsWrong)

/-- 'penancelaw2.ExprShort': WHATEVER THE INPUT: true; the input reads as it did. -/
def exprShortSpec : ChangeSpec := { name := "exprShort", fn := fun _ => fun
  | [d1, d2, d3, d4] => { results := [.lit (.bool true)], args := [d1, d2, d3, d4] }
  | _ => none }
def exprShortRow : OpenClaim := { program := "ytjfnhpnfkknmoaadoor", sum := "bf8a47a9a9b2477a67a5a721ba7380f4b3fb36caa83c747f0ddce958980eb2ce", func := "penance/penancelaw2.ExprShort", spec := "exprShort", unfollowed := true, recurses := true, named := ["strconv.ErrSyntax", "strconv.ErrRange", "internal/strconv.uint64pow10", "math/bits.deBruijn32tab", "math/bits.deBruijn64tab"], loops := true, apart := false, laid := [("math/bits.deBruijn32tab", laid_math_bits_deBruijn32tab), ("math/bits.deBruijn64tab", laid_math_bits_deBruijn64tab), ("internal/strconv.uint64pow10", laid_internal_strconv_uint64pow10), ("strconv.ErrRange", laid_strconv_ErrRange), ("strconv.ErrSyntax", laid_strconv_ErrSyntax)] }
def ExprShortSaid : Prop := exprShortRow.holds Tryd.pinned (OpenSpec.ofChange exprShortSpec)

/-- ITS FALSE NEIGHBOUR: 'it returns false'. Refute it at one input. -/
def exprShortWrong : ChangeSpec := { name := "exprShort", fn := fun _ => fun
  | [d1, d2, d3, d4] => { results := [.lit (.bool false)], args := [d1, d2, d3, d4] }
  | _ => none }
def ExprShortWrongFalsely : Prop := exprShortRow.holds Tryd.pinned (OpenSpec.ofChange exprShortWrong)

/-- 'penancelaw2.ExprBack': WHATEVER THE INPUT: true; the input reads as it did. -/
def exprBackSpec : ChangeSpec := { name := "exprBack", fn := fun _ => fun
  | [d] => { results := [.lit (.bool true)], args := [d] }
  | _ => none }
def exprBackRow : OpenClaim := { program := "ytjfnhpnfkknmoaadoor", sum := "bf8a47a9a9b2477a67a5a721ba7380f4b3fb36caa83c747f0ddce958980eb2ce", func := "penance/penancelaw2.ExprBack", spec := "exprBack", unfollowed := true, recurses := true, named := ["strconv.ErrSyntax", "strconv.ErrRange", "internal/strconv.uint64pow10", "math/bits.deBruijn32tab", "math/bits.deBruijn64tab"], loops := true, apart := false, laid := [("math/bits.deBruijn32tab", laid_math_bits_deBruijn32tab), ("math/bits.deBruijn64tab", laid_math_bits_deBruijn64tab), ("internal/strconv.uint64pow10", laid_internal_strconv_uint64pow10), ("strconv.ErrRange", laid_strconv_ErrRange), ("strconv.ErrSyntax", laid_strconv_ErrSyntax)] }
def ExprBackSaid : Prop := exprBackRow.holds Tryd.pinned (OpenSpec.ofChange exprBackSpec)

/-- ITS FALSE NEIGHBOUR: 'it returns false'. Refute it at one input. -/
def exprBackWrong : ChangeSpec := { name := "exprBack", fn := fun _ => fun
  | [d] => { results := [.lit (.bool false)], args := [d] }
  | _ => none }
def ExprBackWrongFalsely : Prop := exprBackRow.holds Tryd.pinned (OpenSpec.ofChange exprBackWrong)

/-- 'penancelaw2.ExprNames': WHATEVER THE INPUT: true; the input reads as it did. -/
def exprNamesSpec : ChangeSpec := { name := "exprNames", fn := fun _ => fun
  | [d] => { results := [.lit (.bool true)], args := [d] }
  | _ => none }
def exprNamesRow : OpenClaim := { program := "ytjfnhpnfkknmoaadoor", sum := "bf8a47a9a9b2477a67a5a721ba7380f4b3fb36caa83c747f0ddce958980eb2ce", func := "penance/penancelaw2.ExprNames", spec := "exprNames", unfollowed := true, recurses := true, named := ["strconv.ErrSyntax", "strconv.ErrRange", "internal/strconv.uint64pow10", "math/bits.deBruijn32tab", "math/bits.deBruijn64tab"], loops := true, apart := false, laid := [("math/bits.deBruijn32tab", laid_math_bits_deBruijn32tab), ("math/bits.deBruijn64tab", laid_math_bits_deBruijn64tab), ("internal/strconv.uint64pow10", laid_internal_strconv_uint64pow10), ("strconv.ErrRange", laid_strconv_ErrRange), ("strconv.ErrSyntax", laid_strconv_ErrSyntax)] }
def ExprNamesSaid : Prop := exprNamesRow.holds Tryd.pinned (OpenSpec.ofChange exprNamesSpec)

/-- ITS FALSE NEIGHBOUR: 'it returns false'. Refute it at one input. -/
def exprNamesWrong : ChangeSpec := { name := "exprNames", fn := fun _ => fun
  | [d] => { results := [.lit (.bool false)], args := [d] }
  | _ => none }
def ExprNamesWrongFalsely : Prop := exprNamesRow.holds Tryd.pinned (OpenSpec.ofChange exprNamesWrong)

/-- 'penancelaw2.ExprEvals': WHATEVER THE INPUT: true; the input reads as it did. -/
def exprEvalsSpec : ChangeSpec := { name := "exprEvals", fn := fun _ => fun
  | [d1, d2] => { results := [.lit (.bool true)], args := [d1, d2] }
  | _ => none }
def exprEvalsRow : OpenClaim := { program := "ytjfnhpnfkknmoaadoor", sum := "bf8a47a9a9b2477a67a5a721ba7380f4b3fb36caa83c747f0ddce958980eb2ce", func := "penance/penancelaw2.ExprEvals", spec := "exprEvals", unfollowed := true, recurses := true, named := ["strconv.ErrSyntax", "strconv.ErrRange", "internal/strconv.uint64pow10", "math/bits.deBruijn32tab", "math/bits.deBruijn64tab"], loops := true, apart := false, laid := [("math/bits.deBruijn32tab", laid_math_bits_deBruijn32tab), ("math/bits.deBruijn64tab", laid_math_bits_deBruijn64tab), ("internal/strconv.uint64pow10", laid_internal_strconv_uint64pow10), ("strconv.ErrRange", laid_strconv_ErrRange), ("strconv.ErrSyntax", laid_strconv_ErrSyntax)] }
def ExprEvalsSaid : Prop := exprEvalsRow.holds Tryd.pinned (OpenSpec.ofChange exprEvalsSpec)

/-- ITS FALSE NEIGHBOUR: 'it returns false'. Refute it at one input. -/
def exprEvalsWrong : ChangeSpec := { name := "exprEvals", fn := fun _ => fun
  | [d1, d2] => { results := [.lit (.bool false)], args := [d1, d2] }
  | _ => none }
def ExprEvalsWrongFalsely : Prop := exprEvalsRow.holds Tryd.pinned (OpenSpec.ofChange exprEvalsWrong)

/-- 'penancelaw2.ExprRight': WHATEVER THE INPUT: true; the input reads as it did. -/
def exprRightSpec : ChangeSpec := { name := "exprRight", fn := fun _ => fun
  | [d1, d2, d3, d4, d5] => { results := [.lit (.bool true)], args := [d1, d2, d3, d4, d5] }
  | _ => none }
def exprRightRow : OpenClaim := { program := "ytjfnhpnfkknmoaadoor", sum := "bf8a47a9a9b2477a67a5a721ba7380f4b3fb36caa83c747f0ddce958980eb2ce", func := "penance/penancelaw2.ExprRight", spec := "exprRight", unfollowed := true, recurses := true, named := ["strconv.ErrSyntax", "strconv.ErrRange", "internal/strconv.uint64pow10", "math/bits.deBruijn32tab", "math/bits.deBruijn64tab"], loops := true, apart := false, laid := [("math/bits.deBruijn32tab", laid_math_bits_deBruijn32tab), ("math/bits.deBruijn64tab", laid_math_bits_deBruijn64tab), ("internal/strconv.uint64pow10", laid_internal_strconv_uint64pow10), ("strconv.ErrRange", laid_strconv_ErrRange), ("strconv.ErrSyntax", laid_strconv_ErrSyntax)] }
def ExprRightSaid : Prop := exprRightRow.holds Tryd.pinned (OpenSpec.ofChange exprRightSpec)

/-- ITS FALSE NEIGHBOUR: 'it returns false'. Refute it at one input. -/
def exprRightWrong : ChangeSpec := { name := "exprRight", fn := fun _ => fun
  | [d1, d2, d3, d4, d5] => { results := [.lit (.bool false)], args := [d1, d2, d3, d4, d5] }
  | _ => none }
def ExprRightWrongFalsely : Prop := exprRightRow.holds Tryd.pinned (OpenSpec.ofChange exprRightWrong)

/- THE SECOND FORM. 'bulk': how many values and letters a reading holds, each counted each time it is reached (what is shared counts as often as it is met; a slice's spare places count too). A statement '..UptoSaid' is the law's where the arguments, and the package variables that the reading takes, are together of bulk at most 1048576: NARROWER than '..Said'. Prove '..Said' where nothing that the law and all that it calls make is longer than what came in: it says more and counts as full. Else prove '..UptoSaid'. A law counts once. -/
mutual
def uptoBulk {H : Type} : DataW H → Nat
  | .lit (.string bytes) => bytes.length + 1
  | .lit _ => 1
  | .nil => 1
  | .ptr d => uptoBulk d + 1
  | .slice elems spare => uptoBulkAll elems + uptoBulkAll spare + 1
  | .agg parts => uptoBulkAll parts + 1
  | .iface _ d => uptoBulk d + 1
  | .map entries => uptoBulkEntries entries + 1
  | .held _ => 1
def uptoBulkAll {H : Type} : List (DataW H) → Nat
  | [] => 0
  | d :: r => uptoBulk d + uptoBulkAll r
def uptoBulkEntries {H : Type} : List (Lit × DataW H) → Nat
  | [] => 0
  | x :: r => uptoBulkEntry x + uptoBulkEntries r
def uptoBulkEntry {H : Type} : Lit × DataW H → Nat
  | (.string bytes, d) => bytes.length + uptoBulk d + 1
  | (_, d) => uptoBulk d + 1
 end
def uptoSmall : (H : Type) → List (DataW H) → Bool := fun _ ds => decide (uptoBulkAll ds ≤ 1048576)
def OpenSpec.upto (s : _root_.Go.ChangeSpec) : _root_.Go.OpenSpec := { _root_.Go.OpenSpec.ofChange s with cond := some uptoSmall }

/-- 'penancelaw2.ExprKnown', WHERE WHAT IT READS IS OF BULK AT MOST 1048576: true; the input reads as it did. -/
def exprKnownUptoRow : OpenClaim := { program := "ytjfnhpnfkknmoaadoor", sum := "bf8a47a9a9b2477a67a5a721ba7380f4b3fb36caa83c747f0ddce958980eb2ce", func := "penance/penancelaw2.ExprKnown", spec := "exprKnown", unfollowed := true, recurses := true, named := ["strconv.ErrSyntax", "strconv.ErrRange", "internal/strconv.uint64pow10", "math/bits.deBruijn32tab", "math/bits.deBruijn64tab"], apart := false, laid := [("math/bits.deBruijn32tab", laid_math_bits_deBruijn32tab), ("math/bits.deBruijn64tab", laid_math_bits_deBruijn64tab), ("internal/strconv.uint64pow10", laid_internal_strconv_uint64pow10), ("strconv.ErrRange", laid_strconv_ErrRange), ("strconv.ErrSyntax", laid_strconv_ErrSyntax)], narrowed := true }
def ExprKnownUptoSaid : Prop := exprKnownUptoRow.holds Tryd.pinned (OpenSpec.upto exprKnownSpec)

/-- 'penancelaw2.ExprErrs', WHERE WHAT IT READS IS OF BULK AT MOST 1048576: true; the input reads as it did. -/
def exprErrsUptoRow : OpenClaim := { program := "ytjfnhpnfkknmoaadoor", sum := "bf8a47a9a9b2477a67a5a721ba7380f4b3fb36caa83c747f0ddce958980eb2ce", func := "penance/penancelaw2.ExprErrs", spec := "exprErrs", unfollowed := true, recurses := true, named := ["strconv.ErrSyntax", "strconv.ErrRange", "internal/strconv.uint64pow10", "math/bits.deBruijn32tab", "math/bits.deBruijn64tab"], apart := false, laid := [("math/bits.deBruijn32tab", laid_math_bits_deBruijn32tab), ("math/bits.deBruijn64tab", laid_math_bits_deBruijn64tab), ("internal/strconv.uint64pow10", laid_internal_strconv_uint64pow10), ("strconv.ErrRange", laid_strconv_ErrRange), ("strconv.ErrSyntax", laid_strconv_ErrSyntax)], narrowed := true }
def ExprErrsUptoSaid : Prop := exprErrsUptoRow.holds Tryd.pinned (OpenSpec.upto exprErrsSpec)

/-- 'penancelaw2.ExprDeep', WHERE WHAT IT READS IS OF BULK AT MOST 1048576: true; the input reads as it did. -/
def exprDeepUptoRow : OpenClaim := { program := "ytjfnhpnfkknmoaadoor", sum := "bf8a47a9a9b2477a67a5a721ba7380f4b3fb36caa83c747f0ddce958980eb2ce", func := "penance/penancelaw2.ExprDeep", spec := "exprDeep", unfollowed := true, recurses := true, named := ["strconv.ErrSyntax", "strconv.ErrRange", "internal/strconv.uint64pow10", "math/bits.deBruijn32tab", "math/bits.deBruijn64tab"], apart := false, laid := [("math/bits.deBruijn32tab", laid_math_bits_deBruijn32tab), ("math/bits.deBruijn64tab", laid_math_bits_deBruijn64tab), ("internal/strconv.uint64pow10", laid_internal_strconv_uint64pow10), ("strconv.ErrRange", laid_strconv_ErrRange), ("strconv.ErrSyntax", laid_strconv_ErrSyntax)], narrowed := true }
def ExprDeepUptoSaid : Prop := exprDeepUptoRow.holds Tryd.pinned (OpenSpec.upto exprDeepSpec)

/-- 'penancelaw2.ExprTwo', WHERE WHAT IT READS IS OF BULK AT MOST 1048576: true; the input reads as it did. -/
def exprTwoUptoRow : OpenClaim := { program := "ytjfnhpnfkknmoaadoor", sum := "bf8a47a9a9b2477a67a5a721ba7380f4b3fb36caa83c747f0ddce958980eb2ce", func := "penance/penancelaw2.ExprTwo", spec := "exprTwo", unfollowed := true, recurses := true, named := ["strconv.ErrSyntax", "strconv.ErrRange", "internal/strconv.uint64pow10", "math/bits.deBruijn32tab", "math/bits.deBruijn64tab"], apart := false, laid := [("math/bits.deBruijn32tab", laid_math_bits_deBruijn32tab), ("math/bits.deBruijn64tab", laid_math_bits_deBruijn64tab), ("internal/strconv.uint64pow10", laid_internal_strconv_uint64pow10), ("strconv.ErrRange", laid_strconv_ErrRange), ("strconv.ErrSyntax", laid_strconv_ErrSyntax)], narrowed := true }
def ExprTwoUptoSaid : Prop := exprTwoUptoRow.holds Tryd.pinned (OpenSpec.upto exprTwoSpec)

/-- 'penancelaw2.ExprLaws', WHERE WHAT IT READS IS OF BULK AT MOST 1048576: true; the input reads as it did. -/
def exprLawsUptoRow : OpenClaim := { program := "ytjfnhpnfkknmoaadoor", sum := "bf8a47a9a9b2477a67a5a721ba7380f4b3fb36caa83c747f0ddce958980eb2ce", func := "penance/penancelaw2.ExprLaws", spec := "exprLaws", unfollowed := true, recurses := true, named := ["strconv.ErrSyntax", "strconv.ErrRange", "internal/strconv.uint64pow10", "math/bits.deBruijn32tab", "math/bits.deBruijn64tab"], apart := false, laid := [("math/bits.deBruijn32tab", laid_math_bits_deBruijn32tab), ("math/bits.deBruijn64tab", laid_math_bits_deBruijn64tab), ("internal/strconv.uint64pow10", laid_internal_strconv_uint64pow10), ("strconv.ErrRange", laid_strconv_ErrRange), ("strconv.ErrSyntax", laid_strconv_ErrSyntax)], narrowed := true }
def ExprLawsUptoSaid : Prop := exprLawsUptoRow.holds Tryd.pinned (OpenSpec.upto exprLawsSpec)

/-- 'penancelaw2.ExprShort', WHERE WHAT IT READS IS OF BULK AT MOST 1048576: true; the input reads as it did. -/
def exprShortUptoRow : OpenClaim := { program := "ytjfnhpnfkknmoaadoor", sum := "bf8a47a9a9b2477a67a5a721ba7380f4b3fb36caa83c747f0ddce958980eb2ce", func := "penance/penancelaw2.ExprShort", spec := "exprShort", unfollowed := true, recurses := true, named := ["strconv.ErrSyntax", "strconv.ErrRange", "internal/strconv.uint64pow10", "math/bits.deBruijn32tab", "math/bits.deBruijn64tab"], loops := true, apart := false, laid := [("math/bits.deBruijn32tab", laid_math_bits_deBruijn32tab), ("math/bits.deBruijn64tab", laid_math_bits_deBruijn64tab), ("internal/strconv.uint64pow10", laid_internal_strconv_uint64pow10), ("strconv.ErrRange", laid_strconv_ErrRange), ("strconv.ErrSyntax", laid_strconv_ErrSyntax)], narrowed := true }
def ExprShortUptoSaid : Prop := exprShortUptoRow.holds Tryd.pinned (OpenSpec.upto exprShortSpec)

/-- 'penancelaw2.ExprBack', WHERE WHAT IT READS IS OF BULK AT MOST 1048576: true; the input reads as it did. -/
def exprBackUptoRow : OpenClaim := { program := "ytjfnhpnfkknmoaadoor", sum := "bf8a47a9a9b2477a67a5a721ba7380f4b3fb36caa83c747f0ddce958980eb2ce", func := "penance/penancelaw2.ExprBack", spec := "exprBack", unfollowed := true, recurses := true, named := ["strconv.ErrSyntax", "strconv.ErrRange", "internal/strconv.uint64pow10", "math/bits.deBruijn32tab", "math/bits.deBruijn64tab"], loops := true, apart := false, laid := [("math/bits.deBruijn32tab", laid_math_bits_deBruijn32tab), ("math/bits.deBruijn64tab", laid_math_bits_deBruijn64tab), ("internal/strconv.uint64pow10", laid_internal_strconv_uint64pow10), ("strconv.ErrRange", laid_strconv_ErrRange), ("strconv.ErrSyntax", laid_strconv_ErrSyntax)], narrowed := true }
def ExprBackUptoSaid : Prop := exprBackUptoRow.holds Tryd.pinned (OpenSpec.upto exprBackSpec)

/-- 'penancelaw2.ExprNames', WHERE WHAT IT READS IS OF BULK AT MOST 1048576: true; the input reads as it did. -/
def exprNamesUptoRow : OpenClaim := { program := "ytjfnhpnfkknmoaadoor", sum := "bf8a47a9a9b2477a67a5a721ba7380f4b3fb36caa83c747f0ddce958980eb2ce", func := "penance/penancelaw2.ExprNames", spec := "exprNames", unfollowed := true, recurses := true, named := ["strconv.ErrSyntax", "strconv.ErrRange", "internal/strconv.uint64pow10", "math/bits.deBruijn32tab", "math/bits.deBruijn64tab"], loops := true, apart := false, laid := [("math/bits.deBruijn32tab", laid_math_bits_deBruijn32tab), ("math/bits.deBruijn64tab", laid_math_bits_deBruijn64tab), ("internal/strconv.uint64pow10", laid_internal_strconv_uint64pow10), ("strconv.ErrRange", laid_strconv_ErrRange), ("strconv.ErrSyntax", laid_strconv_ErrSyntax)], narrowed := true }
def ExprNamesUptoSaid : Prop := exprNamesUptoRow.holds Tryd.pinned (OpenSpec.upto exprNamesSpec)

/-- 'penancelaw2.ExprEvals', WHERE WHAT IT READS IS OF BULK AT MOST 1048576: true; the input reads as it did. -/
def exprEvalsUptoRow : OpenClaim := { program := "ytjfnhpnfkknmoaadoor", sum := "bf8a47a9a9b2477a67a5a721ba7380f4b3fb36caa83c747f0ddce958980eb2ce", func := "penance/penancelaw2.ExprEvals", spec := "exprEvals", unfollowed := true, recurses := true, named := ["strconv.ErrSyntax", "strconv.ErrRange", "internal/strconv.uint64pow10", "math/bits.deBruijn32tab", "math/bits.deBruijn64tab"], loops := true, apart := false, laid := [("math/bits.deBruijn32tab", laid_math_bits_deBruijn32tab), ("math/bits.deBruijn64tab", laid_math_bits_deBruijn64tab), ("internal/strconv.uint64pow10", laid_internal_strconv_uint64pow10), ("strconv.ErrRange", laid_strconv_ErrRange), ("strconv.ErrSyntax", laid_strconv_ErrSyntax)], narrowed := true }
def ExprEvalsUptoSaid : Prop := exprEvalsUptoRow.holds Tryd.pinned (OpenSpec.upto exprEvalsSpec)

/-- 'penancelaw2.ExprRight', WHERE WHAT IT READS IS OF BULK AT MOST 1048576: true; the input reads as it did. -/
def exprRightUptoRow : OpenClaim := { program := "ytjfnhpnfkknmoaadoor", sum := "bf8a47a9a9b2477a67a5a721ba7380f4b3fb36caa83c747f0ddce958980eb2ce", func := "penance/penancelaw2.ExprRight", spec := "exprRight", unfollowed := true, recurses := true, named := ["strconv.ErrSyntax", "strconv.ErrRange", "internal/strconv.uint64pow10", "math/bits.deBruijn32tab", "math/bits.deBruijn64tab"], loops := true, apart := false, laid := [("math/bits.deBruijn32tab", laid_math_bits_deBruijn32tab), ("math/bits.deBruijn64tab", laid_math_bits_deBruijn64tab), ("internal/strconv.uint64pow10", laid_internal_strconv_uint64pow10), ("strconv.ErrRange", laid_strconv_ErrRange), ("strconv.ErrSyntax", laid_strconv_ErrSyntax)], narrowed := true }
def ExprRightUptoSaid : Prop := exprRightUptoRow.holds Tryd.pinned (OpenSpec.upto exprRightSpec)

end Rows
end Go.Proofs.YtjfnhpnfkknmoaaDoor

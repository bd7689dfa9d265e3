/-
  No cell of these rows narrows 'for every input' (looked for: loops, veiled, ifaces, maps, wideKeys, modest, calm, conditions, laid).
  DERIVED. THE GIVEN ROWS OF THIS SEAT. 10 by the template 'for every input the law returns true; each argument reads behind the call as it read before'; 0 by the template 'total and deterministic' (their statements: YtlmfkkbbakaaaaaTotals.lean).
  GIVEN WITH THE SEED: the statements are not yours to turn. If you find one false, say at which input.
  Laid BY PROGRAM, IN A SANDBOX (cutbox-rows.mjs): the forced cells as the released guide's own fill.sh prints them over the translation da5185e939b76359… (all of the seat's roots in one cut). By AI agents, Wed Nov 11 2026. No macro, syntax, notation, axiom, sorry.
-/
import Derived.Test.YtlmfkkbbakaaaaaChecked
import GoSem.Claim
import GoSem.ClaimJoined
import GoSem.ClaimMapViews
import Derived.JoinedTies
import Derived.KernelRfl
namespace Go.Proofs.Ytlmfkkbbakaaaaa
/- THE CELL 'sum', in the pinned program and in every row, IS THE sha256 OF THE DUMP (.gsa) THAT YtlmfkkbbakaaaaaProg.lean LOADS. Nothing in Lean hashes anything: it is a label: what it is worth is what the hold of that sum in a sandbox is worth. -/
noncomputable def Try.pinned : Pinned := { name := "ytlmfkkbbakaaaaa", sum := "da5185e939b76359c2e3272a7537e26428fdbaa72287ba64878cbdf85d8447b1", checked := Try.checked }
namespace Rows
def none {H : Type} : Left H := { results := [], args := [] }

/-- 'penancelaw1.LexSigns': WHATEVER THE INPUT: true; the input reads as it did. -/
def lexSignsSpec : ChangeSpec := { name := "lexSigns", fn := fun _ => fun
  | [d1, d2, d3, d4, d5, d6] => { results := [.lit (.bool true)], args := [d1, d2, d3, d4, d5, d6] }
  | _ => none }
def lexSignsRow : OpenClaim := { program := "ytlmfkkbbakaaaaa", sum := "da5185e939b76359c2e3272a7537e26428fdbaa72287ba64878cbdf85d8447b1", func := "penance/penancelaw1.LexSigns", spec := "lexSigns", inPlace := ["internal/bytealg.IndexByteString"], unfollowed := true, recurses := true, apart := false }
def LexSignsSaid : Prop := lexSignsRow.holds Try.pinned (OpenSpec.ofChange lexSignsSpec)

/-- ITS FALSE NEIGHBOUR: 'it returns false'. Refute it at one input. -/
def lexSignsWrong : ChangeSpec := { name := "lexSigns", fn := fun _ => fun
  | [d1, d2, d3, d4, d5, d6] => { results := [.lit (.bool false)], args := [d1, d2, d3, d4, d5, d6] }
  | _ => none }
def LexSignsWrongFalsely : Prop := lexSignsRow.holds Try.pinned (OpenSpec.ofChange lexSignsWrong)

/-- 'penancelaw1.LexNames': WHATEVER THE INPUT: true; the input reads as it did. -/
def lexNamesSpec : ChangeSpec := { name := "lexNames", fn := fun _ => fun
  | [d1, d2, d3, d4] => { results := [.lit (.bool true)], args := [d1, d2, d3, d4] }
  | _ => none }
def lexNamesRow : OpenClaim := { program := "ytlmfkkbbakaaaaa", sum := "da5185e939b76359c2e3272a7537e26428fdbaa72287ba64878cbdf85d8447b1", func := "penance/penancelaw1.LexNames", spec := "lexNames", inPlace := ["internal/bytealg.IndexByteString"], unfollowed := true, recurses := true, apart := false }
def LexNamesSaid : Prop := lexNamesRow.holds Try.pinned (OpenSpec.ofChange lexNamesSpec)

/-- ITS FALSE NEIGHBOUR: 'it returns false'. Refute it at one input. -/
def lexNamesWrong : ChangeSpec := { name := "lexNames", fn := fun _ => fun
  | [d1, d2, d3, d4] => { results := [.lit (.bool false)], args := [d1, d2, d3, d4] }
  | _ => none }
def LexNamesWrongFalsely : Prop := lexNamesRow.holds Try.pinned (OpenSpec.ofChange lexNamesWrong)

/-- 'penancelaw1.LexPlaces': WHATEVER THE INPUT: true; the input reads as it did. -/
def lexPlacesSpec : ChangeSpec := { name := "lexPlaces", fn := fun _ => fun
  | [d] => { results := [.lit (.bool true)], args := [d] }
  | _ => none }
def lexPlacesRow : OpenClaim := { program := "ytlmfkkbbakaaaaa", sum := "da5185e939b76359c2e3272a7537e26428fdbaa72287ba64878cbdf85d8447b1", func := "penance/penancelaw1.LexPlaces", spec := "lexPlaces", inPlace := ["internal/bytealg.IndexByteString"], unfollowed := true, recurses := true, apart := false }
def LexPlacesSaid : Prop := lexPlacesRow.holds Try.pinned (OpenSpec.ofChange lexPlacesSpec)

/-- ITS FALSE NEIGHBOUR: 'it returns false'. Refute it at one input. -/
def lexPlacesWrong : ChangeSpec := { name := "lexPlaces", fn := fun _ => fun
  | [d] => { results := [.lit (.bool false)], args := [d] }
  | _ => none }
def LexPlacesWrongFalsely : Prop := lexPlacesRow.holds Try.pinned (OpenSpec.ofChange lexPlacesWrong)

/-- 'penancelaw1.LexJoined': WHATEVER THE INPUT: true; the input reads as it did. -/
def lexJoinedSpec : ChangeSpec := { name := "lexJoined", fn := fun _ => fun
  | [d1, d2] => { results := [.lit (.bool true)], args := [d1, d2] }
  | _ => none }
def lexJoinedRow : OpenClaim := { program := "ytlmfkkbbakaaaaa", sum := "da5185e939b76359c2e3272a7537e26428fdbaa72287ba64878cbdf85d8447b1", func := "penance/penancelaw1.LexJoined", spec := "lexJoined", inPlace := ["internal/bytealg.IndexByteString"], unfollowed := true, recurses := true, apart := false }
def LexJoinedSaid : Prop := lexJoinedRow.holds Try.pinned (OpenSpec.ofChange lexJoinedSpec)

/-- ITS FALSE NEIGHBOUR: 'it returns false'. Refute it at one input. -/
def lexJoinedWrong : ChangeSpec := { name := "lexJoined", fn := fun _ => fun
  | [d1, d2] => { results := [.lit (.bool false)], args := [d1, d2] }
  | _ => none }
def LexJoinedWrongFalsely : Prop := lexJoinedRow.holds Try.pinned (OpenSpec.ofChange lexJoinedWrong)

/-- 'penancelaw1.LexKnown': WHATEVER THE INPUT: true; the input reads as it did. -/
def lexKnownSpec : ChangeSpec := { name := "lexKnown", fn := fun _ => fun
  | [d] => { results := [.lit (.bool true)], args := [d] }
  | _ => none }
def lexKnownRow : OpenClaim := { program := "ytlmfkkbbakaaaaa", sum := "da5185e939b76359c2e3272a7537e26428fdbaa72287ba64878cbdf85d8447b1", func := "penance/penancelaw1.LexKnown", spec := "lexKnown", inPlace := ["internal/bytealg.IndexByteString"], unfollowed := true, recurses := true, apart := false }
def LexKnownSaid : Prop := lexKnownRow.holds Try.pinned (OpenSpec.ofChange lexKnownSpec)

/-- ITS FALSE NEIGHBOUR: 'it returns false'. Refute it at one input. -/
def lexKnownWrong : ChangeSpec := { name := "lexKnown", fn := fun _ => fun
  | [d] => { results := [.lit (.bool false)], args := [d] }
  | _ => none }
def LexKnownWrongFalsely : Prop := lexKnownRow.holds Try.pinned (OpenSpec.ofChange lexKnownWrong)

/-- 'penancelaw1.LexLong': WHATEVER THE INPUT: true; the input reads as it did. -/
def lexLongSpec : ChangeSpec := { name := "lexLong", fn := fun _ => fun
  | [d1, d2] => { results := [.lit (.bool true)], args := [d1, d2] }
  | _ => none }
def lexLongRow : OpenClaim := { program := "ytlmfkkbbakaaaaa", sum := "da5185e939b76359c2e3272a7537e26428fdbaa72287ba64878cbdf85d8447b1", func := "penance/penancelaw1.LexLong", spec := "lexLong", inPlace := ["internal/bytealg.IndexByteString"], unfollowed := true, recurses := true, apart := false }
def LexLongSaid : Prop := lexLongRow.holds Try.pinned (OpenSpec.ofChange lexLongSpec)

/-- ITS FALSE NEIGHBOUR: 'it returns false'. Refute it at one input. -/
def lexLongWrong : ChangeSpec := { name := "lexLong", fn := fun _ => fun
  | [d1, d2] => { results := [.lit (.bool false)], args := [d1, d2] }
  | _ => none }
def LexLongWrongFalsely : Prop := lexLongRow.holds Try.pinned (OpenSpec.ofChange lexLongWrong)

/-- 'penancelaw1.LexBlanks': WHATEVER THE INPUT: true; the input reads as it did. -/
def lexBlanksSpec : ChangeSpec := { name := "lexBlanks", fn := fun _ => fun
  | [d1, d2] => { results := [.lit (.bool true)], args := [d1, d2] }
  | _ => none }
def lexBlanksRow : OpenClaim := { program := "ytlmfkkbbakaaaaa", sum := "da5185e939b76359c2e3272a7537e26428fdbaa72287ba64878cbdf85d8447b1", func := "penance/penancelaw1.LexBlanks", spec := "lexBlanks", inPlace := ["internal/bytealg.IndexByteString"], unfollowed := true, recurses := true, apart := false }
def LexBlanksSaid : Prop := lexBlanksRow.holds Try.pinned (OpenSpec.ofChange lexBlanksSpec)

/-- ITS FALSE NEIGHBOUR: 'it returns false'. Refute it at one input. -/
def lexBlanksWrong : ChangeSpec := { name := "lexBlanks", fn := fun _ => fun
  | [d1, d2] => { results := [.lit (.bool false)], args := [d1, d2] }
  | _ => none }
def LexBlanksWrongFalsely : Prop := lexBlanksRow.holds Try.pinned (OpenSpec.ofChange lexBlanksWrong)

/-- 'penancelaw1.LexWords': WHATEVER THE INPUT: true; the input reads as it did. -/
def lexWordsSpec : ChangeSpec := { name := "lexWords", fn := fun _ => fun
  | [d1, d2, d3] => { results := [.lit (.bool true)], args := [d1, d2, d3] }
  | _ => none }
def lexWordsRow : OpenClaim := { program := "ytlmfkkbbakaaaaa", sum := "da5185e939b76359c2e3272a7537e26428fdbaa72287ba64878cbdf85d8447b1", func := "penance/penancelaw1.LexWords", spec := "lexWords", inPlace := ["internal/bytealg.IndexByteString"], unfollowed := true, recurses := true, apart := false }
def LexWordsSaid : Prop := lexWordsRow.holds Try.pinned (OpenSpec.ofChange lexWordsSpec)

/-- ITS FALSE NEIGHBOUR: 'it returns false'. Refute it at one input. -/
def lexWordsWrong : ChangeSpec := { name := "lexWords", fn := fun _ => fun
  | [d1, d2, d3] => { results := [.lit (.bool false)], args := [d1, d2, d3] }
  | _ => none }
def LexWordsWrongFalsely : Prop := lexWordsRow.holds Try.pinned (OpenSpec.ofChange lexWordsWrong)

/-- 'penancelaw1.LexCut': WHATEVER THE INPUT: true; the input reads as it did. -/
def lexCutSpec : ChangeSpec := { name := "lexCut", fn := fun _ => fun
  | [d1, d2] => { results := [.lit (.bool true)], args := [d1, d2] }
  | _ => none }
def lexCutRow : OpenClaim := { program := "ytlmfkkbbakaaaaa", sum := "da5185e939b76359c2e3272a7537e26428fdbaa72287ba64878cbdf85d8447b1", func := "penance/penancelaw1.LexCut", spec := "lexCut", inPlace := ["internal/bytealg.IndexByteString"], unfollowed := true, recurses := true, apart := false }
def LexCutSaid : Prop := lexCutRow.holds Try.pinned (OpenSpec.ofChange lexCutSpec)

/-- ITS FALSE NEIGHBOUR: 'it returns false'. Refute it at one input. -/
def lexCutWrong : ChangeSpec := { name := "lexCut", fn := fun _ => fun
  | [d1, d2] => { results := [.lit (.bool false)], args := [d1, d2] }
  | _ => none }
def LexCutWrongFalsely : Prop := lexCutRow.holds Try.pinned (OpenSpec.ofChange lexCutWrong)

/-- 'penancelaw1.LexErr': WHATEVER THE INPUT: true; the input reads as it did. -/
def lexErrSpec : ChangeSpec := { name := "lexErr", fn := fun _ => fun
  | [d1, d2, d3] => { results := [.lit (.bool true)], args := [d1, d2, d3] }
  | _ => none }
def lexErrRow : OpenClaim := { program := "ytlmfkkbbakaaaaa", sum := "da5185e939b76359c2e3272a7537e26428fdbaa72287ba64878cbdf85d8447b1", func := "penance/penancelaw1.LexErr", spec := "lexErr", inPlace := ["internal/bytealg.IndexByteString"], unfollowed := true, recurses := true, apart := false }
def LexErrSaid : Prop := lexErrRow.holds Try.pinned (OpenSpec.ofChange lexErrSpec)

/-- ITS FALSE NEIGHBOUR: 'it returns false'. Refute it at one input. -/
def lexErrWrong : ChangeSpec := { name := "lexErr", fn := fun _ => fun
  | [d1, d2, d3] => { results := [.lit (.bool false)], args := [d1, d2, d3] }
  | _ => none }
def LexErrWrongFalsely : Prop := lexErrRow.holds Try.pinned (OpenSpec.ofChange lexErrWrong)

/- THE SECOND FORM. 'bulk': how many values and letters a reading holds, each counted each time it is reached (what is shared counts as often as it is met; a slice's spare places count too). A statement '..UptoSaid' is the law's where the arguments, and the package variables that the reading takes, are together of bulk at most 1048576: NARROWER than '..Said'. Prove '..Said' where nothing that the law and all that it calls make is longer than what came in: it says more and counts as full. Else prove '..UptoSaid'. A law counts once. -/
mutual
def uptoBulk {H : Type} : DataW H → Nat
  | .lit (.string bytes) => bytes.length + 1
  | .lit _ => 1
  | .nil => 1
  | .ptr d => uptoBulk d + 1
  | .slice elems spare => uptoBulkAll elems + uptoBulkAll spare + 1
  | .agg parts => uptoBulkAll parts + 1
  | .iface _ d => uptoBulk d + 1
  | .map entries => uptoBulkEntries entries + 1
  | .held _ => 1
def uptoBulkAll {H : Type} : List (DataW H) → Nat
  | [] => 0
  | d :: r => uptoBulk d + uptoBulkAll r
def uptoBulkEntries {H : Type} : List (Lit × DataW H) → Nat
  | [] => 0
  | x :: r => uptoBulkEntry x + uptoBulkEntries r
def uptoBulkEntry {H : Type} : Lit × DataW H → Nat
  | (.string bytes, d) => bytes.length + uptoBulk d + 1
  | (_, d) => uptoBulk d + 1
 end
def uptoSmall : (H : Type) → List (DataW H) → Bool := fun _ ds => decide (uptoBulkAll ds ≤ 1048576)
def OpenSpec.upto (s : _root_.Go.ChangeSpec) : _root_.Go.OpenSpec := { _root_.Go.OpenSpec.ofChange s with cond := some uptoSmall }

/-- 'penancelaw1.LexSigns', WHERE WHAT IT READS IS OF BULK AT MOST 1048576: true; the input reads as it did. -/
def lexSignsUptoRow : OpenClaim := { program := "ytlmfkkbbakaaaaa", sum := "da5185e939b76359c2e3272a7537e26428fdbaa72287ba64878cbdf85d8447b1", func := "penance/penancelaw1.LexSigns", spec := "lexSigns", inPlace := ["internal/bytealg.IndexByteString"], unfollowed := true, recurses := true, apart := false, narrowed := true }
def LexSignsUptoSaid : Prop := lexSignsUptoRow.holds Try.pinned (OpenSpec.upto lexSignsSpec)

/-- 'penancelaw1.LexNames', WHERE WHAT IT READS IS OF BULK AT MOST 1048576: true; the input reads as it did. -/
def lexNamesUptoRow : OpenClaim := { program := "ytlmfkkbbakaaaaa", sum := "da5185e939b76359c2e3272a7537e26428fdbaa72287ba64878cbdf85d8447b1", func := "penance/penancelaw1.LexNames", spec := "lexNames", inPlace := ["internal/bytealg.IndexByteString"], unfollowed := true, recurses := true, apart := false, narrowed := true }
def LexNamesUptoSaid : Prop := lexNamesUptoRow.holds Try.pinned (OpenSpec.upto lexNamesSpec)

/-- 'penancelaw1.LexPlaces', WHERE WHAT IT READS IS OF BULK AT MOST 1048576: true; the input reads as it did. -/
def lexPlacesUptoRow : OpenClaim := { program := "ytlmfkkbbakaaaaa", sum := "da5185e939b76359c2e3272a7537e26428fdbaa72287ba64878cbdf85d8447b1", func := "penance/penancelaw1.LexPlaces", spec := "lexPlaces", inPlace := ["internal/bytealg.IndexByteString"], unfollowed := true, recurses := true, apart := false, narrowed := true }
def LexPlacesUptoSaid : Prop := lexPlacesUptoRow.holds Try.pinned (OpenSpec.upto lexPlacesSpec)

/-- 'penancelaw1.LexJoined', WHERE WHAT IT READS IS OF BULK AT MOST 1048576: true; the input reads as it did. -/
def lexJoinedUptoRow : OpenClaim := { program := "ytlmfkkbbakaaaaa", sum := "da5185e939b76359c2e3272a7537e26428fdbaa72287ba64878cbdf85d8447b1", func := "penance/penancelaw1.LexJoined", spec := "lexJoined", inPlace := ["internal/bytealg.IndexByteString"], unfollowed := true, recurses := true, apart := false, narrowed := true }
def LexJoinedUptoSaid : Prop := lexJoinedUptoRow.holds Try.pinned (OpenSpec.upto lexJoinedSpec)

/-- 'penancelaw1.LexKnown', WHERE WHAT IT READS IS OF BULK AT MOST 1048576: true; the input reads as it did. -/
def lexKnownUptoRow : OpenClaim := { program := "ytlmfkkbbakaaaaa", sum := "da5185e939b76359c2e3272a7537e26428fdbaa72287ba64878cbdf85d8447b1", func := "penance/penancelaw1.LexKnown", spec := "lexKnown", inPlace := ["internal/bytealg.IndexByteString"], unfollowed := true, recurses := true, apart := false, narrowed := true }
def LexKnownUptoSaid : Prop := lexKnownUptoRow.holds Try.pinned (OpenSpec.upto lexKnownSpec)

/-- 'penancelaw1.LexLong', WHERE WHAT IT READS IS OF BULK AT MOST 1048576: true; the input reads as it did. -/
def lexLongUptoRow : OpenClaim := { program := "ytlmfkkbbakaaaaa", sum := "da5185e939b76359c2e3272a7537e26428fdbaa72287ba64878cbdf85d8447b1", func := "penance/penancelaw1.LexLong", spec := "lexLong", inPlace := ["internal/bytealg.IndexByteString"], unfollowed := true, recurses := true, apart := false, narrowed := true }
def LexLongUptoSaid : Prop := lexLongUptoRow.holds Try.pinned (OpenSpec.upto lexLongSpec)

/-- 'penancelaw1.LexBlanks', WHERE WHAT IT READS IS OF BULK AT MOST 1048576: true; the input reads as it did. -/
def lexBlanksUptoRow : OpenClaim := { program := "ytlmfkkbbakaaaaa", sum := "da5185e939b76359c2e3272a7537e26428fdbaa72287ba64878cbdf85d8447b1", func := "penance/penancelaw1.LexBlanks", spec := "lexBlanks", inPlace := ["internal/bytealg.IndexByteString"], unfollowed := true, recurses := true, apart := false, narrowed := true }
def LexBlanksUptoSaid : Prop := lexBlanksUptoRow.holds Try.pinned (OpenSpec.upto lexBlanksSpec)

/-- 'penancelaw1.LexWords', WHERE WHAT IT READS IS OF BULK AT MOST 1048576: true; the input reads as it did. -/
def lexWordsUptoRow : OpenClaim := { program := "ytlmfkkbbakaaaaa", sum := "da5185e939b76359c2e3272a7537e26428fdbaa72287ba64878cbdf85d8447b1", func := "penance/penancelaw1.LexWords", spec := "lexWords", inPlace := ["internal/bytealg.IndexByteString"], unfollowed := true, recurses := true, apart := false, narrowed := true }
def LexWordsUptoSaid : Prop := lexWordsUptoRow.holds Try.pinned (OpenSpec.upto lexWordsSpec)

/-- 'penancelaw1.LexCut', WHERE WHAT IT READS IS OF BULK AT MOST 1048576: true; the input reads as it did. -/
def lexCutUptoRow : OpenClaim := { program := "ytlmfkkbbakaaaaa", sum := "da5185e939b76359c2e3272a7537e26428fdbaa72287ba64878cbdf85d8447b1", func := "penance/penancelaw1.LexCut", spec := "lexCut", inPlace := ["internal/bytealg.IndexByteString"], unfollowed := true, recurses := true, apart := false, narrowed := true }
def LexCutUptoSaid : Prop := lexCutUptoRow.holds Try.pinned (OpenSpec.upto lexCutSpec)

/-- 'penancelaw1.LexErr', WHERE WHAT IT READS IS OF BULK AT MOST 1048576: true; the input reads as it did. -/
def lexErrUptoRow : OpenClaim := { program := "ytlmfkkbbakaaaaa", sum := "da5185e939b76359c2e3272a7537e26428fdbaa72287ba64878cbdf85d8447b1", func := "penance/penancelaw1.LexErr", spec := "lexErr", inPlace := ["internal/bytealg.IndexByteString"], unfollowed := true, recurses := true, apart := false, narrowed := true }
def LexErrUptoSaid : Prop := lexErrUptoRow.holds Try.pinned (OpenSpec.upto lexErrSpec)

end Rows
end Go.Proofs.Ytlmfkkbbakaaaaa

/-
  No cell of these rows narrows 'for every input' (looked for: loops, veiled, ifaces, maps, wideKeys, modest, calm, conditions, laid).
  DERIVED. THE GIVEN ROWS OF THIS SEAT. 10 by the template 'for every input the law returns true; each argument reads behind the call as it read before'; 0 by the template 'total and deterministic' (their statements: YtamfelnjdnjemaaTotals.lean).
  GIVEN WITH THE SEED: the statements are not yours to turn. If you find one false, say at which input.
  Laid BY PROGRAM, IN A SANDBOX (cutbox-rows.mjs): the forced cells as the released guide's own fill.sh prints them over the translation 83353a22bae601f1… (all of the seat's roots in one cut). By AI agents, Wed Nov 11 2026. No macro, syntax, notation, axiom, sorry.
-/
import Derived.Test.YtamfelnjdnjemaaChecked
import GoSem.Claim
import GoSem.ClaimJoined
import GoSem.ClaimMapViews
import Derived.JoinedTies
import Derived.KernelRfl
namespace Go.Proofs.Ytamfelnjdnjemaa
/- THE CELL 'sum', in the pinned program and in every row, IS THE sha256 OF THE DUMP (.gsa) THAT YtamfelnjdnjemaaProg.lean LOADS. Nothing in Lean hashes anything: it is a label: what it is worth is what the hold of that sum in a sandbox is worth. -/
noncomputable def Try.pinned : Pinned := { name := "ytamfelnjdnjemaa", sum := "83353a22bae601f1df5e461d77811e9a5dc07bc6cad8f01a6154a179345338a1", checked := Try.checked }
namespace Rows
def none {H : Type} : Left H := { results := [], args := [] }

/-- 'penancelaw11.LogOrder': WHATEVER THE INPUT: true; the input reads as it did. -/
def logOrderSpec : ChangeSpec := { name := "logOrder", fn := fun _ => fun
  | [d] => { results := [.lit (.bool true)], args := [d] }
  | _ => none }
def logOrderRow : OpenClaim := { program := "ytamfelnjdnjemaa", sum := "83353a22bae601f1df5e461d77811e9a5dc07bc6cad8f01a6154a179345338a1", func := "penance/penancelaw11.LogOrder", spec := "logOrder", unfollowed := true, recurses := true, apart := false }
def LogOrderSaid : Prop := logOrderRow.holds Try.pinned (OpenSpec.ofChange logOrderSpec)

/-- ITS FALSE NEIGHBOUR: 'it returns false'. Refute it at one input. -/
def logOrderWrong : ChangeSpec := { name := "logOrder", fn := fun _ => fun
  | [d] => { results := [.lit (.bool false)], args := [d] }
  | _ => none }
def LogOrderWrongFalsely : Prop := logOrderRow.holds Try.pinned (OpenSpec.ofChange logOrderWrong)

/-- 'penancelaw11.LogPlays': WHATEVER THE INPUT: true; the input reads as it did. -/
def logPlaysSpec : ChangeSpec := { name := "logPlays", fn := fun _ => fun
  | [d1, d2, d3] => { results := [.lit (.bool true)], args := [d1, d2, d3] }
  | _ => none }
def logPlaysRow : OpenClaim := { program := "ytamfelnjdnjemaa", sum := "83353a22bae601f1df5e461d77811e9a5dc07bc6cad8f01a6154a179345338a1", func := "penance/penancelaw11.LogPlays", spec := "logPlays", unfollowed := true, recurses := true, apart := false }
def LogPlaysSaid : Prop := logPlaysRow.holds Try.pinned (OpenSpec.ofChange logPlaysSpec)

/-- ITS FALSE NEIGHBOUR: 'it returns false'. Refute it at one input. -/
def logPlaysWrong : ChangeSpec := { name := "logPlays", fn := fun _ => fun
  | [d1, d2, d3] => { results := [.lit (.bool false)], args := [d1, d2, d3] }
  | _ => none }
def LogPlaysWrongFalsely : Prop := logPlaysRow.holds Try.pinned (OpenSpec.ofChange logPlaysWrong)

/-- 'penancelaw11.LogFull': WHATEVER THE INPUT: true; the input reads as it did. -/
def logFullSpec : ChangeSpec := { name := "logFull", fn := fun _ => fun
  | [d1, d2] => { results := [.lit (.bool true)], args := [d1, d2] }
  | _ => none }
def logFullRow : OpenClaim := { program := "ytamfelnjdnjemaa", sum := "83353a22bae601f1df5e461d77811e9a5dc07bc6cad8f01a6154a179345338a1", func := "penance/penancelaw11.LogFull", spec := "logFull", unfollowed := true, recurses := true, apart := false }
def LogFullSaid : Prop := logFullRow.holds Try.pinned (OpenSpec.ofChange logFullSpec)

/-- ITS FALSE NEIGHBOUR: 'it returns false'. Refute it at one input. -/
def logFullWrong : ChangeSpec := { name := "logFull", fn := fun _ => fun
  | [d1, d2] => { results := [.lit (.bool false)], args := [d1, d2] }
  | _ => none }
def LogFullWrongFalsely : Prop := logFullRow.holds Try.pinned (OpenSpec.ofChange logFullWrong)

/-- 'penancelaw11.LogSure': WHATEVER THE INPUT: true; the input reads as it did. -/
def logSureSpec : ChangeSpec := { name := "logSure", fn := fun _ => fun
  | [d1, d2, d3] => { results := [.lit (.bool true)], args := [d1, d2, d3] }
  | _ => none }
def logSureRow : OpenClaim := { program := "ytamfelnjdnjemaa", sum := "83353a22bae601f1df5e461d77811e9a5dc07bc6cad8f01a6154a179345338a1", func := "penance/penancelaw11.LogSure", spec := "logSure", unfollowed := true, recurses := true, apart := false }
def LogSureSaid : Prop := logSureRow.holds Try.pinned (OpenSpec.ofChange logSureSpec)

/-- ITS FALSE NEIGHBOUR: 'it returns false'. Refute it at one input. -/
def logSureWrong : ChangeSpec := { name := "logSure", fn := fun _ => fun
  | [d1, d2, d3] => { results := [.lit (.bool false)], args := [d1, d2, d3] }
  | _ => none }
def LogSureWrongFalsely : Prop := logSureRow.holds Try.pinned (OpenSpec.ofChange logSureWrong)

/-- 'penancelaw11.LogOwn': WHATEVER THE INPUT: true; the input reads as it did. -/
def logOwnSpec : ChangeSpec := { name := "logOwn", fn := fun _ => fun
  | [d1, d2] => { results := [.lit (.bool true)], args := [d1, d2] }
  | _ => none }
def logOwnRow : OpenClaim := { program := "ytamfelnjdnjemaa", sum := "83353a22bae601f1df5e461d77811e9a5dc07bc6cad8f01a6154a179345338a1", func := "penance/penancelaw11.LogOwn", spec := "logOwn", unfollowed := true, recurses := true, apart := false }
def LogOwnSaid : Prop := logOwnRow.holds Try.pinned (OpenSpec.ofChange logOwnSpec)

/-- ITS FALSE NEIGHBOUR: 'it returns false'. Refute it at one input. -/
def logOwnWrong : ChangeSpec := { name := "logOwn", fn := fun _ => fun
  | [d1, d2] => { results := [.lit (.bool false)], args := [d1, d2] }
  | _ => none }
def LogOwnWrongFalsely : Prop := logOwnRow.holds Try.pinned (OpenSpec.ofChange logOwnWrong)

/-- 'penancelaw11.LogSyncs': WHATEVER THE INPUT: true; the input reads as it did. -/
def logSyncsSpec : ChangeSpec := { name := "logSyncs", fn := fun _ => fun
  | [d1, d2] => { results := [.lit (.bool true)], args := [d1, d2] }
  | _ => none }
def logSyncsRow : OpenClaim := { program := "ytamfelnjdnjemaa", sum := "83353a22bae601f1df5e461d77811e9a5dc07bc6cad8f01a6154a179345338a1", func := "penance/penancelaw11.LogSyncs", spec := "logSyncs", unfollowed := true, recurses := true, apart := false }
def LogSyncsSaid : Prop := logSyncsRow.holds Try.pinned (OpenSpec.ofChange logSyncsSpec)

/-- ITS FALSE NEIGHBOUR: 'it returns false'. Refute it at one input. -/
def logSyncsWrong : ChangeSpec := { name := "logSyncs", fn := fun _ => fun
  | [d1, d2] => { results := [.lit (.bool false)], args := [d1, d2] }
  | _ => none }
def LogSyncsWrongFalsely : Prop := logSyncsRow.holds Try.pinned (OpenSpec.ofChange logSyncsWrong)

/-- 'penancelaw11.LogTorn': WHATEVER THE INPUT: true; the input reads as it did. -/
def logTornSpec : ChangeSpec := { name := "logTorn", fn := fun _ => fun
  | [d1, d2, d3] => { results := [.lit (.bool true)], args := [d1, d2, d3] }
  | _ => none }
def logTornRow : OpenClaim := { program := "ytamfelnjdnjemaa", sum := "83353a22bae601f1df5e461d77811e9a5dc07bc6cad8f01a6154a179345338a1", func := "penance/penancelaw11.LogTorn", spec := "logTorn", unfollowed := true, recurses := true, apart := false }
def LogTornSaid : Prop := logTornRow.holds Try.pinned (OpenSpec.ofChange logTornSpec)

/-- ITS FALSE NEIGHBOUR: 'it returns false'. Refute it at one input. -/
def logTornWrong : ChangeSpec := { name := "logTorn", fn := fun _ => fun
  | [d1, d2, d3] => { results := [.lit (.bool false)], args := [d1, d2, d3] }
  | _ => none }
def LogTornWrongFalsely : Prop := logTornRow.holds Try.pinned (OpenSpec.ofChange logTornWrong)

/-- 'penancelaw11.LogCrashes': WHATEVER THE INPUT: true; the input reads as it did. -/
def logCrashesSpec : ChangeSpec := { name := "logCrashes", fn := fun _ => fun
  | [d1, d2, d3, d4, d5, d6] => { results := [.lit (.bool true)], args := [d1, d2, d3, d4, d5, d6] }
  | _ => none }
def logCrashesRow : OpenClaim := { program := "ytamfelnjdnjemaa", sum := "83353a22bae601f1df5e461d77811e9a5dc07bc6cad8f01a6154a179345338a1", func := "penance/penancelaw11.LogCrashes", spec := "logCrashes", unfollowed := true, recurses := true, apart := false }
def LogCrashesSaid : Prop := logCrashesRow.holds Try.pinned (OpenSpec.ofChange logCrashesSpec)

/-- ITS FALSE NEIGHBOUR: 'it returns false'. Refute it at one input. -/
def logCrashesWrong : ChangeSpec := { name := "logCrashes", fn := fun _ => fun
  | [d1, d2, d3, d4, d5, d6] => { results := [.lit (.bool false)], args := [d1, d2, d3, d4, d5, d6] }
  | _ => none }
def LogCrashesWrongFalsely : Prop := logCrashesRow.holds Try.pinned (OpenSpec.ofChange logCrashesWrong)

/-- 'penancelaw11.LogCompacts': WHATEVER THE INPUT: true; the input reads as it did. -/
def logCompactsSpec : ChangeSpec := { name := "logCompacts", fn := fun _ => fun
  | [d1, d2, d3, d4] => { results := [.lit (.bool true)], args := [d1, d2, d3, d4] }
  | _ => none }
def logCompactsRow : OpenClaim := { program := "ytamfelnjdnjemaa", sum := "83353a22bae601f1df5e461d77811e9a5dc07bc6cad8f01a6154a179345338a1", func := "penance/penancelaw11.LogCompacts", spec := "logCompacts", unfollowed := true, recurses := true, apart := false }
def LogCompactsSaid : Prop := logCompactsRow.holds Try.pinned (OpenSpec.ofChange logCompactsSpec)

/-- ITS FALSE NEIGHBOUR: 'it returns false'. Refute it at one input. -/
def logCompactsWrong : ChangeSpec := { name := "logCompacts", fn := fun _ => fun
  | [d1, d2, d3, d4] => { results := [.lit (.bool false)], args := [d1, d2, d3, d4] }
  | _ => none }
def LogCompactsWrongFalsely : Prop := logCompactsRow.holds Try.pinned (OpenSpec.ofChange logCompactsWrong)

/-- 'penancelaw11.LogKeeps': WHATEVER THE INPUT: true; the input reads as it did. -/
def logKeepsSpec : ChangeSpec := { name := "logKeeps", fn := fun _ => fun
  | [d1, d2, d3, d4] => { results := [.lit (.bool true)], args := [d1, d2, d3, d4] }
  | _ => none }
def logKeepsRow : OpenClaim := { program := "ytamfelnjdnjemaa", sum := "83353a22bae601f1df5e461d77811e9a5dc07bc6cad8f01a6154a179345338a1", func := "penance/penancelaw11.LogKeeps", spec := "logKeeps", unfollowed := true, recurses := true, apart := false }
def LogKeepsSaid : Prop := logKeepsRow.holds Try.pinned (OpenSpec.ofChange logKeepsSpec)

/-- ITS FALSE NEIGHBOUR: 'it returns false'. Refute it at one input. -/
def logKeepsWrong : ChangeSpec := { name := "logKeeps", fn := fun _ => fun
  | [d1, d2, d3, d4] => { results := [.lit (.bool false)], args := [d1, d2, d3, d4] }
  | _ => none }
def LogKeepsWrongFalsely : Prop := logKeepsRow.holds Try.pinned (OpenSpec.ofChange logKeepsWrong)

/- THE SECOND FORM. 'bulk': how many values and letters a reading holds, each counted each time it is reached (what is shared counts as often as it is met; a slice's spare places count too). A statement '..UptoSaid' is the law's where the arguments, and the package variables that the reading takes, are together of bulk at most 1048576: NARROWER than '..Said'. Prove '..Said' where nothing that the law and all that it calls make is longer than what came in: it says more and counts as full. Else prove '..UptoSaid'. A law counts once. -/
mutual
def uptoBulk {H : Type} : DataW H → Nat
  | .lit (.string bytes) => bytes.length + 1
  | .lit _ => 1
  | .nil => 1
  | .ptr d => uptoBulk d + 1
  | .slice elems spare => uptoBulkAll elems + uptoBulkAll spare + 1
  | .agg parts => uptoBulkAll parts + 1
  | .iface _ d => uptoBulk d + 1
  | .map entries => uptoBulkEntries entries + 1
  | .held _ => 1
def uptoBulkAll {H : Type} : List (DataW H) → Nat
  | [] => 0
  | d :: r => uptoBulk d + uptoBulkAll r
def uptoBulkEntries {H : Type} : List (Lit × DataW H) → Nat
  | [] => 0
  | x :: r => uptoBulkEntry x + uptoBulkEntries r
def uptoBulkEntry {H : Type} : Lit × DataW H → Nat
  | (.string bytes, d) => bytes.length + uptoBulk d + 1
  | (_, d) => uptoBulk d + 1
 end
def uptoSmall : (H : Type) → List (DataW H) → Bool := fun _ ds => decide (uptoBulkAll ds ≤ 1048576)
def OpenSpec.upto (s : _root_.Go.ChangeSpec) : _root_.Go.OpenSpec := { _root_.Go.OpenSpec.ofChange s with cond := some uptoSmall }

/-- 'penancelaw11.LogOrder', WHERE WHAT IT READS IS OF BULK AT MOST 1048576: true; the input reads as it did. -/
def logOrderUptoRow : OpenClaim := { program := "ytamfelnjdnjemaa", sum := "83353a22bae601f1df5e461d77811e9a5dc07bc6cad8f01a6154a179345338a1", func := "penance/penancelaw11.LogOrder", spec := "logOrder", unfollowed := true, recurses := true, apart := false, narrowed := true }
def LogOrderUptoSaid : Prop := logOrderUptoRow.holds Try.pinned (OpenSpec.upto logOrderSpec)

/-- 'penancelaw11.LogPlays', WHERE WHAT IT READS IS OF BULK AT MOST 1048576: true; the input reads as it did. -/
def logPlaysUptoRow : OpenClaim := { program := "ytamfelnjdnjemaa", sum := "83353a22bae601f1df5e461d77811e9a5dc07bc6cad8f01a6154a179345338a1", func := "penance/penancelaw11.LogPlays", spec := "logPlays", unfollowed := true, recurses := true, apart := false, narrowed := true }
def LogPlaysUptoSaid : Prop := logPlaysUptoRow.holds Try.pinned (OpenSpec.upto logPlaysSpec)

/-- 'penancelaw11.LogFull', WHERE WHAT IT READS IS OF BULK AT MOST 1048576: true; the input reads as it did. -/
def logFullUptoRow : OpenClaim := { program := "ytamfelnjdnjemaa", sum := "83353a22bae601f1df5e461d77811e9a5dc07bc6cad8f01a6154a179345338a1", func := "penance/penancelaw11.LogFull", spec := "logFull", unfollowed := true, recurses := true, apart := false, narrowed := true }
def LogFullUptoSaid : Prop := logFullUptoRow.holds Try.pinned (OpenSpec.upto logFullSpec)

/-- 'penancelaw11.LogSure', WHERE WHAT IT READS IS OF BULK AT MOST 1048576: true; the input reads as it did. -/
def logSureUptoRow : OpenClaim := { program := "ytamfelnjdnjemaa", sum := "83353a22bae601f1df5e461d77811e9a5dc07bc6cad8f01a6154a179345338a1", func := "penance/penancelaw11.LogSure", spec := "logSure", unfollowed := true, recurses := true, apart := false, narrowed := true }
def LogSureUptoSaid : Prop := logSureUptoRow.holds Try.pinned (OpenSpec.upto logSureSpec)

/-- 'penancelaw11.LogOwn', WHERE WHAT IT READS IS OF BULK AT MOST 1048576: true; the input reads as it did. -/
def logOwnUptoRow : OpenClaim := { program := "ytamfelnjdnjemaa", sum := "83353a22bae601f1df5e461d77811e9a5dc07bc6cad8f01a6154a179345338a1", func := "penance/penancelaw11.LogOwn", spec := "logOwn", unfollowed := true, recurses := true, apart := false, narrowed := true }
def LogOwnUptoSaid : Prop := logOwnUptoRow.holds Try.pinned (OpenSpec.upto logOwnSpec)

/-- 'penancelaw11.LogSyncs', WHERE WHAT IT READS IS OF BULK AT MOST 1048576: true; the input reads as it did. -/
def logSyncsUptoRow : OpenClaim := { program := "ytamfelnjdnjemaa", sum := "83353a22bae601f1df5e461d77811e9a5dc07bc6cad8f01a6154a179345338a1", func := "penance/penancelaw11.LogSyncs", spec := "logSyncs", unfollowed := true, recurses := true, apart := false, narrowed := true }
def LogSyncsUptoSaid : Prop := logSyncsUptoRow.holds Try.pinned (OpenSpec.upto logSyncsSpec)

/-- 'penancelaw11.LogTorn', WHERE WHAT IT READS IS OF BULK AT MOST 1048576: true; the input reads as it did. -/
def logTornUptoRow : OpenClaim := { program := "ytamfelnjdnjemaa", sum := "83353a22bae601f1df5e461d77811e9a5dc07bc6cad8f01a6154a179345338a1", func := "penance/penancelaw11.LogTorn", spec := "logTorn", unfollowed := true, recurses := true, apart := false, narrowed := true }
def LogTornUptoSaid : Prop := logTornUptoRow.holds Try.pinned (OpenSpec.upto logTornSpec)

/-- 'penancelaw11.LogCrashes', WHERE WHAT IT READS IS OF BULK AT MOST 1048576: true; the input reads as it did. -/
def logCrashesUptoRow : OpenClaim := { program := "ytamfelnjdnjemaa", sum := "83353a22bae601f1df5e461d77811e9a5dc07bc6cad8f01a6154a179345338a1", func := "penance/penancelaw11.LogCrashes", spec := "logCrashes", unfollowed := true, recurses := true, apart := false, narrowed := true }
def LogCrashesUptoSaid : Prop := logCrashesUptoRow.holds Try.pinned (OpenSpec.upto logCrashesSpec)

/-- 'penancelaw11.LogCompacts', WHERE WHAT IT READS IS OF BULK AT MOST 1048576: true; the input reads as it did. -/
def logCompactsUptoRow : OpenClaim := { program := "ytamfelnjdnjemaa", sum := "83353a22bae601f1df5e461d77811e9a5dc07bc6cad8f01a6154a179345338a1", func := "penance/penancelaw11.LogCompacts", spec := "logCompacts", unfollowed := true, recurses := true, apart := false, narrowed := true }
def LogCompactsUptoSaid : Prop := logCompactsUptoRow.holds Try.pinned (OpenSpec.upto logCompactsSpec)

/-- 'penancelaw11.LogKeeps', WHERE WHAT IT READS IS OF BULK AT MOST 1048576: true; the input reads as it did. -/
def logKeepsUptoRow : OpenClaim := { program := "ytamfelnjdnjemaa", sum := "83353a22bae601f1df5e461d77811e9a5dc07bc6cad8f01a6154a179345338a1", func := "penance/penancelaw11.LogKeeps", spec := "logKeeps", unfollowed := true, recurses := true, apart := false, narrowed := true }
def LogKeepsUptoSaid : Prop := logKeepsUptoRow.holds Try.pinned (OpenSpec.upto logKeepsSpec)

end Rows
end Go.Proofs.Ytamfelnjdnjemaa

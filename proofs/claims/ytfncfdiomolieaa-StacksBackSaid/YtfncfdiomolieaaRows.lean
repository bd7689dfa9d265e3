/-
  NARROWER THAN 'FOR EVERY INPUT', by the rows' own cells (each row's printed sentence says how): StacksOthers: loops · StacksBack: loops · StacksAll: loops · StacksMerges: loops · StacksOwn: loops · StacksSizes: loops · StacksTwice: loops · StacksRound: loops.
  DERIVED. THE GIVEN ROWS OF THIS SEAT. 10 by the template 'for every input the law returns true; each argument reads behind the call as it read before'; 0 by the template 'total and deterministic' (their statements: YtfncfdiomolieaaTotals.lean).
  GIVEN WITH THE SEED: the statements are not yours to turn. If you find one false, say at which input.
  Laid BY PROGRAM, IN A SANDBOX (cutbox-rows.mjs): the forced cells as the released guide's own fill.sh prints them over the translation 64ca69b3c8ed70a6… (all of the seat's roots in one cut). By AI agents, Wed Nov 11 2026. No macro, syntax, notation, axiom, sorry.
-/
import Derived.Test.YtfncfdiomolieaaChecked
import GoSem.Claim
import GoSem.ClaimJoined
import GoSem.ClaimMapViews
import Derived.JoinedTies
import Derived.KernelRfl
namespace Go.Proofs.Ytfncfdiomolieaa
/- THE CELL 'sum', in the pinned program and in every row, IS THE sha256 OF THE DUMP (.gsa) THAT YtfncfdiomolieaaProg.lean LOADS. Nothing in Lean hashes anything: it is a label: what it is worth is what the hold of that sum in a sandbox is worth. -/
noncomputable def Try.pinned : Pinned := { name := "ytfncfdiomolieaa", sum := "64ca69b3c8ed70a642f72e000e8d62c52fe6aeaddebf353a77bbbecbce3b2baf", checked := Try.checked }
namespace Rows
def none {H : Type} : Left H := { results := [], args := [] }

/-- 'penancelaw6.StacksLast': WHATEVER THE INPUT: true; the input reads as it did. -/
def stacksLastSpec : ChangeSpec := { name := "stacksLast", fn := fun _ => fun
  | [d] => { results := [.lit (.bool true)], args := [d] }
  | _ => none }
def stacksLastRow : OpenClaim := { program := "ytfncfdiomolieaa", sum := "64ca69b3c8ed70a642f72e000e8d62c52fe6aeaddebf353a77bbbecbce3b2baf", func := "penance/penancelaw6.StacksLast", spec := "stacksLast", unfollowed := true, recurses := true, apart := false }
def StacksLastSaid : Prop := stacksLastRow.holds Try.pinned (OpenSpec.ofChange stacksLastSpec)

/-- ITS FALSE NEIGHBOUR: 'it returns false'. Refute it at one input. -/
def stacksLastWrong : ChangeSpec := { name := "stacksLast", fn := fun _ => fun
  | [d] => { results := [.lit (.bool false)], args := [d] }
  | _ => none }
def StacksLastWrongFalsely : Prop := stacksLastRow.holds Try.pinned (OpenSpec.ofChange stacksLastWrong)

/-- 'penancelaw6.StacksOthers': WHATEVER THE INPUT: true; the input reads as it did. -/
def stacksOthersSpec : ChangeSpec := { name := "stacksOthers", fn := fun _ => fun
  | [d1, d2, d3, d4] => { results := [.lit (.bool true)], args := [d1, d2, d3, d4] }
  | _ => none }
def stacksOthersRow : OpenClaim := { program := "ytfncfdiomolieaa", sum := "64ca69b3c8ed70a642f72e000e8d62c52fe6aeaddebf353a77bbbecbce3b2baf", func := "penance/penancelaw6.StacksOthers", spec := "stacksOthers", unfollowed := true, recurses := true, loops := true, apart := false }
def StacksOthersSaid : Prop := stacksOthersRow.holds Try.pinned (OpenSpec.ofChange stacksOthersSpec)

/-- ITS FALSE NEIGHBOUR: 'it returns false'. Refute it at one input. -/
def stacksOthersWrong : ChangeSpec := { name := "stacksOthers", fn := fun _ => fun
  | [d1, d2, d3, d4] => { results := [.lit (.bool false)], args := [d1, d2, d3, d4] }
  | _ => none }
def StacksOthersWrongFalsely : Prop := stacksOthersRow.holds Try.pinned (OpenSpec.ofChange stacksOthersWrong)

/-- 'penancelaw6.StacksBack': WHATEVER THE INPUT: true; the input reads as it did. -/
def stacksBackSpec : ChangeSpec := { name := "stacksBack", fn := fun _ => fun
  | [d1, d2, d3, d4] => { results := [.lit (.bool true)], args := [d1, d2, d3, d4] }
  | _ => none }
def stacksBackRow : OpenClaim := { program := "ytfncfdiomolieaa", sum := "64ca69b3c8ed70a642f72e000e8d62c52fe6aeaddebf353a77bbbecbce3b2baf", func := "penance/penancelaw6.StacksBack", spec := "stacksBack", unfollowed := true, recurses := true, loops := true, apart := false }
def StacksBackSaid : Prop := stacksBackRow.holds Try.pinned (OpenSpec.ofChange stacksBackSpec)

/-- ITS FALSE NEIGHBOUR: 'it returns false'. Refute it at one input. -/
def stacksBackWrong : ChangeSpec := { name := "stacksBack", fn := fun _ => fun
  | [d1, d2, d3, d4] => { results := [.lit (.bool false)], args := [d1, d2, d3, d4] }
  | _ => none }
def StacksBackWrongFalsely : Prop := stacksBackRow.holds Try.pinned (OpenSpec.ofChange stacksBackWrong)

/-- 'penancelaw6.StacksAll': WHATEVER THE INPUT: true; the input reads as it did. -/
def stacksAllSpec : ChangeSpec := { name := "stacksAll", fn := fun _ => fun
  | [d1, d2, d3] => { results := [.lit (.bool true)], args := [d1, d2, d3] }
  | _ => none }
def stacksAllRow : OpenClaim := { program := "ytfncfdiomolieaa", sum := "64ca69b3c8ed70a642f72e000e8d62c52fe6aeaddebf353a77bbbecbce3b2baf", func := "penance/penancelaw6.StacksAll", spec := "stacksAll", unfollowed := true, recurses := true, loops := true, apart := false }
def StacksAllSaid : Prop := stacksAllRow.holds Try.pinned (OpenSpec.ofChange stacksAllSpec)

/-- ITS FALSE NEIGHBOUR: 'it returns false'. Refute it at one input. -/
def stacksAllWrong : ChangeSpec := { name := "stacksAll", fn := fun _ => fun
  | [d1, d2, d3] => { results := [.lit (.bool false)], args := [d1, d2, d3] }
  | _ => none }
def StacksAllWrongFalsely : Prop := stacksAllRow.holds Try.pinned (OpenSpec.ofChange stacksAllWrong)

/-- 'penancelaw6.StacksMerges': WHATEVER THE INPUT: true; the input reads as it did. -/
def stacksMergesSpec : ChangeSpec := { name := "stacksMerges", fn := fun _ => fun
  | [d1, d2, d3, d4] => { results := [.lit (.bool true)], args := [d1, d2, d3, d4] }
  | _ => none }
def stacksMergesRow : OpenClaim := { program := "ytfncfdiomolieaa", sum := "64ca69b3c8ed70a642f72e000e8d62c52fe6aeaddebf353a77bbbecbce3b2baf", func := "penance/penancelaw6.StacksMerges", spec := "stacksMerges", unfollowed := true, recurses := true, loops := true, apart := false }
def StacksMergesSaid : Prop := stacksMergesRow.holds Try.pinned (OpenSpec.ofChange stacksMergesSpec)

/-- ITS FALSE NEIGHBOUR: 'it returns false'. Refute it at one input. -/
def stacksMergesWrong : ChangeSpec := { name := "stacksMerges", fn := fun _ => fun
  | [d1, d2, d3, d4] => { results := [.lit (.bool false)], args := [d1, d2, d3, d4] }
  | _ => none }
def StacksMergesWrongFalsely : Prop := stacksMergesRow.holds Try.pinned (OpenSpec.ofChange stacksMergesWrong)

/-- 'penancelaw6.StacksOwn': WHATEVER THE INPUT: true; the input reads as it did. -/
def stacksOwnSpec : ChangeSpec := { name := "stacksOwn", fn := fun _ => fun
  | [d1, d2, d3, d4] => { results := [.lit (.bool true)], args := [d1, d2, d3, d4] }
  | _ => none }
def stacksOwnRow : OpenClaim := { program := "ytfncfdiomolieaa", sum := "64ca69b3c8ed70a642f72e000e8d62c52fe6aeaddebf353a77bbbecbce3b2baf", func := "penance/penancelaw6.StacksOwn", spec := "stacksOwn", unfollowed := true, recurses := true, loops := true, apart := false }
def StacksOwnSaid : Prop := stacksOwnRow.holds Try.pinned (OpenSpec.ofChange stacksOwnSpec)

/-- ITS FALSE NEIGHBOUR: 'it returns false'. Refute it at one input. -/
def stacksOwnWrong : ChangeSpec := { name := "stacksOwn", fn := fun _ => fun
  | [d1, d2, d3, d4] => { results := [.lit (.bool false)], args := [d1, d2, d3, d4] }
  | _ => none }
def StacksOwnWrongFalsely : Prop := stacksOwnRow.holds Try.pinned (OpenSpec.ofChange stacksOwnWrong)

/-- 'penancelaw6.StacksSizes': WHATEVER THE INPUT: true; the input reads as it did. -/
def stacksSizesSpec : ChangeSpec := { name := "stacksSizes", fn := fun _ => fun
  | [d1, d2, d3, d4] => { results := [.lit (.bool true)], args := [d1, d2, d3, d4] }
  | _ => none }
def stacksSizesRow : OpenClaim := { program := "ytfncfdiomolieaa", sum := "64ca69b3c8ed70a642f72e000e8d62c52fe6aeaddebf353a77bbbecbce3b2baf", func := "penance/penancelaw6.StacksSizes", spec := "stacksSizes", unfollowed := true, recurses := true, loops := true, apart := false }
def StacksSizesSaid : Prop := stacksSizesRow.holds Try.pinned (OpenSpec.ofChange stacksSizesSpec)

/-- ITS FALSE NEIGHBOUR: 'it returns false'. Refute it at one input. -/
def stacksSizesWrong : ChangeSpec := { name := "stacksSizes", fn := fun _ => fun
  | [d1, d2, d3, d4] => { results := [.lit (.bool false)], args := [d1, d2, d3, d4] }
  | _ => none }
def StacksSizesWrongFalsely : Prop := stacksSizesRow.holds Try.pinned (OpenSpec.ofChange stacksSizesWrong)

/-- 'penancelaw6.StacksTwice': WHATEVER THE INPUT: true; the input reads as it did. -/
def stacksTwiceSpec : ChangeSpec := { name := "stacksTwice", fn := fun _ => fun
  | [d1, d2, d3, d4] => { results := [.lit (.bool true)], args := [d1, d2, d3, d4] }
  | _ => none }
def stacksTwiceRow : OpenClaim := { program := "ytfncfdiomolieaa", sum := "64ca69b3c8ed70a642f72e000e8d62c52fe6aeaddebf353a77bbbecbce3b2baf", func := "penance/penancelaw6.StacksTwice", spec := "stacksTwice", unfollowed := true, recurses := true, loops := true, apart := false }
def StacksTwiceSaid : Prop := stacksTwiceRow.holds Try.pinned (OpenSpec.ofChange stacksTwiceSpec)

/-- ITS FALSE NEIGHBOUR: 'it returns false'. Refute it at one input. -/
def stacksTwiceWrong : ChangeSpec := { name := "stacksTwice", fn := fun _ => fun
  | [d1, d2, d3, d4] => { results := [.lit (.bool false)], args := [d1, d2, d3, d4] }
  | _ => none }
def StacksTwiceWrongFalsely : Prop := stacksTwiceRow.holds Try.pinned (OpenSpec.ofChange stacksTwiceWrong)

/-- 'penancelaw6.StacksRound': WHATEVER THE INPUT: true; the input reads as it did. -/
def stacksRoundSpec : ChangeSpec := { name := "stacksRound", fn := fun _ => fun
  | [d1, d2, d3, d4] => { results := [.lit (.bool true)], args := [d1, d2, d3, d4] }
  | _ => none }
def stacksRoundRow : OpenClaim := { program := "ytfncfdiomolieaa", sum := "64ca69b3c8ed70a642f72e000e8d62c52fe6aeaddebf353a77bbbecbce3b2baf", func := "penance/penancelaw6.StacksRound", spec := "stacksRound", unfollowed := true, recurses := true, loops := true, apart := false }
def StacksRoundSaid : Prop := stacksRoundRow.holds Try.pinned (OpenSpec.ofChange stacksRoundSpec)

/-- ITS FALSE NEIGHBOUR: 'it returns false'. Refute it at one input. -/
def stacksRoundWrong : ChangeSpec := { name := "stacksRound", fn := fun _ => fun
  | [d1, d2, d3, d4] => { results := [.lit (.bool false)], args := [d1, d2, d3, d4] }
  | _ => none }
def StacksRoundWrongFalsely : Prop := stacksRoundRow.holds Try.pinned (OpenSpec.ofChange stacksRoundWrong)

/-- 'penancelaw6.StacksRun': WHATEVER THE INPUT: true; the input reads as it did. -/
def stacksRunSpec : ChangeSpec := { name := "stacksRun", fn := fun _ => fun
  | [d1, d2] => { results := [.lit (.bool true)], args := [d1, d2] }
  | _ => none }
def stacksRunRow : OpenClaim := { program := "ytfncfdiomolieaa", sum := "64ca69b3c8ed70a642f72e000e8d62c52fe6aeaddebf353a77bbbecbce3b2baf", func := "penance/penancelaw6.StacksRun", spec := "stacksRun", unfollowed := true, recurses := true, apart := false }
def StacksRunSaid : Prop := stacksRunRow.holds Try.pinned (OpenSpec.ofChange stacksRunSpec)

/-- ITS FALSE NEIGHBOUR: 'it returns false'. Refute it at one input. -/
def stacksRunWrong : ChangeSpec := { name := "stacksRun", fn := fun _ => fun
  | [d1, d2] => { results := [.lit (.bool false)], args := [d1, d2] }
  | _ => none }
def StacksRunWrongFalsely : Prop := stacksRunRow.holds Try.pinned (OpenSpec.ofChange stacksRunWrong)

/- THE SECOND FORM. 'bulk': how many values and letters a reading holds, each counted each time it is reached (what is shared counts as often as it is met; a slice's spare places count too). A statement '..UptoSaid' is the law's where the arguments, and the package variables that the reading takes, are together of bulk at most 1048576: NARROWER than '..Said'. Prove '..Said' where nothing that the law and all that it calls make is longer than what came in: it says more and counts as full. Else prove '..UptoSaid'. A law counts once. -/
mutual
def uptoBulk {H : Type} : DataW H → Nat
  | .lit (.string bytes) => bytes.length + 1
  | .lit _ => 1
  | .nil => 1
  | .ptr d => uptoBulk d + 1
  | .slice elems spare => uptoBulkAll elems + uptoBulkAll spare + 1
  | .agg parts => uptoBulkAll parts + 1
  | .iface _ d => uptoBulk d + 1
  | .map entries => uptoBulkEntries entries + 1
  | .held _ => 1
def uptoBulkAll {H : Type} : List (DataW H) → Nat
  | [] => 0
  | d :: r => uptoBulk d + uptoBulkAll r
def uptoBulkEntries {H : Type} : List (Lit × DataW H) → Nat
  | [] => 0
  | x :: r => uptoBulkEntry x + uptoBulkEntries r
def uptoBulkEntry {H : Type} : Lit × DataW H → Nat
  | (.string bytes, d) => bytes.length + uptoBulk d + 1
  | (_, d) => uptoBulk d + 1
 end
def uptoSmall : (H : Type) → List (DataW H) → Bool := fun _ ds => decide (uptoBulkAll ds ≤ 1048576)
def OpenSpec.upto (s : _root_.Go.ChangeSpec) : _root_.Go.OpenSpec := { _root_.Go.OpenSpec.ofChange s with cond := some uptoSmall }

/-- 'penancelaw6.StacksLast', WHERE WHAT IT READS IS OF BULK AT MOST 1048576: true; the input reads as it did. -/
def stacksLastUptoRow : OpenClaim := { program := "ytfncfdiomolieaa", sum := "64ca69b3c8ed70a642f72e000e8d62c52fe6aeaddebf353a77bbbecbce3b2baf", func := "penance/penancelaw6.StacksLast", spec := "stacksLast", unfollowed := true, recurses := true, apart := false, narrowed := true }
def StacksLastUptoSaid : Prop := stacksLastUptoRow.holds Try.pinned (OpenSpec.upto stacksLastSpec)

/-- 'penancelaw6.StacksOthers', WHERE WHAT IT READS IS OF BULK AT MOST 1048576: true; the input reads as it did. -/
def stacksOthersUptoRow : OpenClaim := { program := "ytfncfdiomolieaa", sum := "64ca69b3c8ed70a642f72e000e8d62c52fe6aeaddebf353a77bbbecbce3b2baf", func := "penance/penancelaw6.StacksOthers", spec := "stacksOthers", unfollowed := true, recurses := true, loops := true, apart := false, narrowed := true }
def StacksOthersUptoSaid : Prop := stacksOthersUptoRow.holds Try.pinned (OpenSpec.upto stacksOthersSpec)

/-- 'penancelaw6.StacksBack', WHERE WHAT IT READS IS OF BULK AT MOST 1048576: true; the input reads as it did. -/
def stacksBackUptoRow : OpenClaim := { program := "ytfncfdiomolieaa", sum := "64ca69b3c8ed70a642f72e000e8d62c52fe6aeaddebf353a77bbbecbce3b2baf", func := "penance/penancelaw6.StacksBack", spec := "stacksBack", unfollowed := true, recurses := true, loops := true, apart := false, narrowed := true }
def StacksBackUptoSaid : Prop := stacksBackUptoRow.holds Try.pinned (OpenSpec.upto stacksBackSpec)

/-- 'penancelaw6.StacksAll', WHERE WHAT IT READS IS OF BULK AT MOST 1048576: true; the input reads as it did. -/
def stacksAllUptoRow : OpenClaim := { program := "ytfncfdiomolieaa", sum := "64ca69b3c8ed70a642f72e000e8d62c52fe6aeaddebf353a77bbbecbce3b2baf", func := "penance/penancelaw6.StacksAll", spec := "stacksAll", unfollowed := true, recurses := true, loops := true, apart := false, narrowed := true }
def StacksAllUptoSaid : Prop := stacksAllUptoRow.holds Try.pinned (OpenSpec.upto stacksAllSpec)

/-- 'penancelaw6.StacksMerges', WHERE WHAT IT READS IS OF BULK AT MOST 1048576: true; the input reads as it did. -/
def stacksMergesUptoRow : OpenClaim := { program := "ytfncfdiomolieaa", sum := "64ca69b3c8ed70a642f72e000e8d62c52fe6aeaddebf353a77bbbecbce3b2baf", func := "penance/penancelaw6.StacksMerges", spec := "stacksMerges", unfollowed := true, recurses := true, loops := true, apart := false, narrowed := true }
def StacksMergesUptoSaid : Prop := stacksMergesUptoRow.holds Try.pinned (OpenSpec.upto stacksMergesSpec)

/-- 'penancelaw6.StacksOwn', WHERE WHAT IT READS IS OF BULK AT MOST 1048576: true; the input reads as it did. -/
def stacksOwnUptoRow : OpenClaim := { program := "ytfncfdiomolieaa", sum := "64ca69b3c8ed70a642f72e000e8d62c52fe6aeaddebf353a77bbbecbce3b2baf", func := "penance/penancelaw6.StacksOwn", spec := "stacksOwn", unfollowed := true, recurses := true, loops := true, apart := false, narrowed := true }
def StacksOwnUptoSaid : Prop := stacksOwnUptoRow.holds Try.pinned (OpenSpec.upto stacksOwnSpec)

/-- 'penancelaw6.StacksSizes', WHERE WHAT IT READS IS OF BULK AT MOST 1048576: true; the input reads as it did. -/
def stacksSizesUptoRow : OpenClaim := { program := "ytfncfdiomolieaa", sum := "64ca69b3c8ed70a642f72e000e8d62c52fe6aeaddebf353a77bbbecbce3b2baf", func := "penance/penancelaw6.StacksSizes", spec := "stacksSizes", unfollowed := true, recurses := true, loops := true, apart := false, narrowed := true }
def StacksSizesUptoSaid : Prop := stacksSizesUptoRow.holds Try.pinned (OpenSpec.upto stacksSizesSpec)

/-- 'penancelaw6.StacksTwice', WHERE WHAT IT READS IS OF BULK AT MOST 1048576: true; the input reads as it did. -/
def stacksTwiceUptoRow : OpenClaim := { program := "ytfncfdiomolieaa", sum := "64ca69b3c8ed70a642f72e000e8d62c52fe6aeaddebf353a77bbbecbce3b2baf", func := "penance/penancelaw6.StacksTwice", spec := "stacksTwice", unfollowed := true, recurses := true, loops := true, apart := false, narrowed := true }
def StacksTwiceUptoSaid : Prop := stacksTwiceUptoRow.holds Try.pinned (OpenSpec.upto stacksTwiceSpec)

/-- 'penancelaw6.StacksRound', WHERE WHAT IT READS IS OF BULK AT MOST 1048576: true; the input reads as it did. -/
def stacksRoundUptoRow : OpenClaim := { program := "ytfncfdiomolieaa", sum := "64ca69b3c8ed70a642f72e000e8d62c52fe6aeaddebf353a77bbbecbce3b2baf", func := "penance/penancelaw6.StacksRound", spec := "stacksRound", unfollowed := true, recurses := true, loops := true, apart := false, narrowed := true }
def StacksRoundUptoSaid : Prop := stacksRoundUptoRow.holds Try.pinned (OpenSpec.upto stacksRoundSpec)

/-- 'penancelaw6.StacksRun', WHERE WHAT IT READS IS OF BULK AT MOST 1048576: true; the input reads as it did. -/
def stacksRunUptoRow : OpenClaim := { program := "ytfncfdiomolieaa", sum := "64ca69b3c8ed70a642f72e000e8d62c52fe6aeaddebf353a77bbbecbce3b2baf", func := "penance/penancelaw6.StacksRun", spec := "stacksRun", unfollowed := true, recurses := true, apart := false, narrowed := true }
def StacksRunUptoSaid : Prop := stacksRunUptoRow.holds Try.pinned (OpenSpec.upto stacksRunSpec)

end Rows
end Go.Proofs.Ytfncfdiomolieaa

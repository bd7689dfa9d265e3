/- A part of the texts that the claim's proof needs: functions of the program as the evaluator reads them, and what they come to. Conditions: those that its theorems state. -/
import Derived.Test.YtjfnhpnfkknmoaaDoorY2Code
import Derived.Test.YtjfnhpnfkknmoaaDoorPeD
set_option linter.unusedVariables false
set_option maxRecDepth 100000
set_option maxHeartbeats 4000000
namespace Go.Proofs.YtjfnhpnfkknmoaaDoor
open Go.Proofs.Pe
theorem known_p : PFn Tryd.prog T 13 [] fun z => z = bV true := (PFn.ofB (test := isTrue) 400 (by kernel_rfl)).mono fun z h => isTrue_eq h
end Go.Proofs.YtjfnhpnfkknmoaaDoor

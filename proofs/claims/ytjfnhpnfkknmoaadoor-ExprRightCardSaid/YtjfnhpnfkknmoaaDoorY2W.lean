/- A part of the texts that the claim's proof needs: functions of the program as the evaluator reads them, and what they come to. Conditions: those that its theorems state. -/
import Derived.Test.YtjfnhpnfkknmoaaDoorY2A
import Derived.Test.YtjfnhpnfkknmoaaDoorPeD
set_option linter.unusedVariables false
set_option linter.unusedSimpArgs false
set_option maxRecDepth 100000
set_option maxHeartbeats 4000000
namespace Go.Proofs.YtjfnhpnfkknmoaaDoor
open Go.Proofs.Pe

theorem within_p (a : Int) (n : Int) (hn : 0 < n) (hn2 : n ≤ 1000000) : PFn Tryd.prog T 14 [iV a, iV n] fun z => z = iV (withinI a n) := by
  intro yi hy
  refine Call.step hy ?_
  rw [body_eq t14]
  have h0 : ¬ n = 0 := by omega
  have h1 := Int.tmod_lt_of_pos a hn
  have h2 := neg_lt_tmod a hn
  by_cases hlt : a.tmod n < 0
  · have hd : decide (a.tmod n < 0) = true := by simpa using hlt
    have hw : IntKind.i64.wrap (a.tmod n + n) = withinI a n := by rw [wrap_ok (by omega) (by omega)]; unfold withinI; rw [if_pos hlt]
    simp only [c14, c14x1, c14x2, c14x3, c14x4, RUA, RUB, RUC, RUD, RUE, if_true, if_false, ite_true, ite_false, Int.reduceEq, Int.reduceLT, Int.reduceLE, putCells, bslOf, bsaOf, bslS, isUpto, Nat.reduceEqDiff, Pe.step, E.at, List.replicate, Nat.reduceAdd, Nat.reduceSub, Nat.reduceLeDiff, Nat.reduceMul, Pe.intOf, Pe.iop, Pe.sop, h0, hd, hw]
    exact ⟨_, _, rfl, rfl⟩
  · have hw : a.tmod n = withinI a n := by unfold withinI; rw [if_neg hlt]
    have hd : decide (a.tmod n < 0) = false := by simpa using hlt
    simp only [c14, c14x1, c14x2, c14x3, c14x4, RUA, RUB, RUC, RUD, RUE, if_true, if_false, ite_true, ite_false, Int.reduceEq, Int.reduceLT, Int.reduceLE, putCells, bslOf, bsaOf, bslS, isUpto, Nat.reduceEqDiff, Pe.step, E.at, List.replicate, Nat.reduceAdd, Nat.reduceSub, Nat.reduceLeDiff, Nat.reduceMul, Pe.intOf, Pe.iop, Pe.sop, h0, hd]
    exact ⟨_, _, rfl, by rw [hw]⟩
end Go.Proofs.YtjfnhpnfkknmoaaDoor

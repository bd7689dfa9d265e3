/- A part of the texts that the claim's proof needs: functions of the program as the evaluator reads them, and what they come to. Conditions: those that its theorems state. -/
import Derived.Test.YtjfnhpnfkknmoaaDoorY2K
import Derived.Test.YtjfnhpnfkknmoaaDoorY2H
set_option linter.unusedVariables false
set_option linter.unusedSimpArgs false
set_option maxRecDepth 100000
set_option maxHeartbeats 4000000
namespace Go.Proofs.YtjfnhpnfkknmoaaDoor
open Go.Proofs.Pe

theorem one_p {nm : List ByteArray} {nv : V} (hn : IsSl 1 nv (nm.map sV)) (hnl : nm.length ≤ 1000) {l : List Rw} {lv : V} {vs : List V} (h1 : IsSl 3 lv vs) (h2 : All2 IsRw l vs) :
    PFn Tryd.prog T 21 [lv, nv] (IsEx (oneS nm l)) := by
  have hrow := fun o => h1.row o
  intro yi hy
  refine Call.step hy ?_
  rw [body_eq t21]
  cases l with
  | nil =>
    rw [show vs = [] from h2] at h1
    have hrow := fun o => h1.row o
    simp only [c21, c21x1, c21x2, c21x3, RUA, RUB, RUC, RUD, RUE, if_true, if_false, ite_true, ite_false, Int.reduceEq, Int.reduceLT, Int.reduceLE, putCells, bslOf, bsaOf, bslS, isUpto, Nat.reduceEqDiff, Pe.step, E.at, List.replicate, Nat.reduceAdd, Nat.reduceSub, Nat.reduceLeDiff, Nat.reduceMul, Pe.intOf, Pe.iop, Pe.sop, hrow, fillC, rets]
    exact frE (x := .mk 1 1 emp []) ⟨nilV, [], rfl, .inl ⟨rfl, rfl⟩, by simp, rfl⟩ _
  | cons r l =>
    obtain ⟨v, ws, rfl, hr, _⟩ := h2
    have hr' := hr
    have hI := h1.ix0 rfl
    rcases r with ⟨k, n, rl⟩
    have hlen : decide (((v :: ws).length : Int) = 0) = false := by simp; omega
    show Pe.ev _ _ _ _ _ _ _ _ _
    obtain ⟨lv1, us, rfl, _, _, g1, g2, g3⟩ := hr
    have hlen' : decide (((ws.length + 1 : Nat) : Int) = 0) = false := by simp; omega
    simp only [c21, c21x1, c21x2, c21x3, RUA, RUB, RUC, RUD, RUE, if_true, if_false, ite_true, ite_false, Int.reduceEq, Int.reduceLT, Int.reduceLE, putCells, bslOf, bsaOf, bslS, isUpto, Nat.reduceEqDiff, Pe.step, E.at, List.replicate, Nat.reduceAdd, Nat.reduceSub, Nat.reduceLeDiff, Nat.reduceMul, Pe.intOf, Pe.iop, Pe.sop, hrow, hlen', hI]
    refine (make_p hn hnl _ _ hr').callF rfl (fun x hx => by simp only [List.mem_cons, List.not_mem_nil, or_false] at hx; rcases hx with rfl | rfl <;> first | exact hr'.ok.1 | exact hn.freeV) fun z hz => ?_
    have hz' := hz
    show Pe.oK _ _
    have e : oneS nm (Rw.mk k n rl :: l) = mkS nm (Rw.mk k n rl) := rfl
    rw [e]
    generalize mkS nm (Rw.mk k n rl) = ee at hz hz' ⊢
    rcases ee with ⟨a, b, c, d⟩
    obtain ⟨zv, zs, rfl, q1, q2, q3⟩ := hz
    have honez : zv.one = true := free1_one q1.free
    simp only [c21, c21x1, c21x2, c21x3, RUA, RUB, RUC, RUD, RUE, if_true, if_false, ite_true, ite_false, Int.reduceEq, Int.reduceLT, Int.reduceLE, putCells, bslOf, bsaOf, bslS, isUpto, Nat.reduceEqDiff, Pe.step, E.at, List.replicate, Nat.reduceAdd, Nat.reduceSub, Nat.reduceLeDiff, Nat.reduceMul, Pe.intOf, Pe.iop, Pe.sop, honez, rets]
    exact frE hz' _
end Go.Proofs.YtjfnhpnfkknmoaaDoor

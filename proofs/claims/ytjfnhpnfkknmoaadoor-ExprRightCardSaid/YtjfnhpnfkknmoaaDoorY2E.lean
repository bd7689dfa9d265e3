/- A part of the texts that the claim's proof needs: functions of the program as the evaluator reads them, and what they come to. Conditions: those that its theorems state. -/
import Derived.Test.YtjfnhpnfkknmoaaDoorY2W
import Derived.Test.YtjfnhpnfkknmoaaDoorA1
set_option linter.unusedVariables false
set_option linter.unusedSimpArgs false
set_option maxRecDepth 100000
set_option maxHeartbeats 4000000
namespace Go.Proofs.YtjfnhpnfkknmoaaDoor
open Go.Proofs.Pe

theorem truth_p (b : Bool) : PFn Tryd.prog T 36 [bV b] fun z => z = iV (b2i b) := by
  intro yi hy
  refine Call.step hy ?_
  rw [body_eq t36]
  cases b
  · simp only [c36, c36x1, c36x2, c36x3, RUA, RUB, RUC, RUD, RUE, if_true, if_false, ite_true, ite_false, Int.reduceEq, Int.reduceLT, Int.reduceLE, putCells, bslOf, bsaOf, bslS, isUpto, Nat.reduceEqDiff, Pe.step, E.at, List.replicate, Nat.reduceAdd, Nat.reduceSub, Nat.reduceLeDiff, Nat.reduceMul, Pe.intOf, Pe.iop, Pe.sop]
    exact ⟨_, _, rfl, rfl⟩
  · simp only [c36, c36x1, c36x2, c36x3, RUA, RUB, RUC, RUD, RUE, if_true, if_false, ite_true, ite_false, Int.reduceEq, Int.reduceLT, Int.reduceLE, putCells, bslOf, bsaOf, bslS, isUpto, Nat.reduceEqDiff, Pe.step, E.at, List.replicate, Nat.reduceAdd, Nat.reduceSub, Nat.reduceLeDiff, Nat.reduceMul, Pe.intOf, Pe.iop, Pe.sop]
    exact ⟨_, _, rfl, rfl⟩
theorem sum_p {a b : Int} (ha : I64 a) (hb : I64 b) : PFn Tryd.prog T 60 [iV a, iV b] fun z => z = .tup [iV (fitI (a + b)).1, iV (fitI (a + b)).2] := by
  intro yi hy
  refine Call.step hy ?_
  rw [body_eq t60]
  unfold I64 at ha hb
  simp only [c60, c60x1, c60x2, c60x3, RUA, RUB, RUC, RUD, RUE, if_true, if_false, ite_true, ite_false, Int.reduceEq, Int.reduceLT, Int.reduceLE, putCells, bslOf, bsaOf, bslS, isUpto, Nat.reduceEqDiff, Pe.step, E.at, List.replicate, Nat.reduceAdd, Nat.reduceSub, Nat.reduceLeDiff, Nat.reduceMul, Pe.intOf, Pe.iop, Pe.sop]
  repeat' ((first | (refine cond_split _ rfl (fun h => ?_) (fun h => ?_)) | (refine gsplit_t _ rfl (fun h => ?_) (fun h => ?_)) | (refine gsplit_f _ rfl (fun h => ?_) (fun h => ?_))) <;> simp only [c60, c60x1, c60x2, c60x3, RUA, RUB, RUC, RUD, RUE, if_true, if_false, ite_true, ite_false, Int.reduceEq, Int.reduceLT, Int.reduceLE, putCells, bslOf, bsaOf, bslS, isUpto, Nat.reduceEqDiff, Pe.step, E.at, List.replicate, Nat.reduceAdd, Nat.reduceSub, Nat.reduceLeDiff, Nat.reduceMul, Pe.intOf, Pe.iop, Pe.sop, h])
  all_goals refine ⟨_, _, rfl, ?_⟩
  all_goals simp only [decide_eq_true_eq, decide_eq_false_iff_not, wrap_def] at *
  all_goals first
    | (exfalso; omega)
    | (rw [fit_out (by unfold I64; omega)])
    | (rw [fit_in (by unfold I64; omega)]; simp only [V.tup.injEq, List.cons.injEq, V.sc.injEq, Value.int.injEq, true_and, and_true]; omega)
theorem times_p {a b : Int} (ha : I64 a) (hb : I64 b) : PFn Tryd.prog T 37 [iV a, iV b] fun z => z = .tup [iV (fitI (a * b)).1, iV (fitI (a * b)).2] := by
  intro yi hy
  refine Call.step hy ?_
  rw [body_eq t37]
  by_cases hb0 : b = 0
  · subst hb0
    have e : fitI (a * 0) = (0, 0) := by rw [Int.mul_zero]; rfl
    rw [e]
    simp only [c37, c37x1, c37x2, c37x3, c37x4, c37x5, c37x6, c37x7, c37x8, c37x9, c37x10, RUA, RUB, RUC, RUD, RUE, if_true, if_false, ite_true, ite_false, Int.reduceEq, Int.reduceLT, Int.reduceLE, putCells, bslOf, bsaOf, bslS, isUpto, Nat.reduceEqDiff, Pe.step, E.at, List.replicate, Nat.reduceAdd, Nat.reduceSub, Nat.reduceLeDiff, Nat.reduceMul, Pe.intOf, Pe.iop, Pe.sop]
    repeat' ((first | (refine cond_split _ rfl (fun h => ?_) (fun h => ?_)) | (refine gsplit_t _ rfl (fun h => ?_) (fun h => ?_)) | (refine gsplit_f _ rfl (fun h => ?_) (fun h => ?_))) <;> simp only [c37, c37x1, c37x2, c37x3, c37x4, c37x5, c37x6, c37x7, c37x8, c37x9, c37x10, RUA, RUB, RUC, RUD, RUE, if_true, if_false, ite_true, ite_false, Int.reduceEq, Int.reduceLT, Int.reduceLE, putCells, bslOf, bsaOf, bslS, isUpto, Nat.reduceEqDiff, Pe.step, E.at, List.replicate, Nat.reduceAdd, Nat.reduceSub, Nat.reduceLeDiff, Nat.reduceMul, Pe.intOf, Pe.iop, Pe.sop, h])
    all_goals exact ⟨_, _, rfl, rfl⟩
  have q0 : decide (b = 0) = false := by simpa using hb0
  have hm := mul_chk ha hb hb0
  have hd : ∀ c, I64 c → b ≠ -1 → IntKind.i64.wrap (c.tdiv b) = c.tdiv b := fun c hc h1 => wrap_in (tdiv_in hc hb0 fun h => h1 h.1)
  obtain ⟨_, _, hi⟩ := wrap_mod (a * b)
  by_cases hb1 : b = -1
  · have q1 : decide (b = -1) = true := by simpa using hb1
    have hz : a = 0 → fitI (a * b) = (0, 0) := fun h => by rw [h, Int.zero_mul]; rfl
    have hm1 := mul_m1 ha
    simp only [c37, c37x1, c37x2, c37x3, c37x4, c37x5, c37x6, c37x7, c37x8, c37x9, c37x10, RUA, RUB, RUC, RUD, RUE, if_true, if_false, ite_true, ite_false, Int.reduceEq, Int.reduceLT, Int.reduceLE, putCells, bslOf, bsaOf, bslS, isUpto, Nat.reduceEqDiff, Pe.step, E.at, List.replicate, Nat.reduceAdd, Nat.reduceSub, Nat.reduceLeDiff, Nat.reduceMul, Pe.intOf, Pe.iop, Pe.sop, q0]
    repeat' ((first | (refine cond_split _ rfl (fun h => ?_) (fun h => ?_)) | (refine gsplit_t _ rfl (fun h => ?_) (fun h => ?_)) | (refine gsplit_f _ rfl (fun h => ?_) (fun h => ?_))) <;> simp only [c37, c37x1, c37x2, c37x3, c37x4, c37x5, c37x6, c37x7, c37x8, c37x9, c37x10, RUA, RUB, RUC, RUD, RUE, if_true, if_false, ite_true, ite_false, Int.reduceEq, Int.reduceLT, Int.reduceLE, putCells, bslOf, bsaOf, bslS, isUpto, Nat.reduceEqDiff, Pe.step, E.at, List.replicate, Nat.reduceAdd, Nat.reduceSub, Nat.reduceLeDiff, Nat.reduceMul, Pe.intOf, Pe.iop, Pe.sop, h, q1, hb0])
    all_goals refine ⟨_, _, rfl, ?_⟩
    all_goals simp only [decide_eq_true_eq, decide_eq_false_iff_not] at *
    all_goals first
      | (exfalso; omega)
      | (rw [hz (by assumption)])
      | (subst hb1; rw [fit_out (by rw [hm1]; omega)])
      | (subst hb1; rw [fit_in (by rw [hm1]; omega), wrap_in (by rw [hm1]; omega)])
  · have hm' := hm hb1
    have q1 : decide (b = -1) = false := by simpa using hb1
    have hz : a = 0 → fitI (a * b) = (0, 0) := fun h => by rw [h, Int.zero_mul]; rfl
    have hn : a = -1 → (a = -9223372036854775808 ∨ b = -9223372036854775808) → fitI (a * b) = (0, 8) := fun h h2 => by
      subst h; exact fit_out (by rw [m1_mul hb]; omega)
    have hp : a = -1 → ¬ b = -9223372036854775808 → I64 (a * b) := fun h h2 => by
      subst h; rw [m1_mul hb]; omega
    simp only [c37, c37x1, c37x2, c37x3, c37x4, c37x5, c37x6, c37x7, c37x8, c37x9, c37x10, RUA, RUB, RUC, RUD, RUE, if_true, if_false, ite_true, ite_false, Int.reduceEq, Int.reduceLT, Int.reduceLE, putCells, bslOf, bsaOf, bslS, isUpto, Nat.reduceEqDiff, Pe.step, E.at, List.replicate, Nat.reduceAdd, Nat.reduceSub, Nat.reduceLeDiff, Nat.reduceMul, Pe.intOf, Pe.iop, Pe.sop, q0]
    repeat' ((first | (refine cond_split _ rfl (fun h => ?_) (fun h => ?_)) | (refine gsplit_t _ rfl (fun h => ?_) (fun h => ?_)) | (refine gsplit_f _ rfl (fun h => ?_) (fun h => ?_))) <;> simp only [c37, c37x1, c37x2, c37x3, c37x4, c37x5, c37x6, c37x7, c37x8, c37x9, c37x10, RUA, RUB, RUC, RUD, RUE, if_true, if_false, ite_true, ite_false, Int.reduceEq, Int.reduceLT, Int.reduceLE, putCells, bslOf, bsaOf, bslS, isUpto, Nat.reduceEqDiff, Pe.step, E.at, List.replicate, Nat.reduceAdd, Nat.reduceSub, Nat.reduceLeDiff, Nat.reduceMul, Pe.intOf, Pe.iop, Pe.sop, h, q1, hb0])
    all_goals refine ⟨_, _, rfl, ?_⟩
    all_goals simp only [decide_eq_true_eq, decide_eq_false_iff_not, hd _ hi hb1] at *
    all_goals first
      | (exfalso; omega)
      | (rw [hz (by assumption)])
      | (rw [hn (by assumption) (by omega)])
      | (rw [fit_in (hp (by assumption) (by assumption)), wrap_in (hp (by assumption) (by assumption))])
      | (rw [fit_in (hm'.1 (by assumption)), wrap_in (hm'.1 (by assumption))])
      | (rw [fit_out (fun hc => by have := hm'.2 hc; contradiction)])
end Go.Proofs.YtjfnhpnfkknmoaaDoor

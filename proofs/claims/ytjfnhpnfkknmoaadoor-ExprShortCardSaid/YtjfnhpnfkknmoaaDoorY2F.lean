/- A part of the texts that the claim's proof needs: functions of the program as the evaluator reads them, and what they come to. Conditions: those that its theorems state. -/
import Derived.Test.YtjfnhpnfkknmoaaDoorY2E
import Derived.Test.YtjfnhpnfkknmoaaDoorD1
set_option linter.unusedVariables false
set_option linter.unusedSimpArgs false
set_option maxRecDepth 100000
set_option maxHeartbeats 4000000
namespace Go.Proofs.YtjfnhpnfkknmoaaDoor
open Go.Proofs.Pe

theorem two_p {k a b : Int} (hk1 : 5 ≤ k) (hk2 : k ≤ 15) (ha : I64 a) (hb : I64 b) : PFn Tryd.prog T 38 [iV k, iV a, iV b] fun z => z = .tup [iV (twoS k a b).1, iV (twoS k a b).2] := by
  intro yi hy
  refine Call.step hy ?_
  rw [body_eq t38]
  have hw := wrap_I64 (0 - b)
  by_cases hb0 : b = 0
  · subst hb0
    have hw0 : IntKind.i64.wrap (0 - 0) = 0 := by decide
    simp only [c38, c38x1, c38x2, c38x3, c38x4, c38x5, c38x6, c38x7, c38x8, c38x9, c38x10, c38x11, c38x12, c38x13, c38x14, c38x15, c38x16, c38x17, c38x18, c38x19, c38x20, c38x21, c38x22, RUA, RUB, RUC, RUD, RUE, if_true, if_false, ite_true, ite_false, Int.reduceEq, Int.reduceLT, Int.reduceLE, putCells, bslOf, bsaOf, bslS, isUpto, Nat.reduceEqDiff, Pe.step, E.at, List.replicate, Nat.reduceAdd, Nat.reduceSub, Nat.reduceLeDiff, Nat.reduceMul, Pe.intOf, Pe.iop, Pe.sop]
    repeat' ((first | (refine cond_split _ rfl (fun h => ?_) (fun h => ?_)) | (refine gsplit_t _ rfl (fun h => ?_) (fun h => ?_)) | (refine gsplit_f _ rfl (fun h => ?_) (fun h => ?_)) | (refine (truth_p _).callE rfl rfl rfl ?_) | (refine (times_p ha hb).callE rfl rfl rfl ?_) | (refine (sum_p ha hb).callE rfl rfl rfl ?_)) <;> (try simp only [c38, c38x1, c38x2, c38x3, c38x4, c38x5, c38x6, c38x7, c38x8, c38x9, c38x10, c38x11, c38x12, c38x13, c38x14, c38x15, c38x16, c38x17, c38x18, c38x19, c38x20, c38x21, c38x22, RUA, RUB, RUC, RUD, RUE, if_true, if_false, ite_true, ite_false, Int.reduceEq, Int.reduceLT, Int.reduceLE, putCells, bslOf, bsaOf, bslS, isUpto, Nat.reduceEqDiff, Pe.step, E.at, List.replicate, Nat.reduceAdd, Nat.reduceSub, Nat.reduceLeDiff, Nat.reduceMul, Pe.intOf, Pe.iop, Pe.sop, *]))
    all_goals refine ⟨_, _, rfl, ?_⟩
    all_goals simp only [decide_eq_true_eq, decide_eq_false_iff_not] at *
    all_goals (try subst k)
    all_goals first
      | (exfalso; omega)
      | (simp [twoS, *]; done)
      | trace_state
  · have q0 : decide (b = 0) = false := by simpa using hb0
    have hq : ¬ b = -1 → fitI (a.tdiv b) = (IntKind.i64.wrap (a.tdiv b), 0) := fun h => by
      have := tdiv_in ha hb0 (fun hc => h hc.1)
      rw [fit_in this, wrap_in this]
    simp only [c38, c38x1, c38x2, c38x3, c38x4, c38x5, c38x6, c38x7, c38x8, c38x9, c38x10, c38x11, c38x12, c38x13, c38x14, c38x15, c38x16, c38x17, c38x18, c38x19, c38x20, c38x21, c38x22, RUA, RUB, RUC, RUD, RUE, if_true, if_false, ite_true, ite_false, Int.reduceEq, Int.reduceLT, Int.reduceLE, putCells, bslOf, bsaOf, bslS, isUpto, Nat.reduceEqDiff, Pe.step, E.at, List.replicate, Nat.reduceAdd, Nat.reduceSub, Nat.reduceLeDiff, Nat.reduceMul, Pe.intOf, Pe.iop, Pe.sop]
    repeat' ((first | (refine cond_split _ rfl (fun h => ?_) (fun h => ?_)) | (refine gsplit_t _ rfl (fun h => ?_) (fun h => ?_)) | (refine gsplit_f _ rfl (fun h => ?_) (fun h => ?_)) | (refine (truth_p _).callE rfl rfl rfl ?_) | (refine (times_p ha hb).callE rfl rfl rfl ?_) | (refine (sum_p ha hb).callE rfl rfl rfl ?_) | (refine (sum_p ha hw).callE rfl rfl rfl ?_)) <;> (try simp only [c38, c38x1, c38x2, c38x3, c38x4, c38x5, c38x6, c38x7, c38x8, c38x9, c38x10, c38x11, c38x12, c38x13, c38x14, c38x15, c38x16, c38x17, c38x18, c38x19, c38x20, c38x21, c38x22, RUA, RUB, RUC, RUD, RUE, if_true, if_false, ite_true, ite_false, Int.reduceEq, Int.reduceLT, Int.reduceLE, putCells, bslOf, bsaOf, bslS, isUpto, Nat.reduceEqDiff, Pe.step, E.at, List.replicate, Nat.reduceAdd, Nat.reduceSub, Nat.reduceLeDiff, Nat.reduceMul, Pe.intOf, Pe.iop, Pe.sop, *]))
    all_goals refine ⟨_, _, rfl, ?_⟩
    all_goals simp only [decide_eq_true_eq, decide_eq_false_iff_not] at *
    all_goals (try subst k)
    all_goals first
      | (exfalso; omega)
      | (simp [twoS, *]; done)
      | (show _ = V.tup [iV (fitI (a - b)).1, iV (fitI (a - b)).2]
         unfold I64 at *
         first
           | (rw [fit_out (by unfold I64; omega)])
           | (rw [fit_in (by unfold I64; omega), wrap_in (by unfold I64; omega)])
           | (rw [show IntKind.i64.wrap (0 - b) = -b by rw [wrap_in (by unfold I64; omega)]; omega, show a - b = a + -b by omega]))
theorem bit_p (b : Bool) : PFn Tryd.prog T 39 [bV b] fun z => z = .tup [iV (b2i b), iV 0] := by
  intro yi hy
  refine Call.step hy ?_
  rw [body_eq t39]
  cases b
  · simp only [c39, c39x1, c39x2, c39x3, RUA, RUB, RUC, RUD, RUE, if_true, if_false, ite_true, ite_false, Int.reduceEq, Int.reduceLT, Int.reduceLE, putCells, bslOf, bsaOf, bslS, isUpto, Nat.reduceEqDiff, Pe.step, E.at, List.replicate, Nat.reduceAdd, Nat.reduceSub, Nat.reduceLeDiff, Nat.reduceMul, Pe.intOf, Pe.iop, Pe.sop]
    exact ⟨_, _, rfl, rfl⟩
  · simp only [c39, c39x1, c39x2, c39x3, RUA, RUB, RUC, RUD, RUE, if_true, if_false, ite_true, ite_false, Int.reduceEq, Int.reduceLT, Int.reduceLE, putCells, bslOf, bsaOf, bslS, isUpto, Nat.reduceEqDiff, Pe.step, E.at, List.replicate, Nat.reduceAdd, Nat.reduceSub, Nat.reduceLeDiff, Nat.reduceMul, Pe.intOf, Pe.iop, Pe.sop]
    exact ⟨_, _, rfl, rfl⟩
theorem compare_p {k a b : Int} (hk1 : 10 ≤ k) (hk2 : k ≤ 15) : PFn Tryd.prog T 40 [iV k, iV a, iV b] fun z => z = .tup [iV (twoS k a b).1, iV (twoS k a b).2] := by
  intro yi hy
  refine Call.step hy ?_
  rw [body_eq t40]
  simp only [c40, c40x1, c40x2, c40x3, c40x4, c40x5, c40x6, c40x7, c40x8, RUA, RUB, RUC, RUD, RUE, if_true, if_false, ite_true, ite_false, Int.reduceEq, Int.reduceLT, Int.reduceLE, putCells, bslOf, bsaOf, bslS, isUpto, Nat.reduceEqDiff, Pe.step, E.at, List.replicate, Nat.reduceAdd, Nat.reduceSub, Nat.reduceLeDiff, Nat.reduceMul, Pe.intOf, Pe.iop, Pe.sop]
  repeat' ((first | (refine cond_split _ rfl (fun h => ?_) (fun h => ?_)) | (refine gsplit_t _ rfl (fun h => ?_) (fun h => ?_)) | (refine gsplit_f _ rfl (fun h => ?_) (fun h => ?_)) | (refine (bit_p _).callE rfl rfl rfl ?_)) <;> (try simp only [c40, c40x1, c40x2, c40x3, c40x4, c40x5, c40x6, c40x7, c40x8, RUA, RUB, RUC, RUD, RUE, if_true, if_false, ite_true, ite_false, Int.reduceEq, Int.reduceLT, Int.reduceLE, putCells, bslOf, bsaOf, bslS, isUpto, Nat.reduceEqDiff, Pe.step, E.at, List.replicate, Nat.reduceAdd, Nat.reduceSub, Nat.reduceLeDiff, Nat.reduceMul, Pe.intOf, Pe.iop, Pe.sop, *]))
  all_goals refine ⟨_, _, rfl, ?_⟩
  all_goals simp only [decide_eq_true_eq, decide_eq_false_iff_not] at *
  all_goals (try subst k)
  all_goals first
    | (exfalso; omega)
    | (simp [twoS, *]; done)
    | (obtain rfl : k = 15 := by omega
       simp [twoS]; done)
theorem times2_p {a b : Int} (ha : I64 a) (hb : I64 b) : PFn Tryd.prog T 61 [iV a, iV b] fun z => z = .tup [iV (fitI (a * b)).1, iV (fitI (a * b)).2] := by
  intro yi hy
  refine Call.step hy ?_
  rw [body_eq t61]
  by_cases hb0 : b = 0
  · subst hb0
    have e : fitI (a * 0) = (0, 0) := by rw [Int.mul_zero]; rfl
    rw [e]
    simp only [c61, c61x1, c61x2, c61x3, c61x4, c61x5, c61x6, RUA, RUB, RUC, RUD, RUE, if_true, if_false, ite_true, ite_false, Int.reduceEq, Int.reduceLT, Int.reduceLE, putCells, bslOf, bsaOf, bslS, isUpto, Nat.reduceEqDiff, Pe.step, E.at, List.replicate, Nat.reduceAdd, Nat.reduceSub, Nat.reduceLeDiff, Nat.reduceMul, Pe.intOf, Pe.iop, Pe.sop]
    repeat' ((first | (refine cond_split _ rfl (fun h => ?_) (fun h => ?_)) | (refine gsplit_t _ rfl (fun h => ?_) (fun h => ?_)) | (refine gsplit_f _ rfl (fun h => ?_) (fun h => ?_))) <;> (try simp only [c61, c61x1, c61x2, c61x3, c61x4, c61x5, c61x6, RUA, RUB, RUC, RUD, RUE, if_true, if_false, ite_true, ite_false, Int.reduceEq, Int.reduceLT, Int.reduceLE, putCells, bslOf, bsaOf, bslS, isUpto, Nat.reduceEqDiff, Pe.step, E.at, List.replicate, Nat.reduceAdd, Nat.reduceSub, Nat.reduceLeDiff, Nat.reduceMul, Pe.intOf, Pe.iop, Pe.sop, *]))
    all_goals exact ⟨_, _, rfl, rfl⟩
  have q0 : decide (b = 0) = false := by simpa using hb0
  have hz : a = 0 → fitI (a * b) = (0, 0) := fun h => by rw [h, Int.zero_mul]; rfl
  by_cases hb1 : b = -1
  · subst hb1
    have hd : IntKind.i64.wrap ((IntKind.i64.wrap (a * -1)).tdiv (-1)) = a := by
      unfold I64 at ha
      by_cases e : a = -9223372036854775808
      · subst e; decide
      · rw [show IntKind.i64.wrap (a * -1) = -a by rw [wrap_in (by unfold I64; omega)]; omega]
        rw [Int.tdiv_neg, Int.tdiv_one, Int.neg_neg, wrap_in (by unfold I64; omega)]
    have q2 : decide ((-1 : Int) = -9223372036854775808) = false := by decide
    have q3 : decide ((-1 : Int) = -1) = true := by decide
    have q4 : decide ((-1 : Int) = 0) = false := by decide
    have q5 : ¬ (-1 : Int) = 0 := by decide
    have q6 : decide (a = a) = true := by simp
    have hm1 := mul_m1 ha
    simp only [c61, c61x1, c61x2, c61x3, c61x4, c61x5, c61x6, RUA, RUB, RUC, RUD, RUE, if_true, if_false, ite_true, ite_false, Int.reduceEq, Int.reduceLT, Int.reduceLE, putCells, bslOf, bsaOf, bslS, isUpto, Nat.reduceEqDiff, Pe.step, E.at, List.replicate, Nat.reduceAdd, Nat.reduceSub, Nat.reduceLeDiff, Nat.reduceMul, Pe.intOf, Pe.iop, Pe.sop, q4]
    repeat' ((first | (refine cond_split _ rfl (fun h => ?_) (fun h => ?_)) | (refine gsplit_t _ rfl (fun h => ?_) (fun h => ?_)) | (refine gsplit_f _ rfl (fun h => ?_) (fun h => ?_))) <;> simp only [c61, c61x1, c61x2, c61x3, c61x4, c61x5, c61x6, RUA, RUB, RUC, RUD, RUE, if_true, if_false, ite_true, ite_false, Int.reduceEq, Int.reduceLT, Int.reduceLE, putCells, bslOf, bsaOf, bslS, isUpto, Nat.reduceEqDiff, Pe.step, E.at, List.replicate, Nat.reduceAdd, Nat.reduceSub, Nat.reduceLeDiff, Nat.reduceMul, Pe.intOf, Pe.iop, Pe.sop, h, hd, q2, q3, q4, q5, q6])
    all_goals refine ⟨_, _, rfl, ?_⟩
    all_goals simp only [decide_eq_true_eq, decide_eq_false_iff_not] at *
    all_goals first
      | (exfalso; omega)
      | (rw [hz (by assumption)])
      | (rw [fit_out (by rw [hm1]; omega)])
      | (rw [fit_in (by rw [hm1]; omega), wrap_in (by rw [hm1]; omega)])
  · have hm' := mul_chk ha hb hb0 hb1
    have hd : IntKind.i64.wrap ((IntKind.i64.wrap (a * b)).tdiv b) = (IntKind.i64.wrap (a * b)).tdiv b := wrap_in (tdiv_in (wrap_I64 _) hb0 fun h => hb1 h.1)
    have q1 : decide (b = -1) = false := by simpa using hb1
    have hn : a = -1 → b = -9223372036854775808 → fitI (a * b) = (0, 8) := fun h h2 => by
      subst h; exact fit_out (by rw [m1_mul hb]; omega)
    simp only [c61, c61x1, c61x2, c61x3, c61x4, c61x5, c61x6, RUA, RUB, RUC, RUD, RUE, if_true, if_false, ite_true, ite_false, Int.reduceEq, Int.reduceLT, Int.reduceLE, putCells, bslOf, bsaOf, bslS, isUpto, Nat.reduceEqDiff, Pe.step, E.at, List.replicate, Nat.reduceAdd, Nat.reduceSub, Nat.reduceLeDiff, Nat.reduceMul, Pe.intOf, Pe.iop, Pe.sop, q0]
    repeat' ((first | (refine cond_split _ rfl (fun h => ?_) (fun h => ?_)) | (refine gsplit_t _ rfl (fun h => ?_) (fun h => ?_)) | (refine gsplit_f _ rfl (fun h => ?_) (fun h => ?_))) <;> simp only [c61, c61x1, c61x2, c61x3, c61x4, c61x5, c61x6, RUA, RUB, RUC, RUD, RUE, if_true, if_false, ite_true, ite_false, Int.reduceEq, Int.reduceLT, Int.reduceLE, putCells, bslOf, bsaOf, bslS, isUpto, Nat.reduceEqDiff, Pe.step, E.at, List.replicate, Nat.reduceAdd, Nat.reduceSub, Nat.reduceLeDiff, Nat.reduceMul, Pe.intOf, Pe.iop, Pe.sop, h, hd, q1, hb0])
    all_goals refine ⟨_, _, rfl, ?_⟩
    all_goals simp only [decide_eq_true_eq, decide_eq_false_iff_not, Bool.not_eq_true', Bool.not_eq_false'] at *
    all_goals first
      | (exfalso; omega)
      | (rw [hz (by assumption)])
      | (rw [hn (by assumption) (by assumption)])
      | (rw [fit_in (hm'.1 (by assumption)), wrap_in (hm'.1 (by assumption))])
      | (rw [fit_out (fun hc => by have := hm'.2 hc; contradiction)])
      | trace_state
end Go.Proofs.YtjfnhpnfkknmoaaDoor

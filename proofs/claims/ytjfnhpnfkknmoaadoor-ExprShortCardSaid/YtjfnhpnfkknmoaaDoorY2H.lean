/- A part of the texts that the claim's proof needs: functions of the program as the evaluator reads them, and what they come to. Conditions: those that its theorems state. -/
import Derived.Test.YtjfnhpnfkknmoaaDoorY2G
set_option linter.unusedVariables false
set_option linter.unusedSimpArgs false
set_option maxRecDepth 100000
set_option maxHeartbeats 4000000
namespace Go.Proofs.YtjfnhpnfkknmoaaDoor
open Go.Proofs.Pe

theorem reval_p {vs : List Int} {vv : V} (hvv : IsSl 1 vv (vs.map iV)) (hv : ∀ n ∈ vs, I64 n) (hvl : vs.length ≤ cap) : ∀ {x : Ex}, WfE vs.length x → ∀ {u : V}, IsEx x u →
    PFn Tryd.prog T 18 [u, vv] fun z => z = .tup [iV (evalS vs x).1, iV (evalS vs x).2] := by
  intro x hw
  unfold cap at hvl
  have hvf := hvv.free
  have hlen : ∀ o, rowOf o vv = some (vs.map iV) := fun o => hvv.row o
  induction hw with
  | @num m nm hm =>
    rintro u ⟨lv, us, rfl, h1, h2, h3⟩
    have hone : lv.one = true := free1_one h1.free
    intro yi hy
    refine Call.step hy ?_
    rw [body_eq t18]
    simp only [c18, c18x1, c18x2, c18x3, c18x4, c18x5, c18x6, c18x7, c18x8, c18x9, c18x10, c18x11, c18x12, c18x13, c18x14, c18x15, c18x16, c18x17, c18x18, RUA, RUB, RUC, RUD, RUE, if_true, if_false, ite_true, ite_false, Int.reduceEq, Int.reduceLT, Int.reduceLE, putCells, bslOf, bsaOf, bslS, isUpto, Nat.reduceEqDiff, Pe.step, E.at, List.replicate, Nat.reduceAdd, Nat.reduceSub, Nat.reduceLeDiff, Nat.reduceMul, Pe.intOf, Pe.iop, Pe.sop, hone]
    exact ⟨_, _, rfl, rfl⟩
  | @var i nm hi =>
    rintro u ⟨lv, us, rfl, h1, h2, h3⟩
    have hone : lv.one = true := free1_one h1.free
    have hI := fun o => hvv.ix o (n := i) (y := iV (vs.getD i 0)) (by rw [List.getElem?_map, List.getElem?_eq_getElem hi, List.getD_eq_getElem?_getD, List.getElem?_eq_getElem hi]; rfl)
    have d1 : decide ((i : Int) < 0) = false := by simp
    have d2 : decide ((vs.length : Int) ≤ (i : Int)) = false := by simp; omega
    have e : evalS vs (.mk 2 i nm []) = (vs.getD i 0, 0) := by simp [evalS]
    intro yi hy
    refine Call.step hy ?_
    rw [body_eq t18]
    simp only [c18, c18x1, c18x2, c18x3, c18x4, c18x5, c18x6, c18x7, c18x8, c18x9, c18x10, c18x11, c18x12, c18x13, c18x14, c18x15, c18x16, c18x17, c18x18, RUA, RUB, RUC, RUD, RUE, if_true, if_false, ite_true, ite_false, Int.reduceEq, Int.reduceLT, Int.reduceLE, putCells, bslOf, bsaOf, bslS, isUpto, Nat.reduceEqDiff, Pe.step, E.at, List.replicate, Nat.reduceAdd, Nat.reduceSub, Nat.reduceLeDiff, Nat.reduceMul, Pe.intOf, Pe.iop, Pe.sop, hone, hlen, List.length_map, d1, d2, hI]
    refine ⟨_, _, rfl, ?_⟩
    rw [e]
  | @one k m nm x hk1 hk2 hx ih =>
    rintro u ⟨lv, us, rfl, h1, h2, v1, us1, rfl, h3, rfl⟩
    have h3' := h3
    rcases x with ⟨k1, n1, m1, l1⟩
    obtain ⟨lv1, us1, rfl, g1, g2, g3⟩ := h3
    have hone : lv.one = true := free1_one h1.free
    have hone1 : lv1.one = true := free1_one g1.free
    have hI := h1.ix0 rfl
    have hrow := fun o => h1.row o
    have hc := ih h3'
    have hev : evalS vs (.mk k m nm [.mk k1 n1 m1 l1]) = oneE k (evalS vs (.mk k1 n1 m1 l1)) := rfl
    have hri := evalS_I64 hv hx
    rw [hev]
    generalize evalS vs (.mk k1 n1 m1 l1) = r at hc hri
    have hr1 := mul_m1 hri
    intro yi hy
    refine Call.step hy ?_
    rw [body_eq t18]
    rcases (show k = 3 ∨ k = 4 by omega) with rfl | rfl
    · simp only [c18, c18x1, c18x2, c18x3, c18x4, c18x5, c18x6, c18x7, c18x8, c18x9, c18x10, c18x11, c18x12, c18x13, c18x14, c18x15, c18x16, c18x17, c18x18, RUA, RUB, RUC, RUD, RUE, if_true, if_false, ite_true, ite_false, Int.reduceEq, Int.reduceLT, Int.reduceLE, putCells, bslOf, bsaOf, bslS, isUpto, Nat.reduceEqDiff, Pe.step, E.at, List.replicate, Nat.reduceAdd, Nat.reduceSub, Nat.reduceLeDiff, Nat.reduceMul, Pe.intOf, Pe.iop, Pe.sop, hone, hone1, hrow, hI]
      refine hc.callE rfl (cf2 h3'.ok.1 hvv.freeV _) rfl ?_
      simp only [c18, c18x1, c18x2, c18x3, c18x4, c18x5, c18x6, c18x7, c18x8, c18x9, c18x10, c18x11, c18x12, c18x13, c18x14, c18x15, c18x16, c18x17, c18x18, RUA, RUB, RUC, RUD, RUE, if_true, if_false, ite_true, ite_false, Int.reduceEq, Int.reduceLT, Int.reduceLE, putCells, bslOf, bsaOf, bslS, isUpto, Nat.reduceEqDiff, Pe.step, E.at, List.replicate, Nat.reduceAdd, Nat.reduceSub, Nat.reduceLeDiff, Nat.reduceMul, Pe.intOf, Pe.iop, Pe.sop, hone, hone1, hrow, hI]
      repeat' ((first | (refine cond_split _ rfl (fun h => ?_) (fun h => ?_)) | (refine gsplit_t _ rfl (fun h => ?_) (fun h => ?_)) | (refine gsplit_f _ rfl (fun h => ?_) (fun h => ?_)) | (refine (bit_p _).callE rfl rfl rfl ?_)) <;> (try simp only [c18, c18x1, c18x2, c18x3, c18x4, c18x5, c18x6, c18x7, c18x8, c18x9, c18x10, c18x11, c18x12, c18x13, c18x14, c18x15, c18x16, c18x17, c18x18, RUA, RUB, RUC, RUD, RUE, if_true, if_false, ite_true, ite_false, Int.reduceEq, Int.reduceLT, Int.reduceLE, putCells, bslOf, bsaOf, bslS, isUpto, Nat.reduceEqDiff, Pe.step, E.at, List.replicate, Nat.reduceAdd, Nat.reduceSub, Nat.reduceLeDiff, Nat.reduceMul, Pe.intOf, Pe.iop, Pe.sop, *]))
      all_goals refine ⟨_, _, rfl, ?_⟩
      all_goals simp only [decide_eq_true_eq, decide_eq_false_iff_not, Bool.not_eq_true', Bool.not_eq_false'] at *
      all_goals first
        | (exfalso; omega)
        | (simp [oneE, *]; done)
    · simp only [c18, c18x1, c18x2, c18x3, c18x4, c18x5, c18x6, c18x7, c18x8, c18x9, c18x10, c18x11, c18x12, c18x13, c18x14, c18x15, c18x16, c18x17, c18x18, RUA, RUB, RUC, RUD, RUE, if_true, if_false, ite_true, ite_false, Int.reduceEq, Int.reduceLT, Int.reduceLE, putCells, bslOf, bsaOf, bslS, isUpto, Nat.reduceEqDiff, Pe.step, E.at, List.replicate, Nat.reduceAdd, Nat.reduceSub, Nat.reduceLeDiff, Nat.reduceMul, Pe.intOf, Pe.iop, Pe.sop, hone, hone1, hrow, hI]
      refine hc.callE rfl (cf2 h3'.ok.1 hvv.freeV _) rfl ?_
      simp only [c18, c18x1, c18x2, c18x3, c18x4, c18x5, c18x6, c18x7, c18x8, c18x9, c18x10, c18x11, c18x12, c18x13, c18x14, c18x15, c18x16, c18x17, c18x18, RUA, RUB, RUC, RUD, RUE, if_true, if_false, ite_true, ite_false, Int.reduceEq, Int.reduceLT, Int.reduceLE, putCells, bslOf, bsaOf, bslS, isUpto, Nat.reduceEqDiff, Pe.step, E.at, List.replicate, Nat.reduceAdd, Nat.reduceSub, Nat.reduceLeDiff, Nat.reduceMul, Pe.intOf, Pe.iop, Pe.sop, hone, hone1, hrow, hI]
      repeat' ((first | (refine cond_split _ rfl (fun h => ?_) (fun h => ?_)) | (refine gsplit_t _ rfl (fun h => ?_) (fun h => ?_)) | (refine gsplit_f _ rfl (fun h => ?_) (fun h => ?_)) | (refine (bit_p _).callE rfl rfl rfl ?_)) <;> (try simp only [c18, c18x1, c18x2, c18x3, c18x4, c18x5, c18x6, c18x7, c18x8, c18x9, c18x10, c18x11, c18x12, c18x13, c18x14, c18x15, c18x16, c18x17, c18x18, RUA, RUB, RUC, RUD, RUE, if_true, if_false, ite_true, ite_false, Int.reduceEq, Int.reduceLT, Int.reduceLE, putCells, bslOf, bsaOf, bslS, isUpto, Nat.reduceEqDiff, Pe.step, E.at, List.replicate, Nat.reduceAdd, Nat.reduceSub, Nat.reduceLeDiff, Nat.reduceMul, Pe.intOf, Pe.iop, Pe.sop, *]))
      all_goals refine ⟨_, _, rfl, ?_⟩
      all_goals simp only [decide_eq_true_eq, decide_eq_false_iff_not, Bool.not_eq_true', Bool.not_eq_false'] at *
      all_goals first
        | (exfalso; omega)
        | (show _ = V.tup [iV (if r.2 ≠ 0 then (0, r.2) else fitI (r.1 * -1)).1, iV (if r.2 ≠ 0 then (0, r.2) else fitI (r.1 * -1)).2]
           first
             | (rw [if_pos (by omega)]; done)
             | (rw [if_neg (by omega), fit_out (by rw [hr1]; omega)]; done)
             | (rw [if_neg (by omega), fit_in (by rw [hr1]; omega), show r.1 * -1 = 0 - r.1 by omega, wrap_in (by unfold I64 at *; omega)]; done))
  | @two k m nm x y hk1 hk2 hx hy ihx ihy =>
    rintro u ⟨lv, us, rfl, h1, h2, v1, us1, rfl, h3, v2, us2, rfl, h4, rfl⟩
    have h3' := h3
    have h4' := h4
    rcases x with ⟨k1, n1, m1, l1⟩
    rcases y with ⟨k2, n2, m2, l2⟩
    obtain ⟨lv1, us1, rfl, g1, g2, g3⟩ := h3
    obtain ⟨lv2, us2, rfl, f1, f2, f3⟩ := h4
    have hone : lv.one = true := free1_one h1.free
    have hone1 : lv1.one = true := free1_one g1.free
    have hone2 : lv2.one = true := free1_one f1.free
    have hI := h1.ix0 rfl
    have hI1 := h1.ix1 rfl
    have hrow := fun o => h1.row o
    have hc1 := ihx h3'
    have hc2 := ihy h4'
    have hev : evalS vs (.mk k m nm [.mk k1 n1 m1 l1, .mk k2 n2 m2 l2]) = twoE k (evalS vs (.mk k1 n1 m1 l1)) (evalS vs (.mk k2 n2 m2 l2)) := rfl
    have hri := evalS_I64 hv hx
    have hsi := evalS_I64 hv hy
    rw [hev]
    generalize evalS vs (.mk k1 n1 m1 l1) = r at hc1 hri
    generalize evalS vs (.mk k2 n2 m2 l2) = s at hc2 hsi
    have q1 : decide (k = 1) = false := by simp; omega
    have q2 : decide (k = 2) = false := by simp; omega
    have q3 : decide (k = 3) = false := by simp; omega
    have q4 : decide (k = 4) = false := by simp; omega
    clear ihx ihy hev hv
    intro yi hy
    refine Call.step hy ?_
    rw [body_eq t18]
    simp only [c18, c18x1, c18x2, c18x3, c18x4, c18x5, c18x6, c18x7, c18x8, c18x9, c18x10, c18x11, c18x12, c18x13, c18x14, c18x15, c18x16, c18x17, c18x18, RUA, RUB, RUC, RUD, RUE, if_true, if_false, ite_true, ite_false, Int.reduceEq, Int.reduceLT, Int.reduceLE, putCells, bslOf, bsaOf, bslS, isUpto, Nat.reduceEqDiff, Pe.step, E.at, List.replicate, Nat.reduceAdd, Nat.reduceSub, Nat.reduceLeDiff, Nat.reduceMul, Pe.intOf, Pe.iop, Pe.sop, hone, hone1, hone2, hrow, hI, hI1, q1, q2]
    refine hc1.callE rfl (cf2 h3'.ok.1 hvv.freeV _) rfl ?_
    simp only [c18, c18x1, c18x2, c18x3, c18x4, c18x5, c18x6, c18x7, c18x8, c18x9, c18x10, c18x11, c18x12, c18x13, c18x14, c18x15, c18x16, c18x17, c18x18, RUA, RUB, RUC, RUD, RUE, if_true, if_false, ite_true, ite_false, Int.reduceEq, Int.reduceLT, Int.reduceLE, putCells, bslOf, bsaOf, bslS, isUpto, Nat.reduceEqDiff, Pe.step, E.at, List.replicate, Nat.reduceAdd, Nat.reduceSub, Nat.reduceLeDiff, Nat.reduceMul, Pe.intOf, Pe.iop, Pe.sop, hone, hone1, hone2, hrow, hI, hI1, q1, q2, q3, q4]
    repeat' ((first | (refine cond_split _ rfl (fun h => ?_) (fun h => ?_)) | (refine gsplit_t _ rfl (fun h => ?_) (fun h => ?_)) | (refine gsplit_f _ rfl (fun h => ?_) (fun h => ?_)) | (refine hc2.callE rfl (cf2 h4'.ok.1 hvv.freeV _) rfl ?_) | (refine (bit_p _).callE rfl rfl rfl ?_) | (refine (compare_p (by simp only [decide_eq_true_eq, decide_eq_false_iff_not] at *; omega) (by simp only [decide_eq_true_eq, decide_eq_false_iff_not] at *; omega)).callE rfl rfl rfl ?_) | (refine (reckon_p (by simp only [decide_eq_true_eq, decide_eq_false_iff_not] at *; omega) (by simp only [decide_eq_true_eq, decide_eq_false_iff_not] at *; omega) hri hsi).callE rfl rfl rfl ?_)) <;> (try simp only [c18, c18x1, c18x2, c18x3, c18x4, c18x5, c18x6, c18x7, c18x8, c18x9, c18x10, c18x11, c18x12, c18x13, c18x14, c18x15, c18x16, c18x17, c18x18, RUA, RUB, RUC, RUD, RUE, if_true, if_false, ite_true, ite_false, Int.reduceEq, Int.reduceLT, Int.reduceLE, putCells, bslOf, bsaOf, bslS, isUpto, Nat.reduceEqDiff, Pe.step, E.at, List.replicate, Nat.reduceAdd, Nat.reduceSub, Nat.reduceLeDiff, Nat.reduceMul, Pe.intOf, Pe.iop, Pe.sop, *]))
    all_goals refine ⟨_, _, rfl, ?_⟩
    all_goals simp only [decide_eq_true_eq, decide_eq_false_iff_not, Bool.not_eq_true', Bool.not_eq_false'] at *
    all_goals (try subst k)
    all_goals first
      | (exfalso; omega)
      | (simp [twoE, *]; done)
      | trace_state
end Go.Proofs.YtjfnhpnfkknmoaaDoor

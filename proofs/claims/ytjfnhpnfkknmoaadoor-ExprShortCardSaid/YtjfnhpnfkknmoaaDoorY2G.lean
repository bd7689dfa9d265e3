/- A part of the texts that the claim's proof needs: functions of the program as the evaluator reads them, and what they come to. Conditions: those that its theorems state. -/
import Derived.Test.YtjfnhpnfkknmoaaDoorY2F
import Derived.Test.YtjfnhpnfkknmoaaDoorA2
set_option linter.unusedVariables false
set_option linter.unusedSimpArgs false
set_option maxRecDepth 100000
set_option maxHeartbeats 4000000
namespace Go.Proofs.YtjfnhpnfkknmoaaDoor
open Go.Proofs.Pe

theorem reckon_p {k a b : Int} (hk1 : 5 ≤ k) (hk2 : k ≤ 9) (ha : I64 a) (hb : I64 b) : PFn Tryd.prog T 41 [iV k, iV a, iV b] fun z => z = .tup [iV (twoS k a b).1, iV (twoS k a b).2] := by
  intro yi hy
  refine Call.step hy ?_
  rw [body_eq t41]
  by_cases hb0 : b = 0
  · subst hb0
    have q0 : ((0 : Int) ≤ 0) = True := by simp
    have ha0 : IntKind.i64.wrap (a + 0) = a := by rw [Int.add_zero, wrap_in ha]
    have ha1 : IntKind.i64.wrap (a - 0) = a := by rw [Int.sub_zero, wrap_in ha]
    have hf0 : fitI (a + 0) = (a, 0) := by rw [Int.add_zero, fit_in ha]
    have hf1 : fitI a = (a, 0) := fit_in ha
    simp only [c41, c41x1, c41x2, c41x3, c41x4, c41x5, c41x6, c41x7, c41x8, c41x9, c41x10, c41x11, c41x12, c41x13, c41x14, c41x15, c41x16, c41x17, RUA, RUB, RUC, RUD, RUE, if_true, if_false, ite_true, ite_false, Int.reduceEq, Int.reduceLT, Int.reduceLE, putCells, bslOf, bsaOf, bslS, isUpto, Nat.reduceEqDiff, Pe.step, E.at, List.replicate, Nat.reduceAdd, Nat.reduceSub, Nat.reduceLeDiff, Nat.reduceMul, Pe.intOf, Pe.iop, Pe.sop]
    repeat' ((first | (refine cond_split _ rfl (fun h => ?_) (fun h => ?_)) | (refine gsplit_t _ rfl (fun h => ?_) (fun h => ?_)) | (refine gsplit_f _ rfl (fun h => ?_) (fun h => ?_)) | (refine (times2_p ha hb).callE rfl rfl rfl ?_)) <;> (try simp only [c41, c41x1, c41x2, c41x3, c41x4, c41x5, c41x6, c41x7, c41x8, c41x9, c41x10, c41x11, c41x12, c41x13, c41x14, c41x15, c41x16, c41x17, RUA, RUB, RUC, RUD, RUE, if_true, if_false, ite_true, ite_false, Int.reduceEq, Int.reduceLT, Int.reduceLE, putCells, bslOf, bsaOf, bslS, isUpto, Nat.reduceEqDiff, Pe.step, E.at, List.replicate, Nat.reduceAdd, Nat.reduceSub, Nat.reduceLeDiff, Nat.reduceMul, Pe.intOf, Pe.iop, Pe.sop, *]))
    all_goals refine ⟨_, _, rfl, ?_⟩
    all_goals simp only [decide_eq_true_eq, decide_eq_false_iff_not, Bool.not_eq_true', Bool.not_eq_false', beq_iff_eq, decide_eq_decide, beq_eq_false_iff_ne, ne_eq, not_true_eq_false] at *
    all_goals (try subst k)
    all_goals first
      | (exfalso; omega)
      | contradiction
      | (simp [twoS, *]; done)
      | (have : k = 6 ∨ k = 7 := by omega
         rcases this with rfl | rfl <;> simp [twoS])
      | trace_state
  · have q0 : decide (b = 0) = false := by simpa using hb0
    have hq : ¬ (b = -1 ∧ a = -9223372036854775808) → fitI (a.tdiv b) = (IntKind.i64.wrap (a.tdiv b), 0) := fun h => by
      have := tdiv_in ha hb0 h
      rw [fit_in this, wrap_in this]
    have hq2 : b = -1 → a = -9223372036854775808 → fitI (a.tdiv b) = (0, 8) := fun h h2 => by subst h; subst h2; rfl
    have hm1 : b = -1 → a.tmod b = 0 := fun h => by subst h; simp [Int.tmod_neg]
    simp only [c41, c41x1, c41x2, c41x3, c41x4, c41x5, c41x6, c41x7, c41x8, c41x9, c41x10, c41x11, c41x12, c41x13, c41x14, c41x15, c41x16, c41x17, RUA, RUB, RUC, RUD, RUE, if_true, if_false, ite_true, ite_false, Int.reduceEq, Int.reduceLT, Int.reduceLE, putCells, bslOf, bsaOf, bslS, isUpto, Nat.reduceEqDiff, Pe.step, E.at, List.replicate, Nat.reduceAdd, Nat.reduceSub, Nat.reduceLeDiff, Nat.reduceMul, Pe.intOf, Pe.iop, Pe.sop]
    repeat' ((first | (refine cond_split _ rfl (fun h => ?_) (fun h => ?_)) | (refine gsplit_t _ rfl (fun h => ?_) (fun h => ?_)) | (refine gsplit_f _ rfl (fun h => ?_) (fun h => ?_)) | (refine (times2_p ha hb).callE rfl rfl rfl ?_)) <;> (try simp only [c41, c41x1, c41x2, c41x3, c41x4, c41x5, c41x6, c41x7, c41x8, c41x9, c41x10, c41x11, c41x12, c41x13, c41x14, c41x15, c41x16, c41x17, RUA, RUB, RUC, RUD, RUE, if_true, if_false, ite_true, ite_false, Int.reduceEq, Int.reduceLT, Int.reduceLE, putCells, bslOf, bsaOf, bslS, isUpto, Nat.reduceEqDiff, Pe.step, E.at, List.replicate, Nat.reduceAdd, Nat.reduceSub, Nat.reduceLeDiff, Nat.reduceMul, Pe.intOf, Pe.iop, Pe.sop, *]))
    all_goals refine ⟨_, _, rfl, ?_⟩
    all_goals simp only [decide_eq_true_eq, decide_eq_false_iff_not, Bool.not_eq_true', Bool.not_eq_false', beq_iff_eq, decide_eq_decide, beq_eq_false_iff_ne, ne_eq] at *
    all_goals (try subst k)
    all_goals first
      | (exfalso; omega)
      | (simp [twoS, *]; done)
      | (show _ = V.tup [iV (fitI (a + b)).1, iV (fitI (a + b)).2]
         simp only [wrap_def] at *
         unfold I64 at *
         first
           | (rw [fit_out (by unfold I64; omega)])
           | (rw [fit_in (by unfold I64; omega), ← wrap_def, wrap_in (by unfold I64; omega)]))
      | (show _ = V.tup [iV (fitI (a - b)).1, iV (fitI (a - b)).2]
         simp only [wrap_def] at *
         unfold I64 at *
         first
           | (rw [fit_out (by unfold I64; omega)])
           | (rw [fit_in (by unfold I64; omega), ← wrap_def, wrap_in (by unfold I64; omega)]))
      | (obtain rfl : k = 6 := by omega
         show _ = V.tup [iV (if b = 0 then (0, 9) else fitI (a.tdiv b)).1, iV (if b = 0 then (0, 9) else fitI (a.tdiv b)).2]
         rw [if_neg hb0]
         first | rw [hq (by omega)] | rw [hq2 (by omega) (by omega)])
      | trace_state

theorem eval_p {vs : List Int} {vv : V} (hvv : IsSl 1 vv (vs.map iV)) (hv : ∀ n ∈ vs, I64 n) (hvl : vs.length ≤ cap) : ∀ {x : Ex}, WfE vs.length x → ∀ {u : V}, IsEx x u →
    PFn Tryd.prog T 17 [u, vv] fun z => z = .tup [iV (evalS vs x).1, iV (evalS vs x).2] := by
  intro x hw
  unfold cap at hvl
  have hvf := hvv.free
  have hlen : ∀ o, rowOf o vv = some (vs.map iV) := fun o => hvv.row o
  induction hw with
  | @num m nm hm =>
    rintro u ⟨lv, us, rfl, h1, h2, h3⟩
    have hone : lv.one = true := free1_one h1.free
    intro yi hy
    refine Call.step hy ?_
    rw [body_eq t17]
    simp only [c17, c17x1, c17x2, c17x3, c17x4, c17x5, c17x6, c17x7, c17x8, c17x9, c17x10, c17x11, c17x12, c17x13, c17x14, c17x15, c17x16, c17x17, c17x18, c17x19, c17x20, c17x21, RUA, RUB, RUC, RUD, RUE, if_true, if_false, ite_true, ite_false, Int.reduceEq, Int.reduceLT, Int.reduceLE, putCells, bslOf, bsaOf, bslS, isUpto, Nat.reduceEqDiff, Pe.step, E.at, List.replicate, Nat.reduceAdd, Nat.reduceSub, Nat.reduceLeDiff, Nat.reduceMul, Pe.intOf, Pe.iop, Pe.sop, hone]
    exact ⟨_, _, rfl, rfl⟩
  | @var i nm hi =>
    rintro u ⟨lv, us, rfl, h1, h2, h3⟩
    have hone : lv.one = true := free1_one h1.free
    have hI := fun o => hvv.ix o (n := i) (y := iV (vs.getD i 0)) (by rw [List.getElem?_map, List.getElem?_eq_getElem hi, List.getD_eq_getElem?_getD, List.getElem?_eq_getElem hi]; rfl)
    have d1 : decide ((i : Int) < 0) = false := by simp
    have d2 : decide ((vs.length : Int) ≤ (i : Int)) = false := by simp; omega
    have e : evalS vs (.mk 2 i nm []) = (vs.getD i 0, 0) := by simp [evalS]
    intro yi hy
    refine Call.step hy ?_
    rw [body_eq t17]
    simp only [c17, c17x1, c17x2, c17x3, c17x4, c17x5, c17x6, c17x7, c17x8, c17x9, c17x10, c17x11, c17x12, c17x13, c17x14, c17x15, c17x16, c17x17, c17x18, c17x19, c17x20, c17x21, RUA, RUB, RUC, RUD, RUE, if_true, if_false, ite_true, ite_false, Int.reduceEq, Int.reduceLT, Int.reduceLE, putCells, bslOf, bsaOf, bslS, isUpto, Nat.reduceEqDiff, Pe.step, E.at, List.replicate, Nat.reduceAdd, Nat.reduceSub, Nat.reduceLeDiff, Nat.reduceMul, Pe.intOf, Pe.iop, Pe.sop, hone, hlen, List.length_map, d1, d2, hI]
    refine ⟨_, _, rfl, ?_⟩
    rw [e]
  | @one k m nm x hk1 hk2 hx ih =>
    rintro u ⟨lv, us, rfl, h1, h2, v1, us1, rfl, h3, rfl⟩
    have h3' := h3
    rcases x with ⟨k1, n1, m1, l1⟩
    obtain ⟨lv1, us1, rfl, g1, g2, g3⟩ := h3
    have hone : lv.one = true := free1_one h1.free
    have hone1 : lv1.one = true := free1_one g1.free
    have hI := h1.ix0 rfl
    have hrow := fun o => h1.row o
    have hc := ih h3'
    have hev : evalS vs (.mk k m nm [.mk k1 n1 m1 l1]) = oneE k (evalS vs (.mk k1 n1 m1 l1)) := rfl
    have hri := evalS_I64 hv hx
    rw [hev]
    generalize evalS vs (.mk k1 n1 m1 l1) = r at hc hri
    have q1 : decide (k = 1) = false := by simp; omega
    have q2 : decide (k = 2) = false := by simp; omega
    have hm1 : I64 (-1) := by unfold I64; omega
    intro yi hy
    refine Call.step hy ?_
    rw [body_eq t17]
    simp only [c17, c17x1, c17x2, c17x3, c17x4, c17x5, c17x6, c17x7, c17x8, c17x9, c17x10, c17x11, c17x12, c17x13, c17x14, c17x15, c17x16, c17x17, c17x18, c17x19, c17x20, c17x21, RUA, RUB, RUC, RUD, RUE, if_true, if_false, ite_true, ite_false, Int.reduceEq, Int.reduceLT, Int.reduceLE, putCells, bslOf, bsaOf, bslS, isUpto, Nat.reduceEqDiff, Pe.step, E.at, List.replicate, Nat.reduceAdd, Nat.reduceSub, Nat.reduceLeDiff, Nat.reduceMul, Pe.intOf, Pe.iop, Pe.sop, hone, hone1, hrow, hI, q1, q2]
    refine hc.callE rfl (cf2 h3'.ok.1 hvv.freeV _) rfl ?_
    simp only [c17, c17x1, c17x2, c17x3, c17x4, c17x5, c17x6, c17x7, c17x8, c17x9, c17x10, c17x11, c17x12, c17x13, c17x14, c17x15, c17x16, c17x17, c17x18, c17x19, c17x20, c17x21, RUA, RUB, RUC, RUD, RUE, if_true, if_false, ite_true, ite_false, Int.reduceEq, Int.reduceLT, Int.reduceLE, putCells, bslOf, bsaOf, bslS, isUpto, Nat.reduceEqDiff, Pe.step, E.at, List.replicate, Nat.reduceAdd, Nat.reduceSub, Nat.reduceLeDiff, Nat.reduceMul, Pe.intOf, Pe.iop, Pe.sop, hone, hone1, hrow, hI, q1, q2]
    repeat' ((first | (refine cond_split _ rfl (fun h => ?_) (fun h => ?_)) | (refine gsplit_t _ rfl (fun h => ?_) (fun h => ?_)) | (refine gsplit_f _ rfl (fun h => ?_) (fun h => ?_)) | (refine (truth_p _).callE rfl rfl rfl ?_) | (refine (times_p hri hm1).callE rfl rfl rfl ?_)) <;> (try simp only [c17, c17x1, c17x2, c17x3, c17x4, c17x5, c17x6, c17x7, c17x8, c17x9, c17x10, c17x11, c17x12, c17x13, c17x14, c17x15, c17x16, c17x17, c17x18, c17x19, c17x20, c17x21, RUA, RUB, RUC, RUD, RUE, if_true, if_false, ite_true, ite_false, Int.reduceEq, Int.reduceLT, Int.reduceLE, putCells, bslOf, bsaOf, bslS, isUpto, Nat.reduceEqDiff, Pe.step, E.at, List.replicate, Nat.reduceAdd, Nat.reduceSub, Nat.reduceLeDiff, Nat.reduceMul, Pe.intOf, Pe.iop, Pe.sop, *]))
    all_goals refine ⟨_, _, rfl, ?_⟩
    all_goals simp only [decide_eq_true_eq, decide_eq_false_iff_not, Bool.not_eq_true', Bool.not_eq_false'] at *
    all_goals first
      | (exfalso; omega)
      | (simp [oneE, *]; done)
      | (obtain rfl : k = 4 := by omega
         simp [oneE, *]; done)
      | trace_state
  | @two k m nm x y hk1 hk2 hx hy ihx ihy =>
    rintro u ⟨lv, us, rfl, h1, h2, v1, us1, rfl, h3, v2, us2, rfl, h4, rfl⟩
    have h3' := h3
    have h4' := h4
    rcases x with ⟨k1, n1, m1, l1⟩
    rcases y with ⟨k2, n2, m2, l2⟩
    obtain ⟨lv1, us1, rfl, g1, g2, g3⟩ := h3
    obtain ⟨lv2, us2, rfl, f1, f2, f3⟩ := h4
    have hone : lv.one = true := free1_one h1.free
    have hone1 : lv1.one = true := free1_one g1.free
    have hone2 : lv2.one = true := free1_one f1.free
    have hI := h1.ix0 rfl
    have hI1 := h1.ix1 rfl
    have hrow := fun o => h1.row o
    have hc1 := ihx h3'
    have hc2 := ihy h4'
    have hev : evalS vs (.mk k m nm [.mk k1 n1 m1 l1, .mk k2 n2 m2 l2]) = twoE k (evalS vs (.mk k1 n1 m1 l1)) (evalS vs (.mk k2 n2 m2 l2)) := rfl
    have hri := evalS_I64 hv hx
    have hsi := evalS_I64 hv hy
    rw [hev]
    generalize evalS vs (.mk k1 n1 m1 l1) = r at hc1 hri
    generalize evalS vs (.mk k2 n2 m2 l2) = s at hc2 hsi
    have q1 : decide (k = 1) = false := by simp; omega
    have q2 : decide (k = 2) = false := by simp; omega
    have q3 : decide (k = 3) = false := by simp; omega
    have q4 : decide (k = 4) = false := by simp; omega
    clear ihx ihy hev hv
    intro yi hy
    refine Call.step hy ?_
    rw [body_eq t17]
    simp only [c17, c17x1, c17x2, c17x3, c17x4, c17x5, c17x6, c17x7, c17x8, c17x9, c17x10, c17x11, c17x12, c17x13, c17x14, c17x15, c17x16, c17x17, c17x18, c17x19, c17x20, c17x21, RUA, RUB, RUC, RUD, RUE, if_true, if_false, ite_true, ite_false, Int.reduceEq, Int.reduceLT, Int.reduceLE, putCells, bslOf, bsaOf, bslS, isUpto, Nat.reduceEqDiff, Pe.step, E.at, List.replicate, Nat.reduceAdd, Nat.reduceSub, Nat.reduceLeDiff, Nat.reduceMul, Pe.intOf, Pe.iop, Pe.sop, hone, hone1, hone2, hrow, hI, hI1, q1, q2]
    refine hc1.callE rfl (cf2 h3'.ok.1 hvv.freeV _) rfl ?_
    simp only [c17, c17x1, c17x2, c17x3, c17x4, c17x5, c17x6, c17x7, c17x8, c17x9, c17x10, c17x11, c17x12, c17x13, c17x14, c17x15, c17x16, c17x17, c17x18, c17x19, c17x20, c17x21, RUA, RUB, RUC, RUD, RUE, if_true, if_false, ite_true, ite_false, Int.reduceEq, Int.reduceLT, Int.reduceLE, putCells, bslOf, bsaOf, bslS, isUpto, Nat.reduceEqDiff, Pe.step, E.at, List.replicate, Nat.reduceAdd, Nat.reduceSub, Nat.reduceLeDiff, Nat.reduceMul, Pe.intOf, Pe.iop, Pe.sop, hone, hone1, hone2, hrow, hI, hI1, q1, q2, q3, q4]
    repeat' ((first | (refine cond_split _ rfl (fun h => ?_) (fun h => ?_)) | (refine gsplit_t _ rfl (fun h => ?_) (fun h => ?_)) | (refine gsplit_f _ rfl (fun h => ?_) (fun h => ?_)) | (refine hc2.callE rfl (cf2 h4'.ok.1 hvv.freeV _) rfl ?_) | (refine (truth_p _).callE rfl rfl rfl ?_) | (refine (two_p (by omega) (by simp only [decide_eq_true_eq, decide_eq_false_iff_not] at *; omega) hri hsi).callE rfl rfl rfl ?_)) <;> (try simp only [c17, c17x1, c17x2, c17x3, c17x4, c17x5, c17x6, c17x7, c17x8, c17x9, c17x10, c17x11, c17x12, c17x13, c17x14, c17x15, c17x16, c17x17, c17x18, c17x19, c17x20, c17x21, RUA, RUB, RUC, RUD, RUE, if_true, if_false, ite_true, ite_false, Int.reduceEq, Int.reduceLT, Int.reduceLE, putCells, bslOf, bsaOf, bslS, isUpto, Nat.reduceEqDiff, Pe.step, E.at, List.replicate, Nat.reduceAdd, Nat.reduceSub, Nat.reduceLeDiff, Nat.reduceMul, Pe.intOf, Pe.iop, Pe.sop, *]))
    all_goals refine ⟨_, _, rfl, ?_⟩
    all_goals simp only [decide_eq_true_eq, decide_eq_false_iff_not, Bool.not_eq_true', Bool.not_eq_false'] at *
    all_goals (try subst k)
    all_goals first
      | (exfalso; omega)
      | (simp [twoE, *]; done)
      | trace_state
end Go.Proofs.YtjfnhpnfkknmoaaDoor

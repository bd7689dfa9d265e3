/- A part of the texts that the claim's proof needs: functions of the program as the evaluator reads them, and what they come to. Conditions: those that its theorems state. -/
import Derived.Test.YtjfnhpnfkknmoaaDoorY2L
import Derived.Test.YtjfnhpnfkknmoaaDoorY2N
set_option linter.unusedVariables false
set_option linter.unusedSimpArgs false
set_option maxRecDepth 100000
set_option maxHeartbeats 4000000
namespace Go.Proofs.YtjfnhpnfkknmoaaDoor
open Go.Proofs.Pe

theorem rawArg {x : V} (hx : ∃ n, VT Tryd.prog n 46 [x]) : ∃ l vs, IsSl 3 x vs ∧ All2 IsRw l vs ∧ vs.length ≤ maxLen := by
  obtain ⟨n, hn⟩ := hx
  exact (rw_of rwT n).2 x hn
theorem intArg {x : V} (hx : ∃ n, VT Tryd.prog n 24 [x]) : ∃ zs : List Int, IsSl 1 x (zs.map iV) ∧ (∀ z ∈ zs, I64 z) ∧ zs.length ≤ maxLen := by
  obtain ⟨n, hn⟩ := hx
  exact ints_of Tryd.underlying3 Tryd.underlying24 (by kernel_rfl) hn
theorem setI {ws : List Int} {i : Nat} {z : Int} : (ws.map iV).set i (iV z) = (ws.set i z).map iV := by simp [List.map_set]
theorem ixAr {o : List O} {l i : Nat} {w : Bool} {xs : List V} (h : o[l]? = some (.arr 0 w 1 xs)) (hi : i < xs.length) : ixOf 1 o (.ar l 0) (iV i) = some (.pa l 0 i 0, o) := by
  simp [ixOf, intOf, h, hi]
theorem exprEvals_call (x : V) (hx : ∃ n, VT Tryd.prog n 46 [x]) (y : V) (hy : ∃ n, VT Tryd.prog n 24 [y]) : Pe.Call Tryd.prog T noY 11 [x, y] [] (fun y _ => y = .sc (.bool true)) := by
  obtain ⟨l, vs, h1, h2, h3⟩ := rawArg hx
  obtain ⟨zs, g1, g2, g3⟩ := intArg hy
  unfold maxLen at g3
  refine Call.step noY_le ?_
  rw [body_eq t11]
  simp only [c11, c11x1, c11x2, RUA, RUB, RUC, RUD, RUE, if_true, if_false, ite_true, ite_false, Int.reduceEq, Int.reduceLT, Int.reduceLE, putCells, bslOf, bsaOf, bslS, isUpto, Nat.reduceEqDiff, Pe.step, E.at, List.replicate, Nat.reduceAdd, Nat.reduceSub, Nat.reduceLeDiff, Nat.reduceMul, Pe.intOf, Pe.iop, Pe.sop]
  refine known_p.callE rfl rfl rfl ?_
  simp only [c11, c11x1, c11x2, c11x3, RUA, RUB, RUC, RUD, RUE, if_true, if_false, ite_true, ite_false, Int.reduceEq, Int.reduceLT, Int.reduceLE, putCells, bslOf, bsaOf, bslS, isUpto, Nat.reduceEqDiff, Pe.step, E.at, List.replicate, Nat.reduceAdd, Nat.reduceSub, Nat.reduceLeDiff, Nat.reduceMul, Pe.intOf, Pe.iop, Pe.sop]
  refine (few_p h1 h2 h3).callE rfl (cf1 h1.freeV _) rfl ?_
  cases hf : decide (szL 9 l ≤ 20) with
  | false => simp only [c11, c11x1, c11x2, c11x3, c11x4, RUA, RUB, RUC, RUD, RUE, if_true, if_false, ite_true, ite_false, Int.reduceEq, Int.reduceLT, Int.reduceLE, putCells, bslOf, bsaOf, bslS, isUpto, Nat.reduceEqDiff, Pe.step, E.at, List.replicate, Nat.reduceAdd, Nat.reduceSub, Nat.reduceLeDiff, Nat.reduceMul, Pe.intOf, Pe.iop, Pe.sop]
  | true =>
    simp only [c11, c11x1, c11x2, c11x3, c11x4, c11x5, RUA, RUB, RUC, RUD, RUE, if_true, if_false, ite_true, ite_false, Int.reduceEq, Int.reduceLT, Int.reduceLE, putCells, bslOf, bsaOf, bslS, isUpto, Nat.reduceEqDiff, Pe.step, E.at, List.replicate, Nat.reduceAdd, Nat.reduceSub, Nat.reduceLeDiff, Nat.reduceMul, Pe.intOf, Pe.iop, Pe.sop]
    refine (one_p (nm := []) (.inl ⟨rfl, rfl⟩) (by simp) h1 h2).callF rfl (fun x hx => by simp only [List.mem_cons, List.not_mem_nil, or_false] at hx; rcases hx with rfl | rfl <;> first | exact h1.freeV | rfl) fun z hz => ?_
    have hw := oneS_wf l
    have hr := oneS_right l
    generalize oneS [] l = e at hz hw hr
    have hz' := hz
    rcases e with ⟨k, n, nm, el⟩
    obtain ⟨lv, us, rfl, e1, e2, e3⟩ := hz
    have hone : lv.one = true := free1_one e1.free
    have hrowy := fun o => g1.row o
    simp only [c11, c11x1, c11x2, c11x3, c11x4, c11x5, c11x6, c11x7, c11x8, c11x9, RUA, RUB, RUC, RUD, RUE, if_true, if_false, ite_true, ite_false, Int.reduceEq, Int.reduceLT, Int.reduceLE, putCells, bslOf, bsaOf, bslS, isUpto, Nat.reduceEqDiff, Pe.step, E.at, List.replicate, Nat.reduceAdd, Nat.reduceSub, Nat.reduceLeDiff, Nat.reduceMul, Pe.intOf, Pe.iop, Pe.sop, hone]
    refine Lfp.inv call_le noY_le (fun a : Nat × List Int => ⟨⟨((.dead :: y :: .dead :: .dead :: .dead :: .pt 0 0 :: .ar 1 0 :: iV a.1 :: .dead :: .dead :: .dead :: .dead :: .dead :: .dead :: .dead :: .dead :: .dead :: .dead :: .dead :: .dead :: .dead :: .dead :: .dead :: .dead :: .dead :: .dead :: .dead :: .dead :: .dead :: .dead :: .dead :: .dead :: .dead :: .dead :: .dead :: .dead :: .dead :: .dead :: .dead :: .dead :: .dead :: .dead :: .dead :: .dead :: .dead :: .dead :: .dead :: .dead :: .dead :: .dead :: .dead :: .dead :: .dead :: .dead :: .dead :: .dead :: .dead :: .dead :: .dead :: .dead :: .dead :: [])), [.cells [iV k, iV n, sV nm, lv], .arr 0 true 1 (a.2.map iV)]⟩, []⟩) (fun a => 3 - a.1)
      (fun a => a.1 ≤ 3 ∧ a.1 ≤ zs.length ∧ a.2.length = 3 ∧ ∀ z ∈ a.2, I64 z) (0, [1, 2, 3]) ⟨by omega, by omega, rfl, by intro z hz; simp at hz; unfold I64; omega⟩ (by simp only [killTs_cons, killTs_nil, List.set_cons_succ, List.set_cons_zero] <;> rfl) ?_
    rintro ⟨i, ws⟩ ⟨hi, hi2, hl, hI⟩
    dsimp only at hi hi2 hl hI
    have hcap : ws.length ≤ cap := by rw [hl]; decide
    have dd : ∀ n : Int, decide (n = n) = true := fun n => by simp
    by_cases c : i < zs.length ∧ i < 3
    · have d1 : decide ((i : Int) < (zs.length : Int)) = true := by simpa using c.1
      have d2 : decide ((i : Int) < 3) = true := by simp; omega
      have hzi : zs[i]? = some (zs[i]'c.1) := List.getElem?_eq_getElem c.1
      have hmem : zs[i]'c.1 ∈ zs := List.getElem_mem _
      generalize zs[i]'c.1 = zi at hzi hmem
      have hIy := fun o => g1.ix o (n := i) (y := iV zi) (by rw [List.getElem?_map, hzi]; rfl)
      have hIa : ixOf 1 [O.cells [iV k, iV n, sV nm, lv], .arr 0 true 1 (ws.map iV)] (.ar 1 0) (iV i) = some (.pa 1 0 i 0, [O.cells [iV k, iV n, sV nm, lv], .arr 0 true 1 (ws.map iV)]) := ixAr rfl (by simp; omega)
      have hwi : (ws.map iV)[i]? = some (iV (ws[i]'(by omega))) := by rw [List.getElem?_map, List.getElem?_eq_getElem (by omega)]; rfl
      have hw1 : IntKind.i64.wrap ((i : Int) + 1) = ((i + 1 : Nat) : Int) := wrap_succ (by omega)
      simp only [c11, c11x1, c11x2, c11x3, c11x4, c11x5, c11x6, c11x7, c11x8, c11x9, c11x10, c11x11, c11x12, c11x13, c11x14, c11x15, RUA, RUB, RUC, RUD, RUE, if_true, if_false, ite_true, ite_false, Int.reduceEq, Int.reduceLT, Int.reduceLE, putCells, bslOf, bsaOf, bslS, isUpto, Nat.reduceEqDiff, Pe.step, E.at, List.replicate, Nat.reduceAdd, Nat.reduceSub, Nat.reduceLeDiff, Nat.reduceMul, Pe.intOf, Pe.iop, Pe.sop, hrowy, List.length_map, d1, d2, hIy, hIa, hwi, setI, hw1]
      refine ⟨(i + 1, ws.set i zi), ⟨by simp only; omega, by simp only; omega, by simpa using hl, fun z hz => ?_⟩, by simp only; omega, rfl⟩
      rcases List.mem_or_eq_of_mem_set hz with h | rfl
      · exact hI z h
      · exact g2 _ hmem
    · rw [show zs.length = zs.length from rfl] at c
      by_cases c1 : i < zs.length
      · have d1 : decide ((i : Int) < (zs.length : Int)) = true := by simpa using c1
        have d2 : decide ((i : Int) < 3) = false := by simp; omega
        simp only [c11, c11x1, c11x2, c11x3, c11x4, c11x5, c11x6, c11x7, c11x8, c11x9, c11x10, c11x11, c11x12, c11x13, c11x14, c11x15, RUA, RUB, RUC, RUD, RUE, if_true, if_false, ite_true, ite_false, Int.reduceEq, Int.reduceLT, Int.reduceLE, putCells, bslOf, bsaOf, bslS, isUpto, Nat.reduceEqDiff, Pe.step, E.at, List.replicate, Nat.reduceAdd, Nat.reduceSub, Nat.reduceLeDiff, Nat.reduceMul, Pe.intOf, Pe.iop, Pe.sop, hrowy, List.length_map, d1, d2]
        refine (eval_p (vs := ws) (.inr ⟨_, rfl⟩) hI hcap (by rw [hl]; exact hw) hz').callE rfl (cf_ar2 hz'.ok.1 rfl (ints_free ws)) rfl ?_
        simp only [c11, c11x1, c11x2, c11x3, c11x4, c11x5, c11x6, c11x7, c11x8, c11x9, c11x10, c11x11, c11x12, c11x13, c11x14, c11x15, RUA, RUB, RUC, RUD, RUE, if_true, if_false, ite_true, ite_false, Int.reduceEq, Int.reduceLT, Int.reduceLE, putCells, bslOf, bsaOf, bslS, isUpto, Nat.reduceEqDiff, Pe.step, E.at, List.replicate, Nat.reduceAdd, Nat.reduceSub, Nat.reduceLeDiff, Nat.reduceMul, Pe.intOf, Pe.iop, Pe.sop]
        refine (reval_p (vs := ws) (.inr ⟨_, rfl⟩) hI hcap (by rw [hl]; exact hw) hz').callE rfl (cf_ar2 hz'.ok.1 rfl (ints_free ws)) rfl ?_
        simp only [c11, c11x1, c11x2, c11x3, c11x4, c11x5, c11x6, c11x7, c11x8, c11x9, c11x10, c11x11, c11x12, c11x13, c11x14, c11x15, RUA, RUB, RUC, RUD, RUE, if_true, if_false, ite_true, ite_false, Int.reduceEq, Int.reduceLT, Int.reduceLE, putCells, bslOf, bsaOf, bslS, isUpto, Nat.reduceEqDiff, Pe.step, E.at, List.replicate, Nat.reduceAdd, Nat.reduceSub, Nat.reduceLeDiff, Nat.reduceMul, Pe.intOf, Pe.iop, Pe.sop, dd]
        refine (right_p hz' 3).callE rfl (cf2 hz'.ok.1 rfl _) rfl ?_
        simp only [c11, c11x1, c11x2, c11x3, c11x4, c11x5, c11x6, c11x7, c11x8, c11x9, c11x10, c11x11, c11x12, c11x13, c11x14, c11x15, RUA, RUB, RUC, RUD, RUE, if_true, if_false, ite_true, ite_false, Int.reduceEq, Int.reduceLT, Int.reduceLE, putCells, bslOf, bsaOf, bslS, isUpto, Nat.reduceEqDiff, Pe.step, E.at, List.replicate, Nat.reduceAdd, Nat.reduceSub, Nat.reduceLeDiff, Nat.reduceMul, Pe.intOf, Pe.iop, Pe.sop, dd, hr]
      · have d1 : decide ((i : Int) < (zs.length : Int)) = false := by simpa using c1
        simp only [c11, c11x1, c11x2, c11x3, c11x4, c11x5, c11x6, c11x7, c11x8, c11x9, c11x10, c11x11, c11x12, c11x13, c11x14, c11x15, RUA, RUB, RUC, RUD, RUE, if_true, if_false, ite_true, ite_false, Int.reduceEq, Int.reduceLT, Int.reduceLE, putCells, bslOf, bsaOf, bslS, isUpto, Nat.reduceEqDiff, Pe.step, E.at, List.replicate, Nat.reduceAdd, Nat.reduceSub, Nat.reduceLeDiff, Nat.reduceMul, Pe.intOf, Pe.iop, Pe.sop, hrowy, List.length_map, d1]
        refine (eval_p (vs := ws) (.inr ⟨_, rfl⟩) hI hcap (by rw [hl]; exact hw) hz').callE rfl (cf_ar2 hz'.ok.1 rfl (ints_free ws)) rfl ?_
        simp only [c11, c11x1, c11x2, c11x3, c11x4, c11x5, c11x6, c11x7, c11x8, c11x9, c11x10, c11x11, c11x12, c11x13, c11x14, c11x15, RUA, RUB, RUC, RUD, RUE, if_true, if_false, ite_true, ite_false, Int.reduceEq, Int.reduceLT, Int.reduceLE, putCells, bslOf, bsaOf, bslS, isUpto, Nat.reduceEqDiff, Pe.step, E.at, List.replicate, Nat.reduceAdd, Nat.reduceSub, Nat.reduceLeDiff, Nat.reduceMul, Pe.intOf, Pe.iop, Pe.sop]
        refine (reval_p (vs := ws) (.inr ⟨_, rfl⟩) hI hcap (by rw [hl]; exact hw) hz').callE rfl (cf_ar2 hz'.ok.1 rfl (ints_free ws)) rfl ?_
        simp only [c11, c11x1, c11x2, c11x3, c11x4, c11x5, c11x6, c11x7, c11x8, c11x9, c11x10, c11x11, c11x12, c11x13, c11x14, c11x15, RUA, RUB, RUC, RUD, RUE, if_true, if_false, ite_true, ite_false, Int.reduceEq, Int.reduceLT, Int.reduceLE, putCells, bslOf, bsaOf, bslS, isUpto, Nat.reduceEqDiff, Pe.step, E.at, List.replicate, Nat.reduceAdd, Nat.reduceSub, Nat.reduceLeDiff, Nat.reduceMul, Pe.intOf, Pe.iop, Pe.sop, dd]
        refine (right_p hz' 3).callE rfl (cf2 hz'.ok.1 rfl _) rfl ?_
        simp only [c11, c11x1, c11x2, c11x3, c11x4, c11x5, c11x6, c11x7, c11x8, c11x9, c11x10, c11x11, c11x12, c11x13, c11x14, c11x15, RUA, RUB, RUC, RUD, RUE, if_true, if_false, ite_true, ite_false, Int.reduceEq, Int.reduceLT, Int.reduceLE, putCells, bslOf, bsaOf, bslS, isUpto, Nat.reduceEqDiff, Pe.step, E.at, List.replicate, Nat.reduceAdd, Nat.reduceSub, Nat.reduceLeDiff, Nat.reduceMul, Pe.intOf, Pe.iop, Pe.sop, dd, hr]
end Go.Proofs.YtjfnhpnfkknmoaaDoor

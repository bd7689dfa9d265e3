/- A part of the texts that the claim's proof needs: functions of the program as the evaluator reads them, and what they come to. Conditions: those that its theorems state. -/
import Derived.Test.YtjfnhpnfkknmoaaDoorY2R
set_option linter.unusedVariables false
set_option linter.unusedSimpArgs false
set_option maxRecDepth 100000
set_option maxHeartbeats 4000000
namespace Go.Proofs.YtjfnhpnfkknmoaaDoor
open Go.Proofs.Pe

theorem exprRight_call (xs : List V) (hxs : ∃ n, VT Tryd.prog n 33 xs) (x : V) (hx : ∃ n, VT Tryd.prog n 46 [x]) (which : Int) (hw : (Lit.int .i64 which).wf = true) (v : Int) (hv : (Lit.int .i64 v).wf = true) (a : Int) (ha : (Lit.int .i64 a).wf = true) :
    Pe.Call Tryd.prog T noY 12 [.agg xs, x, .sc (.int .i64 which), .sc (.int .i64 v), .sc (.int .i64 a)] [] (fun y _ => y = .sc (.bool true)) := by
  obtain ⟨l, vs, h1, h2, h3⟩ := rawArg hx
  obtain ⟨raw, hraw, _⟩ : ∃ r, IsExM r (.agg xs) ∧ xs.length = 4 := by
    obtain ⟨n, hn⟩ := hxs
    exact (exm_of exT n).1 xs hn
  have hraw' := hraw
  rcases raw with ⟨k, n, nm, rl⟩
  obtain ⟨lv, us, e, g1, g2, g3⟩ := hraw
  rw [e] at hraw' ⊢
  have hone : lv.one = true := free1_one g1.free
  have db : ∀ b : Bool, (b == b) = true := fun b => by simp
  refine Call.step noY_le ?_
  rw [body_eq t12]
  simp only [c12, c12x1, c12x2, RUA, RUB, RUC, RUD, RUE, if_true, if_false, ite_true, ite_false, Int.reduceEq, Int.reduceLT, Int.reduceLE, putCells, bslOf, bsaOf, bslS, isUpto, Nat.reduceEqDiff, Pe.step, E.at, List.replicate, Nat.reduceAdd, Nat.reduceSub, Nat.reduceLeDiff, Nat.reduceMul, Pe.intOf, Pe.iop, Pe.sop, hone]
  refine known_p.callE rfl rfl rfl ?_
  simp only [c12, c12x1, c12x2, c12x3, RUA, RUB, RUC, RUD, RUE, if_true, if_false, ite_true, ite_false, Int.reduceEq, Int.reduceLT, Int.reduceLE, putCells, bslOf, bsaOf, bslS, isUpto, Nat.reduceEqDiff, Pe.step, E.at, List.replicate, Nat.reduceAdd, Nat.reduceSub, Nat.reduceLeDiff, Nat.reduceMul, Pe.intOf, Pe.iop, Pe.sop]
  refine (few_p h1 h2 h3).callE rfl (cf1 h1.freeV _) rfl ?_
  cases hf : decide (szL 9 l ≤ 20) with
  | false => simp only [c12, c12x1, c12x2, c12x3, c12x4, RUA, RUB, RUC, RUD, RUE, if_true, if_false, ite_true, ite_false, Int.reduceEq, Int.reduceLT, Int.reduceLE, putCells, bslOf, bsaOf, bslS, isUpto, Nat.reduceEqDiff, Pe.step, E.at, List.replicate, Nat.reduceAdd, Nat.reduceSub, Nat.reduceLeDiff, Nat.reduceMul, Pe.intOf, Pe.iop, Pe.sop]
  | true =>
    simp only [c12, c12x1, c12x2, c12x3, c12x4, RUA, RUB, RUC, RUD, RUE, if_true, if_false, ite_true, ite_false, Int.reduceEq, Int.reduceLT, Int.reduceLE, putCells, bslOf, bsaOf, bslS, isUpto, Nat.reduceEqDiff, Pe.step, E.at, List.replicate, Nat.reduceAdd, Nat.reduceSub, Nat.reduceLeDiff, Nat.reduceMul, Pe.intOf, Pe.iop, Pe.sop, hone]
    refine (fewx_p 21 (by omega) _ hraw' (d := 0) (by omega)).callE rfl (cf2 hraw'.ok.1 rfl _) rfl ?_
    cases hfr : fewS 21 (.mk k n nm rl) with
    | false => simp only [c12, c12x1, c12x2, c12x3, c12x4, RUA, RUB, RUC, RUD, RUE, if_true, if_false, ite_true, ite_false, Int.reduceEq, Int.reduceLT, Int.reduceLE, putCells, bslOf, bsaOf, bslS, isUpto, Nat.reduceEqDiff, Pe.step, E.at, List.replicate, Nat.reduceAdd, Nat.reduceSub, Nat.reduceLeDiff, Nat.reduceMul, Pe.intOf, Pe.iop, Pe.sop]
    | true =>
      have hre := few_ex hfr hraw'
      simp only [c12, c12x1, c12x2, c12x3, c12x4, c12x5, RUA, RUB, RUC, RUD, RUE, if_true, if_false, ite_true, ite_false, Int.reduceEq, Int.reduceLT, Int.reduceLE, putCells, bslOf, bsaOf, bslS, isUpto, Nat.reduceEqDiff, Pe.step, E.at, List.replicate, Nat.reduceAdd, Nat.reduceSub, Nat.reduceLeDiff, Nat.reduceMul, Pe.intOf, Pe.iop, Pe.sop]
      refine (one_p (nm := []) (.inl ⟨rfl, rfl⟩) (by simp) h1 h2).callF rfl (fun x hx => by simp only [List.mem_cons, List.not_mem_nil, or_false] at hx; rcases hx with rfl | rfl <;> first | exact h1.freeV | rfl) fun z hz => ?_
      have hwf := oneS_wf l
      refine (spoilt_p _ hwf hz which v a).callF rfl (fun x hx => by simp only [List.mem_cons, List.not_mem_nil, or_false] at hx; rcases hx with rfl | rfl | rfl | rfl <;> first | exact hz.ok.1 | rfl) fun z2 hz2 => ?_
      obtain ⟨x', hx'⟩ := hz2
      have hx'' := hx'
      rcases x' with ⟨k2, n2, nm2, rl2⟩
      obtain ⟨lv2, us2, rfl, f1, f2, f3⟩ := hx'
      have hone2 : lv2.one = true := free1_one f1.free
      simp only [c12, c12x1, c12x2, c12x3, c12x4, c12x5, RUA, RUB, RUC, RUD, RUE, if_true, if_false, ite_true, ite_false, Int.reduceEq, Int.reduceLT, Int.reduceLE, putCells, bslOf, bsaOf, bslS, isUpto, Nat.reduceEqDiff, Pe.step, E.at, List.replicate, Nat.reduceAdd, Nat.reduceSub, Nat.reduceLeDiff, Nat.reduceMul, Pe.intOf, Pe.iop, Pe.sop, hone2]
      have dt : ∀ b : Bool, guardV (.sc (.bool (b == b))) true = some true := fun b => by rw [db]; rfl
      simp only [c12, c12x1, c12x2, c12x3, c12x4, c12x5, c12x6, RUA, RUB, RUC, RUD, RUE, if_true, if_false, ite_true, ite_false, Int.reduceEq, Int.reduceLT, Int.reduceLE, putCells, bslOf, bsaOf, bslS, isUpto, Nat.reduceEqDiff, Pe.step, E.at, List.replicate, Nat.reduceAdd, Nat.reduceSub, Nat.reduceLeDiff, Nat.reduceMul, Pe.intOf, Pe.iop, Pe.sop]
      refine (right_p hre 3).callE rfl (cf2 hre.ok.1 rfl _) rfl ?_
      try simp only [c12, c12x1, c12x2, c12x3, c12x4, c12x5, c12x6, RUA, RUB, RUC, RUD, RUE, if_true, if_false, ite_true, ite_false, Int.reduceEq, Int.reduceLT, Int.reduceLE, putCells, bslOf, bsaOf, bslS, isUpto, Nat.reduceEqDiff, Pe.step, E.at, List.replicate, Nat.reduceAdd, Nat.reduceSub, Nat.reduceLeDiff, Nat.reduceMul, Pe.intOf, Pe.iop, Pe.sop, db]
      refine (rright_p 3 _ hre).callE rfl (cf2 hre.ok.1 rfl _) rfl ?_
      try simp only [c12, c12x1, c12x2, c12x3, c12x4, c12x5, c12x6, RUA, RUB, RUC, RUD, RUE, if_true, if_false, ite_true, ite_false, Int.reduceEq, Int.reduceLT, Int.reduceLE, putCells, bslOf, bsaOf, bslS, isUpto, Nat.reduceEqDiff, Pe.step, E.at, List.replicate, Nat.reduceAdd, Nat.reduceSub, Nat.reduceLeDiff, Nat.reduceMul, Pe.intOf, Pe.iop, Pe.sop, db]
      refine (right_p hx'' 3).callE rfl (cf2 hx''.ok.1 rfl _) rfl ?_
      try simp only [c12, c12x1, c12x2, c12x3, c12x4, c12x5, c12x6, RUA, RUB, RUC, RUD, RUE, if_true, if_false, ite_true, ite_false, Int.reduceEq, Int.reduceLT, Int.reduceLE, putCells, bslOf, bsaOf, bslS, isUpto, Nat.reduceEqDiff, Pe.step, E.at, List.replicate, Nat.reduceAdd, Nat.reduceSub, Nat.reduceLeDiff, Nat.reduceMul, Pe.intOf, Pe.iop, Pe.sop, db]
      refine (rright_p 3 _ hx'').callE rfl (cf2 hx''.ok.1 rfl _) rfl ?_
      try simp only [c12, c12x1, c12x2, c12x3, c12x4, c12x5, c12x6, RUA, RUB, RUC, RUD, RUE, if_true, if_false, ite_true, ite_false, Int.reduceEq, Int.reduceLT, Int.reduceLE, putCells, bslOf, bsaOf, bslS, isUpto, Nat.reduceEqDiff, Pe.step, E.at, List.replicate, Nat.reduceAdd, Nat.reduceSub, Nat.reduceLeDiff, Nat.reduceMul, Pe.intOf, Pe.iop, Pe.sop, db]
      refine (right_p hx'' 1).callE rfl (cf2 hx''.ok.1 rfl _) rfl ?_
      try simp only [c12, c12x1, c12x2, c12x3, c12x4, c12x5, c12x6, RUA, RUB, RUC, RUD, RUE, if_true, if_false, ite_true, ite_false, Int.reduceEq, Int.reduceLT, Int.reduceLE, putCells, bslOf, bsaOf, bslS, isUpto, Nat.reduceEqDiff, Pe.step, E.at, List.replicate, Nat.reduceAdd, Nat.reduceSub, Nat.reduceLeDiff, Nat.reduceMul, Pe.intOf, Pe.iop, Pe.sop, db]
      refine (rright_p 1 _ hx'').callE rfl (cf2 hx''.ok.1 rfl _) rfl ?_
      try simp only [c12, c12x1, c12x2, c12x3, c12x4, c12x5, c12x6, RUA, RUB, RUC, RUD, RUE, if_true, if_false, ite_true, ite_false, Int.reduceEq, Int.reduceLT, Int.reduceLE, putCells, bslOf, bsaOf, bslS, isUpto, Nat.reduceEqDiff, Pe.step, E.at, List.replicate, Nat.reduceAdd, Nat.reduceSub, Nat.reduceLeDiff, Nat.reduceMul, Pe.intOf, Pe.iop, Pe.sop, db]
end Go.Proofs.YtjfnhpnfkknmoaaDoor
